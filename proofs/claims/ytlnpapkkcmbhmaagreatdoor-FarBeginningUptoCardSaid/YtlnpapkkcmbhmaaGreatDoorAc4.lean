/- What the program's functions come to, by the evaluator's rules; the intermediate code. -/
import Derived.Test.YtlnpapkkcmbhmaaGreatDoorAc3
set_option linter.unusedSimpArgs false
set_option linter.unusedVariables false
namespace Go.Abs
open Go Pr
set_option maxRecDepth 10000
theorem WF.yld3 {AP : Prog} {mk : Nat} {d : Bool} {l : Nat} {pend : Option IC} {tm : Tm} {ps : List Nat} {asg body asg0 body0 : IC} {args : List V} {h : Heap} {Q : VH → Prop} (hl : h.get l = some (.loop .ready pend tm ps asg0 body0)) (ea : asg0 = asg) (eb : body0 = body) (hmk : mk ≤ l) (hlen : args.length = ps.length)
  (h1 : wk AP d mk asg [] ⟨zipPut tm ps args, h, [], true⟩ (fun r => r.o = .normal ∧ r.s.defs = [] ∧ r.s.h.get l = some (.loop .ready pend tm ps asg0 body0) ∧
   wk AP d mk body [] ⟨r.s.tm, r.s.h.set l (.loop .busy pend tm ps asg0 body0), [], true⟩ (roundQ l Q ⟨⟩) ⟨⟩) ⟨⟩) : WF AP d mk (.yld l) args h Q := by
 subst ea eb
 refine WF.yld hl hmk hlen ?_
 refine wc_mono asg0 h1 ?_
 rintro ⟨o, ⟨tm1, h2, defs, rd⟩⟩ ⟨e1, e2, e3, hw⟩
 simp only at e1 e2 e3 hw
 subst e1 e2
 exact ⟨rfl, rfl, _, _, _, _, _, e3, hw⟩
variable {g : Gr} {w : Wd}
def allP (g : Gr) (w : List UInt8) : List (Int × Int) := (List.range g.p.l.length).flatMap fun n : Nat => (List.range (w.length + 1)).map fun x : Nat => ((n : Int), (x : Int))
theorem mem_allP {w : List UInt8} {p : Int × Int} (h : InB g w p) : p ∈ allP g w := by
 obtain ⟨a, b, c, d⟩ := h
 simp only [allP, List.mem_flatMap, List.mem_map, List.mem_range]
 refine ⟨p.1.toNat, by omega, p.2.toNat, by omega, ?_⟩
 rw [show ((p.1.toNat : Nat) : Int) = p.1 by omega, show ((p.2.toNat : Nat) : Int) = p.2 by omega]
def leftV (g : Gr) (w : List UInt8) (U : List (Int × Int)) : Nat := ((allP g w).filter fun p => !decide (p ∈ U)).length
theorem leftV_le {w : List UInt8} {U U' : List (Int × Int)} (h : ∀ q ∈ U, q ∈ U') : leftV g w U' ≤ leftV g w U := by
 unfold leftV
 have key : ∀ l : List (Int × Int), (l.filter fun p => !decide (p ∈ U')).length ≤ (l.filter fun p => !decide (p ∈ U)).length := by
  intro l
  induction l with
  | nil => simp
  | cons a l ih =>
   simp only [List.filter_cons]
   by_cases c : a ∈ U
   ·simp [c, h a c, ih]
   ·by_cases c' : a ∈ U' <;> simp [c, c'] <;> omega
 exact key _
theorem leftV_lt {w : List UInt8} {U : List (Int × Int)} {p : Int × Int} (hp : InB g w p) (hn : p ∉ U) : leftV g w (p :: U) < leftV g w U := by
 refine filter_lt (fun x _ hx => ?_) ⟨p, mem_allP hp, by simpa using hn, by simp⟩
 simp only [Bool.not_eq_true', decide_eq_false_iff_not, List.mem_cons, not_or] at hx ⊢
 exact hx.2
theorem begins_ok {K : Nat} {n x : Int} {d : Bool} {mk : Nat} {h : Heap} : WF PR d mk (.fn 34 [] []) [.ptr K 0 0, .agg [.int .i64 n, .int .i64 x]] h fun r => r = ⟨.fn 66 [] [.ptr h.n 0 0, .ptr (h.n + 1) 0 0], (h.push (.rows [[.ptr K 0 0]])).push (.rows [[.int .i64 n, .int .i64 x]])⟩ := by
 refine WF.fn (F := f34) rfl rfl rfl (Nat.le_of_ble_eq_true rfl) ?_
 refine wbodyS b34 [.tm 4] rfl rfl ?_
 unfold b34
 simp -dsimp
theorem boolV_t : boolV true = .bool true := rfl
theorem look_ind (hG : GrW g w) : ∀ (m : Nat) (U : List (Int × Int)) (p : Int × Int) (f : Int) (H : Heap) (K E W mk : Nat), leftV g w.l U < m → Spot g w.l p → LS g w K E W f U H → mk ≤ K → mk ≤ E → mk ≤ W →
  WF PR false mk (.fn 18 [] []) [.ptr K 0 0, spotV p] H fun r => ∃ f' U', LS g w K E W f' U' r.h ∧ Adv g w.l f U f' U' ∧ p ∈ U' ∧ Fr3 K E W H r.h
 | 0, _, _, _, _, _, _, _, _, h, _, _, _, _, _ => by omega
 | m + 1, U, p, f, H, K, E, W, mk, hm, hS, hL, mK, mE, mW => by
  have ih := look_ind hG m
  obtain ⟨n, x⟩ := p
  have hin := spot_in hG.m hS
  have lK := hL.l.lk
  have lE := hL.l.le
  have lW := hL.l.lw
  have lM := hL.l.mq
  refine WF.fn (F := f18) rfl rfl rfl (Nat.le_of_ble_eq_true rfl) ?_
  refine wbodyS b18 [] rfl rfl ?_
  unfold b18
  obtain ⟨es, c, S, w1, w2, w3⟩ := hL.w
  have hkk : spotV (n, x) = .agg [.int .i64 n, .int .i64 x] := rfl
  obtain ⟨H1, hH1⟩ : ∃ H1, (H.push (Obj.rows [[V.ptr K 0 0]])).push (Obj.rows [[V.int IntKind.i64 n, V.int IntKind.i64 x]]) = H1 := ⟨_, rfl⟩
  have hk1 : ∀ j, j < H.n → H1.get j = H.get j := fun j hj => by rw [← hH1, Heap.get_push, if_neg (by simp; omega), Heap.get_push, if_neg (by omega)]
  have g1 : H1.get H.n = some (.rows [[.ptr K 0 0]]) := by rw [← hH1]; simp
  have g2 : H1.get (H.n + 1) = some (.rows [[.int .i64 n, .int .i64 x]]) := by rw [← hH1]; simp
  have hn1 : H1.n = H.n + 2 := by rw [← hH1]; simp
  have hW1 : H1.get W = some (.map es c) := by rw [hk1 W lW, w1]
  have hK1 := (hk1 K lK).trans hL.l.k
  have hlook := look_ok (kn := .agg [.int, .int]) (zero := .bool false) spot_key spot_ok hW1 w2 (n, x)
  rw [w3, hkk] at hlook
  simp -dsimp [spotV, -wk_dops]
  rw [hH1]
  simp -dsimp [g1, g2, hK1, nilcV, hlook]
  by_cases hp : (n, x) ∈ U
  ·rw [if_pos hp]
   simp -dsimp [boolV_t]
   refine ⟨f, U, hL.keep (by omega) fun i hi _ => hk1 i hi, Adv.refl, hp, ⟨by omega, fun i hi _ _ _ => hk1 i hi⟩⟩
  ·rw [if_neg hp]
   obtain ⟨es', c', m1, m2⟩ := mupd_ok (kn := .agg [.int, .int]) (vf := boolV) (mk := mk) spot_key spot_ok hW1 w2 mW (n, x) true
   rw [hkk, boolV_t] at m1
   simp -dsimp [g1, g2, hK1, nilcV]
   refine OpS.intro m1 ?_
   simp -dsimp [-wk_ops]
   obtain ⟨H2, hH2⟩ : ∃ H2, H1.set W (.map es' c') = H2 := ⟨_, rfl⟩
   have hn2 : H2.n = H.n + 2 := by rw [← hH2, Heap.n_set, hn1]
   have hk2 : ∀ j, j < H.n → j ≠ W → H2.get j = H.get j := fun j hj hW => by rw [← hH2, Heap.get_set, if_neg hW, hk1 j hj]
   have g12 : H2.get H.n = some (.rows [[.ptr K 0 0]]) := by rw [← hH2, Heap.get_set, if_neg (by omega), g1]
   have g22 : H2.get (H.n + 1) = some (.rows [[.int .i64 n, .int .i64 x]]) := by rw [← hH2, Heap.get_set, if_neg (by omega), g2]
   have hL2 : LS g w K E W f ((n, x) :: U) H2 := by
    obtain ⟨⟨k, ⟨fs, d, T, e1, e2⟩, lk, le, lw, ke, kw, ew, wb, mk', me, mw⟩, _⟩ := hL
    refine ⟨⟨by rw [hk2 K lk kw, k], ⟨fs, d, T, by rw [hk2 E le ew, e1], e2⟩, by omega, by omega, by omega, ke, kw, ew, wb.keep fun i hi => hk2 i (by omega) (by omega), mk', me, mw⟩, es', c', _, by rw [← hH2, Heap.get_set, if_pos rfl], m2, fun q => ?_⟩
    rw [aLook_set, w3]
    by_cases e : q = (n, x)
    ·simp [e]
    ·simp [e]
   rw [hH2]
   simp -dsimp [g12, g22]
   refine WFS.by begins_ok ?_
   intro v h3 e
   cases e
   obtain ⟨H3, hH3⟩ : ∃ H3, (H2.push (Obj.rows [[V.ptr K 0 0]])).push (Obj.rows [[V.int IntKind.i64 n, V.int IntKind.i64 x]]) = H3 := ⟨_, rfl⟩
   have hn3 : H3.n = H.n + 4 := by rw [← hH3]; simp [hn2]
   have hk3 : ∀ j, j < H2.n → H3.get j = H2.get j := fun j hj => by rw [← hH3, Heap.get_push, if_neg (by simp; omega), Heap.get_push, if_neg (by omega)]
   have g13 : H3.get (H.n + 2) = some (.rows [[.ptr K 0 0]]) := by rw [← hH3]; simp [hn2]
   have g23 : H3.get (H.n + 3) = some (.rows [[.int .i64 n, .int .i64 x]]) := by rw [← hH3]; simp [hn2]
   rw [hH3, hn2]
   simp -dsimp
   refine wk_abs (fun st => st.h = H3 ∧ (gK 2).run st.tm = .ptr H.n 0 0 ∧ (gK 18).run st.tm = .fn 66 [] [.ptr (H.n + 2) 0 0, .ptr (H.n + 2 + 1) 0 0] ∧ st.defs = [] ∧ st.round = false) (by simp) ?_
   rintro ⟨tm, H3', defs, round⟩ ⟨rfl, k2, k18, rfl, rfl⟩
   simp only at k2 k18 hn3 hk3 g13 g23
   refine wk_range2 rfl ?_
   intro H0 asg body hasg hbody z1 z2 z3 z4
   simp only at z1 z2 z3 z4
   simp only [ev_t, k18]
   have hk0 : ∀ j, j < H.n → j ≠ W → H0.get j = H.get j := fun j hj hW => by rw [z2 j (by omega), hk3 j (by omega), hk2 j hj hW]
   have hL0 : LS g w K E W f ((n, x) :: U) H0 := hL2.keep (by omega) fun i hi _ => by rw [z2 i (by omega), hk3 i hi]
   have g10 : H0.get H.n = some (.rows [[.ptr K 0 0]]) := by rw [z2 _ (by omega), hk3 _ (by omega), g12]
   refine Go.Abs.W.mono (begins1_ok (kb := H.n + 2) (sb := H.n + 2 + 1) (l := H3'.n + 1) hG hS (by rw [z2 _ (by omega), g13]) (by rw [z2 _ (by omega)]; exact g23) (by omega) (by omega) ⟨by omega, by omega, by omega⟩ ⟨by omega, by omega, by omega⟩ mK mE (by omega) hL0 ?_) ?_
   ·intro q f4 U4 H4 hsucc hB
    have hB1 := hB.f.1
    have hl4 : H4.get (H3'.n + 1) = some (.loop .ready none tm [19] asg body) := by rw [hB.f.2 _ (by omega) (by omega) (by omega) (by omega), z4]
    refine WF.yld3 hl4 hasg hbody (by omega) rfl ?_
    obtain ⟨qn, qx⟩ := q
    have nl : ¬ H3'.n + 1 = H4.n := by omega
    have hmk4 : mk ≤ H4.n := by omega
    simp -dsimp [spotV, nl, hl4, hmk4]
    have g14 : H4.get H.n = some (.rows [[.ptr K 0 0]]) := by rw [hB.f.2 _ (by omega) (by omega) (by omega) (by omega), g10]
    obtain ⟨H5, hH5⟩ : ∃ H5, ((H4.push (Obj.rows [[V.int IntKind.i64 0, V.int IntKind.i64 0]])).set H4.n (Obj.rows [[V.int IntKind.i64 qn, V.int IntKind.i64 qx]])).set (H3'.n + 1) (.loop .busy none tm [19] asg body) = H5 := ⟨_, rfl⟩
    have hk5 : ∀ j, j < H4.n → j ≠ H3'.n + 1 → H5.get j = H4.get j := fun j hj hjl => by rw [← hH5, Heap.get_set, if_neg hjl, Heap.get_set, if_neg (by omega), Heap.get_push, if_neg (by omega)]
    have hn5 : H5.n = H4.n + 1 := by rw [← hH5]; simp
    have g15 : H5.get H.n = some (.rows [[.ptr K 0 0]]) := by rw [hk5 _ (by omega) (by omega), g14]
    have g45 : H5.get H4.n = some (.rows [[.int .i64 qn, .int .i64 qx]]) := by rw [← hH5, Heap.get_set, if_neg (by omega), Heap.get_set, if_pos rfl]
    have gl5 : H5.get (H3'.n + 1) = some (.loop .busy none tm [19] asg body) := by rw [← hH5, Heap.get_set, if_pos rfl]
    have hL5 : LS g w K E W f4 U4 H5 := hB.s.keep (by omega) fun i hi hK => by
     refine hk5 i hi ?_
     rcases hK with rfl | rfl | rfl | hK <;> omega
    rw [hH5]
    simp -dsimp [k2, g15, g45]
    have hlt := leftV_lt (w := w.l) (U := U) hin hp
    have hle := leftV_le (g := g) (w := w.l) (U := (n, x) :: U) (U' := U4) hB.a.sub
    refine WFS.by (ih U4 (qn, qx) f4 H5 K E W mk (by omega) (.step hS hsucc) hL5 mK mE mW) ?_
    rintro v0 H6 ⟨f6, U6, hL6, hA6, hq6, hF6⟩
    simp only at hL6 hF6
    have hF61 := hF6.1
    have gl6 : H6.get (H3'.n + 1) = some (.loop .busy none tm [19] asg body) := by rw [hF6.2 _ (by omega) (by omega) (by omega) (by omega), gl5]
    simp -dsimp
    refine ⟨rfl, .busy, none, tm, [19], asg, body, gl6, rfl, f6, U6, ?_, hA6, hq6, ?_⟩
    ·exact hL6.keep (by simp) fun i hi hK => by
      rw [Heap.get_set, if_neg (by rcases hK with rfl | rfl | rfl | hK <;> omega)]
    ·refine ⟨by show H4.n ≤ H6.n; omega, fun i hi h1 h2 h3 => ?_⟩
     show (Heap.set _ _ _).get i = _
     rw [Heap.get_set]
     split
     ·rename_i e; rw [e, hl4]
     ·rename_i e; rw [hF6.2 i (by omega) h1 h2 h3, hk5 i hi e]
   ·rintro ⟨v, H7⟩ ⟨f7, U7, hB7, hD7⟩
    simp only at hB7 ⊢
    have hB71 := hB7.f.1
    refine ⟨by rw [hB7.f.2 _ (by omega) (by omega) (by omega) (by omega), z4], ?_⟩
    have gd : H7.get H3'.n = some .dfr := by rw [hB7.f.2 _ (by omega) (by omega) (by omega) (by omega), z3]
    have nd : ¬ H3'.n = H3'.n + 1 := by omega
    have hmk3 : mk ≤ H3'.n := by omega
    simp -dsimp [gd, hmk3]
    have hfix : ∀ i, i < H.n → ((H7.set (H3'.n + 1) (Obj.loop LoopState.exhausted none tm [19] asg body)).kill H3'.n).get i = H7.get i := fun i hi => by
     rw [Heap.get_kill, if_neg (by omega), Heap.get_set, if_neg (by omega)]
    refine ⟨f7, U7, ?_, ?_, hB7.a.sub _ (by simp), ?_⟩
    ·exact hB7.s.keep (by simp) fun i hi hK => hfix i (by rcases hK with rfl | rfl | rfl | hK <;> omega)
    ·refine ⟨hB7.a.le, fun q hq => hB7.a.sub q (by simp [hq]), hB7.a.far, fun q hq hn => ?_⟩
     by_cases e : q = (n, x)
     ·subst e; exact ⟨hD7, hS⟩
     ·exact hB7.a.done q hq (by simp [e, hn])
    ·refine ⟨by simp; omega, fun i hi h1 h2 h3 => ?_⟩
     rw [hfix i hi, hB7.f.2 i (by omega) h1 h2 h3, hk0 i hi h3]
end Go.Abs
namespace Go.Abs
open Go Pr
set_option maxRecDepth 10000
def IsPlace (g : Gr) (w : List UInt8) (f : Int) : Prop := (f = 0 ∨ ∃ p c, Spot g w p ∧ Cand g w p c ∧ f = c) ∧ 0 ≤ f ∧ ∀ p c, Spot g w p → Cand g w p c → c ≤ f
def PlaceOk (g : Gr) (w : List UInt8) (f : Int) : Prop := ((checkV g).2 = 0 ∧ w.length ≤ 200 ∧ IsPlace g w f) ∨ (¬ ((checkV g).2 = 0 ∧ w.length ≤ 200) ∧ f = 0)
theorem check_zero {g : Gr} (h : (checkV g).2 = 0) : mayB g = true ∧ circI g = -1 := by
 unfold checkV at h
 split at h
 ·rename_i hm
  refine ⟨hm, ?_⟩
  by_cases c : circI g = -1
  ·exact c
  ·simp [cnL, firstC, c] at h
 ·simp at h
theorem place_of_adv {g : Gr} {w : List UInt8} {f : Int} {U : List (Int × Int)} (h : Adv g w 0 [] f U) (h0 : (0, 0) ∈ U) : IsPlace g w f := by
 have key : ∀ p, Spot g w p → p ∈ U := by
  intro p hp
  induction hp with
  | root => exact h0
  | step _ hs ih => exact (h.done _ ih (by simp)).1.2 _ hs
 refine ⟨h.far, h.le, fun p c hp hc => (h.done p (key p hp) (by simp)).1.1 c hc⟩
theorem of13_ok {g : Gr} (hg : g.Fine) (hr : ∀ p ∈ g.p.l, ∀ a ∈ p.a.l, ∀ s ∈ a.l, s.r.l.length < 1500000) {w : Wd} {mk : Nat} {h : Heap} (hB : WB h w) (hm : w.m ≤ h.n) (hw : w.l.length < 1000000000) (hmk : mk ≤ h.n) :
  WF PR false mk (.fn 13 [] []) [.agg g.cells, w.v] h fun r => ∃ K E W f, r.v = .ptr K 0 0 ∧ r.h.get K = some (.rows [[g.p.enc Pd.cells, g.keys.enc keyCells, w.v, .map E, .map W, .int .i64 f]]) ∧ PlaceOk g w.l f := by
 refine WF.fn (F := f13) rfl rfl rfl (Nat.le_of_ble_eq_true rfl) ?_
 refine wbodyS b13 [.tm 4] rfl rfl ?_
 unfold b13
 have hgc : [Sl.enc Pd.cells g.p, Sl.enc keyCells g.keys] = g.cells := rfl
 obtain ⟨hcv, hone⟩ := hB.cells
 have hlw : ∀ H, lenV .sl w.v H = some (.int .i64 w.l.length) := fun H => hB.len
 simp -dsimp [Gr.cells, -wk_ops]
 rw [wk_ops]
 simp -dsimp [Gr.cells, hcv, hone, -wk_ops]
 rw [wk_ops]
 simp -dsimp [Gr.cells, hcv, hone, -wk_ops]
 refine wk_abs (fun st => st.h.n = h.n + 4 ∧ st.h.get h.n = some (.rows [g.cells]) ∧ LS g w (h.n + 3) (h.n + 1) (h.n + 2) 0 [] st.h ∧ (gK 1).run st.tm = w.v ∧ (gK 2).run st.tm = .ptr h.n 0 0 ∧ (gK 5).run st.tm = .ptr (h.n + 3) 0 0 ∧ st.defs = []) ?_ ?_
 ·refine ⟨by simp, by simp; rfl, ⟨⟨by simp, ⟨[], 0, [], by simp, rfl, by simp [aLook]⟩, by simp, by simp, by simp, by omega, by omega, by omega, hB.keep fun i hi => ?_, by omega, by omega, by omega⟩, [], 0, [], by simp, rfl, by simp [aLook]⟩, by simp, by simp, by simp, rfl⟩
  simp only [Heap.get_push, Heap.n_push]
  rw [if_neg (by omega), if_neg (by omega), if_neg (by omega), if_neg (by omega)]
 rintro ⟨tm, H, defs, round⟩ ⟨hn, g1, hL, t1, t2, t5, rfl⟩
 simp only at hn g1 hL t1 t2 t5
 simp -dsimp [t2, g1, Gr.cells]
 rw [hgc]
 refine WFS.by (Check_ok g hg) ?_
 intro v h1 e
 cases e
 simp -dsimp
 rw [Gd_t]
 refine ⟨fun hc => ?_, fun hc => ?_⟩
 ·simp at hc
  simp -dsimp [t1, hc, hlw]
  rw [Br_bool]
  refine ⟨fun hd => ?_, fun hd => ?_⟩
  ·simp at hd
   have hd' : w.l.length ≤ 200 := by omega
   obtain ⟨c1, c2⟩ := check_zero hc
   have hG : GrW g w := ⟨c1, c2, hd', hr⟩
   simp -dsimp [t5]
   refine WFS.by (look_ind hG _ [] (0, 0) 0 H _ _ _ mk (Nat.lt_succ_self _) .root hL (by omega) (by omega) (by omega)) ?_
   rintro v H2 ⟨f, U, hL2, hA, h0, hF⟩
   simp only at hL2
   simp -dsimp [t5]
   exact ⟨_, _, f, hL2.l.k, .inl ⟨hc, hd', place_of_adv hA h0⟩⟩
  ·simp at hd
   simp -dsimp [t5]
   exact ⟨_, _, 0, hL.l.k, .inr ⟨fun h => by omega, rfl⟩⟩
 ·simp at hc
  simp -dsimp [t5, hc]
  exact ⟨_, _, 0, hL.l.k, .inr ⟨fun h => hc h.1, rfl⟩⟩
theorem Place_ok {g : Gr} (hg : g.Fine) (hr : ∀ p ∈ g.p.l, ∀ a ∈ p.a.l, ∀ s ∈ a.l, s.r.l.length < 1500000) {w : Wd} {mk : Nat} {h : Heap} (hB : WB h w) (hm : w.m ≤ h.n) (hw : w.l.length < 1000000000) :
  WF PR false mk (.fn 7 [] []) [.agg g.cells, w.v] h fun r => r.h = h ∧ ∃ f, r.v = .int .i64 f ∧ PlaceOk g w.l f := by
 refine WF.pureFn (f := 7) (AP := PR) (F := f7) (args := [.agg g.cells, w.v]) (first := []) (cap := []) (Q := fun v => ∃ f, v = .int .i64 f ∧ PlaceOk g w.l f) rfl rfl rfl (Nat.le_of_ble_eq_true rfl) ?_
 refine wbodyS b7 [.tm 4] rfl rfl ?_
 unfold b7
 have hgc : [Sl.enc Pd.cells g.p, Sl.enc keyCells g.keys] = g.cells := rfl
 simp -dsimp [Gr.cells]
 rw [hgc]
 refine WFS.by (of13_ok hg hr (h := h.push (.rows [g.cells])) (hB.keep fun i hi => by rw [Heap.get_push, if_neg (by omega)]) (by simp; omega) hw (by simp)) ?_
 rintro v H ⟨K, E, W, f, rfl, hK, hP⟩
 simp only at hK
 simp -dsimp [nilcV, hK]
 exact hP
end Go.Abs
namespace Go.Abs
open Go Pr
theorem fitsN_take : ∀ (s : List Rg) (b : List UInt8) (k : Nat), fitsN s (b.take k) = min (fitsN s b) k
 | [], b, k => by simp [fitsN]
 | r :: s, [], k => by simp [fitsN]
 | r :: s, c :: b, 0 => by simp [fitsN]
 | r :: s, c :: b, k + 1 => by
  simp only [List.take_succ_cons, fitsN]
  split
  ·rw [fitsN_take s b k]; omega
  ·omega
theorem bestFit_take : ∀ (l : List (Sl Rg)) (b : List UInt8) (k : Nat), bestFit l (b.take k) = min (bestFit l b) k
 | [], b, k => by simp [bestFit]
 | s :: l, b, k => by simp only [bestFit, fitsN_take, bestFit_take l b k]; omega
theorem firstFit_best : ∀ (l : List (Sl Rg)) (b : List UInt8), firstFit l b ≤ bestFit l b
 | [], b => by simp [firstFit]
 | s :: l, b => by
  have := firstFit_best l b
  simp only [firstFit, bestFit]
  split <;> omega
def leadN (c : UInt8) : Nat := if c.toNat < 128 then 1 else if c.toNat < 224 then 2 else if c.toNat < 240 then 3 else 4
def Lead (s : Sl Rg) : Prop := ∀ b, fitsN s.l b = s.l.length → ∃ c b', b = c :: b' ∧ s.l.length = leadN c
theorem oneUp_head {a b : List Int} : ∀ {n : Nat}, 0 < n → ∃ t, oneUp a b n = ⟨lat a 0, lat b 0⟩ :: t
 | 0, h => by omega
 | 1, _ => ⟨[], rfl⟩
 | n + 2, _ => by
  obtain ⟨t, e⟩ := oneUp_head (a := a) (b := b) (n := n + 1) (by omega)
  exact ⟨t ++ [⟨lat a (n + 1), lat b (n + 1)⟩], by rw [oneUp, e]; rfl⟩
theorem lead_put {x : Int} (h : mayI x = true) : lat (putS x).l 0 = headI (sizeN x) + x / p2 (6 * (sizeN x - 1)) := by
 simp only [putS, h, if_true, l_of, putL, lat]; rfl
theorem seqOf_lead {i : Nat} {x : Rg} (h : InR (kindR i) x) : Lead (seqOf x) := by
 intro b hb
 obtain ⟨h1, h2, h3⟩ := h
 have a1 := kind_size (i := i) (x := x.lo) h1 (by omega)
 have a2 := kind_size (i := i) (x := x.hi) (by omega) h3
 have l1 := put_kind (i := i) (x := x.lo) h1 (by omega)
 have hl : (seqOf x).l.length = kindM i + 1 := by simp [seqOf, oneL, oneUp_len, l1]
 obtain ⟨t, ht⟩ := oneUp_head (a := (putS x.lo).l) (b := (putS x.hi).l) (n := (putS x.lo).l.length) (by omega)
 have hs : (seqOf x).l = ⟨lat (putS x.lo).l 0, lat (putS x.hi).l 0⟩ :: t := by simp [seqOf, oneL, ht]
 rw [hl]
 cases b with
 | nil => rw [hs] at hb; simp [fitsN] at hb
 | cons c b =>
  refine ⟨c, b, rfl, ?_⟩
  rw [hs] at hb
  have hin : inB ⟨lat (putS x.lo).l 0, lat (putS x.hi).l 0⟩ c = true := by
   cases hq : inB ⟨lat (putS x.lo).l 0, lat (putS x.hi).l 0⟩ c with
   | true => rfl
   | false => simp [fitsN, hq] at hb
  rw [lead_put a1.1, lead_put a2.1, a1.2, a2.2] at hin
  simp only [inB, Bool.and_eq_true, decide_eq_true_eq] at hin
  obtain ⟨q1, q2⟩ := hin
  have e0 : p2 0 = 1 := rfl
  have e6 : p2 6 = 64 := rfl
  have e12 : p2 12 = 4096 := rfl
  have e18 : p2 18 = 262144 := rfl
  unfold kindR at h1 h3
  unfold kindM at q1 q2 ⊢
  unfold leadN
  split at h1
  ·rename_i h; subst h; simp [headI, e0] at q1 q2 h1 h3 ⊢; split <;> (try split) <;> (try split) <;> omega
  ·rename_i h
   split at h1
   ·rename_i h'; subst h'; simp [headI, e6] at q1 q2 h1 h3 ⊢; split <;> (try split) <;> (try split) <;> omega
   ·rename_i h'
    split at h1
    ·rename_i h'; subst h'; simp [headI, e12] at q1 q2 h1 h3 ⊢; split <;> (try split) <;> (try split) <;> omega
    ·rename_i h4
     split at h1
     ·rename_i h'; subst h'; simp [headI, e12] at q1 q2 h1 h3 ⊢; split <;> (try split) <;> (try split) <;> omega
     ·rename_i h5; simp [h, h', h4, h5, headI, e18] at q1 q2 h1 h3 ⊢; split <;> (try split) <;> (try split) <;> omega
theorem ofL_lead {l : List Rg} {s : Sl Rg} (h : s ∈ ofL l) : Lead s := by
 have k1 : ∀ r i, s ∈ ofUp2 r i → Lead s := by
  intro r i
  induction i with
  | zero => intro h; simp [ofUp2] at h
  | succ i ih =>
   intro h
   rw [ofUp2, List.mem_append] at h
   rcases h with h | h
   ·exact ih h
   ·simp only [ofR, List.mem_map] at h
    obtain ⟨x, hx, rfl⟩ := h
    have hk := kindR_ok i
    exact seqOf_lead (i := i) (splitsL_in hk.1 (fun r' hr' => two_in hk.1 hk.2.2 hr') hx)
 have k2 : ∀ j, s ∈ ofUp (normL l) j → Lead s := by
  intro j
  induction j with
  | zero => intro h; simp [ofUp] at h
  | succ j ih =>
   intro h
   rw [ofUp, List.mem_append] at h
   rcases h with h | h
   ·exact ih h
   ·exact k1 _ _ h
 exact k2 _ h
theorem firstFit_lead : ∀ {l : List (Sl Rg)} {b : List UInt8}, (∀ s ∈ l, Lead s) → 0 < firstFit l b → ∃ c b', b = c :: b' ∧ firstFit l b = leadN c
 | [], b, _, h => by simp [firstFit] at h
 | s :: l, b, hl, h => by
  simp only [firstFit] at h ⊢
  split at h
  ·rename_i hf
   rw [if_pos hf]
   exact hl s (by simp) b hf
  ·rename_i hf
   rw [if_neg hf]
   exact firstFit_lead (fun s hs => hl s (by simp [hs])) h
theorem firstFit_none : ∀ {l : List (Sl Rg)} {b : List UInt8}, (∀ s ∈ l, Lead s) → firstFit l b = 0 → ∀ s ∈ l, fitsN s.l b ≠ s.l.length
 | [], b, _, _ => by simp
 | s :: l, b, hl, h => by
  simp only [firstFit] at h
  intro t ht
  split at h
  ·rename_i hf
   obtain ⟨c, b', _, e⟩ := hl s (by simp) b hf
   exfalso; rw [h] at e; revert e; unfold leadN; split <;> (try split) <;> (try split) <;> simp
  ·rename_i hf
   rcases List.mem_cons.1 ht with rfl | ht
   ·exact hf
   ·exact firstFit_none (fun s hs => hl s (by simp [hs])) h t ht
theorem firstFit_zero : ∀ {l : List (Sl Rg)} {b : List UInt8}, (∀ s ∈ l, fitsN s.l b ≠ s.l.length) → firstFit l b = 0
 | [], _, _ => rfl
 | s :: l, b, h => by rw [firstFit, if_neg (h s (by simp)), firstFit_zero fun t ht => h t (by simp [ht])]
theorem firstFit_pos {l : List (Sl Rg)} {b : List UInt8} (hl : ∀ s ∈ l, Lead s) {s : Sl Rg} (hs : s ∈ l) (hf : fitsN s.l b = s.l.length) : 0 < firstFit l b := by
 refine Nat.pos_of_ne_zero fun e => ?_
 exact firstFit_none hl e s hs hf
theorem firstFit_mem : ∀ {l : List (Sl Rg)} {b : List UInt8}, 0 < firstFit l b → ∃ s ∈ l, fitsN s.l b = s.l.length ∧ firstFit l b = s.l.length
 | [], b, h => by simp [firstFit] at h
 | s :: l, b, h => by
  simp only [firstFit] at h ⊢
  split at h
  ·rename_i hf; rw [if_pos hf]; exact ⟨s, by simp, hf, rfl⟩
  ·rename_i hf
   rw [if_neg hf]
   obtain ⟨t, ht, h1, h2⟩ := firstFit_mem h
   exact ⟨t, by simp [ht], h1, h2⟩
theorem firstFit_take {l : List (Sl Rg)} {b : List UInt8} (hl : ∀ s ∈ l, Lead s) (k : Nat) : firstFit l (b.take k) = if firstFit l b ≤ k then firstFit l b else 0 := by
 by_cases h0 : 0 < firstFit l (b.take k)
 ·obtain ⟨s, hs, h1, h2⟩ := firstFit_mem h0
  rw [fitsN_take] at h1
  have hf := (fitsN_le s.l b).1
  have h3 : fitsN s.l b = s.l.length := by omega
  have h4 := firstFit_pos hl hs h3
  obtain ⟨c, b', e, h5⟩ := firstFit_lead hl h4
  obtain ⟨c', b'', e', h6⟩ := firstFit_lead hl h0
  have hk : k ≠ 0 := by intro hk; subst hk; simp at e'
  obtain ⟨k', rfl⟩ : ∃ k', k = k' + 1 := ⟨k - 1, by omega⟩
  rw [e, List.take_succ_cons] at e'
  injection e' with e1 _
  subst e1
  rw [if_pos (by omega), h5, h6]
 ·have h0' : firstFit l (b.take k) = 0 := by omega
  rw [h0']
  split
  ·rename_i hk
   by_cases h4 : 0 < firstFit l b
   ·exfalso
    obtain ⟨s, hs, h1, h2⟩ := firstFit_mem h4
    exact firstFit_none hl h0' s hs (by rw [fitsN_take]; omega)
   ·omega
  ·rfl
section
variable {s : Sy} {w : List UInt8} {n : Nat} {x : Int}
theorem lat_take {α : Type} [Inhabited α] {l : List α} {n i : Nat} (h : i < n) : lat (l.take n) i = lat l i := by
 by_cases c : i < l.length
 ·rw [lat_eq (by rw [List.length_take]; omega), lat_eq c, List.getElem_take]
 ·rw [lat_out (l := l.take n) (by rw [List.length_take]; omega), lat_out (l := l) (by omega)]
theorem octetN_take (hn : n ≤ w.length) : octetN s (w.take n) x = if x < n then octetN s w x else 0 := by
 have hl : (w.take n).length = n := by rw [List.length_take]; omega
 unfold octetN
 rw [hl]
 by_cases c : x < n
 ·rw [if_pos c]
  by_cases c0 : 0 ≤ x
  ·rw [lat_take (by omega)]
   have : x < (w.length : Int) := by omega
   simp [c, c0, this]
  ·rw [if_neg (by omega), if_neg (by omega)]
 ·rw [if_neg c, if_neg (by omega)]
theorem drop_take' (hx : 0 ≤ x) (h : x ≤ n) : (w.take n).drop x.toNat = (w.drop x.toNat).take (n - x.toNat) := by
 rw [List.drop_take]
theorem seqMatch_in {l : List (Sl Rg)} (h0 : 0 ≤ x) (h1 : x ≤ w.length) : seqMatch l w x = firstFit l (w.drop x.toNat) := by
 unfold seqMatch; rw [if_neg (by omega)]
theorem seqPart_in {l : List (Sl Rg)} (h0 : 0 ≤ x) (h1 : x ≤ w.length) : seqPart l w x = bestFit l (w.drop x.toNat) := by
 unfold seqPart; rw [if_neg (by omega)]
theorem matchN_take (hn : n ≤ w.length) (h0 : 0 ≤ x) (h1 : x ≤ n) : matchN s (w.take n) x = if x + matchN s w x ≤ n then matchN s w x else 0 := by
 have hl : (w.take n).length = n := by rw [List.length_take]; omega
 unfold matchN
 by_cases c0 : s.kind = 0
 ·simp only [c0, if_true]
  rw [octetN_take hn]
  have : octetN s w x = 0 ∨ octetN s w x = 1 := by unfold octetN; split <;> simp
  split <;> split <;> omega
 ·simp only [c0, if_false]
  by_cases c1 : s.kind = 1
  ·simp only [c1, if_true]
   unfold scalN
   rw [seqMatch_in h0 (by omega), seqMatch_in h0 (by omega), drop_take' h0 h1, firstFit_take fun s hs => ofL_lead hs]
   by_cases c : firstFit (ofL s.r.l) (w.drop x.toNat) ≤ n - x.toNat
   ·rw [if_pos c, if_pos (by omega)]
   ·rw [if_neg c, if_neg (by omega)]; rfl
  ·simp only [c1, if_false]
   split <;> rfl
theorem partN_take (hn : n ≤ w.length) (h0 : 0 ≤ x) (h1 : x ≤ n) : x + partN s (w.take n) x = min (x + partN s w x) n := by
 have hl : (w.take n).length = n := by rw [List.length_take]; omega
 unfold partN
 by_cases c0 : s.kind = 0
 ·simp only [c0, if_true]
  rw [octetN_take hn]
  have : octetN s w x = 0 ∨ octetN s w x = 1 := by unfold octetN; split <;> simp
  split <;> omega
 ·simp only [c0, if_false]
  by_cases c1 : s.kind = 1
  ·simp only [c1, if_true]
   unfold spartN
   rw [seqPart_in h0 (by omega), seqPart_in h0 (by omega), drop_take' h0 h1, bestFit_take]
   omega
  ·simp only [c1, if_false]; omega
theorem match_part (h0 : 0 ≤ x) (h1 : x ≤ w.length) : matchN s w x ≤ partN s w x := by
 unfold matchN partN
 split
 ·omega
 ·split
  ·unfold scalN spartN
   rw [seqMatch_in h0 h1, seqPart_in h0 h1]
   have := firstFit_best (ofL s.r.l) (w.drop x.toNat)
   omega
  ·omega
end
section
variable {g : Gr} {w : List UInt8} {n : Nat}
theorem DerL.of_take (hn : n ≤ w.length) {l : List Sy} {x y : Int} (h : DerL g (w.take n) l x y) : DerL g w l x y := by
 induction h with
 | nil => exact .nil
 | @term s l x z hk hm h ih =>
  have hr := matchN_range hm
  have hl : (w.take n).length = n := by rw [List.length_take]; omega
  have e := matchN_take (s := s) (w := w) (n := n) (x := x) hn (by omega) (by omega)
  have e' : matchN s (w.take n) x = matchN s w x := by
   rw [e]; split
   ·rfl
   ·rename_i hc; rw [if_neg hc] at e; omega
  rw [e'] at ih hm
  exact .term hk hm ih
 | non hk hn' ha h1 h2 ih1 ih2 => exact .non hk hn' ha ih1 ih2
inductive Front (g : Gr) (w : List UInt8) (n : Int) : List Sy → Int → Prop
 | here {s : Sy} {l : List Sy} {x : Int} (hk : s.kind ≠ 2) (h : x + partN s w x = n) : Front g w n (s :: l) x
 | skipT {s : Sy} {l : List Sy} {x : Int} (hk : s.kind ≠ 2) (hm : 0 < matchN s w x) (h : Front g w n l (x + matchN s w x)) : Front g w n (s :: l) x
 | skipN {s : Sy} {l : List Sy} {a : Sl Sy} {x y : Int} (hk : s.kind = 2) (hn : 0 ≤ s.n) (ha : a ∈ (lat g.p.l s.n.toNat).a.l) (h1 : DerL g w a.l x y) (h : Front g w n l y) : Front g w n (s :: l) x
 | into {s : Sy} {l : List Sy} {a : Sl Sy} {x : Int} (hk : s.kind = 2) (hn : 0 ≤ s.n) (ha : a ∈ (lat g.p.l s.n.toNat).a.l) (h : Front g w n a.l x) : Front g w n (s :: l) x
theorem DerL.cut (hn : n ≤ w.length) {l : List Sy} {x y : Int} (h : DerL g w l x y) (h0 : 0 ≤ x) (h1 : x ≤ n) : (y ≤ n ∧ DerL g (w.take n) l x y) ∨ Front g (w.take n) n l x := by
 induction h with
 | nil => exact .inl ⟨h1, .nil⟩
 | @term s l x z hk hm h ih =>
  have e := matchN_take (s := s) (w := w) (n := n) (x := x) hn h0 h1
  by_cases c : x + matchN s w x ≤ n
  ·rw [if_pos c] at e
   rcases ih (by omega) c with ⟨a, b⟩ | b
   ·exact .inl ⟨a, .term hk (by omega) (by rw [e]; exact b)⟩
   ·exact .inr (.skipT hk (by omega) (by rw [e]; exact b))
  ·refine .inr (.here hk ?_)
   have := match_part (s := s) (w := w) (x := x) h0 (by omega)
   rw [partN_take hn h0 h1]; omega
 | @non s l a x y z hk hn' ha d1 d2 ih1 ih2 =>
  rcases ih1 h0 h1 with ⟨p, q⟩ | q
  ·have := d1.mono
   rcases ih2 (by omega) p with ⟨p', q'⟩ | q'
   ·exact .inl ⟨p', .non hk hn' ha q q'⟩
   ·exact .inr (.skipN hk hn' ha q q')
  ·exact .inr (.into hk hn' ha q)
theorem Front.append {w' : List UInt8} {n : Int} {l m : List Sy} {x : Int} (h : Front g w' n l x) : Front g w' n (l ++ m) x := by
 induction h with
 | here hk h => exact .here hk h
 | skipT hk hm h ih => exact .skipT hk hm ih
 | skipN hk hn ha h1 h ih => exact .skipN hk hn ha h1 ih
 | into hk hn ha h ih => exact .into hk hn ha h
theorem take_lat {α : Type} [Inhabited α] {l : List α} {i : Nat} (h : i < l.length) : l.take (i + 1) = l.take i ++ [lat l i] := by
 rw [List.take_add_one, lat_get h]; rfl
theorem Front.cand {w' : List UInt8} {n : Int} {l : List Sy} {x : Int} (h : Front g w' n l x) : ∀ {p : Int × Int} {a : Sl Sy} {i : Nat}, Spot g w' p → a ∈ (lat g.p.l p.1.toNat).a.l → a.l.drop i = l → DerL g w' (a.l.take i) p.2 x → ∃ q, Spot g w' q ∧ Cand g w' q n := by
 have hd : ∀ {a : List Sy} {i : Nat} {s : Sy} {l : List Sy}, a.drop i = s :: l → i < a.length ∧ lat a i = s ∧ a.drop (i + 1) = l := by
  intro a i s l e
  have h1 : i < a.length := by
   by_cases c : i < a.length
   ·exact c
   ·rw [List.drop_eq_nil_of_le (by omega)] at e; cases e
  rw [drop_lat h1] at e
  injection e with e1 e2
  exact ⟨h1, e1, e2⟩
 induction h with
 | @here s l x hk h =>
  intro p a i hp ha e hD
  obtain ⟨h1, h2, h3⟩ := hd e
  exact ⟨p, hp, a, ha, i, h1, by rw [h2]; exact hk, x, hD, by rw [h2, h]⟩
 | @skipT s l x hk hm h ih =>
  intro p a i hp ha e hD
  obtain ⟨h1, h2, h3⟩ := hd e
  refine ih (i := i + 1) hp ha h3 ?_
  rw [take_lat h1, h2]
  exact hD.append (.term hk hm .nil)
 | @skipN s l b x y hk hn hb d1 h ih =>
  intro p a i hp ha e hD
  obtain ⟨h1, h2, h3⟩ := hd e
  refine ih (i := i + 1) hp ha h3 ?_
  rw [take_lat h1, h2]
  exact hD.append (.non hk hn hb d1 .nil)
 | @into s l b x hk hn hb h ih =>
  intro p a i hp ha e hD
  obtain ⟨h1, h2, h3⟩ := hd e
  exact ih (p := (s.n, x)) (a := b) (i := 0) (.step hp ⟨a, ha, i, h1, by rw [h2]; exact hk, x, hD, by rw [h2]⟩) hb rfl .nil
theorem Succ.of_take (hn : n ≤ w.length) {p q : Int × Int} (h : Succ g (w.take n) p q) : Succ g w p q := by
 obtain ⟨a, ha, i, hi, hk, y, hd, e⟩ := h
 exact ⟨a, ha, i, hi, hk, y, hd.of_take hn, e⟩
theorem Spot.of_take (hn : n ≤ w.length) {p : Int × Int} (h : Spot g (w.take n) p) : Spot g w p := by
 induction h with
 | root => exact .root
 | step _ h' ih => exact .step ih (h'.of_take hn)
theorem spot_inL (hm : mayB g = true) {w : List UInt8} {p : Int × Int} (h : Spot g w p) : InB g w p := spot_in (w := ⟨.nils, w, 0⟩) hm h
theorem cand_in (hm : mayB g = true) {w : List UInt8} {p : Int × Int} {c : Int} (hp : Spot g w p) (h : Cand g w p c) : 0 ≤ c ∧ c ≤ w.length := by
 have hb := spot_inL hm hp
 obtain ⟨a, ha, i, hi, hk, y, hd, rfl⟩ := h
 have := hd.le hb.2.2.1 hb.2.2.2
 have := hb.2.2.1
 have := partN_range (s := lat a.l i) (w := w) (x := y) (by omega) (by omega)
 omega
theorem place_le (hm : mayB g = true) {w : List UInt8} {d : Int} (h : IsPlace g w d) : d ≤ w.length := by
 rcases h.1 with e | ⟨p, c, hp, hc, e⟩
 ·omega
 ·have := cand_in hm hp hc; omega
theorem place_take (hm : mayB g = true) (hn : n ≤ w.length) {d d' : Int} (h : IsPlace g w d) (h' : IsPlace g (w.take n) d') : d' = min d n := by
 have hl : (w.take n).length = n := by rw [List.length_take]; omega
 have hle := place_le hm h'
 rw [hl] at hle
 obtain ⟨hf, h0, hall⟩ := h
 obtain ⟨hf', h0', hall'⟩ := h'
 have cut : ∀ {p : Int × Int} {a : Sl Sy} {i : Nat} {y : Int}, Spot g (w.take n) p → a ∈ (lat g.p.l p.1.toNat).a.l → DerL g w (a.l.take i) p.2 y → (y ≤ n ∧ DerL g (w.take n) (a.l.take i) p.2 y) ∨ n ≤ d' := by
  intro p a i y hp ha hd
  have hb := spot_inL hm hp
  have hb1 := hb.2.2.1
  have hb2 := hb.2.2.2
  rw [hl] at hb2
  rcases hd.cut hn hb1 hb2 with q | q
  ·exact .inl q
  ·obtain ⟨r, hr, hc⟩ := (q.append (m := a.l.drop i)).cand (p := p) (a := a) (i := 0) hp ha (by rw [List.take_append_drop]; rfl) .nil
   exact .inr (hall' r n hr hc)
 have hsp : ∀ p, Spot g w p → Spot g (w.take n) p ∨ n ≤ d' := by
  intro p hp
  induction hp with
  | root => exact .inl .root
  | @step p q _ hs ih =>
   rcases ih with ih | ih
   ·obtain ⟨a, ha, i, hi, hk, y, hd, rfl⟩ := hs
    rcases cut ih ha hd with ⟨_, q⟩ | q
    ·exact .inl (.step ih ⟨a, ha, i, hi, hk, y, q, rfl⟩)
    ·exact .inr q
   ·exact .inr ih
 have up : d' ≤ d := by
  rcases hf' with e | ⟨p, c, hp, hc, e⟩
  ·omega
  ·have hb := spot_inL hm hp
   obtain ⟨a, ha, i, hi, hk, y, hd, rfl⟩ := hc
   have := hd.le hb.2.2.1 hb.2.2.2
   have := hb.2.2.1
   have e2 := partN_take (s := lat a.l i) (w := w) (n := n) (x := y) hn (by omega) (by omega)
   have := hall p _ (hp.of_take hn) ⟨a, ha, i, hi, hk, y, hd.of_take hn, rfl⟩
   omega
 have lo : d ≤ d' ∨ n ≤ d' := by
  rcases hf with e | ⟨p, c, hp, hc, e⟩
  ·omega
  ·rcases hsp p hp with q | q
   ·obtain ⟨a, ha, i, hi, hk, y, hd, rfl⟩ := hc
    rcases cut q ha hd with ⟨y1, r⟩ | r
    ·have hb := spot_inL hm q
     have := hd.mono
     have := hb.2.2.1
     have e2 := partN_take (s := lat a.l i) (w := w) (n := n) (x := y) hn (by omega) (by omega)
     have := hall' p _ q ⟨a, ha, i, hi, hk, y, r, rfl⟩
     omega
    ·exact .inr r
   ·exact .inr q
 omega
end
end Go.Abs
namespace Go.Abs
open Go Pr
set_option maxRecDepth 10000
theorem place_one {g : Gr} {w : List UInt8} {f f' : Int} (h : IsPlace g w f) (h' : IsPlace g w f') : f = f' := by
 have key : ∀ {f f' : Int}, IsPlace g w f → IsPlace g w f' → f ≤ f' := by
  intro f f' h h'
  rcases h.1 with e | ⟨p, c, hp, hc, e⟩
  ·have := h'.2.1; omega
  ·have := h'.2.2 p c hp hc; omega
 have := key h h'
 have := key h' h
 omega
theorem placeOk_one {g : Gr} {w : List UInt8} {f f' : Int} (h : PlaceOk g w f) (h' : PlaceOk g w f') : f = f' := by
 rcases h with ⟨a, b, c⟩ | ⟨a, b⟩
 ·rcases h' with ⟨a', b', c'⟩ | ⟨a', b'⟩
  ·exact place_one c c'
  ·exact absurd ⟨a, b⟩ a'
 ·rcases h' with ⟨a', b', c'⟩ | ⟨a', b'⟩
  ·exact absurd ⟨a', b'⟩ a
  ·omega
noncomputable def placeV (g : Gr) (w : List UInt8) : Int := Classical.epsilon (PlaceOk g w)
theorem placeV_eq {g : Gr} {w : List UInt8} {f : Int} (h : PlaceOk g w f) : placeV g w = f := placeOk_one (Classical.epsilon_spec ⟨f, h⟩) h
section
variable {g : Gr} (hg : g.Fine) (hr : ∀ p ∈ g.p.l, ∀ a ∈ p.a.l, ∀ s ∈ a.l, s.r.l.length < 1500000)
include hg hr
theorem placeV_ok {w : List UInt8} (hw : w.length < 1000000000) : PlaceOk g w (placeV g w) := by
 obtain ⟨l, N, h0, _, _, h3⟩ := Place_ok hg hr (w := ⟨(Sl.of w).enc byteCells, w, 0⟩) (mk := 0) (h := ⟨0, .e⟩) (.inl ⟨.of w, rfl, rfl⟩) (Nat.zero_le _) hw
 match l, h0, h3 with
 | r :: _, _, h3 =>
  obtain ⟨_, f, _, hf⟩ := h3 r (by simp)
  rw [placeV_eq hf]; exact hf
theorem PlaceD_ok {w : Wd} {d : Bool} {mk : Nat} {h : Heap} (hB : WB h w) (hm : w.m ≤ h.n) (hw : w.l.length < 1000000000) :
  WF PR d mk (.fn 7 [] []) [.agg g.cells, w.v] h fun r => r = ⟨.int .i64 (placeV g w.l), h⟩ := by
 refine WF.pureOne (f := 7) (AP := PR) (F := f7) (args := [.agg g.cells, w.v]) (first := []) (cap := []) rfl rfl rfl (Nat.le_of_ble_eq_true rfl) ?_
 refine wbodyS b7 [.tm 4] rfl rfl ?_
 unfold b7
 have hgc : [Sl.enc Pd.cells g.p, Sl.enc keyCells g.keys] = g.cells := rfl
 simp -dsimp [Gr.cells]
 rw [hgc]
 refine WFS.by (of13_ok hg hr (h := h.push (.rows [g.cells])) (hB.keep fun i hi => by rw [Heap.get_push, if_neg (by omega)]) (by simp; omega) hw (by simp)) ?_
 rintro v H ⟨K, E, W, f, rfl, hK, hP⟩
 simp only at hK
 simp -dsimp [nilcV, hK]
 exact (placeV_eq hP).symm
end
theorem placeOk_in {g : Gr} {w : List UInt8} {f : Int} (h : PlaceOk g w f) : 0 ≤ f ∧ f ≤ w.length := by
 rcases h with ⟨a, _, c⟩ | ⟨_, rfl⟩
 ·exact ⟨c.2.1, place_le (check_zero a).1 c⟩
 ·omega
theorem placeOk_take {g : Gr} {w : List UInt8} {f f' : Int} {n : Nat} (hw : w.length ≤ 200) (hn : n ≤ w.length) (h : PlaceOk g w f) (h' : PlaceOk g (w.take n) f') : f' = min f n := by
 have hl : (w.take n).length = n := by rw [List.length_take]; omega
 rcases h with ⟨a, b, c⟩ | ⟨a, b⟩
 ·rcases h' with ⟨a', b', c'⟩ | ⟨a', b'⟩
  ·exact place_take (check_zero a).1 hn c c'
  ·exact absurd ⟨a, by omega⟩ a'
 ·rcases h' with ⟨a', b', c'⟩ | ⟨a', b'⟩
  ·exact absurd ⟨a', hw⟩ a
  ·omega
end Go.Abs
namespace Go.Abs
open Go Pr
set_option maxRecDepth 10000
theorem farBeginning_ok (hA : Awake 5) (x : Ev) (hx : x.Ok) (s : Sl UInt8) (hs : x.w = ⟨s.enc byteCells, s.l, 0⟩) (n : Int) (m : Sl UInt8) (hm : m.l.length < 1000000000) :
  WF PR false 0 (.fn 3 [] []) [.agg x.cells, .int .i64 n, m.enc byteCells] ⟨0, .e⟩ fun r => r.v = .bool true := by
 refine WF.fn (F := f3) rfl rfl rfl (Nat.le_of_ble_eq_true rfl) ?_
 refine wbodyS b3 [.tm 6] rfl rfl ?_
 unfold b3
 have hB0 : ∀ H, WB H x.w := fun H => .inl ⟨s, by rw [hs], by rw [hs]⟩
 have hlw : ∀ H, lenV .sl x.w.v H = some (.int .i64 x.w.l.length) := fun H => (hB0 H).len
 have hxc : [x.g.p.enc Pd.cells, x.g.keys.enc keyCells, x.w.v, .int .i64 x.tab, .bool x.heal] = x.cells := rfl
 have hgc : [x.g.p.enc Pd.cells, x.g.keys.enc keyCells] = x.g.cells := rfl
 have hm0 : x.w.m = 0 := by rw [hs]
 simp -dsimp [-wk_ops]
 rw [wk_ops]
 simp -dsimp [Ev.cells, -wk_ops]
 rw [hxc]
 obtain ⟨h1, hh1⟩ : ∃ h1, (Heap.push ⟨0, .e⟩ (Obj.rows [x.cells]) : Heap) = h1 := ⟨_, rfl⟩
 have g1 : h1.get 0 = some (.rows [[x.g.p.enc Pd.cells, x.g.keys.enc keyCells, x.w.v, .int .i64 x.tab, .bool x.heal]]) := by rw [← hh1]; simp; rfl
 have n1 : h1.n = 1 := by rw [← hh1]; simp
 rw [wk_ops]
 simp -dsimp [-wk_ops]
 refine WFS.by (hA _ _ _ (Nat.zero_le _)) ?_
 intro v h' e
 cases e
 rw [hh1]
 simp -dsimp [-wk_ops]
 rw [wk_ops]
 simp -dsimp [g1, -wk_ops]
 rw [hxc]
 refine WFS.by (light_ok x hx.few (hB0 _)) ?_
 rintro v h' ⟨e0, b, e1, hb⟩
 simp only at e0 e1
 subst e0 e1
 have hwl := hx.w
 cases b with
 | false => simp -dsimp
 | true =>
  obtain ⟨hp16, hw16⟩ := hb rfl
  simp -dsimp
  rw [Gd_f]
  refine ⟨fun hc => ?_, fun hc => ?_⟩
  ·simp at hc
   have hc' : ¬ (16 : Int) < m.l.length := by omega
   simp -dsimp [hc']
   rw [Gd_f]
   refine ⟨fun h0 => ?_, fun h0 => ?_⟩
   ·simp at h0
    have h0' : ¬ n < 0 := by omega
    simp -dsimp [h0', g1, hlw]
    rw [Br_bool]
    refine ⟨fun h2 => ?_, fun h2 => ?_⟩
    ·simp -dsimp
    ·simp at h2
     simp -dsimp [g1]
     rw [hgc]
     refine WFS.by (PlaceD_ok hx.g hx.r (hB0 _) (by omega) hwl) ?_
     intro v1 h3 e
     cases e
     have hP := placeV_ok hx.g hx.r hwl
     have hPi := placeOk_in hP
     have hQ := placeV_ok hx.g hx.r (w := x.w.l.take n.toNat) (by rw [List.length_take]; omega)
     have hT := placeOk_take (by omega) (by omega) hP hQ
     have hR := placeV_ok hx.g hx.r (w := x.w.l ++ m.l) (by rw [List.length_append]; omega)
     have hU := placeOk_take (n := x.w.l.length) (by rw [List.length_append]; omega) (by rw [List.length_append]; omega) hR (by rw [List.take_left]; exact hP)
     obtain ⟨d, hd⟩ : ∃ d, placeV x.g x.w.l = d := ⟨_, rfl⟩
     rw [hd] at hPi hT hU
     simp -dsimp [g1, hd]
     have d0 : ¬ d < 0 := by omega
     simp -dsimp [d0, g1, hlw]
     have d1 : ¬ (x.w.l.length : Int) < d := by omega
     simp -dsimp [d1, g1]
     rw [Br_bool]
     refine ⟨fun h4 => ?_, fun h4 => ?_⟩
     all_goals
      simp at h4
      simp -dsimp [g1]
      refine OpS_head (hB0 h') h0 h2 (by simp) ?_
      intro v2 hB2
      simp -dsimp
      rw [hgc]
      refine WFS.by (PlaceD_ok hx.g hx.r hB2 (by simp only; omega) (by simp only [List.length_take]; omega)) ?_
      intro v3 h5 e
      cases e
      first
       | have hT2 : placeV x.g (List.take n.toNat x.w.l) = d := by omega
       | have hT2 : placeV x.g (List.take n.toNat x.w.l) = n := by omega
      simp -dsimp [g1, hT2]
      rw [W_append (xs := x.w.l.map byteCells) (by simpa using rowsOf_wb (hB0 h'))]
      obtain ⟨v4, h4', a1, a2, a3, a4, a5⟩ := own_append (h := h') (mk := 0) (m0 := 0) (esz := 1) (bytes := 1) (v := .nils) (rows := []) (xs := x.w.l.map byteCells) (.inl ⟨rfl, rfl⟩) (Nat.le_refl _) (byte_rows1 _) (by simp; omega) (by omega) (by omega)
      simp -dsimp
      refine OpS.intro a1 ?_
      simp -dsimp
      rw [W_append (xs := m.l.map byteCells) (by simp)]
      obtain ⟨v5, h5', c1, c2, c3, c4, c5⟩ := own_append (h := h4') (mk := 0) (m0 := 0) (esz := 1) (bytes := 1) (xs := m.l.map byteCells) a2 (Nat.le_refl _) (byte_rows1 _) (by simp; omega) (by omega) (by omega)
      simp -dsimp
      refine OpS.intro c1 ?_
      simp -dsimp
      rw [hgc]
      have hO : Own h5' 0 v5 1 ((x.w.l ++ m.l).map byteCells) := by simpa using c2
      have g4 : h4'.get 0 = h'.get 0 := a4 0 (by omega) (by simp [slId])
      have g5 : h5'.get 0 = h'.get 0 := by
       rw [c4 0 (by omega) fun e => ?_, g4]
       rcases a5 _ e with q | q
       ·omega
       ·simp [slId] at q
      rw [g1] at g4 g5
      refine WFS.by (PlaceD_ok hx.g hx.r hO.wb (by simp) (by simp; omega)) ?_
      intro v6 h6 e
      cases e
      have hge : d ≤ placeV x.g (x.w.l ++ m.l) := by omega
      simp -dsimp [g1, g4, g5, hge, hgc]
   ·simp -dsimp [h0]
  ·simp -dsimp [hc]
end Go.Abs
