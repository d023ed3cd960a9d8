/- What the program's functions come to, by the evaluator's rules; the intermediate code. -/
import Derived.Carry
import Derived.OpenShut
import Derived.ChangeSame
import Derived.Test.YtlnpapkkcmbhmaaGreatDoorAc2
set_option linter.unusedSimpArgs false
set_option linter.unusedVariables false
namespace Go.Abs
open Go Pr
set_option maxRecDepth 10000
def inR (n : Int) (r : Rg) : Bool := decide (r.lo ≤ n) && decide (n ≤ r.hi)
def hasB (l : List Rg) (n : Int) : Bool := l.any (inR n)
section
variable {d : Bool} {mk : Nat} {h : Heap}
theorem hasIn_ok (n : Int) (r : Rg) {id : Nat} (hid : h.get id = some (.rows [[.int .i64 n]])) (hlt : id < h.n) : WF PR d mk (.fn 210 [] [.ptr id 0 0]) [.agg r.cells] h fun v => v = ⟨.bool (inR n r), h⟩ := by
 refine WF.pureOne (F := f210) rfl rfl rfl (Nat.le_of_ble_eq_true rfl) ?_
 refine wbodyS b210 [.tm 3] rfl rfl ?_
 unfold b210
 have e : ¬ id = h.n := by omega
 simp -dsimp [hid, e, Rg.cells]
 rw [Gd_t]
 refine ⟨fun hb1 => ?_, fun hb1 => ?_⟩
 ·simp -dsimp [hb1, hid, e, inR]
 ·simp -dsimp [hb1, inR]
theorem has_ok (s : Sl Rg) (hs : s.l.length < 1000000000) (n : Int) : WF PR d mk (.fn 178 [] []) [s.enc Rg.cells, .int .i64 n] h fun v => v = ⟨.bool (hasB s.l n), h⟩ := by
 refine WF.pureOne (F := f178) rfl rfl rfl (Nat.le_of_ble_eq_true rfl) ?_
 refine wbodyS b178 [.tm 4] rfl rfl ?_
 unfold b178
 simp -dsimp
 refine WFS.by (con_ok (f := 223) (g := 209) (esz := 2) (ld := some 2) (arg := fun r => .agg r.cells) (p := inR n) rfl rfl rfl rfl (fun _ => rfl) (fun _ => rfl) hs fun r _ => hasIn_ok n r (by simp) (by simp)) ?_
 intro v h' e
 cases e
 simp -dsimp [hasB]
theorem Has_ok (s : Sl Rg) (hs : s.l.length < 1000000000) (n : Int) : WF PR d mk (.fn 144 [] []) [s.enc Rg.cells, .int .i64 n] h fun v => v = ⟨.bool (hasB s.l n), h⟩ := by
 refine WF.pureOne (F := f144) rfl rfl rfl (Nat.le_of_ble_eq_true rfl) ?_
 refine wbodyS b144 [.tm 4] rfl rfl ?_
 unfold b144
 simp -dsimp
 refine WFS.by (has_ok s hs n) ?_
 intro v h' e
 cases e
 simp -dsimp
end
@[simp] theorem maxInt_c {k l : IntKind} {n m : Int} {tm : Tm} : maxInt k tm n [.c (.int l m)] = some (.int k (max n m)) := by
 rw [maxInt_cons (m := m) rfl]; rfl
@[simp] theorem minInt_c {k l : IntKind} {n m : Int} {tm : Tm} : minInt k tm n [.c (.int l m)] = some (.int k (min m n)) := by
 rw [minInt_cons (m := m) rfl]; rfl
def bordR (r : Rg) : List Int := [min 1114112 (max r.lo 0), min 1114111 (max r.hi (-1)) + 1]
def bordUp (l : List Rg) : Nat → List Int
 | 0 => [0, 1114112]
 | i + 1 => bordUp l i ++ bordR (lat l i)
def bordL (l : List Rg) : List Int := dd (sortI (bordUp l l.length))
theorem bordUp_len (l : List Rg) : ∀ i, (bordUp l i).length = 2 + 2 * i
 | 0 => rfl
 | i + 1 => by simp [bordUp, bordUp_len l i, bordR]; omega
theorem append_sl {mk : Nat} {h : Heap} {id : Nat} {f : Bool} {l xs : List Int} (hid : h.get id = some (.rows (intRows l))) (hm : mk ≤ id) (hx : xs ≠ []) (hn : l.length + xs.length < 4294967296) :
  ∃ h', appendRows mk h 1 8 (.sl id 0 l.length 1 f) (intRows xs) = some ⟨.sl h.n 0 (l ++ xs).length 1 false, h'⟩ ∧ h'.get h.n = some (.rows (intRows (l ++ xs))) ∧ h'.n = h.n + 1 ∧ ∀ j, j < h.n → j ≠ id → h'.get j = h.get j := by
 cases xs with
 | nil => exact absurd rfl hx
 | cons x xs =>
  have h1 : onesR (intRows (x :: xs)) = true := onesR_all fun y hy => by
   simp only [intRows, List.mem_map] at hy; obtain ⟨a, _, rfl⟩ := hy; rfl
  have hr : rowsOf h (.sl id 0 l.length 1 f) = some (intRows l) := by simp [rowsOf, hid]; rw [List.take_of_length_le (by simp)]
  have hn' : l.length + (xs.length + 1) < 4294967296 := by simpa using hn
  have e : intRows (l ++ x :: xs) = intRows l ++ intRows (x :: xs) := by simp [intRows]
  have h2 : onesR ([V.int IntKind.i64 x] :: intRows xs) = true := by simpa [intRows] using h1
  cases f with
  | true =>
   refine ⟨h.push (.rows (intRows (l ++ x :: xs))), ?_, by simp, by simp, fun j hj _ => by rw [Heap.get_push, if_neg (by omega)]⟩
   simp only [intRows, List.map_cons, appendRows]
   rw [hr]
   simp only [intRows] at h2
   simp [roomFor, hn', h2, intRows]
  | false =>
   refine ⟨(h.kill id).push (.rows (intRows (l ++ x :: xs))), ?_, by simp, by simp, fun j hj hji => by rw [Heap.get_push, Heap.n_kill, if_neg (by omega), Heap.get_kill, if_neg hji]⟩
   simp only [intRows, List.map_cons, appendRows]
   rw [hr]
   simp only [intRows] at h2
   simp [roomFor, hn', h2, intRows, hm]
structure BordH (h h' : Heap) (C id : Nat) (f : Bool) (l : List Int) : Prop where
 c : h'.get C = some (.rows [[.sl id 0 l.length 1 f]])
 lc : h.n ≤ C
 cn : C < h'.n
 li : h.n ≤ id
 idn : id < h'.n
 ne : id ≠ C
def BordV (h : Heap) (l : List Rg) (r : VH) : Prop := ∃ C id f L, r.v = .fn 228 [] [.ptr C 0 0] ∧ BordH h r.h C id f (bordL l) ∧ r.h.get id = some (.rows (intRows (bordL l ++ L)))
theorem borders_ok (s : Sl Rg) (hs : s.l.length < 100000000) {mk : Nat} {h : Heap} (hmk : mk ≤ h.n) : WF PR false mk (.fn 215 [] []) [s.enc Rg.cells] h fun r => BordV h s.l r ∧ h.n ≤ r.h.n ∧ ∀ i, i < h.n → r.h.get i = h.get i := by
 refine WF.here hmk ?_
 refine WF.fn (F := f215) rfl rfl rfl (Nat.le_of_ble_eq_true rfl) ?_
 refine wbodyS b215 [.tm 2] rfl rfl ?_
 unfold b215
 simp -dsimp
 refine wk_loop (fun k st => ∃ (i : Int) (id : Nat) (f : Bool), 0 ≤ i ∧ (k : Int) = s.l.length - i ∧ (gK 9).run st.tm = .int .i64 i ∧ BordH h st.h (h.n + 1) id f (bordUp s.l i.toNat) ∧ st.h.get id = some (.rows (intRows (bordUp s.l i.toNat))) ∧ st.defs = []) s.l.length
  ⟨0, h.n, true, by omega, by omega, by simp, ⟨by simp [bordUp], by omega, by simp, by omega, by simp, by omega⟩, by simp [bordUp, intRows], rfl⟩ ?_
 rintro k ⟨tm, h1, defs, round⟩ ⟨i, id, f, hi, hk, h9, hB, hid, rfl⟩ hK
 have h0 := hK 0 rfl
 have h3 := hK 3 rfl
 have h7 := hK 7 rfl
 have h8 := hK 8 rfl
 simp at h0 h3 h7 h8 h9 hB hid
 clear hK
 simp -dsimp [h8, h9]
 rw [Br_bool]
 have hbl := bordUp_len s.l i.toNat
 refine ⟨fun hc => ?_, fun hc => ?_⟩
 ·simp at hc
  obtain ⟨r, hr⟩ : ∃ r, lat s.l i.toNat = r := ⟨_, rfl⟩
  have b1 := hB.c
  have b2 := hB.cn
  have b3 := hB.idn
  have b4 := hB.li
  have b5 := hB.ne
  have q1 : ¬ h.n + 1 = h1.n := by omega
  have q2 : h.n ≤ h1.n := by omega
  have q3 : ¬ id = h1.n := by omega
  have q4 : ¬ h.n + 1 = h1.n + 1 := by omega
  have fb : fw .i64 (min 1114111 (max r.hi (-1)) + 1) = min 1114111 (max r.hi (-1)) + 1 := fw64 (by omega) (by omega)
  simp -dsimp [h7, h9, hi, hc, hr, Rg.cells, q2, h3, b1, q1, q4, fb]
  refine OpS.ex ?_
  have q5 : ¬ id = h1.n + 1 := by omega
  obtain ⟨H, eH⟩ : ∃ H, ((h1.push (Obj.rows [[V.int IntKind.i64 0, V.int IntKind.i64 0]])).set h1.n (Obj.rows [[V.int IntKind.i64 r.lo, V.int IntKind.i64 r.hi]])).push (Obj.rows [[V.int IntKind.i64 (min 1114112 (max r.lo 0))], [V.int IntKind.i64 (min 1114111 (max r.hi (-1)) + 1)]]) = H := ⟨_, rfl⟩
  have y1 : H.get id = some (.rows (intRows (bordUp s.l i.toNat))) := by rw [← eH]; simp [q3, q5, hid]
  have y2 : H.get (h1.n + 1) = some (.rows (intRows (bordR r))) := by rw [← eH]; simp [intRows, bordR]
  have y3 : H.n = h1.n + 2 := by rw [← eH]; simp
  have y4 : H.get (h.n + 1) = h1.get (h.n + 1) := by rw [← eH, Heap.get_push, if_neg (by simp; omega), Heap.get_set, if_neg (by omega), Heap.get_push, if_neg (by omega)]
  rw [eH]
  rw [W_append (xs := intRows (bordR r)) (by simp [rowsOf, y2, intRows, bordR])]
  simp only [ev_t, gK_sK, Nat.reduceEqDiff, if_false, if_true]
  obtain ⟨h5, w1, w2, w3, w4⟩ := append_sl (mk := h.n) (f := f) (xs := bordR r) y1 b4 (by simp [bordR]) (by rw [hbl]; simp [bordR]; omega)
  refine ⟨_, w1, ?_⟩
  have y5 : h5.get (h.n + 1) = some (.rows [[.sl id 0 (bordUp s.l i.toNat).length 1 f]]) := by rw [w4 _ (by omega) (Ne.symm b5), y4, b1]
  have hbu : bordUp s.l (i.toNat + 1) = bordUp s.l i.toNat ++ bordR r := by rw [bordUp, hr]
  simp -dsimp [h3, y5, h9, fw64 (n := i + 1) (by omega) (by omega)]
  have hi2 : (i + 1).toNat = i.toNat + 1 := by omega
  refine Again.intro (k - 1) (by omega) ⟨i + 1, H.n, false, by omega, by omega, by simp, ⟨?_, by omega, by simp; omega, by omega, by simp; omega, by omega⟩, ?_, rfl⟩
  ·rw [hi2, hbu, Heap.get_set, if_pos rfl]; simp
  ·rw [hi2, hbu, Heap.get_set, if_neg (by omega), w2]
 ·simp at hc
  have hc' : decide (i < (s.l.length : Int)) = false := by simpa using hc
  have hi2 : i.toNat = s.l.length := by
   by_cases e : i.toNat = s.l.length
   ·exact e
   ·omega
  rw [hi2] at hB hid hbl
  simp -dsimp [hc', h3, hB.c]
  refine WFS.by (R := fun r => r = ⟨.tup [], h1.set id (.rows (intRows (sortI (bordUp s.l s.l.length))))⟩) ?_ ?_
  ·refine WF.prim (p := sortFuncP) rfl ?_
   have hlt : (bordUp s.l s.l.length).length < 4294967296 := by omega
   have hli := hB.li
   have e : sortFuncP h.n ([] ++ [V.sl id 0 (bordUp s.l s.l.length).length 1 f, .fn 227 [] []] ++ []) h1 = some [⟨.tup [], h1.set id (.rows (intRows (sortI (bordUp s.l s.l.length))))⟩] := by
    simp [sortFuncP, sortP, hid, hli, intsOf_rows, hlt]
   exact W.out e (by simp) (fun _ => rfl) (by simp)
  ·intro v h2 e
   cases e
   have hne := hB.ne
   simp -dsimp [h3, hB.c, Ne.symm hne]
   have hlen : (bordUp s.l s.l.length).length = (sortI (bordUp s.l s.l.length)).length := by simp
   rw [hlen]
   refine WFS.by (compact_ok (id := id) (l := sortI (bordUp s.l s.l.length)) (by simp) hB.li (by rw [← hlen]; omega)) ?_
   rintro v h3' ⟨c1, c2, ⟨f', rfl⟩, L, c4⟩
   simp only at c1 c2 c4
   have y6 : h3'.get (h.n + 1) = some (.rows [[.sl id 0 (bordUp s.l s.l.length).length 1 f]]) := by rw [c2 _ (Ne.symm hne), Heap.get_set, if_neg (Ne.symm hne), hB.c]
   simp -dsimp [h3, y6]
   have := hB.cn
   have := hB.idn
   have := hB.li
   simp at c1
   exact ⟨h.n + 1, id, f', L, rfl, ⟨by simp; rfl, by omega, by simp; omega, by omega, by simp; omega, hne⟩, by show (Heap.set _ _ _).get id = _; rw [Heap.get_set, if_neg hne]; exact c4⟩
end Go.Abs
namespace Go.Abs
open Go Pr
set_option maxRecDepth 10000
theorem bord_iter {mk C id l : Nat} {f : Bool} {B L : List Int} {h : Heap} (J : Nat → Heap → Prop) (hB : 1 ≤ B.length) (hBl : B.length < 1000000000) (hBr : ∀ x ∈ B, 0 ≤ x ∧ x ≤ 1114112)
  (hcell : ∀ i h, J i h → h.get C = some (.rows [[.sl id 0 B.length 1 f]]) ∧ h.get id = some (.rows (intRows (B ++ L))))
  (hy : ∀ i h, J i h → i + 1 < B.length → WF PR true mk (.yld l) [.int .i64 (lat B i), .int .i64 (lat B (i + 1) - 1)] h fun r => r.v = .bool true ∧ J (i + 1) r.h) (h0 : J 0 h) :
  WF PR false mk (.fn 228 [] [.ptr C 0 0]) [.yld l] h fun r => J (B.length - 1) r.h := by
 refine WF.fn (F := f228) rfl rfl rfl (Nat.le_of_ble_eq_true rfl) ?_
 refine wbodyS b228 [] rfl rfl ?_
 unfold b228
 simp -dsimp
 refine wk_loop (fun k st => ∃ i : Int, 1 ≤ i ∧ i ≤ B.length ∧ (k : Int) = B.length - i ∧ (gK 3).run st.tm = .int .i64 i ∧ J (i.toNat - 1) st.h ∧ st.defs = []) (B.length - 1) ⟨1, by omega, by omega, by omega, by simp, by simpa using h0, rfl⟩ ?_
 rintro k ⟨tm, h1, defs, round⟩ ⟨i, hi, hi2, hk, h3, hJ, rfl⟩ hK
 have q0 := hK 0 rfl
 have q1 := hK 1 rfl
 simp at q0 q1 h3 hJ
 clear hK
 obtain ⟨c1, c2⟩ := hcell _ _ hJ
 simp -dsimp [q1, h3, c1]
 rw [Br_bool]
 refine ⟨fun hc => ?_, fun hc => ?_⟩
 ·simp at hc
  have i0 : 0 ≤ i := by omega
  have j0 : 0 ≤ i - 1 := by omega
  have j1 : i - 1 < B.length := by omega
  have l1 : i.toNat < (B ++ L).length := by simp; omega
  have l2 : i.toNat - 1 < (B ++ L).length := by simp; omega
  have e1 : lat (B ++ L) i.toNat = lat B i.toNat := lat_app (by omega)
  have e2 : lat (B ++ L) (i.toNat - 1) = lat B (i.toNat - 1) := lat_app (by omega)
  have m1 := hBr _ (lat_mem (l := B) (i := i.toNat) (by omega))
  simp -dsimp [q0, q1, h3, c1, fw64 (n := i - 1) (by omega) (by omega), iaddr_sl (e := 1) (id := id) (b := 0) (n := B.length) (f := f) (k := .i64) j0 j1, iaddr_sl (e := 1) (id := id) (b := 0) (n := B.length) (f := f) (k := .i64) i0 hc, c2, intRow_get l1, intRow_get l2, e1, e2, fw64 (n := lat B i.toNat - 1) (by omega) (by omega)]
  have hyy := hy _ _ hJ (by omega)
  rw [show i.toNat - 1 + 1 = i.toNat by omega] at hyy
  refine WFS.by hyy ?_
  rintro v h2 ⟨rfl, hJ2⟩
  simp -dsimp [h3, fw64 (n := i + 1) (by omega) (by omega)]
  exact Again.intro (k - 1) (by omega) ⟨i + 1, by omega, by omega, by omega, by simp, by rw [show (i + 1).toNat - 1 = i.toNat by omega]; exact hJ2, rfl⟩
 ·simp at hc
  have hc' : decide (i < (B.length : Int)) = false := by simpa using hc
  simp -dsimp
  have : i.toNat - 1 = B.length - 1 := by omega
  rw [this] at hJ
  exact hJ
def pickStep (p : Int → Bool) (out : List Rg) (lo hi : Int) : List Rg :=
 if p lo = true then (if 0 < out.length ∧ (lat out (out.length - 1)).hi = lo - 1 then out.set (out.length - 1) ⟨(lat out (out.length - 1)).lo, hi⟩ else out ++ [⟨lo, hi⟩]) else out
def pickUp (p : Int → Bool) (B : List Int) : Nat → List Rg
 | 0 => []
 | i + 1 => pickStep p (pickUp p B i) (lat B i) (lat B (i + 1) - 1)
theorem pickUp_len (p : Int → Bool) (B : List Int) : ∀ i, (pickUp p B i).length ≤ i
 | 0 => by simp [pickUp]
 | i + 1 => by
  have := pickUp_len p B i
  simp only [pickUp, pickStep]
  split
  ·split <;> simp <;> omega
  ·omega
def pickL (p : Int → Bool) (l : List Rg) : List Rg := pickUp p (bordL l) ((bordL l).length - 1)
def slOfG {α : Type} [DecidableEq (List α)] (l : List α) : Sl α := if l.isEmpty then .nil else .of l
def slR (l : List Rg) : Sl Rg := if l.isEmpty then .nil else .of l
@[simp] theorem slR_l (l : List Rg) : (slR l).l = l := by unfold slR; cases l <;> rfl
def PredV (fv : V) (p : Int → Bool) (h : Heap) : Prop := ∀ d mk h', h.n ≤ h'.n → (∀ i, i < h.n → h'.get i = h.get i) → ∀ n, WF PR d mk fv [.int .i64 n] h' fun r => r = ⟨.bool (p n), h'⟩
theorem bordL_mem {l : List Rg} {x : Int} (h : x ∈ bordL l) : 0 ≤ x ∧ x ≤ 1114112 := by
 rw [bordL, mem_dd, mem_sortI] at h
 have key : ∀ i, x ∈ bordUp l i → 0 ≤ x ∧ x ≤ 1114112 := by
  intro i
  induction i with
  | zero => simp [bordUp]; omega
  | succ i ih =>
   intro h
   rw [bordUp, List.mem_append] at h
   rcases h with h | h
   ·exact ih h
   ·simp [bordR] at h; omega
 exact key _ h
theorem bordL_pos (l : List Rg) : 1 ≤ (bordL l).length := by
 have : (0 : Int) ∈ bordL l := by
  rw [bordL, mem_dd, mem_sortI]
  have key : ∀ i, (0 : Int) ∈ bordUp l i := by
   intro i
   induction i with
   | zero => simp [bordUp]
   | succ i ih => rw [bordUp]; simp [ih]
  exact key _
 exact List.length_pos_of_mem this
theorem bordL_len (l : List Rg) : (bordL l).length ≤ 2 + 2 * l.length := by
 have h1 := ddUp_le (sortI (bordUp l l.length)) (sortI (bordUp l l.length)).length
 have h2 := bordUp_len l l.length
 rw [sortI_len] at h1
 unfold bordL dd
 rw [sortI_len]; omega
structure PJ (p : Int → Bool) (B : List Int) (H0 : Heap) (O i : Nat) (h : Heap) : Prop where
 keep : ∀ q, q < H0.n → q ≠ O → h.get q = H0.get q
 n : H0.n ≤ h.n
 o : ∃ v, h.get O = some (.rows [[v]]) ∧ Own h H0.n v 2 ((pickUp p B i).map Rg.cells)
theorem Own.len {h : Heap} {m e : Nat} {v : V} {rows : List (List V)} (hO : Own h m v e rows) : lenV .sl v h = some (.int .i64 rows.length) := by
 rcases hO with ⟨rfl, rfl⟩ | ⟨id, rfl, _⟩ <;> simp
theorem frz_Rg_rows {mk k : Nat} {h : Heap} : ∀ l : List Rg, allM (allM (freeze mk h (k + 1))) (l.map Rg.cells) = some (l.map Rg.cells)
 | [] => rfl
 | x :: l => by
  have := frz_Rg_rows (mk := mk) (k := k) (h := h) l
  have e : ∀ y, freeze mk h (k + 1) (.int .i64 y) = some (.int .i64 y) := fun y => rfl
  simp only [List.map_cons, Rg.cells, allM, e] at this ⊢
  rw [this]
theorem frz_ownR {h : Heap} {n m : Nat} {v : V} {l : List Rg} (hO : Own h m v 2 (l.map Rg.cells)) (hn : n ≤ m) : freeze n h depthMax v = some ((slR l).enc Rg.cells) := by
 rcases hO with ⟨rfl, e⟩ | ⟨id, rfl, h2, h3, _, h5⟩
 ·have : l = [] := by simpa using e
  subst this; rfl
 ·have hr : rowsOf h (.sl id 0 (l.map Rg.cells).length 2 false) = some (l.map Rg.cells) := by simp [rowsOf, h2]; rw [List.take_of_length_le (by simp)]
  have hni : n ≤ id := by omega
  have hne : l ≠ [] := fun e => h5 (by simp [e])
  rw [freeze_sl, hr]
  simp only [frz_Rg_rows, ble_dec, hni, decide_true, cond]
  cases l with
  | nil => exact absurd rfl hne
  | cons x l => rfl
theorem wk_range2 {AP : Prog} {d : Bool} {mk : Nat} {f : Opd} {ps : List Nat} {asg body : IC} {fs : List Fr} {st : St} {Q : OS → Prop} (hr : st.round = false)
  (h1 : ∀ (H0 : Heap) (asg' body' : IC), asg' = asg → body' = body → H0.n = st.h.n + 2 → (∀ q, q < st.h.n → H0.get q = st.h.get q) → H0.get st.h.n = some .dfr → H0.get (st.h.n + 1) = some (.loop .ready none st.tm ps asg' body') →
   WF AP d mk (f.ev st.tm) [.yld (st.h.n + 1)] H0 fun r => r.h.get (st.h.n + 1) = some (.loop .ready none st.tm ps asg' body') ∧
    nx AP d mk fs .normal ⟨st.tm, r.h.set (st.h.n + 1) (.loop .exhausted none st.tm ps asg' body'), .mark st.h.n :: st.defs, st.round⟩ Q ⟨⟩) :
  wk AP d mk (.rangeF f ps asg body) fs st Q ⟨⟩ := by
 refine wk_range hr ?_
 refine W.mono (h1 _ asg body rfl rfl (by simp) (fun q hq => by rw [Heap.get_push, if_neg (by simp; omega), Heap.get_push, if_neg (by omega)]) (by simp) (by simp)) ?_
 rintro r ⟨a, b⟩
 exact ⟨.ready, none, _, _, _, _, a, by simp, .inl ⟨rfl, b⟩⟩
theorem WF.yld2 {AP : Prog} {mk : Nat} {d : Bool} {l : Nat} {s0 : LoopState} {pend : Option IC} {tm : Tm} {ps : List Nat} {asg body : IC} {args : List V} {h : Heap} {Q : VH → Prop} (hl : h.get l = some (.loop s0 pend tm ps asg body)) (hs : s0 = .ready) (hmk : mk ≤ l) (hlen : args.length = ps.length)
  (h1 : ∀ B asg0 body0, asg0 = asg → body0 = body → B = h.set l (.loop .busy pend tm ps asg0 body0) → wk AP d mk asg [] ⟨zipPut tm ps args, h, [], true⟩ (fun r => r.o = .normal ∧ r.s.defs = [] ∧ r.s.h = h ∧
   wk AP d mk body [] ⟨r.s.tm, B, [], true⟩ (roundQ l Q ⟨⟩) ⟨⟩) ⟨⟩) : WF AP d mk (.yld l) args h Q := by
 refine WF.yld hl hmk hlen ?_
 refine wc_mono asg (h1 _ asg body rfl rfl rfl) ?_
 rintro ⟨o, ⟨tm1, h2, defs, rd⟩⟩ ⟨e1, e2, e3, hw⟩
 simp only at e1 e2 e3 hw
 subst e1 e2 e3 hs
 exact ⟨rfl, rfl, _, _, _, _, _, hl, hw⟩
theorem pick_ok (s : Sl Rg) (hs : s.l.length < 100000000) (fv : V) (hfv : fv.cells = [fv]) (p : Int → Bool) {d : Bool} {mk : Nat} {h : Heap} (hp : PredV fv p h) : WF PR d mk (.fn 187 [] []) [fv, s.enc Rg.cells] h fun r => r = ⟨(slR (pickL p s.l)).enc Rg.cells, h⟩ := by
 refine WF.pureOne (F := f187) rfl rfl rfl (Nat.le_of_ble_eq_true rfl) ?_
 refine wbodyS b187 [.tm 4] rfl rfl ?_
 unfold b187
 simp -dsimp [hfv]
 refine WFS.by (borders_ok s hs (h := (h.push (.rows [[fv]])).push (.rows [[.nils]])) (by simp <;> omega)) ?_
 rintro v h1 ⟨⟨C, id, f, L, rfl, hB, hid⟩, hn1, hk1⟩
 simp only at hB hid hn1
 have b1 : h1.get h.n = some (.rows [[fv]]) := by rw [hk1 h.n (by simp <;> omega)]; simp
 have b2 : h1.get (h.n + 1) = some (.rows [[.nils]]) := by rw [hk1 (h.n + 1) (by simp)]; simp
 have b3 : ∀ q, q < h.n → h1.get q = h.get q := fun q hq => by rw [hk1 q (by simp <;> omega), Heap.get_push, if_neg (by simp <;> omega), Heap.get_push, if_neg (by omega)]
 simp at hn1
 simp -dsimp
 refine wk_abs (fun st => st.h = h1 ∧ (gK 2).run st.tm = .ptr h.n 0 0 ∧ (gK 5).run st.tm = .ptr (h.n + 1) 0 0 ∧ (gK 10).run st.tm = .fn 228 [] [.ptr C 0 0] ∧ st.defs = [] ∧ st.round = false) (by simp) ?_
 rintro ⟨tm, h2, defs, round⟩ ⟨rfl, k2, k5, k10, rfl, rfl⟩
 simp only at k2 k5 k10 hB hid b1 b2 b3 hn1
 refine wk_range2 rfl ?_
 intro H0 asg body hasg hbody z1 z2 z3 z4
 simp only [ev_t, k10]
 simp only at z1 z2 z3 z4
 have hC := hB.c
 have lC := hB.lc
 have nC := hB.cn
 have lI := hB.li
 have nI := hB.idn
 simp at lC lI
 have hblen := bordL_len s.l
 refine W.mono (bord_iter (C := C) (id := id) (f := f) (B := bordL s.l) (L := L) (fun i h' => PJ p (bordL s.l) H0 (h.n + 1) i h') (bordL_pos s.l) (by omega) (fun x hx => bordL_mem hx) ?_ ?_ ⟨fun _ _ _ => rfl, Nat.le_refl _, .nils, by rw [z2 _ (by omega), b2], .inl ⟨rfl, rfl⟩⟩) ?_
 ·intro i h' hJ
  exact ⟨by rw [hJ.keep C (by omega) (by omega), z2 C (by omega), hC], by rw [hJ.keep id (by omega) (by omega), z2 id (by omega), hid]⟩
 ·intro i h' hJ hi
  obtain ⟨w1, w2, v, w3, w4⟩ := hJ
  have hl : h'.get (h2.n + 1) = some (.loop .ready none tm [11, 12] asg body) := by rw [w1 _ (by omega) (by omega), z4]
  refine WF.yld2 hl rfl (by omega) rfl ?_
  intro B asg0 body0 e1 e2 hB2
  have e0 : ¬ h.n = h2.n + 1 := by omega
  have e1 : ¬ h.n + 1 = h2.n + 1 := by omega
  have g0 : B.get h.n = some (.rows [[fv]]) := by rw [hB2, Heap.get_set, if_neg e0, w1 _ (by omega) (by omega), z2 _ (by omega), b1]
  have g1 : B.get (h.n + 1) = some (.rows [[v]]) := by rw [hB2, Heap.get_set, if_neg e1, w3]
  have g2 : B.n = h'.n := by rw [hB2, Heap.n_set]
  have g3 : B.get (h2.n + 1) = some (.loop .busy none tm [11, 12] asg0 body0) := by rw [hB2, Heap.get_set, if_pos rfl]
  have g4 : ∀ q, q ≠ h2.n + 1 → B.get q = h'.get q := fun q hq => by rw [hB2, Heap.get_set, if_neg hq]
  have g5 : Own B H0.n v 2 ((pickUp p (bordL s.l) i).map Rg.cells) := by
   rcases w4 with q | ⟨id, q1, q2, q3, q4, q5⟩
   ·exact .inl q
   ·exact .inr ⟨id, q1, by rw [g4 _ (by omega), q2], q3, by omega, q5⟩
  have hl2 : h'.get (h2.n + 1) = some (.loop .ready none tm [11, 12] asg0 body0) := by rw [hl, ‹asg0 = asg›, ‹body0 = body›]
  clear hB2
  rw [hasg]
  simp -dsimp
  rw [hbody]
  simp -dsimp [k2, g0, e0]
  have hgo : ∀ (h4 : Heap) (v' : V), Own h4 H0.n v' 2 ((pickUp p (bordL s.l) (i + 1)).map Rg.cells) → h4.get (h.n + 1) = some (.rows [[v']]) → h4.get (h2.n + 1) = some (.loop .busy none tm [11, 12] asg0 body0) → h'.n ≤ h4.n → (∀ q, q < H0.n → q ≠ h.n + 1 → h4.get q = B.get q) →
    PJ p (bordL s.l) H0 (h.n + 1) (i + 1) (h4.set (h2.n + 1) (.loop .ready none tm [11, 12] asg0 body0)) := by
   intro h4 v' o1 o2 o3 o4 o5
   refine ⟨fun q hq hq2 => ?_, by simp; omega, v', by rw [Heap.get_set, if_neg e1, o2], ?_⟩
   ·rw [Heap.get_set]
    split
    ·rename_i hq3; rw [hq3, ← hl2, w1 _ (by omega) (by omega)]
    ·rename_i hq3; rw [o5 q hq hq2, g4 _ hq3, w1 _ hq hq2]
   ·rcases o1 with q | ⟨id, q1, q2, q3, q4, q5⟩
    ·exact .inl q
    ·exact .inr ⟨id, q1, by rw [Heap.get_set, if_neg (by omega), q2], q3, by simpa using q4, q5⟩
  refine WFS.by (hp true h.n B (by omega) (fun q hq => by rw [g4 q (by omega), w1 _ (by omega) (by omega), z2 _ (by omega), b3 _ (by omega)]) _) ?_
  intro r h3 e
  cases e
  simp -dsimp
  rw [Br_bool]
  obtain ⟨out, hout⟩ : ∃ o, pickUp p (bordL s.l) i = o := ⟨_, rfl⟩
  obtain ⟨lo, hlo⟩ : ∃ o, lat (bordL s.l) i = o := ⟨_, rfl⟩
  obtain ⟨hi2, hhi⟩ : ∃ o, lat (bordL s.l) (i + 1) - 1 = o := ⟨_, rfl⟩
  have hup : pickUp p (bordL s.l) (i + 1) = pickStep p out lo hi2 := by rw [pickUp, hout, hlo, hhi]
  have hol : out.length ≤ i := by rw [← hout]; exact pickUp_len _ _ _
  have lo1 : 0 ≤ lo ∧ lo ≤ 1114112 := by rw [← hlo]; exact bordL_mem (lat_mem (by omega))
  rw [hup] at hgo
  rw [hout] at g5
  simp only [hlo, hhi]
  have hlen := g5.len
  rw [List.length_map] at hlen
  refine ⟨fun hb => ?_, fun hb => ?_⟩
  ·have hb' : p lo = false := by simpa using hb
   simp -dsimp
   refine ⟨rfl, _, _, _, _, _, _, g3, rfl, hgo B v (by simpa [pickStep, hb'] using g5) g1 g3 (by omega) fun _ _ _ => rfl⟩
  have hb' : p lo = true := by simpa using hb
  have happ : ∀ tm2, (gK 5).run tm2 = .ptr (h.n + 1) 0 0 → (gK 6).run tm2 = .int .i64 lo → (gK 7).run tm2 = .int .i64 hi2 → pickStep p out lo hi2 = out ++ [⟨lo, hi2⟩] →
    wk PR true h.n (.ops [Pr.i 37 (IOp.r (RdO.load none (Opd.t 5))), Pr.i 38 (IOp.p (PO.mov (Opd.t 6))), Pr.i 39 (IOp.p (PO.mov (Opd.t 7))),
     Pr.i 40 (IOp.p (PO.build [V.int IntKind.i64 0, V.int IntKind.i64 0] [(0, 1, Opd.t 38), (1, 1, Opd.t 39)])),
     Pr.i 41 (IOp.a (AO.bslice true [V.int IntKind.i64 0, V.int IntKind.i64 0] 1 [(0, Opd.t 40)]) none),
     Pr.i 42 (IOp.w (WO.append 2 16 (Opd.t 37) (Opd.t 41))), n (IOp.w (WO.store 1 (Opd.t 5) (Opd.t 42)))]) [Fr.block 1] ⟨tm2, B, [], true⟩
     (roundQ (h2.n + 1) (fun r => r.v = V.bool true ∧ PJ p (bordL s.l) H0 (h.n + 1) (i + 1) r.h) { }) { } := by
   intro tm2 t5 t6 t7 hps
   simp -dsimp [t5, t6, t7, g1]
   rw [W_append (xs := [[.int .i64 lo, .int .i64 hi2]]) (by simp)]
   simp -dsimp
   refine OpS.ex ?_
   obtain ⟨v', h4, a1, a2, a3, a4, a5⟩ := own_append (mk := h.n) (bytes := 16) (xs := [[.int .i64 lo, .int .i64 hi2]]) g5 (by omega) (by simp) (by simp; omega) (by omega) (by omega)
   refine ⟨_, a1, ?_⟩
   have sv : ∀ j, j < H0.n → slId v ≠ some j := fun j hj => g5.slId hj
   have q1 : h4.get (h.n + 1) = some (.rows [[v]]) := by rw [a4 _ (by omega) (sv _ (by omega)), g1]
   have vc := a2.cells
   have q2 : h.n ≤ h.n + 1 := by omega
   simp -dsimp [t5, q1, vc.1, vc.2]
   refine ⟨rfl, .busy, none, tm, [11, 12], asg0, body0, ?_, rfl, hgo _ v' ?_ ?_ ?_ ?_ ?_⟩
   ·rw [Heap.get_set, if_neg (by omega), a4 _ (by omega) (sv _ (by omega)), g3]
   ·rw [hps, List.map_append]
    rcases a2 with ⟨q, q'⟩ | ⟨id, q3, q4, q5, q6, q7⟩
    ·exact .inl ⟨q, q'⟩
    ·exact .inr ⟨id, q3, by rw [Heap.get_set, if_neg (by omega), q4]; rfl, q5, by simpa using q6, by simp⟩
   ·rw [Heap.get_set, if_pos rfl]
   ·rw [Heap.get_set, if_neg (by omega), a4 _ (by omega) (sv _ (by omega)), g3]
   ·simp; omega
   ·intro q hq hq2
    rw [Heap.get_set, if_neg hq2, a4 _ (by omega) (sv _ hq)]
  simp -dsimp [k5, g1, e1, hlen, fw64 (n := (out.length : Int) - 1) (by omega) (by omega)]
  rw [Gd_t]
  refine ⟨fun hc => ?_, fun hc => ?_⟩
  ·simp at hc
   rcases g5 with ⟨q, q'⟩ | ⟨id2, q3, q4, q5, q6, q7⟩
   ·simp at q'; subst q'; simp at hc
   rw [List.length_map] at q3
   have j0 : 0 ≤ (out.length : Int) - 1 := by omega
   have j1 : (out.length : Int) - 1 < (out.length : Nat) := by omega
   have j2 : ((out.length : Int) - 1).toNat = out.length - 1 := by omega
   have j3 : (out.map Rg.cells)[out.length - 1]? = some (lat out (out.length - 1)).cells := by rw [List.getElem?_map, lat_get (by omega)]; rfl
   have j4 : ¬ id2 = h2.n + 1 := by omega
   simp -dsimp [hc, k5, g1, q3, q4, iaddr_sl (e := 2) (id := id2) (b := 0) (n := out.length) (f := false) (k := .i64) j0 j1, j2, j3, Rg.cells, fw64 (n := lo - 1) (by omega) (by omega)]
   rw [Br_bool]
   refine ⟨fun hd => ?_, fun hd => ?_⟩
   ·simp at hd
    have q8 : h.n ≤ id2 := by omega
    simp -dsimp [k5, e1, g1, q3, q4, iaddr_sl (e := 2) (id := id2) (b := 0) (n := out.length) (f := false) (k := .i64) j0 j1, j2, j3, Rg.cells, q8]
    refine ⟨rfl, .busy, none, tm, [11, 12], asg0, body0, ?_, rfl, hgo _ v ?_ ?_ ?_ ?_ ?_⟩
    ·rw [Heap.get_set, if_neg (by omega), g3]
    ·have e5 : pickStep p out lo hi2 = out.set (out.length - 1) ⟨(lat out (out.length - 1)).lo, hi2⟩ := by
      simp only [pickStep, hb', if_true]; rw [if_pos ⟨by omega, hd⟩]
     rw [e5, List.map_set]
     refine .inr ⟨id2, by simpa using q3, by rw [Heap.get_set, if_pos rfl]; rfl, q5, by simpa using q6, by simpa using q7⟩
    ·rw [Heap.get_set, if_neg (by omega), g1]
    ·rw [Heap.get_set, if_neg (by omega), g3]
    ·simp; omega
    ·intro q hq hq2
     rw [Heap.get_set, if_neg (by omega)]
   ·simp at hd
    simp -dsimp [-wk_ops]
    refine happ _ ?_ ?_ ?_ (by simp [pickStep, hb', hd]) <;> simp [k5]
  ·simp at hc
   have hz : out.length = 0 := by omega
   have : ¬ (1 : Int) ≤ (out.length : Int) := by omega
   simp -dsimp [this, -wk_ops]
   refine happ _ ?_ ?_ ?_ (by simp [pickStep, hb', hz]) <;> simp [k5]
 ·rintro ⟨v, h'⟩ ⟨w1, w2, u, w3, w4⟩
  simp only at w1 w2 w3 w4 ⊢
  refine ⟨by rw [w1 _ (by omega) (by omega), z4], ?_⟩
  have g5 : h'.get h2.n = some .dfr := by rw [w1 _ (by omega) (by omega), z3]
  have e1 : ¬ h.n + 1 = h2.n + 1 := by omega
  have e2 : ¬ h2.n = h2.n + 1 := by omega
  have e3 : ¬ h.n = h2.n := by omega
  have e4 : h.n ≤ h2.n := by omega
  have e5 : ¬ h2.n + 1 = h2.n := by omega
  simp -dsimp [k5, w3, g5, e3, e4]
  refine frz_ownR (m := H0.n) ?_ (by omega)
  rcases w4 with ⟨q, q'⟩ | ⟨id2, q3, q4, q5, q6, q7⟩
  ·exact .inl ⟨q, q'⟩
  ·exact .inr ⟨id2, q3, by rw [Heap.get_kill, if_neg (by omega), Heap.get_set, if_neg (by omega), q4]; rfl, q5, by simpa using q6, q7⟩
end Go.Abs
namespace Go.Abs
open Go Pr
set_option maxRecDepth 10000
theorem WF.first {AP : Prog} {d : Bool} {mk f : Nat} {a args : List V} {h : Heap} {Q : VH → Prop} (h1 : WF AP d mk (.fn f [] []) (a ++ args) h Q) : WF AP d mk (.fn f a []) args h Q := by
 refine W.eq h1 fun n => ?_
 cases n with
 | zero => rfl
 | succ n => simp [evCall]
theorem has_pred (s : Sl Rg) (hs : s.l.length < 1000000000) (h : Heap) : PredV (.fn 178 [s.enc Rg.cells] []) (hasB s.l) h := by
 intro d mk h' _ _ n
 refine WF.first ?_
 exact has_ok s hs n
theorem frz_ownJR {h : Heap} {n m : Nat} {v : V} {l : List Rg} (hO : OwnJ h m v 2 (l.map Rg.cells)) (hn : n ≤ m) : ∃ s : Sl Rg, s.l = l ∧ freeze n h depthMax v = some (s.enc Rg.cells) := by
 rcases hO with ⟨rfl, e⟩ | ⟨id, L, rfl, h2, h3, h4⟩
 ·have : l = [] := by simpa using e
  subst this; exact ⟨.nil, rfl, rfl⟩
 ·have hr : rowsOf h (.sl id 0 (l.map Rg.cells).length 2 false) = some (l.map Rg.cells) := by simp [rowsOf, h2]
  have hni : n ≤ id := by omega
  refine ⟨.of l, rfl, ?_⟩
  rw [freeze_sl, hr]
  simp only [frz_Rg_rows, ble_dec, hni, decide_true, cond]
  rfl
theorem frz_slR {l : List Rg} {n : Nat} {h : Heap} : freeze n h depthMax ((slR l).enc Rg.cells) = some ((slR l).enc Rg.cells) := by
 cases l with
 | nil => rfl
 | cons x l =>
  show (match allM (allM (freeze n h 15)) ((x :: l).map Rg.cells) with | some r => some (V.slR r false) | none => none) = _
  rw [frz_Rg_rows]; rfl
theorem concatRg_ok {v : V} {ls : List (Sl Rg)} (hlen : ∀ h, lenV .sl v h = some (.int .i64 ls.length)) (hget : ∀ i : Int, 0 ≤ i → i < ls.length → ∃ p, iaddrV 1 v (.int .i64 i) = some p ∧ ∀ h, loadV none p h = some ((lat ls i.toNat).enc Rg.cells))
  (hsm : ls.length < 1000000) (hsum : ∀ i, i ≤ ls.length → (catUp ls i).length < 1000000000) {d : Bool} {mk : Nat} {h : Heap} :
  WF PR d mk (.fn 193 [] []) [v] h fun r => ∃ s : Sl Rg, s.l = catUp ls ls.length ∧ r = ⟨s.enc Rg.cells, h⟩ := by
 have h1 : WF PR d mk (.fn 193 [] []) [v] h fun r => r.h = h ∧ ∃ s : Sl Rg, s.l = catUp ls ls.length ∧ r.v = s.enc Rg.cells := by
  refine WF.pureFn (f := 193) (AP := PR) (F := f193) (args := [v]) (first := []) (cap := []) (Q := fun v => ∃ s : Sl Rg, s.l = catUp ls ls.length ∧ v = s.enc Rg.cells) rfl rfl rfl (Nat.le_of_ble_eq_true rfl) ?_
  show wbody PR d h.n f193 [v] h _
  rw [wbody_eq (F := f193) (G := concatF true 2 16 218) shapes.2.2.1 rfl]
  refine concat_body (enc := Rg.cells) (ls := ls) (zero := [.int .i64 0, .int .i64 0]) fn218 rfl rfl (by omega) (Nat.le_refl _) (fun a => ⟨rfl, by simp [Rg.cells]⟩) hlen hget hsm hsum ?_
  intro v' h' hO _ _
  obtain ⟨s, e1, e2⟩ := frz_ownJR hO (Nat.le_refl _)
  exact ⟨_, e2, s, e1, rfl⟩
 refine W.mono h1 ?_
 rintro ⟨v', h'⟩ ⟨e1, s, e2, e3⟩
 simp only at e1 e3
 subst e1 e3
 exact ⟨s, e2, rfl⟩
theorem both1_ok {d : Bool} {mk : Nat} {h : Heap} (x y : Bool) : WF PR d mk (.fn 211 [] []) [.bool x, .bool y] h fun r => r = ⟨.bool (x && y), h⟩ := by
 refine WF.pureOne (F := f211) rfl rfl rfl (Nat.le_of_ble_eq_true rfl) ?_
 refine wbodyS b211 [.tm 4] rfl rfl ?_
 unfold b211
 cases x <;> simp -dsimp
theorem less1_ok {d : Bool} {mk : Nat} {h : Heap} (x y : Bool) : WF PR d mk (.fn 155 [] []) [.bool x, .bool y] h fun r => r = ⟨.bool (x && !y), h⟩ := by
 refine WF.pureOne (F := f155) rfl rfl rfl (Nat.le_of_ble_eq_true rfl) ?_
 refine wbodyS b155 [.tm 4] rfl rfl ?_
 unfold b155
 cases x <;> simp -dsimp
def twoL (q : Bool → Bool → Bool) (a b : List Rg) : List Rg := pickL (fun n => q (hasB a n) (hasB b n)) (a ++ b)
theorem two1_ok {k : Nat} {q : Bool → Bool → Bool} (hk : ∀ d mk h x y, WF PR d mk (.fn k [] []) [.bool x, .bool y] h fun r => r = ⟨.bool (q x y), h⟩) (a b : Sl Rg) (ha : a.l.length < 1000000000) (hb : b.l.length < 1000000000) {A X Y : Nat} {h : Heap}
  (hA : h.get A = some (.rows [[.fn k [] []]])) (hX : h.get X = some (.rows [[.fn 178 [a.enc Rg.cells] []]])) (hY : h.get Y = some (.rows [[.fn 178 [b.enc Rg.cells] []]])) (lA : A < h.n) (lX : X < h.n) (lY : Y < h.n) :
  PredV (.fn 192 [] [.ptr A 0 0, .ptr X 0 0, .ptr Y 0 0]) (fun n => q (hasB a.l n) (hasB b.l n)) h := by
 intro d mk h' hn hk2 n
 refine WF.pureOne (F := f192) rfl rfl rfl (Nat.le_of_ble_eq_true rfl) ?_
 refine wbodyS b192 [.tm 5] rfl rfl ?_
 unfold b192
 have gA : h'.get A = some (.rows [[.fn k [] []]]) := by rw [hk2 A lA, hA]
 have gX : h'.get X = some (.rows [[.fn 178 [a.enc Rg.cells] []]]) := by rw [hk2 X lX, hX]
 have gY : h'.get Y = some (.rows [[.fn 178 [b.enc Rg.cells] []]]) := by rw [hk2 Y lY, hY]
 simp -dsimp [gA, gX, gY]
 refine WFS.by (has_pred a ha h' true _ h' (Nat.le_refl _) (fun _ _ => rfl) n) ?_
 intro v h1 e
 cases e
 simp -dsimp [gY]
 refine WFS.by (has_pred b hb h' true _ h' (Nat.le_refl _) (fun _ _ => rfl) n) ?_
 intro v h1 e
 cases e
 simp -dsimp
 refine WFS.by (hk true _ h' _ _) ?_
 intro v h1 e
 cases e
 simp -dsimp [gA, gX, gY]
theorem two_ok {k : Nat} {q : Bool → Bool → Bool} (hk : ∀ d mk h x y, WF PR d mk (.fn k [] []) [.bool x, .bool y] h fun r => r = ⟨.bool (q x y), h⟩) (a b : Sl Rg) (ha : a.l.length < 40000000) (hb : b.l.length < 40000000) {d : Bool} {mk : Nat} {h : Heap} :
  WF PR d mk (.fn 154 [] []) [a.enc Rg.cells, b.enc Rg.cells, .fn k [] []] h fun r => r = ⟨(slR (twoL q a.l b.l)).enc Rg.cells, h⟩ := by
 refine WF.pureOne (F := f154) rfl rfl rfl (Nat.le_of_ble_eq_true rfl) ?_
 refine wbodyS b154 [.tm 6] rfl rfl ?_
 unfold b154
 simp -dsimp
 refine WFS.by (concatRg_ok (ls := [a, b]) (fun h => by simp) ?_ (by simp) ?_) ?_
 ·intro i h0 h1
  have h2 : i = 0 ∨ i = 1 := by simp at h1; omega
  rcases h2 with rfl | rfl
  ·exact ⟨.ptrR [a.enc Rg.cells] 0, rfl, fun h => rfl⟩
  ·exact ⟨.ptrR [b.enc Rg.cells] 0, rfl, fun h => rfl⟩
 ·intro i hi
  have h2 : i = 0 ∨ i = 1 ∨ i = 2 := by simp at hi; omega
  have e0 : lat [a, b] 0 = a := rfl
  have e1 : lat [a, b] 1 = b := rfl
  rcases h2 with rfl | rfl | rfl <;> simp [catUp, e0, e1] <;> omega
 rintro v h1 ⟨s, e1, e⟩
 cases e
 have e2 : s.l = a.l ++ b.l := by rw [e1]; rfl
 simp -dsimp
 refine WFS.by (pick_ok s (by rw [e2, List.length_append]; omega) _ rfl _ (two1_ok hk a b (by omega) (by omega) (by simp) (by simp) (by simp) (by simp <;> omega) (by simp <;> omega) (by simp))) ?_
 intro v h1 e
 cases e
 simp -dsimp
 rw [e2]
 exact frz_slR
section
variable {d : Bool} {mk : Nat} {h : Heap}
theorem Both_ok (a b : Sl Rg) (ha : a.l.length < 40000000) (hb : b.l.length < 40000000) : WF PR d mk (.fn 181 [] []) [a.enc Rg.cells, b.enc Rg.cells] h fun r => r = ⟨(slR (twoL and a.l b.l)).enc Rg.cells, h⟩ := by
 refine WF.pureOne (F := f181) rfl rfl rfl (Nat.le_of_ble_eq_true rfl) ?_
 refine wbodyS b181 [.tm 4] rfl rfl ?_
 unfold b181
 simp -dsimp
 refine WFS.by (two_ok (q := and) (fun d mk h x y => both1_ok x y) a b ha hb) ?_
 intro v h1 e
 cases e
 simp -dsimp
 exact frz_slR
def lessB (x y : Bool) : Bool := x && !y
theorem Less_ok (a b : Sl Rg) (ha : a.l.length < 40000000) (hb : b.l.length < 40000000) : WF PR d mk (.fn 122 [] []) [a.enc Rg.cells, b.enc Rg.cells] h fun r => r = ⟨(slR (twoL lessB a.l b.l)).enc Rg.cells, h⟩ := by
 refine WF.pureOne (F := f122) rfl rfl rfl (Nat.le_of_ble_eq_true rfl) ?_
 refine wbodyS b122 [.tm 4] rfl rfl ?_
 unfold b122
 simp -dsimp
 refine WFS.by (two_ok (q := lessB) (fun d mk h x y => less1_ok x y) a b ha hb) ?_
 intro v h1 e
 cases e
 simp -dsimp
 exact frz_slR
def normL (l : List Rg) : List Rg := pickL (hasB l) l
theorem Norm_ok (a : Sl Rg) (ha : a.l.length < 40000000) : WF PR d mk (.fn 151 [] []) [a.enc Rg.cells] h fun r => r = ⟨(slR (normL a.l)).enc Rg.cells, h⟩ := by
 refine WF.pureOne (F := f151) rfl rfl rfl (Nat.le_of_ble_eq_true rfl) ?_
 refine wbodyS b151 [.tm 2] rfl rfl ?_
 unfold b151
 simp -dsimp
 refine WFS.by (pick_ok a (by omega) _ rfl _ (has_pred a (by omega) h)) ?_
 intro v h1 e
 cases e
 simp -dsimp
 exact frz_slR
def someB (l : List Rg) : Bool := decide (0 < (twoL lessB l [⟨55296, 57343⟩]).length)
theorem some_ok (a : Sl Rg) (ha : a.l.length < 40000000) : WF PR d mk (.fn 137 [] []) [a.enc Rg.cells] h fun r => r = ⟨.bool (someB a.l), h⟩ := by
 refine WF.pureOne (F := f137) rfl rfl rfl (Nat.le_of_ble_eq_true rfl) ?_
 refine wbodyS b137 [.tm 2] rfl rfl ?_
 unfold b137
 simp -dsimp
 refine WFS.by (Less_ok a (Sl.full [⟨55296, 57343⟩]) ha (by simp)) ?_
 intro v h1 e
 cases e
 simp -dsimp [someB]
end
end Go.Abs
namespace Go.Abs
open Go Pr
set_option maxRecDepth 10000
structure Gr.Fine (g : Gr) : Prop extends Gr.Small g where
 fr : ∀ p ∈ g.p.l, ∀ a ∈ p.a.l, ∀ s ∈ a.l, s.r.l.length < 40000000
def vainS (ob : List Bool) (s : Sy) : Bool := if s.kind = 2 then !(lat ob s.n.toNat) else if s.kind = 0 then decide (s.r.l = []) else !someB s.r.l
def makesA (ob : List Bool) (a : Sl Sy) : Bool := !a.l.any (vainS ob)
section
variable {d : Bool} {mk : Nat} {h : Heap} {ob : List Bool} {O B C : Nat}
theorem vain1_ok (hB : h.get B = some (.rows [[.sl O 0 ob.length 1 true]])) (hO : h.get O = some (.rows (boolRows ob))) (lB : B < h.n) (lO : O < h.n) (s : Sy) (hs : SyOk ob.length s) (hr : s.r.l.length < 40000000) :
  WF PR d mk (.fn 136 [] [.ptr B 0 0]) [.agg s.cells] h fun r => r = ⟨.bool (vainS ob s), h⟩ := by
 refine WF.pureOne (F := f136) rfl rfl rfl (Nat.le_of_ble_eq_true rfl) ?_
 refine wbodyS b136 [.tm 3] rfl rfl ?_
 unfold b136
 have e1 : ¬ B = h.n := by omega
 have e2 : ¬ O = h.n := by omega
 simp -dsimp [Sy.cells, e1]
 rw [Br_bool]
 refine ⟨fun hb => ?_, fun hb => ?_⟩
 ·simp at hb
  have hn := hs.non hb
  have c0 : 0 ≤ s.n := hn.1
  have c1 : s.n < ((ob.length : Nat) : Int) := hn.2.1
  simp -dsimp [hB, e1, e2, iaddr_sl (e := 1) (id := O) (b := 0) (n := ob.length) (f := true) (k := .i64) c0 c1, hO, boolRow_get (l := ob) (r := s.n.toNat) (by omega), vainS, hb]
 ·simp at hb
  simp -dsimp
  rw [Br_bool]
  refine ⟨fun hc => ?_, fun hc => ?_⟩
  ·simp at hc
   simp -dsimp [vainS, hb, hc]
  ·simp at hc
   simp -dsimp
   refine WFS.by (some_ok s.r hr) ?_
   intro v h' e
   cases e
   simp -dsimp [vainS, hb, hc]
theorem makes2_ok (hC : h.get C = some (.rows [[.fn 136 [] [.ptr B 0 0]]])) (hB : h.get B = some (.rows [[.sl O 0 ob.length 1 true]])) (hO : h.get O = some (.rows (boolRows ob))) (lC : C < h.n) (lB : B < h.n) (lO : O < h.n) (a : Sl Sy) (ha : a.l.length < 1000000000) (hs : ∀ s ∈ a.l, SyOk ob.length s ∧ s.r.l.length < 40000000) :
  WF PR d mk (.fn 138 [] [.ptr C 0 0]) [a.enc Sy.cells] h fun r => r = ⟨.bool (makesA ob a), h⟩ := by
 refine WF.pureOne (F := f138) rfl rfl rfl (Nat.le_of_ble_eq_true rfl) ?_
 refine wbodyS b138 [.tm 3] rfl rfl ?_
 unfold b138
 simp -dsimp [hC]
 refine WFS.by (con_ok (f := 91) (g := 57) (esz := 3) (ld := some 3) (arg := fun s => .agg s.cells) (p := vainS ob) rfl rfl rfl rfl (fun _ => rfl) (fun _ => rfl) ha fun s hm => vain1_ok hB hO lB lO s (hs s hm).1 (hs s hm).2) ?_
 intro v h' e
 cases e
 simp -dsimp [makesA]
end
def makesUp (g : Gr) (ob : List Bool) : Nat → List Bool × Bool
 | 0 => (ob, false)
 | i + 1 => let r := makesUp g ob i
  if lat r.1 i = false ∧ (lat g.p.l i).a.l.any (makesA r.1) = true then (r.1.set i true, true) else r
def makesF (g : Gr) : Nat → List Bool → List Bool
 | 0, ob => ob
 | k + 1, ob => let r := makesUp g ob g.p.l.length
  if r.2 = true then makesF g k r.1 else r.1
def makesL (g : Gr) : Sl Bool := if mayB g = true then .of (makesF g (g.p.l.length + 1) (List.replicate g.p.l.length false)) else .nil
theorem makesUp_len (g : Gr) (ob : List Bool) : ∀ i, (makesUp g ob i).1.length = ob.length
 | 0 => rfl
 | i + 1 => by simp only [makesUp]; split <;> simp [makesUp_len g ob i]
theorem count_set {ob : List Bool} {i : Nat} (hi : i < ob.length) (h : lat ob i = false) : (ob.set i true).count false + 1 = ob.count false := by
 rw [lat_eq hi] at h
 rw [List.count_set hi, h]
 have : 0 < ob.count false := List.count_pos_iff.2 (h ▸ List.getElem_mem hi)
 simp; omega
theorem makesUp_count (g : Gr) (ob : List Bool) : ∀ i, i ≤ ob.length → (makesUp g ob i).1.count false + (if (makesUp g ob i).2 = true then 1 else 0) ≤ ob.count false
 | 0, _ => by simp [makesUp]
 | i + 1, hi => by
  have ih := makesUp_count g ob i (by omega)
  simp only [makesUp]
  split
  ·rename_i hc
   have := count_set (ob := (makesUp g ob i).1) (i := i) (by rw [makesUp_len]; omega) hc.1
   simp; split at ih <;> omega
  ·exact ih
def boolCells (b : Bool) : List V := [.bool b]
theorem frz_bools {mk k : Nat} {h : Heap} : ∀ l : List Bool, allM (allM (freeze mk h (k + 1))) (boolRows l) = some (boolRows l)
 | [] => rfl
 | x :: l => by
  have := frz_bools (mk := mk) (k := k) (h := h) l
  simp only [boolRows, List.map_cons, allM] at this ⊢
  rw [this]; rfl
structure MB (g : Gr) (n : Nat) (ob : List Bool) (H : Heap) : Prop where
 g0 : H.get n = some (.rows [[g.p.enc Pd.cells, g.keys.enc keyCells]])
 o : H.get (n + 1) = some (.rows (boolRows ob))
 b : H.get (n + 2) = some (.rows [[.sl (n + 1) 0 g.p.l.length 1 true]])
 c : H.get (n + 3) = some (.rows [[.fn 136 [] [.ptr (n + 2) 0 0]]])
 n : n + 4 ≤ H.n
 len : ob.length = g.p.l.length
theorem MB.push {g : Gr} {n : Nat} {ob : List Bool} {H : Heap} (h : MB g n ob H) (o : Obj) : MB g n ob (H.push o) := by
 have := h.n
 refine ⟨?_, ?_, ?_, ?_, by simp; omega, h.len⟩ <;> rw [Heap.get_push, if_neg (by omega)]
 ·exact h.g0
 ·exact h.o
 ·exact h.b
 ·exact h.c
theorem MB.far {g : Gr} {n i : Nat} {ob : List Bool} {H : Heap} (h : MB g n ob H) (o : Obj) (hi : n + 4 ≤ i) : MB g n ob (H.set i o) := by
 have := h.n
 refine ⟨?_, ?_, ?_, ?_, by simpa using h.n, h.len⟩ <;> rw [Heap.get_set, if_neg (by omega)]
 ·exact h.g0
 ·exact h.o
 ·exact h.b
 ·exact h.c
theorem MB.put {g : Gr} {n : Nat} {ob ob' : List Bool} {H : Heap} (h : MB g n ob H) (hl : ob'.length = ob.length) : MB g n ob' (H.set (n + 1) (.rows (boolRows ob'))) := by
 have := h.n
 refine ⟨?_, ?_, ?_, ?_, by simpa using h.n, by rw [hl, h.len]⟩ <;> rw [Heap.get_set]
 ·rw [if_neg (by omega)]; exact h.g0
 ·rw [if_pos rfl]
 ·rw [if_neg (by omega)]; exact h.b
 ·rw [if_neg (by omega)]; exact h.c
theorem makes_ok (g : Gr) (hg : g.Fine) {d : Bool} {mk : Nat} {h : Heap} : WF PR d mk (.fn 97 [] []) [.agg g.cells] h fun r => r = ⟨(makesL g).enc boolCells, h⟩ := by
 refine WF.pureOne (F := f97) rfl rfl rfl (Nat.le_of_ble_eq_true rfl) ?_
 refine wbodyS b97 [.tm 2] rfl rfl ?_
 unfold b97
 simp -dsimp [Gr.cells]
 refine WFS.by (may_ok g hg.toSmall) ?_
 intro v h1 e
 cases e
 simp -dsimp
 rw [Br_bool]
 refine ⟨fun hb => ?_, fun hb => ?_⟩
 ·simp at hb
  have : makesL g = .nil := by simp [makesL, hb]
  simp -dsimp [this]
  rfl
 simp at hb
 have hok := mayB_ok hb
 have hp60 := hok.p
 simp -dsimp [mksV_nat (n := g.p.l.length) (by omega)]
 obtain ⟨fin, hfin⟩ : ∃ fin, makesF g (g.p.l.length + 1) (List.replicate g.p.l.length false) = fin := ⟨_, rfl⟩
 have hML : makesL g = .of fin := by rw [makesL, if_pos hb, hfin]
 refine wk_loop (fun k st => ∃ (ob : List Bool) (f : Bool), MB g h.n ob st.h ∧ (gK 6).run st.tm = .bool f ∧ (f = true → ob.count false + 1 ≤ k ∧ makesF g k ob = fin) ∧ (f = false → ob = fin) ∧ st.defs = []) (g.p.l.length + 1)
  ⟨List.replicate g.p.l.length false, true, ⟨by simp, by simp [boolRows], by simp, by simp, by simp, by simp⟩, by simp, fun _ => ⟨by simp, hfin⟩, by simp, rfl⟩ ?_
 rintro k ⟨tm, h1, defs, round⟩ ⟨ob, f, hM, h6, hf1, hf2, rfl⟩ hK
 have h1' := hK 1 rfl
 have h3' := hK 3 rfl
 have h5' := hK 5 rfl
 simp at h1' h3' h5' h6 hM hf1 hf2
 clear hK
 simp -dsimp [h6]
 rw [Br_bool]
 refine ⟨fun hc => ?_, fun hc => ?_⟩
 ·obtain ⟨hk, hF⟩ := hf1 hc
  simp -dsimp [h1', hM.g0]
  refine wk_loop (fun k st => ∃ i : Int, 0 ≤ i ∧ (k : Int) = g.p.l.length - i ∧ (gK 22).run st.tm = .int .i64 i ∧ (gK 6).run st.tm = .bool (makesUp g ob i.toNat).2 ∧ MB g h.n (makesUp g ob i.toNat).1 st.h ∧ st.defs = []) g.p.l.length
   ⟨0, by omega, by omega, by simp, by simp [makesUp], by simpa [makesUp] using hM, rfl⟩ ?_
  rintro k2 ⟨tm2, h2, defs, round⟩ ⟨i, hi, hk2, h22, h6', hM2, rfl⟩ hK
  have t1 := hK 1 rfl
  have t3 := hK 3 rfl
  have t5 := hK 5 rfl
  have t20 := hK 20 rfl
  have t21 := hK 21 rfl
  simp [h1', h3', h5'] at t1 t3 t5 t20 t21 h22 h6' hM2
  clear hK
  simp -dsimp [h22, t21]
  rw [Br_bool]
  obtain ⟨r, hr⟩ : ∃ r, makesUp g ob i.toNat = r := ⟨_, rfl⟩
  rw [hr] at hM2 h6'
  refine ⟨fun hd => ?_, fun hd => ?_⟩
  ·simp at hd
   have hn := hM2.n
   have hlen := hM2.len
   have n1 : ¬ h.n + 2 = h2.n := by omega
   have n2 : ¬ h.n + 1 = h2.n := by omega
   have n3 : h.n ≤ h2.n := by omega
   have hd' : i < ((g.p.l.length : Nat) : Int) := by omega
   have hnext : makesUp g ob (i + 1).toNat = if lat r.1 i.toNat = false ∧ (lat g.p.l i.toNat).a.l.any (makesA r.1) = true then (r.1.set i.toNat true, true) else r := by
    rw [show (i + 1).toNat = i.toNat + 1 by omega, makesUp, hr]
   have hpm := lat_mem (l := g.p.l) (i := i.toNat) (by omega)
   obtain ⟨p, hp⟩ : ∃ p, lat g.p.l i.toNat = p := ⟨_, rfl⟩
   rw [hp] at hnext hpm
   simp -dsimp [t20, h22, hi, hd', hp, Pd.cells, n3, t3, hM2.b, n1, n2, iaddr_sl (e := 1) (id := h.n + 1) (b := 0) (n := g.p.l.length) (f := true) (k := .i64) hi hd', hM2.o, boolRow_get (l := r.1) (r := i.toNat) (by omega)]
   rw [Gd_t]
   have hMp : MB g h.n r.1 ((h2.push (Obj.rows [[V.nils, V.int IntKind.i64 0, V.nils]])).set h2.n (Obj.rows [[Sl.enc altCells p.a, V.int IntKind.i64 p.marks, Sl.enc Rg.cells p.no]])) := (hM2.push _).far _ (by omega)
   refine ⟨fun he => ?_, fun he => ?_⟩
   ·simp at he
    simp -dsimp [t5, he]
    refine WFS.by (con_ok (f := 92) (g := 59) (esz := 1) (ld := none) (arg := fun s => s.enc Sy.cells) (p := makesA r.1) rfl rfl rfl rfl (fun _ => rfl) (fun _ => rfl) (hg.a p hpm) fun a ha =>
     makes2_ok hMp.c (by rw [hlen]; exact hMp.b) hMp.o (by have := hMp.n; omega) (by have := hMp.n; omega) (by have := hMp.n; omega) a (hg.s p hpm a ha) fun s hs => ⟨by rw [hlen]; exact hok.sy p hpm a ha s hs, hg.fr p hpm a ha s hs⟩) ?_
    intro v h' e
    cases e
    simp -dsimp
    rw [Br_bool]
    refine ⟨fun hx => ?_, fun hx => ?_⟩
    ·rw [if_pos ⟨he, hx⟩] at hnext
     have n4 : h.n ≤ h.n + 1 := by omega
     simp -dsimp [t3, n1, n2, hM2.b, h22, iaddr_sl (e := 1) (id := h.n + 1) (b := 0) (n := g.p.l.length) (f := true) (k := .i64) hi hd', hM2.o, boolRow_get (l := r.1) (r := i.toNat) (by omega), fw64 (n := i + 1) (by omega) (by omega)]
     refine Again.intro (k2 - 1) (by omega) ⟨i + 1, by omega, by omega, by simp, by simp [hnext], ?_, rfl⟩
     rw [hnext, boolRows_set]
     exact hMp.put (by simp)
    ·rw [if_neg (by rw [hx]; simp)] at hnext
     simp -dsimp [h22, fw64 (n := i + 1) (by omega) (by omega)]
     exact Again.intro (k2 - 1) (by omega) ⟨i + 1, by omega, by omega, by simp, by simp [hnext, h6'], by rw [hnext]; exact hMp, rfl⟩
   ·simp at he
    rw [if_neg (by rw [he]; simp)] at hnext
    simp -dsimp [h22, he, fw64 (n := i + 1) (by omega) (by omega)]
    exact Again.intro (k2 - 1) (by omega) ⟨i + 1, by omega, by omega, by simp, by simp [hnext, h6'], by rw [hnext]; exact hMp, rfl⟩
  ·simp at hd
   have hi2 : i.toNat = g.p.l.length := by omega
   rw [hi2] at hr
   have hcnt := makesUp_count g ob g.p.l.length (by rw [hM.len]; exact Nat.le_refl _)
   rw [hr] at hcnt
   obtain ⟨m, rfl⟩ : ∃ m, k = m + 1 := ⟨k - 1, by omega⟩
   have hF' : (if r.2 = true then makesF g m r.1 else r.1) = fin := by rw [← hF]; simp only [makesF, hr]
   have hd' : decide (i < (g.p.l.length : Int)) = false := by simpa using hd
   simp -dsimp [hd']
   refine Again.intro m (by omega) ⟨r.1, r.2, hM2, by simpa using h6', fun e => ?_, fun e => ?_, rfl⟩
   ·rw [if_pos e] at hF' hcnt
    exact ⟨by omega, hF'⟩
   ·rw [if_neg (by rw [e]; simp)] at hF'
    exact hF'
 ·have hob := hf2 hc
  simp -dsimp [h3', hM.b]
  subst hob
  rw [freeze_sl]
  have hr : rowsOf h1 (.sl (h.n + 1) 0 g.p.l.length 1 false) = some (boolRows ob) := by
   simp [rowsOf, hM.o, boolRows, hM.len]; rw [List.take_of_length_le (by simp [hM.len])]
  have n4 : h.n ≤ h.n + 1 := by omega
  rw [hr]
  simp only [frz_bools, ble_dec, n4, decide_true, cond, hML]
  rfl
def vainI (g : Gr) : Int := idxP (fun x => false == x) (makesL g).l 0
theorem makesF_len (g : Gr) : ∀ k ob, (makesF g k ob).length = ob.length
 | 0, _ => rfl
 | k + 1, ob => by
  simp only [makesF]
  split
  ·rw [makesF_len g k, makesUp_len]
  ·rw [makesUp_len]
theorem Vain_ok (g : Gr) (hg : g.Fine) {d : Bool} {mk : Nat} {h : Heap} : WF PR d mk (.fn 62 [] []) [.agg g.cells] h fun r => r = ⟨.int .i64 (vainI g), h⟩ := by
 refine WF.pureOne (F := f62) rfl rfl rfl (Nat.le_of_ble_eq_true rfl) ?_
 refine wbodyS b62 [.tm 2] rfl rfl ?_
 unfold b62
 simp -dsimp [Gr.cells]
 refine WFS.by (makes_ok g hg) ?_
 intro v h' e
 cases e
 simp -dsimp
 have hl : (makesL g).l.length ≤ 60 := by
  unfold makesL
  split
  ·rename_i hm; have := (mayB_ok hm).p; simp [makesF_len]; omega
  ·simp
 refine WFS.by (index_ok (l := (makesL g).l) (by simp) (fun i i0 i1 => ⟨_, iaddr_enc i0 i1 (fun _ => rfl), by simp [boolCells]⟩) (by omega)) ?_
 intro v h' e
 cases e
 simp -dsimp [vainI]
end Go.Abs
namespace Go.Abs
open Go Pr
set_option maxRecDepth 10000
@[simp] theorem results_cell {tm : Tm} {h : Heap} {n : Option Nat} {j : Nat} : results tm h [.cell n j] = loadV n ((gK j).run tm) h := by
 have e : resV tm h (.cell n j) = loadV n ((gK j).run tm) h := rfl
 simp only [results, allM, e]
 cases loadV n ((gK j).run tm) h <;> rfl
def askedI (w : Int) : Int := if w = 0 then 3 else if w = 1 then 28 else 32
def markB (m w : Int) : Bool := decide ¬ fw .i64 (BitVec.ofInt IntKind.i64.bits m &&& BitVec.ofInt IntKind.i64.bits (askedI w)).toNat = 0
def filtB (p : Pd) : Bool := markB p.marks 0 || decide (0 < p.no.l.length)
section
variable {d : Bool} {mk : Nat} {h : Heap}
theorem asked_ok : WF PR d mk (.fn 140 [] []) [] h fun r => r = ⟨.agg [.int .i64 3, .int .i64 28, .int .i64 32], h⟩ := by
 refine WF.pureOne (F := f140) rfl rfl rfl (Nat.le_of_ble_eq_true rfl) ?_
 refine wbodyS b140 [.cell (some 3) 0] rfl rfl ?_
 unfold b140
 simp -dsimp
 rfl
theorem hasM_ok (p : Pd) (w : Int) (hw : w = 0 ∨ w = 1 ∨ w = 2) : WF PR d mk (.fn 102 [] []) [.agg p.cells, .int .i64 w] h fun r => r = ⟨.bool (markB p.marks w), h⟩ := by
 refine WF.pureOne (F := f102) rfl rfl rfl (Nat.le_of_ble_eq_true rfl) ?_
 refine wbodyS b102 [.tm 4] rfl rfl ?_
 unfold b102
 simp -dsimp [Pd.cells]
 refine WFS.by asked_ok ?_
 intro v h' e
 cases e
 rcases hw with rfl | rfl | rfl
 ·have e : idxAV 3 1 false (V.agg [V.int IntKind.i64 3, V.int IntKind.i64 28, V.int IntKind.i64 32]) (V.int IntKind.i64 0) = some (.int .i64 3) := rfl
  simp -dsimp [markB, askedI, e]
 ·have e : idxAV 3 1 false (V.agg [V.int IntKind.i64 3, V.int IntKind.i64 28, V.int IntKind.i64 32]) (V.int IntKind.i64 1) = some (.int .i64 28) := rfl
  simp -dsimp [markB, askedI, e]
 ·have e : idxAV 3 1 false (V.agg [V.int IntKind.i64 3, V.int IntKind.i64 28, V.int IntKind.i64 32]) (V.int IntKind.i64 2) = some (.int .i64 32) := rfl
  simp -dsimp [markB, askedI, e]
theorem Filter_ok (p : Pd) : WF PR d mk (.fn 165 [] []) [.agg p.cells] h fun r => r = ⟨.bool (filtB p), h⟩ := by
 refine WF.pureOne (F := f165) rfl rfl rfl (Nat.le_of_ble_eq_true rfl) ?_
 refine wbodyS b165 [.tm 2] rfl rfl ?_
 unfold b165
 simp -dsimp [Pd.cells]
 refine WFS.by (hasM_ok p 0 (by simp)) ?_
 intro v h' e
 cases e
 simp -dsimp
 rw [Gd_f]
 refine ⟨fun hb => ?_, fun hb => ?_⟩
 ·simp -dsimp [hb, filtB]
 ·simp -dsimp [hb, filtB]
end
def someM (g : Gr) (inn : List Bool) (w : Int) : Bool := (List.range inn.length).any fun k => lat inn k && markB (lat g.p.l k).marks w
section
variable {d : Bool} {mk : Nat} {h : Heap}
theorem iaddr_bools {l : List Bool} {f : Bool} {k : IntKind} {n : Int} (h0 : 0 ≤ n) (h1 : n < l.length) : iaddrV 1 (.slR (boolRows l) f) (.int k n) = some (.ptrR [.bool (lat l n.toNat)] 0) := by
 have h3 : idx (.int k n) l.length = some n.toNat := idx_int h0 h1
 have h2 : n.toNat < l.length := by omega
 simp only [boolRows, iaddrV, List.length_map, h3, nthR_eq, List.getElem?_map, lat_get h2]
 rfl
theorem someM_ok (g : Gr) (inn : List Bool) (hl : inn.length = g.p.l.length) (hs : inn.length < 1000000000) (w : Int) (hw : w = 0 ∨ w = 1 ∨ w = 2) : WF PR d mk (.fn 100 [] []) [.agg g.cells, .slR (boolRows inn) false, .int .i64 w] h fun r => r = ⟨.bool (someM g inn w), h⟩ := by
 refine WF.pureOne (F := f100) rfl rfl rfl (Nat.le_of_ble_eq_true rfl) ?_
 refine wbodyS b100 [.tm 6] rfl rfl ?_
 unfold b100
 have el : ∀ h, lenV .sl (.slR (boolRows inn) false) h = some (.int .i64 inn.length) := fun h => by simp [boolRows]
 simp -dsimp [Gr.cells, el]
 refine wk_loop (fun k st => ∃ i : Int, 0 ≤ i ∧ (k : Int) = inn.length - i ∧ (gK 11).run st.tm = .int .i64 i ∧ (∀ j : Nat, j < i → (lat inn j && markB (lat g.p.l j).marks w) = false) ∧ st.h = h.push (.rows [[g.p.enc Pd.cells, g.keys.enc keyCells]]) ∧ st.defs = []) inn.length
  ⟨0, by omega, by omega, by simp, by intro j hj; omega, rfl, rfl⟩ ?_
 rintro k ⟨tm, h1, defs, round⟩ ⟨i, hi, hk, h11, hall, rfl, rfl⟩ hK
 have t2 := hK 2 rfl
 have t3 := hK 3 rfl
 have t9 := hK 9 rfl
 have t10 := hK 10 rfl
 simp at t2 t3 t9 t10 h11 hall
 clear hK
 simp -dsimp [h11, t10]
 rw [Br_bool]
 refine ⟨fun hc => ?_, fun hc => ?_⟩
 ·simp at hc
  have hc' : i < ((inn.length : Nat) : Int) := by omega
  have hc2 : i < ((g.p.l.length : Nat) : Int) := by omega
  simp -dsimp [t9, h11, iaddr_bools hi hc']
  have hstep : (lat inn i.toNat && markB (lat g.p.l i.toNat).marks w) = false → ∀ j : Nat, j < i + 1 → (lat inn j && markB (lat g.p.l j).marks w) = false := by
   intro he j hj
   by_cases e : j < i
   ·have := hall j e
    revert this; cases lat inn j <;> simp
   ·have : j = i.toNat := by omega
    rw [this, he]
  rw [Gd_t]
  refine ⟨fun hd => ?_, fun hd => ?_⟩
  ·obtain ⟨p, hp⟩ : ∃ p, lat g.p.l i.toNat = p := ⟨_, rfl⟩
   simp -dsimp [hd, t3, iaddr_Pd hi hc2, hp, t2]
   have e1 : [Sl.enc altCells p.a, V.int IntKind.i64 p.marks, Sl.enc Rg.cells p.no] = p.cells := rfl
   simp -dsimp [Pd.cells]
   rw [e1]
   refine WFS.by (hasM_ok p w hw) ?_
   intro v h' e
   cases e
   simp -dsimp
   rw [Br_bool]
   refine ⟨fun he => ?_, fun he => ?_⟩
   ·have : someM g inn w = true := by
     simp only [someM, List.any_eq_true, List.mem_range]
     exact ⟨i.toNat, by omega, by rw [hd, hp, he]; rfl⟩
    simp -dsimp [this]
   ·simp -dsimp [h11, fw64 (n := i + 1) (by omega) (by omega)]
    exact Again.intro (k - 1) (by omega) ⟨i + 1, by omega, by omega, by simp, hstep (by rw [hp, he]; simp), rfl, rfl⟩
  ·simp -dsimp [hd, h11, fw64 (n := i + 1) (by omega) (by omega)]
   exact Again.intro (k - 1) (by omega) ⟨i + 1, by omega, by omega, by simp, hstep (by rw [hd]; simp), rfl, rfl⟩
 ·simp at hc
  have hc' : decide (i < (inn.length : Int)) = false := by simpa using hc
  have : someM g inn w = false := by
   simp only [someM, List.any_eq_false, List.mem_range]
   intro j hj
   have := hall j (by omega)
   revert this; cases lat inn j <;> simp
  simp -dsimp [hc', this]
def leastN (p : Nat → Bool) : Nat → Int
 | 0 => -1
 | i + 1 => if leastN p i = -1 then (if p i then i else -1) else leastN p i
theorem leastN_eq {p : Nat → Bool} {o : Int} : ∀ n, (o = -1 ∨ ∃ j : Nat, o = j ∧ j < n ∧ p j = true) → (∀ j, j < n → p j = true → o ≠ -1 ∧ o ≤ j) → leastN p n = o
 | 0, h1, _ => by
  rcases h1 with h | ⟨j, _, h, _⟩
  ·exact h.symm
  ·omega
 | n + 1, h1, h2 => by
  simp only [leastN]
  by_cases hn : ∃ j, j < n ∧ p j = true
  ·obtain ⟨j, hj, hp⟩ := hn
   have h3 := h2 j (by omega) hp
   have ih := leastN_eq (o := o) n (by
    rcases h1 with h | ⟨j', e, h, hp'⟩
    ·exact .inl h
    ·exact .inr ⟨j', e, by omega, hp'⟩) fun j hj => h2 j (by omega)
   rw [ih, if_neg h3.1]
  ·have ih := leastN_eq (p := p) (o := -1) n (.inl rfl) fun j hj hp => absurd ⟨j, hj, hp⟩ hn
   rw [ih, if_pos rfl]
   rcases h1 with h | ⟨j', e, h, hp'⟩
   ·subst h
    split
    ·rename_i hp; exact absurd rfl (h2 n (by omega) hp).1
    ·rfl
   ·have : j' = n := by
     by_cases e2 : j' = n
     ·exact e2
     ·exact absurd ⟨j', by omega, hp'⟩ hn
    subst this
    rw [if_pos hp', e]
end
end Go.Abs
namespace Go.Abs
open Go Pr
set_option maxRecDepth 10000
def flN (g : Gr) (i : Nat) : List Nat := (List.range i).filter fun n => filtB (lat g.p.l n)
noncomputable def wEnt (g : Gr) (x : Nat × Nat) : Nat × V × V := (x.2, .int .i64 x.1, .slR (boolRows (reachL g x.1)) false)
noncomputable def withinE (g : Gr) (i : Nat) : List (Nat × V × V) := (flN g i).zipIdx.map (wEnt g)
theorem flN_succ (g : Gr) (i : Nat) : flN g (i + 1) = flN g i ++ (if filtB (lat g.p.l i) = true then [i] else []) := by
 simp only [flN, List.range_succ, List.filter_append]
 congr 1
 cases h : filtB (lat g.p.l i) <;> simp [h]
theorem withinE_succ (g : Gr) (i : Nat) : withinE g (i + 1) = withinE g i ++ (if filtB (lat g.p.l i) = true then [wEnt g (i, (flN g i).length)] else []) := by
 simp only [withinE, flN_succ, List.zipIdx_append, List.map_append]
 congr 1
 split <;> simp
theorem flN_mem {g : Gr} {i n : Nat} : n ∈ flN g i ↔ n < i ∧ filtB (lat g.p.l n) = true := by simp [flN]
theorem findK_none {n : Int} : ∀ (es : List (Nat × V × V)) (j : Nat), (∀ e ∈ es, ∃ m : Int, e.2.1 = .int .i64 m ∧ n ≠ m) → findK (.int .i64 n) es j = some none
 | [], _, _ => rfl
 | e :: es, j, h => by
  obtain ⟨m, h1, h2⟩ := h e (by simp)
  obtain ⟨c, k, v⟩ := e
  simp only at h1
  subst h1
  simp only [findK, intKey]
  rw [show decide (n = m) = false by simpa using h2]
  exact findK_none es (j + 1) fun e he => h e (by simp [he])
theorem withinE_mem {g : Gr} {i : Nat} {e : Nat × V × V} (h : e ∈ withinE g i) : ∃ n k, e = wEnt g (n, k) ∧ n ∈ flN g i ∧ k < (flN g i).length := by
 simp only [withinE, List.mem_map] at h
 obtain ⟨⟨n, k⟩, h1, rfl⟩ := h
 obtain ⟨h2, h3⟩ := List.mem_zipIdx' h1
 exact ⟨n, k, rfl, h3 ▸ List.getElem_mem _, h2⟩
theorem frz_row {mk k : Nat} {h : Heap} {l : List Bool} : allM (allM (freeze mk h (k + 1))) (boolRows l) = some (boolRows l) := frz_bools l
theorem within_ok (g : Gr) (hg : g.Fine) (hm : mayB g = true) {mk : Nat} {h : Heap} (hmk : mk ≤ h.n) : WF PR false mk (.fn 139 [] []) [.agg g.cells] h fun r =>
  (∃ M, r.v = .map M ∧ r.h.get M = some (.map (withinE g g.p.l.length) (flN g g.p.l.length).length) ∧ h.n ≤ M ∧ M < r.h.n) ∧ h.n ≤ r.h.n ∧ ∀ i, i < h.n → r.h.get i = h.get i := by
 have hok := mayB_ok hm
 have hp60 := hok.p
 refine WF.here hmk ?_
 refine WF.fn (F := f139) rfl rfl rfl (Nat.le_of_ble_eq_true rfl) ?_
 refine wbodyS b139 [.tm 2] rfl rfl ?_
 unfold b139
 simp -dsimp [Gr.cells]
 refine wk_loop (fun k st => ∃ i : Int, 0 ≤ i ∧ (k : Int) = g.p.l.length - i ∧ (gK 10).run st.tm = .int .i64 i ∧ st.h.get h.n = some (.rows [[g.p.enc Pd.cells, g.keys.enc keyCells]]) ∧ st.h.get (h.n + 1) = some (.map (withinE g i.toNat) (flN g i.toNat).length) ∧ h.n + 2 ≤ st.h.n ∧ st.defs = []) g.p.l.length
  ⟨0, by omega, by omega, by simp, by simp, by simp [withinE, flN], by simp, rfl⟩ ?_
 rintro k ⟨tm, h1, defs, round⟩ ⟨i, hi, hk, h10, hb, hM, hn, rfl⟩ hK
 have t1 := hK 1 rfl
 have t3 := hK 3 rfl
 have t8 := hK 8 rfl
 have t9 := hK 9 rfl
 simp at t1 t3 t8 t9 h10 hb hM hn
 clear hK
 simp -dsimp [h10, t9]
 rw [Br_bool]
 refine ⟨fun hc => ?_, fun hc => ?_⟩
 ·simp at hc
  have hc' : i < ((g.p.l.length : Nat) : Int) := by omega
  obtain ⟨p, hp⟩ : ∃ p, lat g.p.l i.toNat = p := ⟨_, rfl⟩
  have n1 : ¬ h.n = h1.n := by omega
  have n2 : ¬ h.n + 1 = h1.n := by omega
  have n3 : h.n ≤ h1.n := by omega
  have hi2 : (i + 1).toNat = i.toNat + 1 := by omega
  have hE := withinE_succ g i.toNat
  have hF := flN_succ g i.toNat
  simp -dsimp [t8, h10, iaddr_Pd hi hc', hp, Pd.cells, n3]
  have e1 : [Sl.enc altCells p.a, V.int IntKind.i64 p.marks, Sl.enc Rg.cells p.no] = p.cells := rfl
  rw [e1]
  refine WFS.by (Filter_ok p) ?_
  intro v h' e
  cases e
  simp -dsimp
  rw [Br_bool]
  refine ⟨fun hd => ?_, fun hd => ?_⟩
  ·rw [hp, if_pos hd] at hE hF
   have n4 : h.n ≤ h1.n + 1 := by omega
   simp -dsimp [t3, t1, n1, hb]
   have e2 : [Sl.enc Pd.cells g.p, Sl.enc keyCells g.keys] = g.cells := rfl
   rw [e2]
   refine WFS.by (from_ok g hg.toSmall i (by simp <;> omega)) ?_
   rintro v h2 ⟨hx, hn2, hk2⟩
   rcases hx with ⟨hx, _⟩ | ⟨_, A, rfl, hA, hA1, hA2⟩
   ·exact absurd ⟨hm, hi, hc'⟩ hx
   simp only at hA hA2 hn2 hA1
   have hl : (reachL g i).length = g.p.l.length := by simp [reachL]
   have hr : rowsOf h2 (.sl A 0 g.p.l.length 1 false) = some (boolRows (reachL g i)) := by
    simp [rowsOf, hA, hl]; rw [List.take_of_length_le (by simp [hl])]
   simp at hA1 hn2
   have n5 : h.n ≤ A := by omega
   have hfz : frzV h.n ⟨.sl A 0 g.p.l.length 1 true, h2⟩ = some ⟨.slR (boolRows (reachL g i)) false, h2.kill A⟩ := by
    have := frz_row (mk := h2.n) (h := h2) (k := 15) (l := reachL g i)
    simp only [frzV, hr, depthMax, this, ble_dec, n5, decide_true, cond]
   rw [hfz]
   have hb2 : h2.get h.n = some (.rows [[g.p.enc Pd.cells, g.keys.enc keyCells]]) := by
    rw [hk2 _ (by simp; omega)]; simp [n1, hb]
   have hM2 : (h2.kill A).get (h.n + 1) = some (.map (withinE g i.toNat) (flN g i.toNat).length) := by
    rw [Heap.get_kill, if_neg (by omega), hk2 _ (by simp; omega)]; simp [n2, hM]
   simp -dsimp [t3, h10]
   have hnone : findK (.int .i64 i) (withinE g i.toNat) 0 = some none := findK_none _ _ fun e he => by
    obtain ⟨n, k, rfl, h3, _⟩ := withinE_mem he
    have := (flN_mem.1 h3).1
    exact ⟨n, rfl, by omega⟩
   have n6 : h.n ≤ h.n + 1 := by omega
   refine OpS.intro (x := ⟨.any, (h2.kill A).set (h.n + 1) (.map (withinE g (i.toNat + 1)) (flN g (i.toNat + 1)).length)⟩) ?_ ?_
   ·simp only [mupdV, hM2, hnone, intOk, ble_dec, n6, decide_true, Bool.and_true, cond, hE, hF, List.length_append, List.length_singleton, wEnt]
    rw [show ((i.toNat : Nat) : Int) = i by omega]
   ·simp -dsimp [h10, fw64 (n := i + 1) (by omega) (by omega)]
    refine Again.intro (k - 1) (by omega) ⟨i + 1, by omega, by omega, by simp, ?_, ?_, ?_, rfl⟩
    ·rw [Heap.get_set, if_neg (by omega), Heap.get_kill, if_neg (by omega), hb2]; rfl
    ·rw [Heap.get_set, if_pos rfl, hi2]
    ·simp; omega
  ·rw [hp, if_neg (by rw [hd]; simp), List.append_nil] at hE hF
   simp -dsimp [h10, fw64 (n := i + 1) (by omega) (by omega)]
   refine Again.intro (k - 1) (by omega) ⟨i + 1, by omega, by omega, by simp, by simp [n1, hb], by rw [hi2, hE, hF]; simp [n2, hM], by simp; omega, rfl⟩
 ·simp at hc
  have hc' : decide (i < (g.p.l.length : Int)) = false := by simpa using hc
  simp -dsimp [hc', t3]
  have : i.toNat = g.p.l.length := by omega
  rw [this] at hM
  exact ⟨hM, by omega⟩
def leastI (g : Gr) (q : Nat → Bool) : Int := if mayB g = true then leastN (fun n => filtB (lat g.p.l n) && q n) g.p.l.length else -1
theorem filter_lt {α : Type} {p q : α → Bool} : ∀ {l : List α}, (∀ x ∈ l, p x = true → q x = true) → (∃ x ∈ l, q x = true ∧ p x = false) → (l.filter p).length < (l.filter q).length
 | [], _, h => by obtain ⟨x, h, _⟩ := h; cases h
 | a :: l, h1, h2 => by
  have hle : ∀ {l : List α}, (∀ x ∈ l, p x = true → q x = true) → (l.filter p).length ≤ (l.filter q).length := by
   intro l
   induction l with
   | nil => intro _; simp
   | cons a l ih =>
    intro h
    have ih := ih fun x hx => h x (by simp [hx])
    have ha := h a (by simp)
    cases hp : p a with
    | true => simp [hp, ha hp]; omega
    | false => cases hq : q a <;> simp [hp, hq] <;> omega
  have h3 := hle (l := l) fun x hx => h1 x (by simp [hx])
  have ha := h1 a (by simp)
  obtain ⟨x, hx, hq, hp⟩ := h2
  rcases List.mem_cons.1 hx with rfl | hx
  ·simp [hp, hq]; omega
  ·have ih := filter_lt (l := l) (fun x hx => h1 x (by simp [hx])) ⟨x, hx, hq, hp⟩
   cases hp : p a with
   | true => simp [hp, ha hp]; omega
   | false => cases hq : q a <;> simp [hp, hq] <;> omega
theorem find_clock {α : Type} : ∀ {es : List (Nat × α)} {e : Nat × α}, (es.map (·.1)).Nodup → e ∈ es → (es.find? fun x => Nat.beq x.1 e.1) = some e
 | [], _, _, h => by cases h
 | a :: es, e, hn, h => by
  simp only [List.map_cons, List.nodup_cons] at hn
  rw [List.find?_cons]
  rcases List.mem_cons.1 h with rfl | h
  ·simp
  ·have : Nat.beq a.1 e.1 = false := by
    cases hb : Nat.beq a.1 e.1 with
    | false => rfl
    | true => simp at hb; exact absurd (List.mem_map.2 ⟨e, h, hb.symm⟩) hn.1
   rw [this]
   exact find_clock hn.2 h
theorem withinE_clocks (g : Gr) (i : Nat) : (withinE g i).map (·.1) = List.range (flN g i).length := by
 simp only [withinE, List.map_map]
 have : ((fun x : Nat × V × V => x.1) ∘ wEnt g) = Prod.snd := by funext x; rfl
 rw [this, List.zipIdx_map_snd, List.range_eq_range']
end Go.Abs
namespace Go.Abs
open Go Pr
set_option maxRecDepth 10000
def rngV (v : V) (h : Heap) : Option VH := match v with
 | .map i => (match h.get i with
  | some (.map _ clock) => some ⟨.ptr h.n 0 0, h.push (.mapIter i clock [] clock)⟩
  | _ => none)
 | _ => none
@[simp] theorem W_rngM {x : Opd} {mk : Nat} {tm : Tm} {h : Heap} : (compW (.rngM x)).run mk tm h = rngV (x.ev tm) h := (rfl)
def entV (v : V) (h : Heap) : Option V := match v with
 | .ptr i 0 0 => (match h.get i with
  | some (.mapIter m _ seen last) => (match h.get m, seen with
   | some (.map es clock), b :: _ => cond (Nat.beq clock last) (match es.find? fun e => Nat.beq e.1 b with
    | some e => some (.tup [e.2.1, e.2.2])
    | none => none) none
   | _, _ => none)
  | _ => none)
 | _ => none
@[simp] theorem R_entry {x : Opd} {tm : Tm} {h : Heap} : (compR (.entry x)).run tm h = entV (x.ev tm) h := (rfl)
theorem nextM_ok {mk I M c : Nat} {seen : List Nat} {es : List (Nat × V × V)} {h : Heap} (hI : h.get I = some (.mapIter M c seen c)) (hM : h.get M = some (.map es c)) (hmk : mk ≤ I) (hc : ∀ e ∈ es, e.1 < c) :
  nextM mk (.ptr I 0 0) h = (match es.filter fun e => !seen.contains e.1 with
     | [] => some [⟨.tup [.bool false], h⟩]
     | e :: left => some ((e :: left).map fun e => ⟨.tup [.bool true, e.2.1, e.2.2], h.set I (.mapIter M c (e.1 :: seen) c)⟩)) := by
 have h1 : es.all (fun e => Nat.blt e.1 c) = true := by
  rw [List.all_eq_true]; intro e he; simpa using hc e he
 simp only [nextM, hI, hM, h1, ble_dec, hmk, decide_true, beq_dec, Bool.and_self, cond]
 cases es.filter fun e => !seen.contains e.1 <;> rfl
theorem least_ok (g : Gr) (hg : g.Fine) (fv : V) (q : Nat → Bool) {d : Bool} {mk : Nat} {h : Heap}
  (hq : ∀ n, n < g.p.l.length → ∀ h', h.n ≤ h'.n → (∀ i, i < h.n → h'.get i = h.get i) → mayB g = true → WF PR false h.n fv [.int .i64 n, .slR (boolRows (reachL g n)) false] h' fun r => r = ⟨.bool (q n), h'⟩) :
  WF PR d mk (.fn 98 [] []) [.agg g.cells, fv] h fun r => r = ⟨.int .i64 (leastI g q), h⟩ := by
 refine WF.pureOne (F := f98) rfl rfl rfl (Nat.le_of_ble_eq_true rfl) ?_
 refine wbodyS b98 [.tm 4] rfl rfl ?_
 unfold b98
 simp -dsimp [Gr.cells]
 refine WFS.by (may_ok g hg.toSmall) ?_
 intro v h1 e
 cases e
 simp -dsimp
 rw [Br_bool]
 refine ⟨fun hb => ?_, fun hb => ?_⟩
 ·simp at hb
  simp -dsimp [leastI, hb]
 simp at hb
 have hok := mayB_ok hb
 have hp60 := hok.p
 simp -dsimp
 have e2 : [Sl.enc Pd.cells g.p, Sl.enc keyCells g.keys] = g.cells := rfl
 rw [e2]
 refine WFS.by (within_ok g hg hb (by simp)) ?_
 rintro v h1 ⟨⟨M, rfl, hM, hM1, hM2⟩, hn1, hk1⟩
 simp only at hM hM2 hn1 hM1
 simp at hn1 hM1
 simp -dsimp [rngV, hM]
 obtain ⟨c, hc⟩ : ∃ c, (flN g g.p.l.length).length = c := ⟨_, rfl⟩
 have hclk : (withinE g g.p.l.length).map (·.1) = List.range c := by rw [withinE_clocks, hc]
 rw [hc] at hM
 obtain ⟨es, hes⟩ : ∃ es, withinE g g.p.l.length = es := ⟨_, rfl⟩
 have hent : ∀ e ∈ es, ∃ n : Nat, n < g.p.l.length ∧ filtB (lat g.p.l n) = true ∧ e.2.1 = .int .i64 n ∧ e.2.2 = .slR (boolRows (reachL g n)) false := fun e he => by
  obtain ⟨n, k, rfl, h3, _⟩ := withinE_mem (hes ▸ he)
  exact ⟨n, (flN_mem.1 h3).1, (flN_mem.1 h3).2, rfl, rfl⟩
 have hfull : ∀ n : Nat, n < g.p.l.length → filtB (lat g.p.l n) = true → ∃ e ∈ es, e.2.1 = .int .i64 n := fun n h1 h2 => by
  have := flN_mem.2 ⟨h1, h2⟩
  rw [List.mem_iff_getElem] at this
  obtain ⟨k, hk, e⟩ := this
  refine ⟨wEnt g (n, k), ?_, rfl⟩
  rw [← hes, withinE, List.mem_map]
  exact ⟨(n, k), by rw [List.mem_zipIdx_iff_getElem?]; simp [e, hk], rfl⟩
 rw [hes] at hM hclk
 have hnd : (es.map (·.1)).Nodup := by rw [hclk]; exact List.nodup_range
 have hlt : ∀ e ∈ es, e.1 < c := fun e he => by
  have : e.1 ∈ es.map (·.1) := List.mem_map.2 ⟨e, he, rfl⟩
  rw [hclk] at this; simpa using this
 refine wk_loop (fun k st => ∃ (seen : List Nat) (o : Int), (es.filter fun e => !decide (e.1 ∈ seen)).length ≤ k ∧ st.h.get h1.n = some (.mapIter M c seen c) ∧ (∀ i, i < h1.n → st.h.get i = h1.get i) ∧ h1.n + 1 ≤ st.h.n ∧ (gK 5).run st.tm = .int .i64 o ∧
   (o = -1 ∨ ∃ j : Nat, o = j ∧ j < g.p.l.length ∧ (filtB (lat g.p.l j) && q j) = true) ∧ (∀ e ∈ es, e.1 ∈ seen → ∀ n : Nat, e.2.1 = .int .i64 n → q n = true → o ≠ -1 ∧ o ≤ n) ∧ st.defs = []) es.length
  ⟨[], -1, by simpa using List.length_filter_le _ _, by simp [hc], by intro i hi; simp; omega, by simp, by simp, .inl rfl, by simp, rfl⟩ ?_
 rintro k ⟨tm, h2, defs, round⟩ ⟨seen, o, hk, hI, hsame, hn2, h5, ho, hmin, rfl⟩ hK
 have t1 := hK 1 rfl
 have t14 := hK 14 rfl
 simp at t1 t14 h5
 simp only at hI hsame hn2 hk
 clear hK
 have hM3 : h2.get M = some (.map es c) := by rw [hsame M hM2, hM]
 have hhn : h.n ≤ h1.n := by omega
 simp -dsimp [t14, nextM_ok hI hM3 hhn hlt]
 split
 ·rename_i hz
  have hfin : leastI g q = o := by
   rw [leastI, if_pos hb]
   refine leastN_eq _ ho fun j hj hp => ?_
   simp only [Bool.and_eq_true] at hp
   obtain ⟨e, he, e3⟩ := hfull j hj hp.1
   refine hmin e he ?_ j e3 hp.2
   have : e ∉ es.filter fun e => !decide (e.1 ∈ seen) := by rw [hz]; simp
   simpa [he] using this
  refine OpS.intro rfl ⟨rfl, by simp, ?_⟩
  intro r hr
  simp at hr
  subst hr
  simp -dsimp [h5, hfin]
 ·rename_i e left hz
  refine OpS.intro rfl ⟨rfl, by simp, ?_⟩
  intro r hr
  have hr2 : ∃ e ∈ es.filter fun e => !decide (e.1 ∈ seen), r = ⟨.tup [.bool true, e.2.1, e.2.2], h2.set h1.n (.mapIter M c (e.1 :: seen) c)⟩ := by
   rw [hz]
   rcases List.mem_cons.1 hr with e1 | e1
   ·exact ⟨e, by simp, e1⟩
   ·obtain ⟨e, he, e1⟩ := List.mem_map.1 e1; exact ⟨e, by simp [he], e1.symm⟩
  clear hr
  obtain ⟨e, he, rfl⟩ := hr2
  simp only [List.mem_filter] at he
  obtain ⟨he, hns⟩ := he
  obtain ⟨n, hn, hf, e3, e4⟩ := hent e he
  have hMI : ¬ M = h1.n := by omega
  have hfd : es.find? (fun x => decide (x.1 = e.1)) = some e := by simpa using find_clock hnd he
  simp -dsimp [t14, entV, hMI, hM3, hfd, e3, e4, h5]
  have hns' : e.1 ∉ seen := by simpa using hns
  have hless : (es.filter fun x => !decide (x.1 ∈ e.1 :: seen)).length < k := by
   refine Nat.lt_of_lt_of_le (filter_lt (fun x _ hx => ?_) ⟨e, he, hns, by simp⟩) hk
   simp only [List.mem_cons, Bool.not_eq_true', decide_eq_false_iff_not, not_or] at hx ⊢
   exact hx.2
  obtain ⟨h3, hh3⟩ : ∃ h3, h2.set h1.n (.mapIter M c (e.1 :: seen) c) = h3 := ⟨_, rfl⟩
  have g1 : h3.get h1.n = some (.mapIter M c (e.1 :: seen) c) := by rw [← hh3, Heap.get_set, if_pos rfl]
  have g2 : ∀ i, i < h1.n → h3.get i = h1.get i := fun i hi => by rw [← hh3, Heap.get_set, if_neg (by omega), hsame i hi]
  have g3 : h1.n + 1 ≤ h3.n := by rw [← hh3, Heap.n_set]; exact hn2
  rw [hh3]
  have hcall : WF PR false h.n fv [.int .i64 n, .slR (boolRows (reachL g n)) false] h3 fun r => r = ⟨.bool (q n), h3⟩ := by
   refine hq n hn h3 (by omega) (fun i hi => ?_) hb
   rw [g2 i (by omega), hk1 i (by simp; omega), Heap.get_push, if_neg (by omega)]
  have hskip : (q n = true → o ≠ -1 ∧ o ≤ n) → ∀ e' ∈ es, e'.1 ∈ e.1 :: seen → ∀ m : Nat, e'.2.1 = .int .i64 m → q m = true → o ≠ -1 ∧ o ≤ m := by
   intro h4 e' he' hs m e5 hqm
   rcases List.mem_cons.1 hs with e6 | hs
   ·have : e' = e := by
     have f1 := find_clock hnd he
     have f2 := find_clock hnd he'
     rw [e6, f1] at f2
     exact (Option.some.inj f2).symm
    subst this
    rw [e3] at e5
    simp at e5
    have : m = n := by omega
    subst this
    exact h4 hqm
   ·exact hmin e' he' hs m e5 hqm
  rw [Gd_f]
  have hyes : q n = true → (o = -1 ∨ (n : Int) < o) → ((n : Int) = -1 ∨ ∃ j : Nat, (n : Int) = j ∧ j < g.p.l.length ∧ (filtB (lat g.p.l j) && q j) = true) ∧ ∀ e' ∈ es, e'.1 ∈ e.1 :: seen → ∀ m : Nat, e'.2.1 = .int .i64 m → q m = true → (n : Int) ≠ -1 ∧ (n : Int) ≤ m := by
   intro hqn hlt
   refine ⟨.inr ⟨n, rfl, hn, by rw [hf, hqn]; rfl⟩, fun e' he' hs m e5 hqm => ⟨by omega, ?_⟩⟩
   rcases List.mem_cons.1 hs with e6 | hs
   ·have : e' = e := by
     have f1 := find_clock hnd he
     have f2 := find_clock hnd he'
     rw [e6, f1] at f2
     exact (Option.some.inj f2).symm
    subst this
    rw [e3] at e5
    simp at e5
    omega
   ·have := hmin e' he' hs m e5 hqm
    omega
  refine ⟨fun hx => ?_, fun hx => ?_⟩
  ·simp at hx
   simp -dsimp [hx, h5]
   rw [Gd_t]
   refine ⟨fun hy => ?_, fun hy => ?_⟩
   ·simp at hy
    simp -dsimp [t1, hy]
    refine WFS.by hcall ?_
    intro v h' e
    cases e
    simp -dsimp
    rw [Br_bool]
    refine ⟨fun hz2 => ?_, fun hz2 => ?_⟩
    ·simp -dsimp
     obtain ⟨y1, y2⟩ := hyes hz2 (.inr hy)
     exact Again.intro _ hless ⟨e.1 :: seen, n, Nat.le_refl _, g1, g2, g3, by simp, y1, y2, rfl⟩
    ·simp -dsimp
     exact Again.intro _ hless ⟨e.1 :: seen, o, Nat.le_refl _, g1, g2, g3, by simp [h5], ho, hskip (by rw [hz2]; simp), rfl⟩
   ·simp at hy
    have hy' : ¬ (n : Int) < o := by omega
    have hs2 := hskip fun _ => ⟨hx, hy⟩
    simp -dsimp [hy']
    exact Again.intro _ hless ⟨e.1 :: seen, o, Nat.le_refl _, g1, g2, g3, by simp [h5], ho, hs2, rfl⟩
  ·simp at hx
   simp -dsimp [hx, t1]
   refine WFS.by hcall ?_
   intro v h' e
   cases e
   simp -dsimp
   rw [Br_bool]
   refine ⟨fun hz2 => ?_, fun hz2 => ?_⟩
   ·simp -dsimp
    obtain ⟨y1, y2⟩ := hyes hz2 (.inl hx)
    exact Again.intro _ hless ⟨e.1 :: seen, n, Nat.le_refl _, g1, g2, g3, by simp, y1, y2, rfl⟩
   ·simp -dsimp
    exact Again.intro _ hless ⟨e.1 :: seen, o, Nat.le_refl _, g1, g2, g3, by simp [h5], ho, hskip (by rw [hz2]; simp), rfl⟩
theorem Bad1_ok (g : Gr) (hm : mayB g = true) (n : Nat) (hn : n < g.p.l.length) {G : Nat} {d : Bool} {mk : Nat} {h : Heap} (hG : h.get G = some (.rows [g.cells])) :
  WF PR d mk (.fn 99 [] [.ptr G 0 0]) [.int .i64 n, .slR (boolRows (reachL g n)) false] h fun r => r = ⟨.bool (lat (reachL g n) n || someM g (reachL g n) 2), h⟩ := by
 have hok := mayB_ok hm
 have hp60 := hok.p
 have hl : (reachL g n).length = g.p.l.length := by simp [reachL]
 refine WF.pureOne (F := f99) rfl rfl rfl (Nat.le_of_ble_eq_true rfl) ?_
 refine wbodyS b99 [.tm 5] rfl rfl ?_
 unfold b99
 have c0 : (0 : Int) ≤ n := by omega
 have c1 : (n : Int) < (reachL g n).length := by omega
 simp -dsimp [iaddr_bools c0 c1]
 rw [Gd_f]
 refine ⟨fun hb => ?_, fun hb => ?_⟩
 ·simp -dsimp [hb, hG, Gr.cells]
  refine WFS.by (someM_ok g (reachL g n) hl (by omega) 2 (by simp)) ?_
  intro v h' e
  cases e
  simp -dsimp [hb]
 ·simp -dsimp [hb]
theorem Laid1_ok (g : Gr) (hm : mayB g = true) (n : Nat) (hn : n < g.p.l.length) {G : Nat} {d : Bool} {mk : Nat} {h : Heap} (hG : h.get G = some (.rows [g.cells])) :
  WF PR d mk (.fn 101 [] [.ptr G 0 0]) [.int .i64 n, .slR (boolRows (reachL g n)) false] h fun r => r = ⟨.bool (markB (lat g.p.l n).marks 1 || someM g (reachL g n) 1), h⟩ := by
 have hok := mayB_ok hm
 have hp60 := hok.p
 have hl : (reachL g n).length = g.p.l.length := by simp [reachL]
 refine WF.pureOne (F := f101) rfl rfl rfl (Nat.le_of_ble_eq_true rfl) ?_
 refine wbodyS b101 [.tm 5] rfl rfl ?_
 unfold b101
 have c0 : (0 : Int) ≤ n := by omega
 have c1 : (n : Int) < (g.p.l.length : Nat) := by omega
 obtain ⟨p, hp⟩ : ∃ p, lat g.p.l n = p := ⟨_, rfl⟩
 simp -dsimp [hG, Gr.cells, iaddr_Pd c0 c1, hp, Pd.cells]
 have e1 : [Sl.enc altCells p.a, V.int IntKind.i64 p.marks, Sl.enc Rg.cells p.no] = p.cells := rfl
 rw [e1]
 refine WFS.by (hasM_ok p 1 (by simp)) ?_
 intro v h' e
 cases e
 simp -dsimp
 rw [Gd_f]
 refine ⟨fun hb => ?_, fun hb => ?_⟩
 ·simp -dsimp [hb, hG, Gr.cells]
  refine WFS.by (someM_ok g (reachL g n) hl (by omega) 1 (by simp)) ?_
  intro v h' e
  cases e
  simp -dsimp [hp, hb]
 ·simp -dsimp [hp, hb]
noncomputable def badI (g : Gr) : Int := leastI g fun n => lat (reachL g n) n || someM g (reachL g n) 2
noncomputable def laidI (g : Gr) : Int := leastI g fun n => markB (lat g.p.l n).marks 1 || someM g (reachL g n) 1
section
variable {d : Bool} {mk : Nat} {h : Heap}
theorem Bad_ok (g : Gr) (hg : g.Fine) : WF PR d mk (.fn 63 [] []) [.agg g.cells] h fun r => r = ⟨.int .i64 (badI g), h⟩ := by
 refine WF.pureOne (F := f63) rfl rfl rfl (Nat.le_of_ble_eq_true rfl) ?_
 refine wbodyS b63 [.tm 2] rfl rfl ?_
 unfold b63
 have e2 : [Sl.enc Pd.cells g.p, Sl.enc keyCells g.keys] = g.cells := rfl
 simp -dsimp [Gr.cells]
 rw [e2]
 refine WFS.by (least_ok g hg _ _ fun n hn h' h1 h2 hm => Bad1_ok g hm n hn (by rw [h2 _ (by simp)]; simp)) ?_
 intro v h' e
 cases e
 simp -dsimp [badI]
theorem Laid_ok (g : Gr) (hg : g.Fine) : WF PR d mk (.fn 64 [] []) [.agg g.cells] h fun r => r = ⟨.int .i64 (laidI g), h⟩ := by
 refine WF.pureOne (F := f64) rfl rfl rfl (Nat.le_of_ble_eq_true rfl) ?_
 refine wbodyS b64 [.tm 2] rfl rfl ?_
 unfold b64
 have e2 : [Sl.enc Pd.cells g.p, Sl.enc keyCells g.keys] = g.cells := rfl
 simp -dsimp [Gr.cells]
 rw [e2]
 refine WFS.by (least_ok g hg _ _ fun n hn h' h1 h2 hm => Laid1_ok g hm n hn (by rw [h2 _ (by simp)]; simp)) ?_
 intro v h' e
 cases e
 simp -dsimp [laidI]
end
end Go.Abs
namespace Go.Abs
open Go Pr
set_option maxRecDepth 10000
theorem nodup_len : ∀ (N : Nat) (l : List Int), l.Nodup → (∀ x ∈ l, 0 ≤ x ∧ x < N) → l.length ≤ N
 | 0, l, _, h => by
  cases l with
  | nil => simp
  | cons x l => have := h x (by simp); omega
 | N + 1, l, hn, h => by
  have h1 := nodup_len N (l.erase (N : Int)) (hn.erase _) (fun x hx => by
   have a := (List.Nodup.mem_erase_iff hn).1 hx
   have b := h x a.2
   omega)
  have h2 : l.length ≤ (l.erase (N : Int)).length + 1 := by rw [List.length_erase]; split <;> omega
  omega
theorem nodup_full {N : Nat} {l : List Int} (hn : l.Nodup) (h : ∀ x ∈ l, 0 ≤ x ∧ x < N) (hl : N ≤ l.length) : ∀ k : Int, 0 ≤ k → k < N → k ∈ l := by
 intro k h0 h1
 apply Classical.byContradiction
 intro hk
 have := nodup_len N (k :: l) (List.nodup_cons.2 ⟨hk, hn⟩) (fun x hx => by
  rcases List.mem_cons.1 hx with rfl | hx
  ·exact ⟨h0, h1⟩
  ·exact h x hx)
 simp at this; omega
def Topo (g : Gr) (out : List Int) : Prop := ∀ i (h : i < out.length), ∀ c ∈ leftsL g out[i], c ∈ out.take i
theorem topo_acyclic {g : Gr} {out : List Int} (ht : Topo g out) (hn : out.Nodup) (hf : ∀ k : Int, 0 ≤ k → k < g.p.l.length → k ∈ out) : ∀ n : Int, 0 ≤ n → n < g.p.l.length → ¬ Comes g n n := by
 have key : ∀ a b, Comes g a b → ∀ i (hi : i < out.length), out[i] = a → ∃ j, j < i ∧ ∃ hj : j < out.length, out[j] = b := by
  intro a b hc
  induction hc with
  | one h =>
   intro i hi e
   have := ht i hi _ (e ▸ h)
   obtain ⟨j, hj, e2⟩ := List.mem_take_iff_getElem.1 this
   exact ⟨j, by omega, by omega, e2⟩
  | more _ h ih =>
   intro i hi e
   obtain ⟨j, hj, hj', e2⟩ := ih i hi e
   have := ht j hj' _ (e2 ▸ h)
   obtain ⟨q, hq, e3⟩ := List.mem_take_iff_getElem.1 this
   exact ⟨q, by omega, by omega, e3⟩
 intro n h0 h1 hc
 obtain ⟨i, hi, e⟩ := List.getElem_of_mem (hf n h0 h1)
 obtain ⟨j, hj, hj', e2⟩ := key n n hc i hi e
 have := (List.getElem_inj hn (h₀ := hi) (h₁ := hj')).1 (by rw [e, e2])
 omega
theorem topo_snoc {g : Gr} {out : List Int} {n : Int} (ht : Topo g out) (h : ∀ c ∈ leftsL g n, c ∈ out) : Topo g (out ++ [n]) := by
 intro i hi c hc
 by_cases e : i < out.length
 ·rw [List.getElem_append_left e] at hc
  rw [List.take_append_of_le_length (by omega)]
  exact ht i e c hc
 ·have e2 : i = out.length := by simp at hi; omega
  subst e2
  rw [List.getElem_append_right (by omega)] at hc
  simp at hc ⊢
  exact h c hc
theorem own_read {h h' : Heap} {m : Nat} {v : V} {l : List Int} (hO : Own h m v 1 (intRows l)) (hk : ∀ j, m ≤ j → j < h.n → h'.get j = h.get j) : lenV .sl v h' = some (.int .i64 l.length) ∧ ∀ j : Int, 0 ≤ j → j < l.length → ∃ p, iaddrV 1 v (.int .i64 j) = some p ∧ loadV none p h' = some (.int .i64 (lat l j.toNat)) := by
 rcases hO with ⟨rfl, e⟩ | ⟨id, rfl, e2, e3, e4, e5⟩
 ·have : l = [] := by simpa [intRows] using e
  subst this
  exact ⟨by simp, fun j h0 h1 => by simp at h1; omega⟩
 ·refine ⟨by simp, fun j h0 h1 => ⟨.ptr id (0 + j.toNat) 0, iaddr_sl h0 (by simpa using h1), ?_⟩⟩
  rw [loadV_ptr, hk id e3 e4, e2, loadAt_rows, Nat.zero_add, intRow_get (by omega)]
  rfl
noncomputable def waits (g : Gr) (out : List Int) (k : Int) : Nat := (leftsL g k).countP fun c => !out.contains c
theorem waits_nil (g : Gr) (k : Int) : waits g [] k = (leftsL g k).length := by
 simp [waits]
theorem waits_zero {g : Gr} {out : List Int} {k : Int} (h : waits g out k = 0) : ∀ c ∈ leftsL g k, c ∈ out := by
 intro c hc
 have := List.countP_eq_zero.1 h c hc
 simpa using this
theorem waits_snoc {g : Gr} {out : List Int} {n k : Int} (hn : n ∉ out) : waits g out k = waits g (out ++ [n]) k + (leftsL g k).count n := by
 unfold waits
 induction leftsL g k with
 | nil => simp
 | cons c l ih =>
  simp only [List.countP_cons, List.count_cons]
  by_cases e : c = n
  ·subst e
   simp [hn] at ih ⊢; omega
  ·by_cases e2 : c ∈ out
   ·simp [e, e2] at ih ⊢; omega
   ·simp [e, e2] at ih ⊢; omega
structure OrdH (h : Heap) (W : Nat) (h' : Heap) (wt pl : List Int) (v : V) (out : List Int) : Prop where
 keep : ∀ i, i < h.n → i ≠ W → h'.get i = h.get i
 w : h'.get W = some (.rows (intRows wt))
 p : PileR h' h.n h.n pl
 o : Own h' h.n v 1 (intRows out)
 oq : slId v ≠ some h.n
 op : ∀ j, slId v = some j → pid h' h.n ≠ some j
theorem OrdH.turn {h h' h'' : Heap} {W : Nat} {wt pl pl' : List Int} {v : V} {out : List Int} (hO : OrdH h W h' wt pl v out) (hW : W < h.n) (hP : PileR h'' h.n h.n pl') (hF : PF h.n h' h'') : OrdH h W h'' wt pl' v out := by
 obtain ⟨h1, h2, h3, h4, h5, h6⟩ := hO
 have hn : h.n < h'.n := h3.lq
 have hp : ∀ j, pid h' h.n = some j → h.n ≤ j := by
  intro j e
  obtain ⟨_, _, v0, e1, e2⟩ := h3
  rcases e2 with ⟨rfl, _⟩ | ⟨id, L, rfl, _, e4, _⟩
  ·simp [pid, e1] at e
  ·simp [pid, e1] at e; omega
 have hk : ∀ j, j < h.n → h''.get j = h'.get j := fun j hj => hF.keep j (by omega) (by omega) (fun e => by have := hp j e; omega)
 refine ⟨fun i hi hw => by rw [hk i hi, h1 i hi hw], by rw [hk W hW, h2], hP, ?_, h5, fun j hj e => ?_⟩
 ·rcases h4 with e | ⟨id, e1, e2, e3, e4, e5⟩
  ·exact .inl e
  ·refine .inr ⟨id, e1, ?_, e3, by have := hF.n; omega, e5⟩
   have hid : slId v = some id := by rw [e1]; rfl
   rw [hF.keep id e4 (fun e => h5 (by rw [hid, e])) (h6 id hid), e2]
 ·rcases h4 with ⟨e1, _⟩ | ⟨id, e1, e2, e3, e4, e5⟩
  ·rw [e1] at hj; simp [slId] at hj
  ·have hid : slId v = some id := by rw [e1]; rfl
   have hij : id = j := by rw [hid] at hj; exact Option.some.inj hj
   rw [hij] at hid e4
   rcases hF.id j e with h7 | h7
   ·omega
   ·exact h6 j hid h7
theorem order_ok (g : Gr) (hm : mayB g = true) {K W R m1 mk : Nat} {h : Heap} {wt0 : List Int} {rt : List (List Int)} (hRk : RkR h K W R m1 wt0 rt) (hW : WtP g g.p.l.length wt0) (hR : RtP g g.p.l.length 0 rt) (hmk : mk ≤ W) :
  WF PR false mk (.fn 132 [] []) [.ptr K 0 0] h fun r => ∃ out, Own r.h h.n r.v 1 (intRows out) ∧ out.Nodup ∧ (∀ x ∈ out, 0 ≤ x ∧ x < g.p.l.length) ∧ Topo g out := by
 have hok := mayB_ok hm
 have hp60 := hok.p
 have hlW : W < h.n := by have := hRk.lw; have := hRk.n; omega
 have hkK := hRk.k
 rw [hW.len, hR.len] at hkK
 have hKW := hRk.kw
 have hlK : K < h.n := by have := hRk.lk; have := hRk.n; omega
 refine WF.fn (F := f132) rfl rfl rfl (Nat.le_of_ble_eq_true rfl) ?_
 refine wbodyS b132 [.tm 2] rfl rfl ?_
 unfold b132
 have e1 : ¬ K = h.n := by omega
 simp -dsimp [hkK, e1]
 have put : ∀ (h' : Heap) (pl : List Int) (x : Int), PileR h' h.n h.n pl → pl.length < 1000 → WF PR false mk (.fn 159 [.ptr h.n 0 0] []) [.int .i64 x] h' fun r => r.v = .tup [] ∧ ∃ l', PileR r.h h.n h.n l' ∧ l'.Perm (pl ++ [x]) ∧ PF h.n h' r.h := fun h' pl x hP hl =>
  WF.lower PR_mon (WF.join (put_ok hP (by omega) x)) (by omega)
 refine wk_loop (fun k st => ∃ (i : Int) (pl : List Int), 0 ≤ i ∧ (k : Int) = g.p.l.length - i ∧ (gK 17).run st.tm = .int .i64 i ∧ OrdH h W st.h wt0 pl .nils [] ∧ pl.Nodup ∧ (∀ x ∈ pl, 0 ≤ x ∧ x < i ∧ lat wt0 x.toNat = 0) ∧ st.defs = []) g.p.l.length
  ⟨0, [], by omega, by omega, by simp, ⟨fun i hi _ => by simp; omega, by simp; rw [if_neg (by omega)]; exact hRk.w, ⟨Nat.le_refl _, by simp, .nils, by simp, .inl ⟨rfl, rfl⟩⟩, .inl ⟨rfl, rfl⟩, by simp [slId], by simp [slId]⟩, by simp, by simp, rfl⟩ ?_
 rintro k ⟨tm, h1, defs, round⟩ ⟨i, pl, hi, hk, h17, hO, hnd, hpl, rfl⟩ hK
 have h0 := hK 0 rfl
 have h3 := hK 3 rfl
 have h4 := hK 4 rfl
 have h15 := hK 15 rfl
 have h16 := hK 16 rfl
 simp at h0 h3 h4 h15 h16 h17 hO
 clear hK
 simp -dsimp [h16, h17]
 rw [Br_bool]
 refine ⟨fun hc => ?_, fun hc => ?_⟩
 ·simp at hc
  have hlt : i.toNat < wt0.length := by rw [hW.len]; omega
  have hplen := nodup_len g.p.l.length pl hnd (fun x hx => by have := hpl x hx; omega)
  have fi : fw .i64 (i + 1) = i + 1 := fw64 (by omega) (by omega)
  simp -dsimp [h15, h17, iaddr_sl (e := 1) (id := W) (b := 0) (n := g.p.l.length) (f := true) (k := .i64) hi hc, hO.w, intRow_get hlt]
  rw [Br_bool]
  refine ⟨fun hd => ?_, fun hd => ?_⟩
  ·simp at hd
   simp -dsimp [h4]
   refine WFS.by (put h1 pl i hO.p (by omega)) ?_
   rintro v h2 ⟨rfl, l', hP2, hp, hpf⟩
   simp -dsimp [h17, fi]
   have hin : i ∉ pl := fun e => by have := hpl i e; omega
   refine Again.intro (k - 1) (by omega) ⟨i + 1, l', by omega, by omega, by simp, hO.turn hlW hP2 hpf, ?_, fun x hx => ?_, rfl⟩
   ·rw [hp.nodup_iff]
    exact List.nodup_append.2 ⟨hnd, by simp, by simpa using fun a ha (e : a = i) => hin (by rw [← e]; exact ha)⟩
   ·rcases List.mem_append.1 (hp.mem_iff.1 hx) with h6 | h6
    ·have := hpl x h6; omega
    ·simp at h6; subst h6; exact ⟨hi, by omega, hd⟩
  ·simp -dsimp [h17, fi]
   exact Again.intro (k - 1) (by omega) ⟨i + 1, pl, by omega, by omega, by simp, hO, hnd, fun x hx => by have := hpl x hx; omega, rfl⟩
 ·simp at hc
  have hc' : decide (i < (g.p.l.length : Int)) = false := by simpa using hc
  simp -dsimp [hc']
  have hkeepW : ∀ k : Nat, k < g.p.l.length → (lat wt0 k : Int) = waits g [] k := fun k hk => by rw [hW.val k hk, waits_nil]
  refine wk_loop (fun k st => ∃ (out pl wt : List Int), k = g.p.l.length - out.length ∧ OrdH h W st.h wt pl ((gK 7).run st.tm) out ∧ wt.length = g.p.l.length ∧ (∀ k : Nat, k < g.p.l.length → lat wt k = waits g out k) ∧ (out ++ pl).Nodup ∧ (∀ x ∈ out ++ pl, 0 ≤ x ∧ x < g.p.l.length ∧ waits g out x = 0) ∧ Topo g out ∧ st.defs = []) g.p.l.length
   ⟨[], pl, wt0, by simp, by simpa using hO, hW.len, hkeepW, by simpa using hnd, fun x hx => ?_, fun i hi => by simp at hi, rfl⟩ ?_
  ·have := hpl x (by simpa using hx)
   have h8 := hkeepW x.toNat (by omega)
   rw [this.2.2] at h8
   rw [show ((x.toNat : Nat) : Int) = x by omega] at h8
   exact ⟨by omega, by omega, by omega⟩
  rintro k2 ⟨tm2, h2, defs, round⟩ ⟨out, pl2, wt, hk2, hO2, hwl, hwt, hnd2, hmem2, htopo, rfl⟩ hK
  have h0' := hK 0 rfl
  have h3' := hK 3 rfl
  have h4' := hK 4 rfl
  simp [h0, h3, h4] at h0' h3' h4' hO2
  clear hK
  simp -dsimp [h3']
  refine WFS.by (WF.lower PR_mon (pileLen_ok hO2.p) (show mk ≤ h.n by omega)) ?_
  intro v h5 e
  cases e
  simp -dsimp
  rw [Br_bool]
  have hlen2 := nodup_len g.p.l.length _ hnd2 (fun x hx => ⟨(hmem2 x hx).1, (hmem2 x hx).2.1⟩)
  simp only [List.length_append] at hlen2
  refine ⟨fun hb => ?_, fun hb => ?_⟩
  ·simp at hb
   have hne : pl2 ≠ [] := fun e => by rw [e] at hb; simp at hb
   simp -dsimp [h3']
   refine WFS.by (WF.lower PR_mon (take_ok hO2.p (by omega) hne) (show mk ≤ h.n by omega)) ?_
   rintro v h6 ⟨x, pl3, rfl, hP3, hp3, hpf3⟩
   have hO3 := hO2.turn hlW hP3 hpf3
   simp only at hO3
   have hxm : x ∈ pl2 := hp3.mem_iff.1 (by simp)
   have hx := hmem2 x (by simp [hxm])
   have hxl : x.toNat < g.p.l.length := by omega
   have hxx : ((x.toNat : Nat) : Int) = x := by omega
   have hnd3 : (out ++ [x] ++ pl3).Nodup := by
    have : (out ++ (x :: pl3)).Nodup := (List.Perm.append_left out hp3).nodup_iff.2 hnd2
    simpa using this
   have hxo : x ∉ out := by
    intro e
    have := (List.nodup_append.1 hnd2).2.2 x e x hxm
    exact this rfl
   simp -dsimp
   refine OpS.ex ?_
   rw [W_append (xs := [[.int .i64 x]]) (by simp)]
   have hO3n := hO3.p.lq
   obtain ⟨v', h7, w1, w2, w3, w4, w5⟩ := own_append (mk := mk) (bytes := 8) (xs := [[.int .i64 x]]) hO3.o (by omega) (by simp) (by simp; omega) (by omega) (by omega)
   simp only [ev_t, gK_sK, Nat.reduceEqDiff, if_false, if_true]
   refine ⟨_, w1, ?_⟩
   have x0 : ∀ q, q < h.n → h7.get q = h6.get q := fun q hq => w4 q (by omega) (hO3.o.slId hq)
   have x1 : ∀ q, q < h.n → q ≠ W → h7.get q = h.get q := fun q hq hw => by rw [x0 q hq, hO3.keep q hq hw]
   have x2 : h7.get K = some (Obj.rows [[V.sl W 0 g.p.l.length 1 true, V.sl R 0 g.p.l.length 1 true]]) := by rw [x1 K hlK hKW, hkK]
   have hlR : R < h.n := by have := hRk.lr; have := hRk.n; omega
   obtain ⟨vs, r3, r4⟩ := hRk.r
   have x3 : h7.get R = some (.rows (vs.map fun v => [v])) := by rw [x1 R hlR (Ne.symm hRk.wr), r3]
   have hvl : vs.length = g.p.l.length := by rw [r4.len, hR.len]
   have hget : (vs.map fun v => [v])[x.toNat]? = some [lat vs x.toNat] := by simp [lat_get (show x.toNat < vs.length by omega)]
   have hpq : pid h7 h.n = pid h6 h.n := by
    unfold pid
    rw [w4 h.n hO3n hO3.oq]
   have hrd := own_read (h' := h7) (r4.own x.toNat (by omega)) (fun q hq1 hq2 => x1 q hq2 (by have := hRk.lw; omega))
   obtain ⟨l, hl⟩ : ∃ l, lat rt x.toNat = l := ⟨_, rfl⟩
   rw [hl] at hrd
   have hcount : ∀ k : Int, 0 ≤ k → k < g.p.l.length → l.count k = (leftsL g k).count x := fun k h0 h1 => by
    have := hR.count x.toNat hxl k
    rw [hl, rc, if_pos ⟨h0, h1⟩, hxx] at this
    exact this
   have hlrange : ∀ c ∈ l, 0 ≤ c ∧ c < g.p.l.length := fun c hc => by
    have := hR.count x.toNat hxl c
    rw [hl, rc] at this
    have h8 : 0 < l.count c := List.count_pos_iff.2 hc
    apply Classical.byContradiction
    intro hcc
    rw [if_neg hcc] at this
    split at this
    ·simp at this; omega
    ·omega
   have hllen : l.length ≤ 320 * 60 := by have := hR.room x.toNat hxl; rw [hl] at this; omega
   have hO4 : OrdH h W h7 wt pl3 v' (out ++ [x]) := by
    refine ⟨x1, by rw [x0 W hlW, hO3.w], ?_, by simpa [intRows] using w2, fun e => ?_, fun j hj e => ?_⟩
    ·obtain ⟨p1, p2, v0, p3, p4⟩ := hO3.p
     refine ⟨p1, by omega, v0, by rw [w4 h.n hO3n hO3.oq, p3], ?_⟩
     rcases p4 with p5 | ⟨id, L, p5, p6, p7, p8, p9⟩
     ·exact .inl p5
     ·refine .inr ⟨id, L, p5, ?_, p7, by omega, p9⟩
      rw [w4 id p8 (fun e => hO3.op id e (by simp [pid, p3, p5])), p6]
    ·rcases w5 h.n e with h8 | h8
     ·omega
     ·exact hO3.oq h8
    ·rw [hpq] at e
     rcases w5 j hj with h8 | h8
     ·obtain ⟨p1, p2, v0, p3, p4⟩ := hO3.p
      rcases p4 with ⟨p5, _⟩ | ⟨id, L, p5, p6, p7, p8, p9⟩
      ·rw [p5] at p3; simp [pid, p3] at e
      ·rw [p5] at p3; simp [pid, p3] at e; omega
     ·exact hO3.op j h8 e
   have hx0 : 0 ≤ x := hx.1
   have hx1 : x < ((g.p.l.length : Nat) : Int) := hx.2.1
   simp -dsimp [h0', x2, iaddr_sl (e := 1) (id := R) (b := 0) (n := g.p.l.length) (f := true) (k := .i64) hx0 hx1, x3, hget, hrd.1]
   have hq0 : ∀ q, q < h.n → q ≠ W → h7.get q = h.get q := x1
   refine wk_loop (fun k3 st => ∃ (j : Int) (pl4 wt4 : List Int), 0 ≤ j ∧ (k3 : Int) = l.length - j ∧ (gK 43).run st.tm = .int .i64 j ∧ OrdH h W st.h wt4 pl4 v' (out ++ [x]) ∧ wt4.length = g.p.l.length ∧ (∀ k : Nat, k < g.p.l.length → lat wt4 k = ((waits g (out ++ [x]) k + (l.drop j.toNat).count (k : Int) : Nat) : Int)) ∧ (out ++ [x] ++ pl4).Nodup ∧ (∀ y ∈ out ++ [x] ++ pl4, 0 ≤ y ∧ y < g.p.l.length ∧ lat wt4 y.toNat = 0) ∧ st.defs = []) l.length
    ⟨0, pl3, wt, by omega, by omega, by simp, hO4, hwl, fun k hk => ?_, hnd3, fun y hy => ?_, rfl⟩ ?_
   ·rw [hwt k hk, waits_snoc hxo, ← hcount k (by omega) (by omega)]; simp
   ·have hy2 : y ∈ out ++ pl2 := by
     rcases List.mem_append.1 hy with h8 | h8
     ·rcases List.mem_append.1 h8 with h9 | h9
      ·simp [h9]
      ·simp at h9; subst h9; simp [hxm]
     ·have : y ∈ pl2 := hp3.mem_iff.1 (by simp [h8])
      simp [this]
    have h8 := hmem2 y hy2
    refine ⟨h8.1, h8.2.1, ?_⟩
    rw [hwt y.toNat (by omega), show ((y.toNat : Nat) : Int) = y by omega, h8.2.2]; rfl
   rintro k3 ⟨tm3, h8, defs, round⟩ ⟨j, pl4, wt4, hj, hk3, h43, hO5, hwl4, hwt4, hnd4, hmem4, rfl⟩ hK
   have q0 := hK 0 rfl
   have q4 := hK 4 rfl
   have q7 := hK 7 rfl
   have q41 := hK 41 rfl
   have q42 := hK 42 rfl
   simp [h0', h4'] at q0 q4 q7 q41 q42 h43 hO5
   clear hK
   simp -dsimp [q42, h43]
   rw [Br_bool]
   have hlen4 := nodup_len g.p.l.length _ hnd4 (fun y hy => ⟨(hmem4 y hy).1, (hmem4 y hy).2.1⟩)
   simp only [List.length_append, List.length_singleton] at hlen4
   refine ⟨fun hc2 => ?_, fun hc2 => ?_⟩
   ·simp at hc2
    have hjl : j.toNat < l.length := by omega
    obtain ⟨c, hcc⟩ : ∃ c, lat l j.toNat = c := ⟨_, rfl⟩
    have hcm : c ∈ l := hcc ▸ lat_mem hjl
    obtain ⟨hc0, hc1⟩ := hlrange c hcm
    have hcl : c.toNat < g.p.l.length := by omega
    have hcn : ((c.toNat : Nat) : Int) = c := by omega
    have hrd8 := own_read (h' := h8) (r4.own x.toNat (by omega)) (fun q hq1 hq2 => hO5.keep q hq2 (by have := hRk.lw; omega))
    rw [hl] at hrd8
    obtain ⟨p, p1, p2⟩ := hrd8.2 j hj hc2
    rw [hcc] at p2
    have fj : fw .i64 (j + 1) = j + 1 := fw64 (by omega) (by omega)
    have y2 : h8.get K = some (Obj.rows [[V.sl W 0 g.p.l.length 1 true, V.sl R 0 g.p.l.length 1 true]]) := by rw [hO5.keep K hlK hKW, hkK]
    have hdrop : l.drop j.toNat = c :: l.drop (j.toNat + 1) := by rw [drop_lat hjl, hcc]
    have hj2 : (j + 1).toNat = j.toNat + 1 := by omega
    obtain ⟨w, hw⟩ : ∃ w, lat wt4 c.toNat = w := ⟨_, rfl⟩
    have hwv := hwt4 c.toNat hcl
    rw [hw, hcn, hdrop, List.count_cons_self] at hwv
    have hcle : ((l.drop (j.toNat + 1)).count c) ≤ 320 * 60 := Nat.le_trans List.count_le_length (by simp; omega)
    have hwle : waits g (out ++ [x]) c ≤ 320 := Nat.le_trans List.countP_le_length (leftsL_len g c)
    have fw1 : fw .i64 (w - 1) = w - 1 := fw64 (by omega) (by omega)
    have hlt4 : c.toNat < wt4.length := by omega
    have hc1' : c < ((g.p.l.length : Nat) : Int) := hc1
    have hget2 : ∀ z, (intRows (wt4.set c.toNat z))[c.toNat]? = some [.int .i64 z] := fun z => by
     rw [intRow_get (by simpa using hlt4), lat_set hlt4, if_pos rfl]
    simp -dsimp [q41, h43, p1, p2, q0, y2, iaddr_sl (e := 1) (id := W) (b := 0) (n := g.p.l.length) (f := true) (k := .i64) hc0 hc1', hO5.w, intRow_get hlt4, hw, fw1, hmk, hKW]
    rw [intRows_set]
    simp -dsimp [hget2]
    rw [Br_bool]
    have hO6 : OrdH h W (h8.set W (.rows (intRows (wt4.set c.toNat (w - 1))))) (wt4.set c.toNat (w - 1)) pl4 v' (out ++ [x]) := by
     obtain ⟨k1, k2, k3, k4, k5, k6⟩ := hO5
     have hpw : ∀ q, q ≠ W → (h8.set W (.rows (intRows (wt4.set c.toNat (w - 1))))).get q = h8.get q := fun q hq => by rw [Heap.get_set, if_neg hq]
     refine ⟨fun q hq hqw => by rw [hpw q hqw, k1 q hq hqw], by rw [Heap.get_set, if_pos rfl], ?_, ?_, k5, fun q hq e => k6 q hq (by simpa [pid, hpw h.n (by omega)] using e)⟩
     ·obtain ⟨a1, a2, v0, a3, a4⟩ := k3
      refine ⟨a1, by simpa using a2, v0, by rw [hpw _ (by omega), a3], ?_⟩
      rcases a4 with a5 | ⟨id, L, a5, a6, a7, a8, a9⟩
      ·exact .inl a5
      ·exact .inr ⟨id, L, a5, by rw [hpw _ (by omega), a6], a7, by simpa using a8, a9⟩
     ·rcases k4 with a5 | ⟨id, a5, a6, a7, a8, a9⟩
      ·exact .inl a5
      ·exact .inr ⟨id, a5, by rw [hpw _ (by omega), a6], a7, by simpa using a8, a9⟩
    have hcnew : c ∉ out ++ [x] ++ pl4 := fun e => by
     have := (hmem4 c e).2.2
     rw [hw, hwv] at this; omega
    have hwt5 : ∀ k : Nat, k < g.p.l.length → lat (wt4.set c.toNat (w - 1)) k = ((waits g (out ++ [x]) k + (l.drop (j + 1).toNat).count (k : Int) : Nat) : Int) := fun k hk => by
     rw [lat_set (by omega), hj2]
     by_cases e : k = c.toNat
     ·rw [if_pos e, hwv, e, hcn]; omega
     ·rw [if_neg e, hwt4 k hk, hdrop, List.count_cons_of_ne (fun e2 => e (by omega))]
    have hmem5 : ∀ y ∈ out ++ [x] ++ pl4, 0 ≤ y ∧ y < g.p.l.length ∧ lat (wt4.set c.toNat (w - 1)) y.toNat = 0 := fun y hy => by
     have a := hmem4 y hy
     refine ⟨a.1, a.2.1, ?_⟩
     rw [lat_set (by omega), if_neg (fun e => hcnew (by rw [show c = y by omega]; exact hy))]
     exact a.2.2
    refine ⟨fun hd => ?_, fun hd => ?_⟩
    ·simp at hd
     simp -dsimp [q4]
     refine WFS.by (put _ pl4 c hO6.p (by omega)) ?_
     rintro v h9 ⟨rfl, l', hP9, hp9, hpf9⟩
     have hO7 := hO6.turn hlW hP9 hpf9
     simp -dsimp [h43, fj]
     have hperm : (out ++ [x] ++ l').Perm (out ++ [x] ++ pl4 ++ [c]) := by
      have := List.Perm.append_left (out ++ [x]) hp9
      simpa using this
     refine Again.intro (k3 - 1) (by omega) ⟨j + 1, l', _, by omega, by omega, by simp, hO7, by simpa using hwl4, hwt5, ?_, fun y hy => ?_, rfl⟩
     ·rw [hperm.nodup_iff]
      exact List.nodup_append.2 ⟨hnd4, by simp, by simpa using fun a ha (e : a = c) => hcnew (by rw [← e]; simpa using ha)⟩
     ·rcases List.mem_append.1 (hperm.mem_iff.1 hy) with a | a
      ·exact hmem5 y a
      ·simp at a; subst a
       refine ⟨hc0, hc1, ?_⟩
       rw [lat_set (by omega), if_pos rfl]; exact hd
    ·simp -dsimp [h43, fj]
     exact Again.intro (k3 - 1) (by omega) ⟨j + 1, pl4, _, by omega, by omega, by simp, hO6, by simpa using hwl4, hwt5, hnd4, hmem5, rfl⟩
   ·simp at hc2
    have hc2' : decide (j < (l.length : Int)) = false := by simpa using hc2
    simp -dsimp [hc2']
    have hdrop : l.drop j.toNat = [] := List.drop_eq_nil_of_le (by omega)
    rw [hdrop] at hwt4
    refine Again.intro (g.p.l.length - (out ++ [x]).length) (by simp; omega) ⟨out ++ [x], pl4, wt4, rfl, by simpa [q7] using hO5, hwl4, fun k hk => by simpa using hwt4 k hk, hnd4, fun y hy => ?_, topo_snoc htopo (waits_zero hx.2.2), rfl⟩
    have a := hmem4 y hy
    refine ⟨a.1, a.2.1, ?_⟩
    have b := hwt4 y.toNat (by omega)
    rw [a.2.2, show ((y.toNat : Nat) : Int) = y by omega] at b
    simp at b; omega
  ·simp at hb
   subst hb
   simp -dsimp
   simp only [List.append_nil] at hnd2 hmem2
   exact ⟨out, hO2.o, hnd2, fun x hx => ⟨(hmem2 x hx).1, (hmem2 x hx).2.1⟩, htopo⟩
end Go.Abs
namespace Go.Abs
open Go Pr
set_option maxRecDepth 10000
theorem frz_own {h : Heap} {n m : Nat} {v : V} {l : List Int} (hO : Own h m v 1 (intRows l)) (hn : n ≤ m) : ∃ u, freeze n h 15 v = some u := by
 rcases hO with ⟨rfl, _⟩ | ⟨id, rfl, h2, h3, _⟩
 ·exact ⟨_, rfl⟩
 ·have hr : rowsOf h (.sl id 0 (intRows l).length 1 false) = some (intRows l) := by simp [rowsOf, h2, intRows]; rw [List.take_of_length_le (by simp)]
  have : n ≤ id := by omega
  refine ⟨.slR (intRows l) false, ?_⟩
  show cond (Nat.ble n id) (match rowsOf h (.sl id 0 (intRows l).length 1 false) with | some rows => (match allM (allM (freeze n h 14)) rows with | some r => some (V.slR r false) | none => none) | none => none) none = _
  rw [hr]
  simp only [frz_int_rows, ble_dec, this, decide_true, cond]
def OrdV (g : Gr) (u : V) : Prop := ∃ v b, u = .tup [v, .bool b] ∧ (b = true → mayB g = true ∧ ∀ n : Int, 0 ≤ n → n < g.p.l.length → ¬ Comes g n n)
theorem Order_ok (g : Gr) (hg : g.Small) {mk : Nat} {h : Heap} : WF PR false mk (.fn 93 [] []) [.agg g.cells] h fun r => r.h = h ∧ OrdV g r.v := by
 refine WF.pureFn (F := f93) (Q := OrdV g) rfl rfl rfl (Nat.le_of_ble_eq_true rfl) ?_
 refine wbodyS b93 [.tm 2, .tm 3] rfl rfl ?_
 unfold b93
 simp -dsimp [Gr.cells]
 refine WFS.by (may_ok g hg) ?_
 intro v h1 e
 cases e
 simp -dsimp
 rw [Br_bool]
 refine ⟨fun hb => ?_, fun hb => ?_⟩
 ·simp -dsimp
  exact ⟨_, rfl, _, _, rfl, by simp⟩
 ·simp at hb
  have hok := mayB_ok hb
  simp -dsimp
  refine WFS.by (rankof_ok g hg hb (h := h.push (.rows [[g.p.enc Pd.cells, g.keys.enc keyCells]])) (by simp)) ?_
  rintro v h1 ⟨⟨K, W, R, wt, rt, m1, rfl, hRk, hW, hR, g1, g2, g3⟩, hn1, hk1⟩
  simp at hRk g1 g2 g3 hn1
  have hbox := hk1 h.n (by simp)
  simp at hbox
  simp -dsimp
  have hnm := hRk.n
  have hlW := hRk.lw
  refine WFS.by (WF.low PR_low (WF.lower PR_mon (order_ok g hb hRk hW hR (Nat.le_refl W)) (show h.n + 1 ≤ W by omega)) (by omega) |> fun w => WF.lower PR_mon w (by omega)) ?_
  rintro v h2 ⟨⟨out, hO, hnd, hr, ht⟩, hlow⟩
  simp only at hO hlow
  have hbox2 : h2.get h.n = some (.rows [[g.p.enc Pd.cells, g.keys.enc keyCells]]) := by rw [hlow.2 h.n (by omega), hbox]
  have hrd := own_read (h' := h2) hO (fun _ _ _ => rfl)
  simp -dsimp [hrd.1, hbox2]
  rw [Br_bool]
  refine ⟨fun hc => ?_, fun hc => ?_⟩
  ·simp -dsimp
   exact ⟨_, rfl, _, _, rfl, by simp⟩
  ·simp at hc
   simp -dsimp
   obtain ⟨u, hu⟩ := frz_own hO (n := h.n) (by omega)
   have hfr : freeze h.n h2 depthMax (.tup [v, .bool true]) = some (.tup [u, .bool true]) := by
    show (match allM (freeze h.n h2 15) [v, .bool true] with | some x => some (V.tup x) | none => none) = _
    have e2 : freeze h.n h2 15 (.bool true) = some (.bool true) := rfl
    simp only [allM, hu, e2]
   exact ⟨_, hfr, _, _, rfl, fun _ => ⟨hb, topo_acyclic ht hnd (nodup_full hnd hr (by omega))⟩⟩
noncomputable def circI (g : Gr) : Int := if mayB g = true then idxP (fun n : Nat => comesB g n n) (List.range g.p.l.length) 0 else -1
theorem lat_range {n i : Nat} (h : i < n) : lat (List.range n) i = i := by rw [lat_eq (by simpa using h)]; simp
theorem idxP_none {α : Type} {p : α → Bool} : ∀ {l : List α} {i : Int}, (∀ a ∈ l, p a = false) → idxP p l i = -1
 | [], _, _ => rfl
 | a :: l, i, h => by simp [idxP, h a (by simp), idxP_none (l := l) (i := i + 1) fun x hx => h x (by simp [hx])]
theorem Circle_ok (g : Gr) (hg : g.Small) {d : Bool} {mk : Nat} {h : Heap} : WF PR d mk (.fn 60 [] []) [.agg g.cells] h fun r => r = ⟨.int .i64 (circI g), h⟩ := by
 refine WF.pureOne (F := f60) rfl rfl rfl (Nat.le_of_ble_eq_true rfl) ?_
 refine wbodyS b60 [.tm 2] rfl rfl ?_
 unfold b60
 simp -dsimp [Gr.cells]
 refine WFS.by (Order_ok g hg) ?_
 rintro v h1 ⟨e, u, b, e2, hb⟩
 simp only at e e2
 subst e e2
 simp -dsimp
 rw [Gd_f]
 refine ⟨fun hc => ?_, fun hc => ?_⟩
 ·simp -dsimp [hc]
  refine WFS.by (may_ok g hg) ?_
  intro v h1 e
  cases e
  simp -dsimp
  rw [Br_bool]
  refine ⟨fun hd => ?_, fun hd => ?_⟩
  ·simp at hd
   simp -dsimp [circI, hd]
  ·simp at hd
   have hok := mayB_ok hd
   have hp := hok.p
   simp -dsimp
   refine wk_loop (fun k st => ∃ i : Int, 0 ≤ i ∧ (k : Int) = g.p.l.length - i ∧ (gK 20).run st.tm = .int .i64 i ∧ idxP (fun n : Nat => comesB g n n) ((List.range g.p.l.length).drop i.toNat) i = circI g ∧ st.h.get h.n = some (.rows [[g.p.enc Pd.cells, g.keys.enc keyCells]]) ∧ st.defs = []) g.p.l.length ⟨0, by omega, by omega, by simp, by simp [circI, hd], by simp, rfl⟩ ?_
   rintro k ⟨tm, h2, defs, round⟩ ⟨i, hi, hk, h20, hx, hbox, rfl⟩ hK
   have h1 := hK 1 rfl
   have h19 := hK 19 rfl
   simp at h1 h19 h20 hbox
   clear hK
   simp -dsimp [h19, h20]
   rw [Br_bool]
   refine ⟨fun hl => ?_, fun hl => ?_⟩
   ·simp at hl
    have hii : ((i.toNat : Nat) : Int) = i := by omega
    rw [drop_lat (by simp; omega), lat_range (by omega)] at hx
    simp only [idxP, hii] at hx
    simp -dsimp [h1, h20, hbox]
    refine WFS.by (comes_ok g hg i i hp) ?_
    intro v h3 e
    cases e
    simp -dsimp
    rw [Br_bool]
    refine ⟨fun hc3 => ?_, fun hc3 => ?_⟩
    ·rw [hc3] at hx
     simp at hx
     simp -dsimp [hx]
    ·rw [hc3] at hx
     simp at hx
     simp -dsimp [h20, fw64 (n := i + 1) (by omega) (by omega)]
     exact Again.intro (k - 1) (by omega) ⟨i + 1, by omega, by omega, by simp, by rw [show (i + 1).toNat = i.toNat + 1 by omega]; exact hx, hbox, rfl⟩
   ·simp at hl
    have hl' : decide (i < (g.p.l.length : Int)) = false := by simpa using hl
    rw [List.drop_eq_nil_of_le (by simp; omega)] at hx
    simp [idxP] at hx
    simp -dsimp [hl', ← hx]
 ·have hbb : b = true := by simpa using hc
  obtain ⟨b1, b2⟩ := hb hbb
  have : circI g = -1 := by
   rw [circI, if_pos b1]
   refine idxP_none fun n hn => ?_
   simp at hn
   simp only [comesB, decide_eq_false_iff_not]
   exact b2 n (by omega) (by omega)
  simp -dsimp [hc, this]
end Go.Abs
namespace Go.Abs
open Go Pr
set_option maxRecDepth 10000
@[simp] theorem results_cell2 {tm : Tm} {h : Heap} {n m : Option Nat} {i j : Nat} : results tm h [.cell n i, .cell m j] = (match loadV n ((gK i).run tm) h, loadV m ((gK j).run tm) h with
  | some a, some b => some (.tup [a, b])
  | _, _ => none) := by
 have e : ∀ n j, resV tm h (.cell n j) = loadV n ((gK j).run tm) h := fun _ _ => rfl
 simp only [results, allM, e]
 cases loadV n ((gK i).run tm) h <;> cases loadV m ((gK j).run tm) h <;> rfl
structure Cn where
 f : Nat
 e : Int
 v : Int
instance : Inhabited Cn := ⟨0, 0, 0⟩
def Cn.cells (x : Cn) : List V := [.fn x.f [] [], .int .i64 x.e]
noncomputable def cnL (g : Gr) : List Cn := [⟨60, 8, circI g⟩, ⟨61, 9, lostI g⟩, ⟨62, 10, vainI g⟩, ⟨63, 11, badI g⟩, ⟨64, 12, laidI g⟩]
def firstC : List Cn → Option Cn
 | [] => none
 | x :: l => if x.v = -1 then firstC l else some x
noncomputable def checkV (g : Gr) : Int × Int := if mayB g = true then (match firstC (cnL g) with
 | none => (-1, 0)
 | some x => (x.v, x.e)) else (0, 1)
theorem cn_ok (g : Gr) (hg : g.Fine) {x : Cn} (hx : x ∈ cnL g) {d : Bool} {mk : Nat} {h : Heap} : WF PR d mk (.fn x.f [] []) [.agg g.cells] h fun r => r = ⟨.int .i64 x.v, h⟩ := by
 simp only [cnL, List.mem_cons, List.not_mem_nil, or_false] at hx
 rcases hx with rfl | rfl | rfl | rfl | rfl
 ·exact Circle_ok g hg.toSmall
 ·exact Lost_ok g hg.toSmall
 ·exact Vain_ok g hg
 ·exact Bad_ok g hg
 ·exact Laid_ok g hg
theorem found_ok2 (g : Gr) (hg : g.Fine) {l C G mk : Nat} {h0 : Heap} (hC : h0.get C = some (.rows [[(Sl.full (cnL g)).enc Cn.cells]])) (hG : h0.get G = some (.rows [g.cells])) (lC : C < h0.n) (lG : G < h0.n) (hmk : mk ≤ h0.n) (P : Cn → Heap → Prop)
  (hy : ∀ x ∈ cnL g, ∀ h', h0.n ≤ h'.n → (∀ i, i < h0.n → h'.get i = h0.get i) → WF PR false mk (.yld l) [.int .i64 x.v, .int .i64 x.e] h' fun r => r.v = .bool false ∧ P x r.h) :
  WF PR false mk (.fn 65 [] [.ptr C 0 0, .ptr G 0 0]) [.yld l] h0 fun r => match firstC (cnL g) with
   | none => h0.n ≤ r.h.n ∧ ∀ i, i < h0.n → r.h.get i = h0.get i
   | some x => P x r.h := by
 obtain ⟨cn, hcn⟩ : ∃ cn, cnL g = cn := ⟨_, rfl⟩
 have hlen : cn.length = 5 := by rw [← hcn]; rfl
 rw [hcn] at hC hy ⊢
 refine WF.fn (F := f65) rfl rfl rfl (Nat.le_of_ble_eq_true rfl) ?_
 refine wbodyS b65 [] rfl rfl ?_
 unfold b65
 simp -dsimp [hC]
 refine wk_loop (fun k st => ∃ i : Int, 0 ≤ i ∧ (k : Int) = cn.length - i ∧ (gK 9).run st.tm = .int .i64 i ∧ firstC (cn.drop i.toNat) = firstC cn ∧ h0.n ≤ st.h.n ∧ (∀ i, i < h0.n → st.h.get i = h0.get i) ∧ st.defs = []) cn.length
  ⟨0, by omega, by omega, by simp, by simp, Nat.le_refl _, fun _ _ => rfl, rfl⟩ ?_
 rintro k ⟨tm, h1, defs, round⟩ ⟨i, hi, hk, h9, hf, hn, hsame, rfl⟩ hK
 have t0 := hK 0 rfl
 have t2 := hK 2 rfl
 have t7 := hK 7 rfl
 have t8 := hK 8 rfl
 simp at t0 t2 t7 t8 h9
 simp only at hn hsame
 clear hK
 simp -dsimp [h9, t8]
 rw [Br_bool]
 refine ⟨fun hc => ?_, fun hc => ?_⟩
 ·simp at hc
  have hc' : i < ((Sl.full cn).l.length : Nat) := by simp; omega
  have hit : i.toNat < cn.length := by omega
  obtain ⟨x, hx⟩ : ∃ x, lat cn i.toNat = x := ⟨_, rfl⟩
  have hxm : x ∈ cn := by rw [← hx]; exact lat_mem hit
  have hd := drop_lat hit
  rw [hx] at hd
  rw [hd] at hf
  have n1 : ¬ G = h1.n := by omega
  have n2 : mk ≤ h1.n := by omega
  have hG1 : h1.get G = some (.rows [g.cells]) := by rw [hsame G lG, hG]
  have e2 : [Sl.enc Pd.cells g.p, Sl.enc keyCells g.keys] = g.cells := rfl
  simp -dsimp [t7, h9, t2, n1, n2, hG1, Gr.cells, iaddr_enc (f := Cn.cells) (s := Sl.full cn) (esz := 2) (k := .i64) hi hc' (fun _ => rfl), hx, Cn.cells]
  rw [e2]
  refine WFS.by (cn_ok g hg (hcn ▸ hxm)) ?_
  intro v h' e
  cases e
  simp -dsimp
  rw [Gd_t]
  refine ⟨fun hz => ?_, fun hz => ?_⟩
  ·simp at hz
   have hfx : firstC cn = some x := by rw [← hf, firstC, if_neg hz]
   simp -dsimp [t0, hz]
   refine WFS.by (hy x hxm _ (by simp; omega) fun j hj => by rw [Heap.get_set, if_neg (by omega), Heap.get_push, if_neg (by omega), hsame j hj]) ?_
   rintro v h2 ⟨e, hP⟩
   simp only at e hP
   subst e
   simp -dsimp
   rw [hfx]
   exact hP
  ·simp at hz
   have hfx : firstC (cn.drop (i + 1).toNat) = firstC cn := by rw [show (i + 1).toNat = i.toNat + 1 by omega, ← hf, firstC, if_pos hz]
   simp -dsimp [hz, h9, fw64 (n := i + 1) (by omega) (by omega)]
   exact Again.intro (k - 1) (by omega) ⟨i + 1, by omega, by omega, by simp, hfx, by simp; omega, fun j hj => by simp; rw [if_neg (by omega), if_neg (by omega), hsame j hj], rfl⟩
 ·simp at hc
  have hc' : decide (i < (cn.length : Int)) = false := by simpa using hc
  rw [List.drop_eq_nil_of_le (by omega)] at hf
  simp -dsimp [hc']
  rw [← hf]
  exact ⟨hn, hsame⟩
theorem found33_ok (g : Gr) {d : Bool} {mk : Nat} {h : Heap} (hmk : mk ≤ h.n) : WF PR d mk (.fn 33 [] []) [.agg g.cells] h fun r => r.v = .fn 65 [] [.ptr (h.n + 1) 0 0, .ptr h.n 0 0] ∧ r.h.n = h.n + 2 ∧ r.h.get h.n = some (.rows [g.cells]) ∧ r.h.get (h.n + 1) = some (.rows [[(Sl.full (cnL g)).enc Cn.cells]]) ∧ ∀ i, i < h.n → r.h.get i = h.get i := by
 refine WF.fn (F := f33) rfl rfl rfl (Nat.le_of_ble_eq_true rfl) ?_
 refine wbodyS b33 [.tm 2] rfl rfl ?_
 unfold b33
 have n1 : mk ≤ h.n + 1 := by omega
 simp -dsimp [Gr.cells, n1]
 refine ⟨rfl, fun i hi => ?_⟩
 have n2 : ¬ i = h.n := by omega
 have n3 : ¬ i = h.n + 1 := by omega
 simp [n2, n3]
theorem wk_range3 {AP : Prog} {d : Bool} {mk : Nat} {f : Opd} {ps : List Nat} {asg body : IC} {fs : List Fr} {st : St} {Q : OS → Prop} (hr : st.round = false)
  (h1 : ∀ (H0 : Heap) (asg' body' : IC), asg' = asg → body' = body → H0.n = st.h.n + 2 → (∀ q, q < st.h.n → H0.get q = st.h.get q) → H0.get st.h.n = some .dfr → H0.get (st.h.n + 1) = some (.loop .ready none st.tm ps asg' body') →
   WF AP d mk (f.ev st.tm) [.yld (st.h.n + 1)] H0 fun r => (r.h.get (st.h.n + 1) = some (.loop .ready none st.tm ps asg' body') ∧
    nx AP d mk fs .normal ⟨st.tm, r.h.set (st.h.n + 1) (.loop .exhausted none st.tm ps asg' body'), .mark st.h.n :: st.defs, st.round⟩ Q ⟨⟩) ∨
    (r.h.get (st.h.n + 1) = some (.loop .done (some .ret) st.tm ps asg' body') ∧
    nx AP d mk fs .ret ⟨st.tm, r.h.set (st.h.n + 1) (.loop .exhausted (some .ret) st.tm ps asg' body'), .mark st.h.n :: st.defs, st.round⟩ Q ⟨⟩)) :
  wk AP d mk (.rangeF f ps asg body) fs st Q ⟨⟩ := by
 refine wk_range hr ?_
 refine W.mono (h1 _ asg body rfl rfl (by simp) (fun q hq => by rw [Heap.get_push, if_neg (by simp; omega), Heap.get_push, if_neg (by omega)]) (by simp) (by simp)) ?_
 rintro r (⟨a, b⟩ | ⟨a, b⟩)
 ·exact ⟨.ready, none, _, _, _, _, a, by simp, .inl ⟨rfl, b⟩⟩
 ·exact ⟨.done, some .ret, _, _, _, _, a, by simp, .inr (.inl ⟨rfl, b⟩)⟩
theorem Check_ok (g : Gr) (hg : g.Fine) {d : Bool} {mk : Nat} {h : Heap} : WF PR d mk (.fn 17 [] []) [.agg g.cells] h fun r => r = ⟨.tup [.int .i64 (checkV g).1, .int .i64 (checkV g).2], h⟩ := by
 refine WF.pureOne (F := f17) rfl rfl rfl (Nat.le_of_ble_eq_true rfl) ?_
 refine wbodyS b17 [.cell none 2, .cell none 3] rfl rfl ?_
 unfold b17
 have e2 : [Sl.enc Pd.cells g.p, Sl.enc keyCells g.keys] = g.cells := rfl
 simp -dsimp [Gr.cells]
 rw [e2]
 refine WFS.by (may_ok g hg.toSmall) ?_
 intro v h' e
 cases e
 simp -dsimp
 rw [Br_bool]
 refine ⟨fun hb => ?_, fun hb => ?_⟩
 ·simp at hb
  simp -dsimp [checkV, hb]
 simp at hb
 simp -dsimp
 refine WFS.by (found33_ok g (by simp <;> omega)) ?_
 rintro v h1 ⟨rfl, h2, h3, h4, h5⟩
 simp at h2 h3 h4 h5
 simp -dsimp
 refine wk_abs (fun st => st.h = h1 ∧ (gK 2).run st.tm = .ptr (h.n + 1) 0 0 ∧ (gK 3).run st.tm = .ptr (h.n + 2) 0 0 ∧ (gK 10).run st.tm = .fn 65 [] [.ptr (h.n + 4) 0 0, .ptr (h.n + 3) 0 0] ∧ st.defs = [] ∧ st.round = false) (by simp) ?_
 rintro ⟨tm, h1', defs, round⟩ ⟨rfl, k2, k3, k10, rfl, rfl⟩
 simp only at k2 k3 k10 h2 h3 h4 h5
 refine wk_range3 rfl ?_
 intro H0 asg body hasg hbody z1 z2 z3 z4
 simp only at z1 z2 z3 z4
 simp only [ev_t, k10]
 refine W.mono (found_ok2 g hg (l := h1'.n + 1) (C := h.n + 4) (G := h.n + 3) (by rw [z2 _ (by omega), h4]) (by rw [z2 _ (by omega), h3]) (by omega) (by omega) (by omega)
  (fun x H => H.get h1'.n = some .dfr ∧ H.get (h1'.n + 1) = some (.loop .done (some .ret) tm [11, 12] asg body) ∧ H.get (h.n + 1) = some (.rows [[.int .i64 x.v]]) ∧ H.get (h.n + 2) = some (.rows [[.int .i64 x.e]])) ?_) ?_
 ·intro x hx H hHn hH
  refine WF.yld2 (s0 := .ready) (by rw [hH _ (by omega), z4]) rfl (by omega) rfl ?_
  intro B asg0 body0 ea eb hB2
  subst ea eb
  have g1 : B.get (h.n + 1) = some (.rows [[.int .i64 0]]) := by rw [hB2, Heap.get_set, if_neg (by omega), hH _ (by omega), z2 _ (by omega), h5 _ (by omega), if_neg (by omega), if_pos rfl]
  have g2 : B.get (h.n + 2) = some (.rows [[.int .i64 0]]) := by rw [hB2, Heap.get_set, if_neg (by omega), hH _ (by omega), z2 _ (by omega), h5 _ (by omega), if_pos rfl]
  have g3 : B.get h1'.n = some .dfr := by rw [hB2, Heap.get_set, if_neg (by omega), hH _ (by omega), z3]
  have g4 : B.get (h1'.n + 1) = some (.loop .busy none tm [11, 12] asg0 body0) := by rw [hB2, Heap.get_set, if_pos rfl]
  clear hB2
  rw [hasg]
  simp -dsimp
  rw [hbody]
  simp -dsimp [k2, k3, g1, g2]
  refine ⟨rfl, .busy, none, tm, [11, 12], asg0, body0, by rw [Heap.get_set, if_neg (by omega), Heap.get_set, if_neg (by omega), g4], rfl, ?_⟩
  refine ⟨?_, ?_, ?_, ?_⟩
  ·rw [Heap.get_set, if_neg (by omega), Heap.get_set, if_neg (by omega), Heap.get_set, if_neg (by omega), g3]
  ·rw [Heap.get_set, if_pos rfl, ← hasg, ← hbody]
  ·rw [Heap.get_set, if_neg (by omega), Heap.get_set, if_neg (by omega), Heap.get_set, if_pos rfl]
  ·rw [Heap.get_set, if_neg (by omega), Heap.get_set, if_pos rfl]
 ·rintro ⟨v, H⟩ hr
  simp only at hr ⊢
  obtain ⟨o, ho⟩ : ∃ o, firstC (cnL g) = o := ⟨_, rfl⟩
  rw [ho] at hr
  cases o with
  | none =>
   left
   obtain ⟨hHn, hH⟩ := hr
   have hcv : checkV g = (-1, 0) := by simp [checkV, hb, ho]
   have g1 : H.get (h.n + 1) = some (.rows [[.int .i64 0]]) := by rw [hH _ (by omega), z2 _ (by omega), h5 _ (by omega), if_neg (by omega), if_pos rfl]
   have g2 : H.get (h.n + 2) = some (.rows [[.int .i64 0]]) := by rw [hH _ (by omega), z2 _ (by omega), h5 _ (by omega), if_pos rfl]
   have g3 : H.get h1'.n = some .dfr := by rw [hH _ (by omega), z3]
   have n1 : ¬ h.n + 1 = h1'.n + 1 := by omega
   have n2 : ¬ h.n + 2 = h1'.n + 1 := by omega
   have n3 : ¬ h.n + 1 = h1'.n := by omega
   have n4 : ¬ h.n + 2 = h1'.n := by omega
   have n5 : ¬ h1'.n = h.n + 1 := by omega
   have n6 : ¬ h1'.n = h.n + 2 := by omega
   have n7 : h.n ≤ h1'.n := by omega
   have n8 : ¬ h.n = h1'.n := by omega
   have n9 : ¬ h.n + 1 + 1 = h1'.n + 1 := by omega
   refine ⟨by rw [hH _ (by omega), z4], ?_⟩
   simp -dsimp [k2, k3, g1, g2, g3, n1, n2, n3, n4, n5, n6, n7, n8, hcv]
  | some x =>
   right
   obtain ⟨g3, g4, g1, g2⟩ := hr
   have hcv : checkV g = (x.v, x.e) := by simp [checkV, hb, ho]
   have n1 : ¬ h.n + 1 = h1'.n + 1 := by omega
   have n2 : ¬ h.n + 2 = h1'.n + 1 := by omega
   have n3 : ¬ h.n + 1 = h1'.n := by omega
   have n4 : ¬ h.n + 2 = h1'.n := by omega
   have n7 : h.n ≤ h1'.n := by omega
   have n8 : ¬ h.n = h1'.n := by omega
   have n9 : ¬ h.n + 1 + 1 = h1'.n + 1 := by omega
   refine ⟨g4, ?_⟩
   simp -dsimp [k2, k3, g1, g2, g3, n1, n2, n3, n4, n7, n8, hcv]
end Go.Abs
namespace Go.Abs
open Go Pr
theorem bvN {a : Int} (h0 : 0 ≤ a) (h1 : a < 9223372036854775808) : (BitVec.ofInt IntKind.i64.bits a).toNat = a.toNat := by
 show (BitVec.ofInt 64 a).toNat = a.toNat
 rw [BitVec.toNat_ofInt]
 congr 1
 exact Int.emod_eq_of_lt h0 (by omega)
theorem nat_lt {a : Int} (h0 : 0 ≤ a) (h1 : a < 9223372036854775808) : a.toNat < 2 ^ 63 := by omega
theorem and_run {a b : Int} (a0 : 0 ≤ a) (a1 : a < 9223372036854775808) (b0 : 0 ≤ b) (b1 : b < 9223372036854775808) : (binK .and).run (.int .i64 a) (.int .i64 b) = some (.int .i64 ((a.toNat &&& b.toNat : Nat) : Int)) := by
 rw [bin_and, BitVec.toNat_and, bvN a0 a1, bvN b0 b1]
 have h : a.toNat &&& b.toNat < 2 ^ 63 := Nat.and_lt_two_pow _ (nat_lt b0 b1)
 rw [fw64 (by omega) (by omega)]
theorem or_run {a b : Int} (a0 : 0 ≤ a) (a1 : a < 9223372036854775808) (b0 : 0 ≤ b) (b1 : b < 9223372036854775808) : (binK .or).run (.int .i64 a) (.int .i64 b) = some (.int .i64 ((a.toNat ||| b.toNat : Nat) : Int)) := by
 rw [bin_or, BitVec.toNat_or, bvN a0 a1, bvN b0 b1]
 have h : a.toNat ||| b.toNat < 2 ^ 63 := Nat.or_lt_two_pow (nat_lt a0 a1) (nat_lt b0 b1)
 rw [fw64 (by omega) (by omega)]
theorem nat_or_low {x k : Nat} : x ||| (2 ^ k - 1) = 2 ^ k * (x / 2 ^ k) + (2 ^ k - 1) := by
 have hlt : 2 ^ k - 1 < 2 ^ k := by have := Nat.two_pow_pos k; omega
 rw [Nat.two_pow_add_eq_or_of_lt hlt]
 refine Nat.eq_of_testBit_eq fun i => ?_
 rw [Nat.testBit_or, Nat.testBit_or, Nat.testBit_two_pow_sub_one, Nat.mul_comm, Nat.testBit_mul_two_pow, Nat.testBit_div_two_pow]
 by_cases h : i < k
 ·simp [h]
 ·have : k ≤ i := by omega
  simp [h, this]
theorem nat_andNot {x k : Nat} (hx : x < 2 ^ 63) (hk : k ≤ 62) : (BitVec.ofNat 64 x &&& ~~~ BitVec.ofNat 64 (2 ^ k - 1)).toNat = 2 ^ k * (x / 2 ^ k) := by
 refine Nat.eq_of_testBit_eq fun i => ?_
 rw [Nat.mul_comm, Nat.testBit_mul_two_pow, Nat.testBit_div_two_pow, BitVec.testBit_toNat, BitVec.getLsbD_and, BitVec.getLsbD_not, BitVec.getLsbD_ofNat, BitVec.getLsbD_ofNat, Nat.testBit_two_pow_sub_one]
 by_cases h : i < k
 ·have : ¬ k ≤ i := by omega
  simp [h, this]
 ·have h2 : k ≤ i := by omega
  by_cases h3 : i < 64
  ·simp [h, h2, h3, Nat.sub_add_cancel]
  ·have : x.testBit i = false := Nat.testBit_lt_two_pow (Nat.lt_of_lt_of_le hx (Nat.pow_le_pow_right (by omega) (by omega)))
   simp [h, h2, h3, this]
def p2 (k : Nat) : Int := ((2 ^ k : Nat) : Int)
theorem p2_pos (k : Nat) : 0 < p2 k := by have := Nat.two_pow_pos k; simp only [p2]; omega
theorem p2_lt {k : Nat} (hk : k ≤ 62) : p2 k ≤ 4611686018427387904 := by
 have : 2 ^ k ≤ 2 ^ 62 := Nat.pow_le_pow_right (by omega) hk
 simp only [p2]; omega
theorem toNat_div {a : Int} {k : Nat} (a0 : 0 ≤ a) : ((a.toNat / 2 ^ k : Nat) : Int) = a / p2 k := by
 obtain ⟨n, rfl⟩ := Int.eq_ofNat_of_zero_le a0
 simp [p2]
theorem toNat_mod {a : Int} {k : Nat} (a0 : 0 ≤ a) : ((a.toNat % 2 ^ k : Nat) : Int) = a % p2 k := by
 obtain ⟨n, rfl⟩ := Int.eq_ofNat_of_zero_le a0
 simp [p2]
theorem toNat_p2 {k : Nat} : (p2 k - 1).toNat = 2 ^ k - 1 := by
 have := Nat.two_pow_pos k; simp only [p2]; omega
section
variable {a : Int} {k : Nat} (a0 : 0 ≤ a) (a1 : a < 4611686018427387904) (hk : k ≤ 62)
include a0 a1 hk
theorem and_low : (binK .and).run (.int .i64 a) (.int .i64 (p2 k - 1)) = some (.int .i64 (a % p2 k)) := by
 have h1 := p2_pos k
 have h2 := p2_lt hk
 rw [and_run a0 (by omega) (by omega) (by omega), toNat_p2, Nat.and_two_pow_sub_one_eq_mod, toNat_mod a0]
theorem or_low : (binK .or).run (.int .i64 a) (.int .i64 (p2 k - 1)) = some (.int .i64 (p2 k * (a / p2 k) + (p2 k - 1))) := by
 have h1 := p2_pos k
 have h2 := p2_lt hk
 rw [or_run a0 (by omega) (by omega) (by omega), toNat_p2, nat_or_low]
 have h3 : ((2 ^ k * (a.toNat / 2 ^ k) + (2 ^ k - 1) : Nat) : Int) = p2 k * (a / p2 k) + (p2 k - 1) := by
  have := Nat.two_pow_pos k
  rw [Int.natCast_add, Int.natCast_mul, toNat_div a0]
  simp only [p2]; omega
 rw [h3]
theorem andNot_low : (binK .andNot).run (.int .i64 a) (.int .i64 (p2 k - 1)) = some (.int .i64 (p2 k * (a / p2 k))) := by
 have h1 := p2_pos k
 have h2 := p2_lt hk
 rw [bin_andNot]
 have e1 : (BitVec.ofInt IntKind.i64.bits a) = BitVec.ofNat 64 a.toNat := by
  apply BitVec.eq_of_toNat_eq
  rw [bvN a0 (by omega)]
  show a.toNat = (BitVec.ofNat 64 a.toNat).toNat
  simp [BitVec.toNat_ofNat]
  omega
 have e2 : (BitVec.ofInt IntKind.i64.bits (p2 k - 1)) = BitVec.ofNat 64 (2 ^ k - 1) := by
  apply BitVec.eq_of_toNat_eq
  rw [bvN (by omega) (by omega), toNat_p2]
  have h9 : 2 ^ k ≤ 2 ^ 62 := Nat.pow_le_pow_right (by omega) hk
  show 2 ^ k - 1 = (BitVec.ofNat 64 (2 ^ k - 1)).toNat
  rw [BitVec.toNat_ofNat, Nat.mod_eq_of_lt (by omega)]
 rw [e1, e2]
 have h3 := nat_andNot (x := a.toNat) (k := k) (by omega) hk
 have h4 : ((2 ^ k * (a.toNat / 2 ^ k) : Nat) : Int) = p2 k * (a / p2 k) := by
  rw [Int.natCast_mul, toNat_div a0]; rfl
 have h5 : p2 k * (a / p2 k) ≤ a := Int.mul_ediv_self_le (by omega)
 have h6 : 0 ≤ p2 k * (a / p2 k) := by rw [← h4]; exact Int.natCast_nonneg _
 show some (V.int .i64 (fw .i64 ((BitVec.ofNat 64 a.toNat &&& ~~~ BitVec.ofNat 64 (2 ^ k - 1)).toNat : Int))) = _
 rw [h3, h4, fw64 (by omega) (by omega)]
omit a0 a1 in
theorem shr_run {kk : IntKind} : (binK .shr).run (.int .i64 a) (.int kk k) = some (.int .i64 (a / p2 k)) := by
 have h : Nat.min k IntKind.i64.bits = k := Nat.min_eq_left (show k ≤ 64 by omega)
 show some (V.int .i64 (a.fdiv ((2 ^ (Nat.min k IntKind.i64.bits) : Nat) : Int))) = _
 rw [h, Int.fdiv_eq_ediv_of_nonneg _ (by have := p2_pos k; simp only [p2] at this; omega)]
 rfl
end
theorem shl_one {k : Nat} {kk : IntKind} (hk : k ≤ 62) : (binK .shl).run (.int .i64 1) (.int kk k) = some (.int .i64 (p2 k)) := by
 have h : Nat.min k IntKind.i64.bits = k := Nat.min_eq_left (show k ≤ 64 by omega)
 show some (V.int .i64 (fw .i64 (1 * ((2 ^ (Nat.min k IntKind.i64.bits) : Nat) : Int)))) = _
 rw [h, Int.one_mul]
 have := p2_lt hk
 have := p2_pos k
 simp only [p2] at *
 rw [fw64 (by omega) (by omega)]
theorem or_head {a b : Int} {k : Nat} {c : Int} (hc : a = p2 k * c) (c0 : 0 ≤ c) (ha : a < 4611686018427387904) (b0 : 0 ≤ b) (hb : b < p2 k) (hk : k ≤ 62) : (binK .or).run (.int .i64 a) (.int .i64 b) = some (.int .i64 (a + b)) := by
 have h1 := p2_pos k
 have h2 := p2_lt hk
 have a0 : 0 ≤ a := by rw [hc]; exact Int.mul_nonneg (by omega) c0
 rw [or_run a0 (by omega) b0 (by omega)]
 obtain ⟨n, rfl⟩ := Int.eq_ofNat_of_zero_le c0
 obtain ⟨m, rfl⟩ := Int.eq_ofNat_of_zero_le b0
 have e1 : a.toNat = 2 ^ k * n := by
  rw [hc]; simp only [p2, Int.ofNat_eq_natCast]; rw [← Int.natCast_mul]; rfl
 have hm : m < 2 ^ k := by simp only [p2, Int.ofNat_eq_natCast] at hb; omega
 have e2 : ((m : Int)).toNat = m := rfl
 rw [e1, e2, ← Nat.two_pow_add_eq_or_of_lt hm, hc]
 simp only [p2, Int.natCast_add, Int.natCast_mul, Int.ofNat_eq_natCast]
end Go.Abs
namespace Go.Abs
open Go Pr
set_option maxRecDepth 10000
def mayI (r : Int) : Bool := decide (0 ≤ r) && decide (r ≤ 1114111) && (decide (r < 55296) || decide (57343 < r))
def sizeN (r : Int) : Nat := if r < 128 then 1 else if r < 2048 then 2 else if r < 65536 then 3 else 4
def headI (n : Nat) : Int := if n = 2 then 192 else if n = 3 then 224 else if n = 4 then 240 else 0
def conts (r : Int) : Nat → List Int
 | 0 => []
 | j + 1 => (128 + r / p2 (6 * j) % 64) :: conts r j
def putL (r : Int) : List Int := (headI (sizeN r) + r / p2 (6 * (sizeN r - 1))) :: conts r (sizeN r - 1)
def putS (r : Int) : Sl Int := if mayI r = true then .of (putL r) else .nil
def u8Cells (n : Int) : List V := [.int .u8 n]
def u8Rows (l : List Int) : List (List V) := l.map u8Cells
theorem conts_len (r : Int) : ∀ j, (conts r j).length = j
 | 0 => rfl
 | j + 1 => by simp [conts, conts_len r j]
section
variable {d : Bool} {mk : Nat} {h : Heap}
theorem utfMay_ok (r : Int) : WF PR d mk (.fn 152 [] []) [.int .i64 r] h fun x => x = ⟨.bool (mayI r), h⟩ := by
 refine WF.pureOne (F := f152) rfl rfl rfl (Nat.le_of_ble_eq_true rfl) ?_
 refine wbodyS b152 [.tm 2] rfl rfl ?_
 unfold b152
 simp -dsimp
 rw [Gd_t]
 refine ⟨fun h1 => ?_, fun h1 => ?_⟩
 ·simp -dsimp [h1]
  rw [Gd_t]
  refine ⟨fun h2 => ?_, fun h2 => ?_⟩
  ·simp -dsimp [h2]
   rw [Gd_f]
   refine ⟨fun h3 => ?_, fun h3 => ?_⟩
   ·simp -dsimp [h3]
    simp at h1 h2 h3
    simp [mayI, h1, h2, h3]; omega
   ·simp -dsimp [h3]
    simp at h1 h2 h3
    simp [mayI, h1, h2, h3]
  ·simp -dsimp [h2]
   simp at h1 h2
   simp [mayI, h1]; omega
 ·simp -dsimp [h1]
  simp at h1
  simp [mayI]; omega
theorem size_ok (r : Int) : WF PR d mk (.fn 224 [] []) [.int .i64 r] h fun x => x = ⟨.int .i64 (sizeN r), h⟩ := by
 refine WF.pureOne (F := f224) rfl rfl rfl (Nat.le_of_ble_eq_true rfl) ?_
 refine wbodyS b224 [.tm 2] rfl rfl ?_
 unfold b224
 simp -dsimp
 rw [Br_bool]
 refine ⟨fun h1 => ?_, fun h1 => ?_⟩
 ·simp at h1
  simp -dsimp [sizeN, h1]
 ·simp at h1
  have h1' : ¬ r < 128 := by omega
  simp -dsimp
  rw [Br_bool]
  refine ⟨fun h2 => ?_, fun h2 => ?_⟩
  ·simp at h2
   simp -dsimp [sizeN, h1', h2]
  ·simp at h2
   have h2' : ¬ r < 2048 := by omega
   simp -dsimp
   rw [Br_bool]
   refine ⟨fun h3 => ?_, fun h3 => ?_⟩
   ·simp at h3
    simp -dsimp [sizeN, h1', h2', h3]
   ·simp at h3
    have h3' : ¬ r < 65536 := by omega
    simp -dsimp [sizeN, h1', h2', h3']
def headsV : V := .agg [.int .i64 0, .int .i64 0, .int .i64 192, .int .i64 224, .int .i64 240]
theorem heads_ok : WF PR d mk (.fn 217 [] []) [] h fun x => x = ⟨headsV, h⟩ := by
 refine WF.pureOne (F := f217) rfl rfl rfl (Nat.le_of_ble_eq_true rfl) ?_
 refine wbodyS b217 [.cell (some 5) 0] rfl rfl ?_
 unfold b217
 simp -dsimp
 rfl
theorem u8_set {l : List Int} {r : Nat} {v : Int} : (u8Rows l).set r [.int .u8 v] = u8Rows (l.set r v) := by simp [u8Rows, u8Cells, List.map_set]
theorem frz_u8 {m k : Nat} {H : Heap} : ∀ l : List Int, allM (allM (freeze m H (k + 1))) (u8Rows l) = some (u8Rows l)
 | [] => rfl
 | x :: l => by
  have := frz_u8 (m := m) (k := k) (H := H) l
  simp only [u8Rows, List.map_cons, allM] at this ⊢
  rw [this]; rfl
theorem headIdx {N : Nat} (h1 : 1 ≤ N) (h2 : N ≤ 4) : idxAV 5 1 false headsV (.int .i64 N) = some (.int .i64 (headI N)) := by
 have : N = 1 ∨ N = 2 ∨ N = 3 ∨ N = 4 := by omega
 rcases this with rfl | rfl | rfl | rfl <;> rfl
theorem head_or {r : Int} (hr : mayI r = true) : (binK .or).run (.int .i64 (headI (sizeN r))) (.int .i64 (r / p2 (6 * (sizeN r - 1)))) = some (.int .i64 (headI (sizeN r) + r / p2 (6 * (sizeN r - 1)))) := by
 simp only [mayI, Bool.and_eq_true, decide_eq_true_eq] at hr
 obtain ⟨⟨r0, r1⟩, _⟩ := hr
 simp only [sizeN]
 have e0 : p2 0 = 1 := rfl
 have e6 : p2 6 = 64 := rfl
 have e12 : p2 12 = 4096 := rfl
 have e18 : p2 18 = 262144 := rfl
 split
 ·rename_i h; exact or_head (k := 7) (c := 0) rfl (by omega) (by decide) (by simp [e0]; omega) (by simp [e0]; exact h) (by omega)
 ·split
  ·rename_i h
   exact or_head (k := 6) (c := 3) rfl (by omega) (by decide) (by simp [e6]; omega) (by simp [e6]; omega) (by omega)
  ·split
   ·rename_i h
    exact or_head (k := 5) (c := 7) rfl (by omega) (by decide) (by simp [e12]; omega) (by simp [e12, show p2 5 = 32 from rfl]; omega) (by omega)
   ·rename_i h
    exact or_head (k := 4) (c := 15) rfl (by omega) (by decide) (by simp [e18]; omega) (by simp [e18, show p2 4 = 16 from rfl]; omega) (by omega)
theorem sizeN_le (r : Int) : 1 ≤ sizeN r ∧ sizeN r ≤ 4 := by
 unfold sizeN; split <;> (try split) <;> (try split) <;> omega
theorem p2_add (i j : Nat) : p2 (i + j) = p2 i * p2 j := by simp [p2, Nat.pow_add]
theorem Put_ok (r : Int) : WF PR d mk (.fn 212 [] []) [.int .i64 r] h fun x => x = ⟨.tup [(putS r).enc u8Cells, .bool (mayI r)], h⟩ := by
 refine WF.pureOne (F := f212) rfl rfl rfl (Nat.le_of_ble_eq_true rfl) ?_
 refine wbodyS b212 [.tm 2, .tm 3] rfl rfl ?_
 unfold b212
 simp -dsimp
 refine WFS.by (utfMay_ok r) ?_
 intro v h1 e
 cases e
 simp -dsimp
 rw [Br_bool]
 refine ⟨fun hb => ?_, fun hb => ?_⟩
 ·simp at hb
  simp -dsimp [putS, hb]
  rfl
 simp at hb
 simp -dsimp
 refine WFS.by (size_ok r) ?_
 intro v h1 e
 cases e
 obtain ⟨hN1, hN4⟩ := sizeN_le r
 have hho := head_or hb
 have hb0 := hb
 simp only [mayI, Bool.and_eq_true, decide_eq_true_eq] at hb0
 obtain ⟨⟨r0, r1⟩, _⟩ := hb0
 obtain ⟨N, hN⟩ : ∃ N, sizeN r = N := ⟨_, rfl⟩
 rw [hN] at hN1 hN4 hho
 simp -dsimp [hN, mksV_nat (n := N) (by omega), fw64 (n := (N : Int) - 1) (by omega) (by omega)]
 refine wk_loop (fun k st => ∃ i : Nat, i + 1 ≤ N ∧ k = i ∧ (gK 6).run st.tm = .int .i64 i ∧ (gK 0).run st.tm = .int .i64 (r / p2 (6 * (N - 1 - i))) ∧ st.h.get h.n = some (.rows (u8Rows (List.replicate (i + 1) 0 ++ conts r (N - 1 - i)))) ∧ st.defs = []) (N - 1)
  ⟨N - 1, by omega, rfl, by simp; omega, by simp [p2], by simp [conts, show N - 1 + 1 = N by omega, u8Rows, u8Cells], rfl⟩ ?_
 rintro k ⟨tm, h1, defs, round⟩ ⟨i, hi, rfl, h6, h0, hB, rfl⟩ hK
 have t4 := hK 4 rfl
 have t5 := hK 5 rfl
 simp at t4 t5 h6 h0
 simp only at hB
 clear hK
 simp -dsimp [h6]
 rw [Br_bool]
 refine ⟨fun hc => ?_, fun hc => ?_⟩
 ·simp at hc
  obtain ⟨j, hj⟩ : ∃ j, N - 1 - k = j := ⟨_, rfl⟩
  rw [hj] at h0 hB
  obtain ⟨q, hq⟩ : ∃ q, r / p2 (6 * j) = q := ⟨_, rfl⟩
  have q0 : 0 ≤ q := by rw [← hq]; exact Int.ediv_nonneg r0 (Int.le_of_lt (p2_pos _))
  have q1 : q ≤ 1114111 := by rw [← hq]; exact Int.le_trans (Int.ediv_le_self _ r0) r1
  rw [hq] at h0
  have b1 : (binK .and).run (.int .i64 q) (.int .i64 63) = some (.int .i64 (q % 64)) := and_low (k := 6) q0 (by omega) (by omega)
  have b2 : (binK .or).run (.int .i64 128) (.int .i64 (q % 64)) = some (.int .i64 (128 + q % 64)) := or_head (k := 6) (c := 2) rfl (by omega) (by omega) (by omega) (by show q % 64 < 64; omega) (by omega)
  have b3 : (binK .shr).run (.int .i64 q) (.int .u64 6) = some (.int .i64 (q / 64)) := shr_run (k := 6) (by omega)
  have k0 : (0 : Int) ≤ (k : Int) := by omega
  have k1 : (k : Int) < (N : Nat) := by omega
  have hrow : (u8Rows (List.replicate (k + 1) 0 ++ conts r j))[k]? = some [.int .u8 0] := by
   simp [u8Rows, u8Cells, List.getElem?_append, List.getElem?_replicate]
  have hset : (List.replicate (k + 1) 0 ++ conts r j).set k (128 + q % 64) = List.replicate k 0 ++ conts r (j + 1) := by
   rw [List.replicate_succ', List.append_assoc, List.set_append_right _ _ (by simp)]
   simp [conts, hq]
  have hk2 : N - 1 - (k - 1) = j + 1 := by omega
  have hk3 : k - 1 + 1 = k := by omega
  have hq2 : q / 64 = r / p2 (6 * (j + 1)) := by
   rw [← hq, Int.ediv_ediv_of_nonneg (Int.le_of_lt (p2_pos _)), show (6 * (j + 1)) = 6 * j + 6 by omega, p2_add]
   rfl
  simp -dsimp [t5, h6, h0, b1, b2, b3, -bin_and, -bin_or, iaddr_sl (e := 1) (id := h.n) (b := 0) (n := N) (f := true) (k := .i64) k0 k1, hB, hrow, fw8 (n := 128 + q % 64) (by omega) (by omega), fw64 (n := (k : Int) - 1) (by omega) (by omega)]
  rw [u8_set, hset]
  refine Again.intro (k - 1) (by omega) ⟨k - 1, by omega, rfl, by simp; omega, by simp [hk2, hq2], by simp [hk2, hk3], rfl⟩
 ·simp at hc
  subst hc
  have hrow : (u8Rows (List.replicate (0 + 1) 0 ++ conts r (N - 1 - 0)))[0]? = some [.int .u8 0] := by simp [u8Rows, u8Cells]
  simp only [Nat.sub_zero] at h0 hB hrow
  simp -dsimp [t5]
  refine WFS.by heads_ok ?_
  intro v h' e
  cases e
  have hx : 0 ≤ headI N + r / p2 (6 * (N - 1)) ∧ headI N + r / p2 (6 * (N - 1)) ≤ 255 := by
   have e0 : p2 0 = 1 := rfl
   have e6 : p2 6 = 64 := rfl
   have e12 : p2 12 = 4096 := rfl
   have e18 : p2 18 = 262144 := rfl
   have : N = 1 ∨ N = 2 ∨ N = 3 ∨ N = 4 := by omega
   simp only [sizeN] at hN
   rcases this with rfl | rfl | rfl | rfl
   ·simp [headI, e0]; split at hN <;> (try split at hN) <;> (try split at hN) <;> omega
   ·simp [headI, e6]; split at hN <;> (try split at hN) <;> (try split at hN) <;> omega
   ·simp [headI, e12]; split at hN <;> (try split at hN) <;> (try split at hN) <;> omega
   ·simp [headI, e18]; split at hN <;> (try split at hN) <;> (try split at hN) <;> omega
  have hcons : u8Rows (List.replicate (0 + 1) 0 ++ conts r (N - 1)) = [.int .u8 0] :: u8Rows (conts r (N - 1)) := rfl
  rw [hcons] at hB
  simp -dsimp [t4, t5, headIdx hN1 hN4, h0, hho, -bin_or, hB, hrow, fw8 hx.1 hx.2, iaddr_zero (show 0 < N by omega)]
  have hput : putS r = .of (putL r) := by simp [putS, hb]
  have hrw : [V.int IntKind.u8 (headI N + r / p2 (6 * (N - 1)))] :: u8Rows (conts r (N - 1)) = u8Rows (putL r) := by
   simp only [putL, hN]; rfl
  have hlen : (putL r).length = N := by simp [putL, conts_len, hN]; omega
  rw [hrw, hput, hb]
  obtain ⟨H, hH⟩ : ∃ H, h1.set h.n (Obj.rows (u8Rows (putL r))) = H := ⟨_, rfl⟩
  have hg : H.get h.n = some (.rows (u8Rows (putL r))) := by rw [← hH, Heap.get_set, if_pos rfl]
  rw [hH]
  have hr : rowsOf H (.sl h.n 0 N 1 false) = some (u8Rows (putL r)) := by
   simp [rowsOf, hg, u8Rows, hlen]; rw [List.take_of_length_le (by simp [hlen])]
  show (match allM (freeze h.n H 15) [V.sl h.n 0 N 1 true, V.bool true] with | some x => some (V.tup x) | none => none) = _
  have f1 : freeze h.n H 15 (V.sl h.n 0 N 1 true) = some (.slR (u8Rows (putL r)) false) := by
   show cond (Nat.ble h.n h.n) (match rowsOf H (.sl h.n 0 N 1 false) with | some rows => (match allM (allM (freeze h.n H 14)) rows with | some r => some (V.slR r false) | none => none) | none => none) none = _
   rw [hr]
   have := frz_u8 (m := h.n) (H := H) (k := 13) (putL r)
   simp only [this, ble_dec, Nat.le_refl, decide_true, cond]
  have f2 : freeze h.n H 15 (V.bool true) = some (.bool true) := rfl
  simp only [allM, f1, f2]
  rfl
end
end Go.Abs
namespace Go.Abs
open Go Pr
set_option maxRecDepth 10000
def splLo (k : Nat) (r : Rg) : Int := if r.lo % p2 k = 0 then r.lo else p2 k * (r.lo / p2 k) + (p2 k - 1) + 1
def splHi (k : Nat) (r : Rg) : Int := if r.hi % p2 k = p2 k - 1 then r.hi else p2 k * (r.hi / p2 k) - 1
def splA (k : Nat) (r : Rg) : List Rg := if r.lo % p2 k = 0 then [] else [⟨r.lo, p2 k * (r.lo / p2 k) + (p2 k - 1)⟩]
def splB (k : Nat) (r : Rg) : List Rg := if splLo k r ≤ splHi k r then [⟨splLo k r, splHi k r⟩] else []
def splC (k : Nat) (r : Rg) : List Rg := if splHi k r < r.hi then [⟨splHi k r + 1, r.hi⟩] else []
def splitR (k : Nat) (r : Rg) : List Rg := if r.lo / p2 k = r.hi / p2 k then [r] else splA k r ++ splB k r ++ splC k r
def splitUp (k : Nat) (l : List Rg) : Nat → List Rg
 | 0 => []
 | i + 1 => splitUp k l i ++ splitR k (lat l i)
def splitL (k : Nat) (l : List Rg) : List Rg := splitUp k l l.length
theorem splitR_len (k : Nat) (r : Rg) : (splitR k r).length ≤ 3 := by
 simp only [splitR, splA, splB, splC]
 split
 ·simp
 ·simp only [List.length_append]
  split <;> split <;> split <;> simp
theorem splitUp_len (k : Nat) (l : List Rg) : ∀ i, (splitUp k l i).length ≤ 3 * i
 | 0 => by simp [splitUp]
 | i + 1 => by
  have h1 := splitUp_len k l i
  have h2 := splitR_len k (lat l i)
  simp only [splitUp, List.length_append]; omega
structure SP (H : Heap) (m B : Nat) (v : V) (rows : List Rg) (lo hi : Int) : Prop where
 own : Own H m v 2 (rows.map Rg.cells)
 box : H.get B = some (.rows [[.int .i64 lo, .int .i64 hi]])
 ne : slId v ≠ some B
 lt : B < H.n
 m : m ≤ B
theorem SP.app {H : Heap} {m B : Nat} {v : V} {rows : List Rg} {lo hi : Int} (h : SP H m B v rows lo hi) (a b : Int) (hl : rows.length + 1 < 4294967296) :
  ∃ v' h', appendRows m H 2 16 v [[.int .i64 a, .int .i64 b]] = some ⟨v', h'⟩ ∧ SP h' m B v' (rows ++ [⟨a, b⟩]) lo hi ∧ H.n ≤ h'.n ∧ (∀ j, j < H.n → slId v ≠ some j → h'.get j = H.get j) ∧ ∀ j, slId v' = some j → H.n ≤ j ∨ slId v = some j := by
 have := h.lt
 have := h.m
 obtain ⟨v', h', a1, a2, a3, a4, a5⟩ := own_append (mk := m) (bytes := 16) (xs := [[.int .i64 a, .int .i64 b]]) h.own (Nat.le_refl _) (by simp) (by simpa using hl) (by omega) (by omega)
 refine ⟨v', h', a1, ⟨by simpa [Rg.cells] using a2, by rw [a4 _ h.lt h.ne, h.box], fun e => ?_, by omega, h.m⟩, a3, a4, a5⟩
 rcases a5 _ e with e | e
 ·omega
 ·exact h.ne e
theorem SP.put {H : Heap} {m B : Nat} {v : V} {rows : List Rg} {lo hi : Int} (h : SP H m B v rows lo hi) (a b : Int) : SP (H.set B (.rows [[.int .i64 a, .int .i64 b]])) m B v rows a b := by
 refine ⟨?_, by rw [Heap.get_set, if_pos rfl], h.ne, by simpa using h.lt, h.m⟩
 have hne := h.ne
 rcases h.own with ⟨q, q'⟩ | ⟨id, q3, q4, q5, q6, q7⟩
 ·exact .inl ⟨q, q'⟩
 ·subst q3
  simp [slId] at hne
  exact .inr ⟨id, rfl, by rw [Heap.get_set, if_neg hne, q4], q5, by simpa using q6, q7⟩
theorem SP.push {H : Heap} {m B : Nat} {v : V} {rows : List Rg} {lo hi : Int} (h : SP H m B v rows lo hi) (o : Obj) : SP (H.push o) m B v rows lo hi := by
 refine ⟨h.own.ext (fun j hj => by rw [Heap.get_push, if_neg (by omega)]) (by simp), by rw [Heap.get_push, if_neg (by have := h.lt; omega), h.box], h.ne, by have := h.lt; simp; omega, h.m⟩
theorem SP.far {H : Heap} {m B j : Nat} {v : V} {rows : List Rg} {lo hi : Int} {o : Obj} (h : SP H m B v rows lo hi) (hj : j ≠ B) (hv : slId v ≠ some j) : SP (H.set j o) m B v rows lo hi := by
 refine ⟨?_, by rw [Heap.get_set, if_neg (Ne.symm hj), h.box], h.ne, by simpa using h.lt, h.m⟩
 rcases h.own with ⟨q, q'⟩ | ⟨id, q3, q4, q5, q6, q7⟩
 ·exact .inl ⟨q, q'⟩
 ·subst q3
  simp [slId] at hv
  exact .inr ⟨id, rfl, by rw [Heap.get_set, if_neg hv, q4], q5, by simpa using q6, q7⟩
theorem frz_ownR2 {h : Heap} {n m : Nat} {v : V} {l : List Rg} (hO : Own h m v 2 (l.map Rg.cells)) (hn : n ≤ m) : freeze n h depthMax v = some ((slR l).enc Rg.cells) := frz_ownR hO hn
structure SK0 (k : Nat) (s : Sl Rg) (B : Nat) (i : Int) (tm : Tm) : Prop where
 t0 : (gK 0).run tm = .int .i64 k
 t6 : (gK 6).run tm = .int .i64 (p2 k - 1)
 t8 : (gK 8).run tm = .ptr B 0 0
 t13 : (gK 13).run tm = s.enc Rg.cells
 t14 : (gK 14).run tm = .int .i64 s.l.length
 t15 : (gK 15).run tm = .int .i64 i
theorem split_ok (k : Nat) (hk : k ≤ 30) (s : Sl Rg) (hs : s.l.length < 100000000) (hd : ∀ r ∈ s.l, 0 ≤ r.lo ∧ r.lo ≤ r.hi ∧ r.hi ≤ 1114111) {d : Bool} {mk : Nat} {h : Heap} :
  WF PR d mk (.fn 182 [] []) [.int .i64 k, s.enc Rg.cells] h fun r => r = ⟨(slR (splitL k s.l)).enc Rg.cells, h⟩ := by
 refine WF.pureOne (F := f182) rfl rfl rfl (Nat.le_of_ble_eq_true rfl) ?_
 refine wbodyS b182 [.tm 4] rfl rfl ?_
 unfold b182
 have pk := p2_pos k
 have pk2 := p2_lt (k := k) (by omega)
 have hshl := shl_one (k := k) (kk := .i64) (by omega)
 simp -dsimp [hshl, fw64 (n := p2 k - 1) (by omega) (by omega)]
 refine wk_loop (fun n st => ∃ (i : Int) (v : V), 0 ≤ i ∧ (n : Int) = s.l.length - i ∧ (gK 15).run st.tm = .int .i64 i ∧ (gK 5).run st.tm = v ∧ Own st.h h.n v 2 ((splitUp k s.l i.toNat).map Rg.cells) ∧ h.n ≤ st.h.n ∧ st.defs = []) s.l.length
  ⟨0, .nils, by omega, by omega, by simp, by simp, .inl ⟨rfl, rfl⟩, Nat.le_refl _, rfl⟩ ?_
 rintro n ⟨tm, h1, defs, round⟩ ⟨i, v, hi, hn, h15, h5, hO, hn1, rfl⟩ hK
 have t0 := hK 0 rfl
 have t6 := hK 6 rfl
 have t13 := hK 13 rfl
 have t14 := hK 14 rfl
 simp at t0 t6 t13 t14 h15 h5
 simp only at hO hn1
 clear hK
 simp -dsimp [h15, t14]
 rw [Br_bool]
 refine ⟨fun hc => ?_, fun hc => ?_⟩
 ·simp at hc
  have hc' : i < ((s.l.length : Nat) : Int) := by omega
  obtain ⟨r, hr⟩ : ∃ r, lat s.l i.toNat = r := ⟨_, rfl⟩
  have hlen := splitUp_len k s.l i.toNat
  have hdr := hd r (by rw [← hr]; exact lat_mem (by omega))
  obtain ⟨out, hout⟩ : ∃ out, splitUp k s.l i.toNat = out := ⟨_, rfl⟩
  have hup : splitUp k s.l (i.toNat + 1) = out ++ splitR k r := by rw [splitUp, hout, hr]
  rw [hout] at hO hlen
  have hSP : SP ((h1.push (Obj.rows [[V.int IntKind.i64 0, V.int IntKind.i64 0]])).set h1.n (Obj.rows [[V.int IntKind.i64 r.lo, V.int IntKind.i64 r.hi]])) h.n h1.n v out r.lo r.hi := by
   refine SP.put ⟨hO.ext (fun j hj => by rw [Heap.get_push, if_neg (by omega)]) (by simp), by simp; exact ⟨rfl, rfl⟩, ?_, by simp, hn1⟩ _ _
   rcases hO with ⟨q, q'⟩ | ⟨id, q3, q4, q5, q6, q7⟩
   ·rw [q]; simp [slId]
   ·rw [q3]; simp [slId]; omega
  obtain ⟨H1, hH1⟩ : ∃ H1, (h1.push (Obj.rows [[V.int IntKind.i64 0, V.int IntKind.i64 0]])).set h1.n (Obj.rows [[V.int IntKind.i64 r.lo, V.int IntKind.i64 r.hi]]) = H1 := ⟨_, rfl⟩
  rw [hH1] at hSP
  have hHn : h1.n + 1 = H1.n := by rw [← hH1]; simp
  have r1 : r.lo < 4611686018427387904 := by omega
  have r2 : r.hi < 4611686018427387904 := by omega
  have r3 : 0 ≤ r.hi := by omega
  have sl := shr_run (a := r.lo) (k := k) (kk := .i64) (by omega)
  have sh := shr_run (a := r.hi) (k := k) (kk := .i64) (by omega)
  have hit : (i + 1).toNat = i.toNat + 1 := by omega
  simp -dsimp [-wk_ops, wk_dops, t13, h15, hi, hc', hr, Rg.cells, hn1, hH1, hSP.box, t0, sl, sh]
  rw [wk_ops]
  simp -dsimp [-wk_ops, wk_dops, t13, h15, hi, hc', hr, Rg.cells, hn1, hH1, hSP.box, t0, sl, sh]
  have pk3 : p2 k ≤ 1073741824 := by
   have : 2 ^ k ≤ 2 ^ 30 := Nat.pow_le_pow_right (by omega) hk
   simp only [p2]; omega
  have qa : p2 k * (r.lo / p2 k) ≤ r.lo := Int.mul_ediv_self_le (by omega)
  have qb : 0 ≤ p2 k * (r.lo / p2 k) := Int.mul_nonneg (by omega) (Int.ediv_nonneg (by omega) (by omega))
  have qc : p2 k * (r.hi / p2 k) ≤ r.hi := Int.mul_ediv_self_le (by omega)
  have qd : 0 ≤ p2 k * (r.hi / p2 k) := Int.mul_nonneg (by omega) (Int.ediv_nonneg (by omega) (by omega))
  have al := and_low (a := r.lo) (k := k) (by omega) r1 (by omega)
  have ol := or_low (a := r.lo) (k := k) (by omega) r1 (by omega)
  have ah := and_low (a := r.hi) (k := k) (by omega) r2 (by omega)
  have nh := andNot_low (a := r.hi) (k := k) (by omega) r2 (by omega)
  rw [Br_bool]
  refine ⟨fun he => ?_, fun he => ?_⟩
  ·simp at he
   simp -dsimp [h5, hSP.box]
   rw [W_append (xs := [[.int .i64 r.lo, .int .i64 r.hi]]) (by simp)]
   refine OpS.ex ?_
   obtain ⟨v', H2, a1, a2, a3, _⟩ := hSP.app r.lo r.hi (by omega)
   simp -dsimp
   refine ⟨_, a1, ?_⟩
   simp -dsimp [h15, fw64 (n := i + 1) (by omega) (by omega)]
   refine Again.intro (n - 1) (by omega) ⟨i + 1, v', by omega, by omega, by simp, by simp, ?_, by simp; omega, rfl⟩
   rw [hit, hup, splitR, if_pos he]
   exact a2.own
  simp at he
  have hsr : splitR k r = splA k r ++ splB k r ++ splC k r := by rw [splitR, if_neg he]
  rw [hsr] at hup
  have hS : SK0 k s h1.n i ((sK 8).run (.ptr h1.n 0 0) tm) := ⟨by simp [t0], by simp [t6], by simp, by simp [t13], by simp [t14], by simp [h15]⟩
  simp -dsimp [-wk_ops]
  rw [← wk_seq]
  refine wk_mid (fun o st => o = .normal ∧ ∃ v', SK0 k s h1.n i st.tm ∧ (gK 5).run st.tm = v' ∧ SP st.h h.n h1.n v' (out ++ splA k r) (splLo k r) r.hi ∧ st.defs = []) ?_ ?_
  ·simp -dsimp [hSP.box, t6, al, -bin_and]
   rw [Br_bool]
   refine ⟨fun hx => ?_, fun hx => ?_⟩
   ·simp at hx
    simp -dsimp [h5, hSP.box, t6, ol, -bin_or]
    rw [W_append (xs := [[.int .i64 r.lo, .int .i64 (p2 k * (r.lo / p2 k) + (p2 k - 1))]]) (by simp)]
    refine OpS.ex ?_
    obtain ⟨v', H2, a1, a2, a3, _⟩ := hSP.app r.lo (p2 k * (r.lo / p2 k) + (p2 k - 1)) (by omega)
    simp -dsimp
    refine ⟨_, a1, ?_⟩
    have e1 : splA k r = [⟨r.lo, p2 k * (r.lo / p2 k) + (p2 k - 1)⟩] := by rw [splA, if_neg hx]
    have e2 : splLo k r = p2 k * (r.lo / p2 k) + (p2 k - 1) + 1 := by rw [splLo, if_neg hx]
    simp -dsimp [a2.box, t6, ol, -bin_or, hn1, fw64 (n := p2 k * (r.lo / p2 k) + (p2 k - 1) + 1) (by omega) (by omega)]
    refine ⟨⟨by simp [t0], by simp [t6], by simp, by simp [t13], by simp [t14], by simp [h15]⟩, ?_⟩
    rw [e1, e2]
    exact a2.put _ _
   ·simp at hx
    simp -dsimp
    have e1 : splA k r = [] := by rw [splA, if_pos hx]
    have e2 : splLo k r = r.lo := by rw [splLo, if_pos hx]
    refine ⟨⟨by simp [t0], by simp [t6], by simp, by simp [t13], by simp [t14], by simp [h15]⟩, ?_⟩
    rw [e1, e2, List.append_nil, h5]
    exact hSP
  rintro o ⟨tm2, H2, defs2, round2⟩ ⟨rfl, v2, hS2, h52, hP2, rfl⟩
  simp only at hS2 h52 hP2
  have hmH : h.n ≤ H2.n := by have := hP2.lt; have := hP2.m; omega
  simp -dsimp [-wk_ops]
  rw [wk_ops]
  simp -dsimp [-wk_ops, hS2.t8, hP2.box, hmH]
  have hvC : slId v2 ≠ some H2.n := by
   rcases hP2.own with ⟨q, q'⟩ | ⟨id, q3, q4, q5, q6, q7⟩
   ·rw [q]; simp [slId]
   ·rw [q3]; simp [slId]; omega
  have hCB : H2.n ≠ h1.n := by have := hP2.lt; omega
  have hP3 := (hP2.push (Obj.rows [[V.int IntKind.i64 0, V.int IntKind.i64 0]])).far (o := Obj.rows [[V.int IntKind.i64 (splLo k r), V.int IntKind.i64 r.hi]]) hCB hvC
  obtain ⟨H3, hH3⟩ : ∃ H3, (H2.push (Obj.rows [[V.int IntKind.i64 0, V.int IntKind.i64 0]])).set H2.n (Obj.rows [[V.int IntKind.i64 (splLo k r), V.int IntKind.i64 r.hi]]) = H3 := ⟨_, rfl⟩
  obtain ⟨C, hC⟩ : ∃ C, H2.n = C := ⟨_, rfl⟩
  have hbC : H3.get C = some (.rows [[.int .i64 (splLo k r), .int .i64 r.hi]]) := by rw [← hH3, hC, Heap.get_set, if_pos rfl]
  have hCn : C < H3.n := by rw [← hH3, ← hC]; simp
  rw [hH3] at hP3
  rw [hH3, hC]
  rw [hC] at hvC hCB
  have hS3 : SK0 k s h1.n i ((sK 9).run (.ptr C 0 0) ((sK 53).run (.agg [.int .i64 (splLo k r), .int .i64 r.hi]) tm2)) := ⟨by simp [hS2.t0], by simp [hS2.t6], by simp [hS2.t8], by simp [hS2.t13], by simp [hS2.t14], by simp [hS2.t15]⟩
  have hlo : -1 ≤ splLo k r ∧ splLo k r ≤ 2147483648 := by rw [splLo]; split <;> omega
  have hhi : -1 ≤ splHi k r ∧ splHi k r ≤ 1114111 := by rw [splHi]; split <;> omega
  have lA : (out ++ splA k r).length ≤ 3 * i.toNat + 1 := by
   rw [List.length_append]; unfold splA; split <;> simp <;> omega
  rw [← wk_seq]
  refine wk_mid (fun o st => o = .normal ∧ SK0 k s h1.n i st.tm ∧ (gK 9).run st.tm = .ptr C 0 0 ∧ (gK 5).run st.tm = v2 ∧ SP st.h h.n h1.n v2 (out ++ splA k r) (splLo k r) (splHi k r) ∧ st.h.get C = some (.rows [[.int .i64 (splLo k r), .int .i64 r.hi]]) ∧ C < st.h.n ∧ st.defs = []) ?_ ?_
  ·simp -dsimp [hP3.box, hS2.t8, hS2.t6, ah, -bin_and]
   rw [Br_bool]
   refine ⟨fun hx => ?_, fun hx => ?_⟩
   ·simp at hx
    have e1 : splHi k r = p2 k * (r.hi / p2 k) - 1 := by rw [splHi, if_neg hx]
    simp -dsimp [hP3.box, hS2.t8, hS2.t6, nh, -bin_andNot, hn1, fw64 (n := p2 k * (r.hi / p2 k) - 1) (by omega) (by omega)]
    refine ⟨⟨by simp [hS2.t0], by simp [hS2.t6], by simp [hS2.t8], by simp [hS2.t13], by simp [hS2.t14], by simp [hS2.t15]⟩, by simp [h52], ?_, ?_, by simpa using hCn⟩
    ·rw [e1]; exact hP3.put _ _
    ·rw [if_neg hCB, hbC]
   ·simp at hx
    have e1 : splHi k r = r.hi := by rw [splHi, if_pos hx]
    simp -dsimp
    refine ⟨⟨by simp [hS2.t0], by simp [hS2.t6], by simp [hS2.t8], by simp [hS2.t13], by simp [hS2.t14], by simp [hS2.t15]⟩, by simp [h52], by rw [e1]; exact hP3, hbC, hCn⟩
  rintro o ⟨tm4, H4, defs4, round4⟩ ⟨rfl, hS4, h94, h54, hP4, hC4, hCn4, rfl⟩
  simp only at hS4 h94 h54 hP4 hC4 hCn4
  clear hP3 hS3 hbC hCn hH3 hS2 hP2 h52
  simp -dsimp [-wk_ops]
  rw [← wk_seq]
  refine wk_mid (fun o st => o = .normal ∧ ∃ v', SK0 k s h1.n i st.tm ∧ (gK 9).run st.tm = .ptr C 0 0 ∧ (gK 5).run st.tm = v' ∧ SP st.h h.n h1.n v' (out ++ splA k r ++ splB k r) (splLo k r) (splHi k r) ∧ st.h.get C = some (.rows [[.int .i64 (splLo k r), .int .i64 r.hi]]) ∧ st.defs = []) ?_ ?_
  ·simp -dsimp [hP4.box, hS4.t8]
   rw [Br_bool]
   refine ⟨fun hx => ?_, fun hx => ?_⟩
   ·simp at hx
    have e1 : splB k r = [⟨splLo k r, splHi k r⟩] := by rw [splB, if_pos hx]
    simp -dsimp [h54, hP4.box, hS4.t8]
    rw [W_append (xs := [[.int .i64 (splLo k r), .int .i64 (splHi k r)]]) (by simp)]
    refine OpS.ex ?_
    obtain ⟨v', H5, a1, a2, a3, a4, a5⟩ := hP4.app (splLo k r) (splHi k r) (by omega)
    simp -dsimp
    refine ⟨_, a1, ?_⟩
    simp -dsimp [h94]
    refine ⟨⟨by simp [hS4.t0], by simp [hS4.t6], by simp [hS4.t8], by simp [hS4.t13], by simp [hS4.t14], by simp [hS4.t15]⟩, ?_, ?_⟩
    ·rw [e1, ← List.append_assoc]; exact a2
    ·rw [a4 _ hCn4 hvC, hC4]
   ·simp at hx
    have e1 : splB k r = [] := by rw [splB, if_neg (by omega)]
    simp -dsimp [h94]
    refine ⟨⟨by simp [hS4.t0], by simp [hS4.t6], by simp [hS4.t8], by simp [hS4.t13], by simp [hS4.t14], by simp [hS4.t15]⟩, ?_, hC4⟩
    rw [e1, List.append_nil, h54]; exact hP4
  rintro o ⟨tm5, H5, defs5, round5⟩ ⟨rfl, v5, hS5, h95, h55, hP5, hC5, rfl⟩
  simp only at hS5 h95 h55 hP5 hC5
  have lB : (out ++ splA k r ++ splB k r).length ≤ 3 * i.toNat + 2 := by
   rw [List.length_append]; unfold splB; split <;> simp at * <;> omega
  simp -dsimp [hP5.box, hS5.t8, h95, hC5]
  rw [Br_bool]
  refine ⟨fun hx => ?_, fun hx => ?_⟩
  ·simp at hx
   have e1 : splC k r = [⟨splHi k r + 1, r.hi⟩] := by rw [splC, if_pos hx]
   simp -dsimp [h55, hP5.box, hS5.t8, h95, hC5, fw64 (n := splHi k r + 1) (by omega) (by omega)]
   rw [W_append (xs := [[.int .i64 (splHi k r + 1), .int .i64 r.hi]]) (by simp)]
   refine OpS.ex ?_
   obtain ⟨v', H6, a1, a2, a3, a4, a5⟩ := hP5.app (splHi k r + 1) r.hi (by omega)
   simp -dsimp
   refine ⟨_, a1, ?_⟩
   simp -dsimp [hS5.t15, fw64 (n := i + 1) (by omega) (by omega)]
   refine Again.intro (n - 1) (by omega) ⟨i + 1, v', by omega, by omega, by simp, by simp, ?_, by have := a2.lt; have := a2.m; simp; omega, rfl⟩
   rw [hit, hup, e1]
   simpa [List.append_assoc] using a2.own
  ·simp at hx
   have e1 : splC k r = [] := by rw [splC, if_neg (by omega)]
   simp -dsimp [hS5.t15, fw64 (n := i + 1) (by omega) (by omega)]
   refine Again.intro (n - 1) (by omega) ⟨i + 1, v5, by omega, by omega, by simp, by simp [h55], ?_, by have := hP5.lt; have := hP5.m; simp; omega, rfl⟩
   rw [hit, hup, e1, List.append_nil, ← List.append_assoc]
   exact hP5.own
 ·simp at hc
  have hc' : decide (i < (s.l.length : Int)) = false := by simpa using hc
  have : i.toNat = s.l.length := by omega
  rw [this] at hO
  simp -dsimp [hc', h5]
  exact frz_ownR2 hO (Nat.le_refl _)
end Go.Abs
namespace Go.Abs
open Go Pr
set_option maxRecDepth 10000
theorem conts_mem {r x : Int} : ∀ {j : Nat}, x ∈ conts r j → 0 ≤ x ∧ x ≤ 255
 | 0, h => by simp [conts] at h
 | j + 1, h => by
  simp only [conts, List.mem_cons] at h
  rcases h with rfl | h
  ·omega
  ·exact conts_mem h
theorem lead_range {r : Int} (h : mayI r = true) : 0 ≤ headI (sizeN r) + r / p2 (6 * (sizeN r - 1)) ∧ headI (sizeN r) + r / p2 (6 * (sizeN r - 1)) ≤ 255 := by
 simp only [mayI, Bool.and_eq_true, decide_eq_true_eq] at h
 obtain ⟨⟨r0, r1⟩, _⟩ := h
 have e0 : p2 0 = 1 := rfl
 have e6 : p2 6 = 64 := rfl
 have e12 : p2 12 = 4096 := rfl
 have e18 : p2 18 = 262144 := rfl
 simp only [sizeN]
 split
 ·simp [headI, e0]; omega
 ·split
  ·simp [headI, e6]; omega
  ·split
   ·simp [headI, e12]; omega
   ·simp [headI, e18]; omega
theorem putS_mem {r x : Int} (h : x ∈ (putS r).l) : 0 ≤ x ∧ x ≤ 255 := by
 unfold putS at h
 split at h
 ·rename_i hm
  simp only [l_of, putL, List.mem_cons] at h
  rcases h with rfl | h
  ·exact lead_range hm
  ·exact conts_mem h
 ·simp at h
def oneUp (a b : List Int) : Nat → List Rg
 | 0 => []
 | i + 1 => oneUp a b i ++ [⟨lat a i, lat b i⟩]
def oneL (r : Rg) : List Rg := oneUp (putS r.lo).l (putS r.hi).l (putS r.lo).l.length
theorem oneUp_len (a b : List Int) : ∀ i, (oneUp a b i).length = i
 | 0 => rfl
 | i + 1 => by simp [oneUp, oneUp_len a b i]
theorem putS_len (r : Int) : (putS r).l.length ≤ 4 := by
 have := sizeN_le r
 unfold putS; split
 ·simp [putL, conts_len]; omega
 ·simp
section
variable {d : Bool} {mk : Nat} {h : Heap}
theorem one_ok (r : Rg) (hr : (putS r.lo).l.length ≤ (putS r.hi).l.length) : WF PR d mk (.fn 183 [] []) [.agg r.cells] h fun x => x = ⟨(slR (oneL r)).enc Rg.cells, h⟩ := by
 refine WF.pureOne (F := f183) rfl rfl rfl (Nat.le_of_ble_eq_true rfl) ?_
 refine wbodyS b183 [.tm 2] rfl rfl ?_
 unfold b183
 simp -dsimp [Rg.cells]
 refine WFS.by (Put_ok r.lo) ?_
 intro v h1 e
 cases e
 simp -dsimp
 refine WFS.by (Put_ok r.hi) ?_
 intro v h1 e
 cases e
 have hl4 := putS_len r.lo
 obtain ⟨a, ha⟩ : ∃ a, putS r.lo = a := ⟨_, rfl⟩
 obtain ⟨b, hb⟩ : ∃ b, putS r.hi = b := ⟨_, rfl⟩
 have hma : ∀ x ∈ a.l, 0 ≤ x ∧ x ≤ 255 := fun x hx => putS_mem (r := r.lo) (ha ▸ hx)
 have hmb : ∀ x ∈ b.l, 0 ≤ x ∧ x ≤ 255 := fun x hx => putS_mem (r := r.hi) (hb ▸ hx)
 have hone : oneL r = oneUp a.l b.l a.l.length := by rw [oneL, ha, hb]
 rw [ha, hb] at hr
 rw [ha] at hl4
 simp -dsimp [ha, hb]
 rw [hone]
 refine wk_loop (fun n st => ∃ (i : Int) (v : V), 0 ≤ i ∧ (n : Int) = a.l.length - i ∧ (gK 23).run st.tm = .int .i64 i ∧ (gK 7).run st.tm = v ∧ Own st.h h.n v 2 ((oneUp a.l b.l i.toNat).map Rg.cells) ∧ h.n ≤ st.h.n ∧ st.defs = []) a.l.length
  ⟨0, .nils, by omega, by omega, by simp, by simp, .inl ⟨rfl, rfl⟩, by simp <;> omega, rfl⟩ ?_
 rintro n ⟨tm, h1, defs, round⟩ ⟨i, v, hi, hn, h23, h7, hO, hn1, rfl⟩ hK
 have t3 := hK 3 rfl
 have t5 := hK 5 rfl
 have t22 := hK 22 rfl
 simp at t3 t5 t22 h23 h7
 simp only at hO hn1
 clear hK
 simp -dsimp [h23, t22]
 rw [Br_bool]
 refine ⟨fun hc => ?_, fun hc => ?_⟩
 ·simp at hc
  have hc1 : i < ((a.l.length : Nat) : Int) := by omega
  have hc2 : i < ((b.l.length : Nat) : Int) := by omega
  have ma := hma _ (lat_mem (l := a.l) (i := i.toNat) (by omega))
  have mb := hmb _ (lat_mem (l := b.l) (i := i.toNat) (by omega))
  have hlen := oneUp_len a.l b.l i.toNat
  simp -dsimp [h23, t3, t5, h7, u8Cells, iaddr_enc (f := u8Cells) (s := a) (esz := 1) (k := .i64) hi hc1 (fun _ => rfl), iaddr_enc (f := u8Cells) (s := b) (esz := 1) (k := .i64) hi hc2 (fun _ => rfl), fw64 (n := lat a.l i.toNat) (by omega) (by omega), fw64 (n := lat b.l i.toNat) (by omega) (by omega)]
  rw [W_append (xs := [[.int .i64 (lat a.l i.toNat), .int .i64 (lat b.l i.toNat)]]) (by simp)]
  refine OpS.ex ?_
  obtain ⟨v', h2, a1, a2, a3, a4, a5⟩ := own_append (mk := h.n) (bytes := 16) (xs := [[.int .i64 (lat a.l i.toNat), .int .i64 (lat b.l i.toNat)]]) hO (by omega) (by simp) (by simp; omega) (by omega) (by omega)
  simp -dsimp
  refine ⟨_, a1, ?_⟩
  simp -dsimp [h23, fw64 (n := i + 1) (by omega) (by omega)]
  refine Again.intro (n - 1) (by omega) ⟨i + 1, v', by omega, by omega, by simp, by simp, ?_, by simp; omega, rfl⟩
  rw [show (i + 1).toNat = i.toNat + 1 by omega, oneUp, List.map_append]
  exact a2
 ·simp at hc
  have hc' : decide (i < (a.l.length : Int)) = false := by simpa using hc
  have : i.toNat = a.l.length := by omega
  rw [this] at hO
  simp -dsimp [hc', h7]
  exact frz_ownR hO (Nat.le_refl _)
def kindR (i : Nat) : Rg := if i = 0 then ⟨0, 127⟩ else if i = 1 then ⟨128, 2047⟩ else if i = 2 then ⟨2048, 55295⟩ else if i = 3 then ⟨57344, 65535⟩ else ⟨65536, 1114111⟩
def kindM (i : Nat) : Nat := if i = 0 then 0 else if i = 1 then 1 else if i = 2 then 2 else if i = 3 then 2 else 3
def kindC (i : Nat) : List V := (kindR i).cells ++ [.int .i64 (kindM i)]
def kindsV : V := .agg (kindC 0 ++ kindC 1 ++ kindC 2 ++ kindC 3 ++ kindC 4)
theorem kinds_ok : WF PR d mk (.fn 180 [] []) [] h fun x => x = ⟨kindsV, h⟩ := by
 refine WF.pureOne (F := f180) rfl rfl rfl (Nat.le_of_ble_eq_true rfl) ?_
 refine wbodyS b180 [.cell (some 15) 0] rfl rfl ?_
 unfold b180
 simp -dsimp
 rfl
theorem kind_idx {i : Int} (h0 : 0 ≤ i) (h1 : i < 5) : idxAV 5 3 true kindsV (.int .i64 i) = some (.agg (kindC i.toNat)) := by
 have : i = 0 ∨ i = 1 ∨ i = 2 ∨ i = 3 ∨ i = 4 := by omega
 rcases this with rfl | rfl | rfl | rfl | rfl <;> rfl
end
end Go.Abs
namespace Go.Abs
open Go Pr
theorem insI_sorted (x : Int) : ∀ l : List Int, l.Pairwise (· ≤ ·) → (insI x l).Pairwise (· ≤ ·)
 | [], _ => by simp [insI]
 | y :: l, h => by
  rw [List.pairwise_cons] at h
  simp only [insI]
  by_cases c : x ≤ y
  ·rw [leB_eq, decide_eq_true c]
   simp only [cond]
   rw [List.pairwise_cons, List.pairwise_cons]
   exact ⟨fun z hz => by
    rcases List.mem_cons.1 hz with rfl | hz
    ·exact c
    ·exact Int.le_trans c (h.1 z hz), h⟩
  ·rw [leB_eq, decide_eq_false c]
   simp only [cond]
   rw [List.pairwise_cons]
   refine ⟨fun z hz => ?_, insI_sorted x l h.2⟩
   have : z = x ∨ z ∈ l := by
    have key : ∀ l : List Int, z ∈ insI x l → z = x ∨ z ∈ l := by
     intro l
     induction l with
     | nil => simp [insI]
     | cons w l ih =>
      simp only [insI]
      cases leB x w with
      | true => simp
      | false =>
       simp only [cond, List.mem_cons]
       rintro (h | h)
       ·exact .inr (.inl h)
       ·rcases ih h with h | h
        ·exact .inl h
        ·exact .inr (.inr h)
    exact key l hz
   rcases this with rfl | hz
   ·omega
   ·exact h.1 z hz
theorem sortI_sorted : ∀ l : List Int, (sortI l).Pairwise (· ≤ ·)
 | [] => by simp [sortI]
 | x :: l => insI_sorted x _ (sortI_sorted l)
theorem ddUp_sorted {l : List Int} (hl : l.Pairwise (· ≤ ·)) : ∀ i, i ≤ l.length → (ddUp l i).Pairwise (· < ·) ∧ ∀ x ∈ ddUp l i, x ≤ lat l (i - 1)
 | 0, _ => by simp [ddUp]
 | i + 1, hi => by
  obtain ⟨h1, h2⟩ := ddUp_sorted hl i (by omega)
  have hstep : 0 < i → lat l (i - 1) ≤ lat l i := fun h0 => by
   rw [List.pairwise_iff_getElem] at hl
   rw [lat_eq (by omega), lat_eq (by omega)]
   exact hl _ _ (by omega) (by omega) (by omega)
  simp only [ddUp, Nat.add_sub_cancel]
  split
  ·rename_i hc
   refine ⟨List.pairwise_append.2 ⟨h1, by simp, fun x hx y hy => ?_⟩, fun x hx => ?_⟩
   ·simp at hy; subst hy
    have hx' := h2 x hx
    by_cases h0 : i = 0
    ·subst h0; simp [ddUp] at hx
    ·have := hstep (by omega)
     rcases hc with hc | hc
     ·exact absurd hc h0
     ·omega
   ·rcases List.mem_append.1 hx with hx | hx
    ·by_cases h0 : i = 0
     ·subst h0; simp [ddUp] at hx
     ·have := h2 x hx; have := hstep (by omega); omega
    ·simp at hx; omega
  ·rename_i hc
   refine ⟨h1, fun x hx => ?_⟩
   have := h2 x hx
   by_cases h0 : i = 0
   ·exact absurd (.inl h0) hc
   ·have := hstep (by omega); omega
theorem bordL_sorted (l : List Rg) : (bordL l).Pairwise (· < ·) := (ddUp_sorted (sortI_sorted _) _ (Nat.le_refl _)).1
theorem bordL_lt {l : List Rg} {i j : Nat} (h : i < j) (hj : j < (bordL l).length) : lat (bordL l) i < lat (bordL l) j := by
 have := bordL_sorted l
 rw [List.pairwise_iff_getElem] at this
 rw [lat_eq (by omega), lat_eq hj]
 exact this _ _ (by omega) hj h
theorem bordL_gap {l : List Rg} {i : Nat} {x : Int} (hx : x ∈ bordL l) (hi : i + 1 < (bordL l).length) (h : lat (bordL l) i < x) : lat (bordL l) (i + 1) ≤ x := by
 rw [List.mem_iff_getElem] at hx
 obtain ⟨k, hk, rfl⟩ := hx
 rw [← lat_eq hk] at h ⊢
 by_cases c : k ≤ i
 ·by_cases e : k = i
  ·subst e; omega
  ·have := bordL_lt (l := l) (i := k) (j := i) (by omega) (by omega); omega
 ·by_cases e : k = i + 1
  ·subst e; omega
  ·have := bordL_lt (l := l) (i := i + 1) (j := k) (by omega) hk; omega
theorem mem_bordL {l : List Rg} {r : Rg} {x : Int} (hr : r ∈ l) (hx : x ∈ bordR r) : x ∈ bordL l := by
 rw [bordL, mem_dd, mem_sortI]
 have key : ∀ i, (∃ j, j < i ∧ lat l j = r) → x ∈ bordUp l i := by
  intro i
  induction i with
  | zero => rintro ⟨j, h, _⟩; omega
  | succ i ih =>
   rintro ⟨j, hj, e⟩
   rw [bordUp, List.mem_append]
   by_cases c : j = i
   ·subst c; right; rw [e]; exact hx
   ·exact .inl (ih ⟨j, by omega, e⟩)
 rw [List.mem_iff_getElem] at hr
 obtain ⟨k, hk, e⟩ := hr
 exact key _ ⟨k, hk, by rw [lat_eq hk, e]⟩
def PickOk (p : Int → Bool) (B : List Int) (i : Nat) (x : Rg) : Prop :=
 p x.lo = true ∧ x.lo ≤ x.hi ∧ x.lo ∈ B ∧ ∃ m, m < i ∧ p (lat B m) = true ∧ x.hi = lat B (m + 1) - 1
theorem PickOk.mono {p : Int → Bool} {B : List Int} {i j : Nat} {x : Rg} (h : PickOk p B i x) (hij : i ≤ j) : PickOk p B j x := by
 obtain ⟨a, b, b2, m, c, d⟩ := h
 exact ⟨a, b, b2, m, by omega, d⟩
theorem pickUp_ok {p : Int → Bool} {l : List Rg} : ∀ i, i < (bordL l).length → ∀ x ∈ pickUp p (bordL l) i, PickOk p (bordL l) i x
 | 0, _, x, hx => by simp [pickUp] at hx
 | i + 1, hi, x, hx => by
  have ih := pickUp_ok (p := p) (l := l) i (by omega)
  have hlt := bordL_lt (l := l) (i := i) (j := i + 1) (by omega) hi
  simp only [pickUp, pickStep] at hx
  split at hx
  ·rename_i hp
   split at hx
   ·rename_i hc
    rcases List.mem_or_eq_of_mem_set hx with hx | hx
    ·exact (ih x hx).mono (by omega)
    ·have hm := lat_mem (l := pickUp p (bordL l) i) (i := (pickUp p (bordL l) i).length - 1) (by omega)
     obtain ⟨a, b, b2, _⟩ := ih _ hm
     have := hc.2
     rw [hx]
     exact ⟨a, by simp only; omega, b2, i, by omega, hp, rfl⟩
   ·rcases List.mem_append.1 hx with hx | hx
    ·exact (ih x hx).mono (by omega)
    ·simp at hx
     rw [hx]
     exact ⟨hp, by simp only; omega, lat_mem (by omega), i, by omega, hp, rfl⟩
  ·exact (ih x hx).mono (by omega)
theorem pickL_ok {p : Int → Bool} {l : List Rg} {x : Rg} (hx : x ∈ pickL p l) : PickOk p (bordL l) ((bordL l).length - 1) x :=
 pickUp_ok _ (by have := bordL_pos l; omega) x hx
def InR (K x : Rg) : Prop := K.lo ≤ x.lo ∧ x.lo ≤ x.hi ∧ x.hi ≤ K.hi
theorem pick_in {p : Int → Bool} {l : List Rg} {x K : Rg} (hx : x ∈ pickL p l) (hK : K ∈ l) (h0 : 0 ≤ K.lo) (h1 : K.hi ≤ 1114111) (hp : ∀ n, p n = true → K.lo ≤ n ∧ n ≤ K.hi) : InR K x := by
 obtain ⟨a, b, _, m, c, d, e⟩ := pickL_ok hx
 have h2 := hp _ a
 have h3 := hp _ d
 refine ⟨h2.1, b, ?_⟩
 have hb : K.hi + 1 ∈ bordL l := by
  refine mem_bordL hK ?_
  simp [bordR]; omega
 have := bordL_gap hb (i := m) (by omega) (by omega)
 omega
theorem two_in {r K x : Rg} (h0 : 0 ≤ K.lo) (h1 : K.hi ≤ 1114111) (hx : x ∈ twoL and [r] [K]) : InR K x := by
 refine pick_in hx (by simp) h0 h1 fun n hn => ?_
 simp [hasB, inR] at hn
 omega
theorem splitR_in {k : Nat} {r K x : Rg} (hr : InR K r) (h0 : 0 ≤ K.lo) (hx : x ∈ splitR k r) : InR K x := by
 have pk := p2_pos k
 obtain ⟨a, b, c⟩ := hr
 unfold splitR at hx
 split at hx
 ·simp at hx; subst hx; exact ⟨a, b, c⟩
 ·rename_i hne
  have qa : p2 k * (r.lo / p2 k) ≤ r.lo := Int.mul_ediv_self_le (by omega)
  have qc : p2 k * (r.hi / p2 k) ≤ r.hi := Int.mul_ediv_self_le (by omega)
  have hlt : r.lo / p2 k + 1 ≤ r.hi / p2 k := by
   have := Int.ediv_le_ediv pk b
   omega
  have hmul : p2 k * (r.lo / p2 k) + p2 k ≤ p2 k * (r.hi / p2 k) := by
   have := Int.mul_le_mul_of_nonneg_left hlt (Int.le_of_lt pk)
   rw [Int.mul_add, Int.mul_one] at this
   exact this
  have ea := Int.mul_ediv_add_emod r.lo (p2 k)
  have ea2 := Int.emod_lt_of_pos r.lo pk
  have eb := Int.mul_ediv_add_emod r.hi (p2 k)
  have eb2 := Int.emod_lt_of_pos r.hi pk
  have ea3 := Int.emod_nonneg r.lo (show p2 k ≠ 0 by omega)
  have eb3 := Int.emod_nonneg r.hi (show p2 k ≠ 0 by omega)
  have hlo : r.lo ≤ splLo k r ∧ splLo k r ≤ p2 k * (r.lo / p2 k) + p2 k := by unfold splLo; split <;> omega
  have hhi : p2 k * (r.hi / p2 k) - 1 ≤ splHi k r ∧ splHi k r ≤ r.hi := by unfold splHi; split <;> omega
  simp only [List.mem_append] at hx
  rcases hx with (hx | hx) | hx
  ·unfold splA at hx
   split at hx
   ·simp at hx
   ·simp at hx; subst hx; exact ⟨a, by simp only; omega, by simp only; omega⟩
  ·unfold splB at hx
   split at hx
   ·simp at hx; subst hx; exact ⟨by simp only; omega, by simp only; omega, by simp only; omega⟩
   ·simp at hx
  ·unfold splC at hx
   split at hx
   ·simp at hx; subst hx; exact ⟨by simp only; omega, by simp only; omega, c⟩
   ·simp at hx
theorem splitL_in {k : Nat} {l : List Rg} {K x : Rg} (hl : ∀ r ∈ l, InR K r) (h0 : 0 ≤ K.lo) (hx : x ∈ splitL k l) : InR K x := by
 have key : ∀ i, i ≤ l.length → x ∈ splitUp k l i → InR K x := by
  intro i
  induction i with
  | zero => intro _ h; simp [splitUp] at h
  | succ i ih =>
   intro hi h
   rw [splitUp, List.mem_append] at h
   rcases h with h | h
   ·exact ih (by omega) h
   ·exact splitR_in (hl _ (lat_mem (by omega))) h0 h
 exact key _ (Nat.le_refl _) hx
end Go.Abs
namespace Go.Abs
open Go Pr
set_option maxRecDepth 10000
def seqCells (s : Sl Rg) : List V := [s.enc Rg.cells]
def splitsL : Nat → List Rg → List Rg
 | 0, l => l
 | n + 1, l => splitsL n (splitL (6 * (n + 1)) l)
def kindL (r : Rg) (i : Nat) : List Rg := splitsL (kindM i) (twoL and [r] [kindR i])
def seqOf (x : Rg) : Sl Rg := slR (oneL x)
def ofR (r : Rg) (i : Nat) : List (Sl Rg) := (kindL r i).map seqOf
def ofUp2 (r : Rg) : Nat → List (Sl Rg)
 | 0 => []
 | i + 1 => ofUp2 r i ++ ofR r i
def ofUp (l : List Rg) : Nat → List (Sl Rg)
 | 0 => []
 | j + 1 => ofUp l j ++ ofUp2 (lat l j) 5
def ofL (l : List Rg) : List (Sl Rg) := ofUp (normL l) (normL l).length
def slQ (l : List (Sl Rg)) : Sl (Sl Rg) := if l.isEmpty then .nil else .of l
@[simp] theorem slQ_l (l : List (Sl Rg)) : (slQ l).l = l := by unfold slQ; cases l <;> rfl
theorem splitsL_len : ∀ n l, (splitsL n l).length ≤ 3 ^ n * l.length
 | 0, l => by simp [splitsL]
 | n + 1, l => by
  have h1 := splitsL_len n (splitL (6 * (n + 1)) l)
  have h2 := splitUp_len (6 * (n + 1)) l l.length
  simp only [splitsL]
  have : 3 ^ n * (splitL (6 * (n + 1)) l).length ≤ 3 ^ n * (3 * l.length) := Nat.mul_le_mul_left _ h2
  rw [Nat.pow_succ, Nat.mul_assoc]
  omega
theorem splitsL_in {K x : Rg} (h0 : 0 ≤ K.lo) : ∀ {n : Nat} {l : List Rg}, (∀ r ∈ l, InR K r) → x ∈ splitsL n l → InR K x
 | 0, l, hl, hx => hl x hx
 | n + 1, l, hl, hx => splitsL_in (n := n) h0 (fun _ hr => splitL_in hl h0 hr) hx
theorem pickL_len (p : Int → Bool) (l : List Rg) : (pickL p l).length ≤ 1 + 2 * l.length := by
 have h1 := pickUp_len p (bordL l) ((bordL l).length - 1)
 have h2 := bordL_len l
 unfold pickL; omega
theorem kindM_le (i : Nat) : kindM i ≤ 3 := by unfold kindM; split <;> (try split) <;> (try split) <;> (try split) <;> omega
theorem kindR_ok (i : Nat) : 0 ≤ (kindR i).lo ∧ (kindR i).lo ≤ (kindR i).hi ∧ (kindR i).hi ≤ 1114111 := by
 unfold kindR; split <;> (try split) <;> (try split) <;> (try split) <;> simp
theorem kindL_len (r : Rg) (i : Nat) : (kindL r i).length ≤ 135 := by
 have h1 := splitsL_len (kindM i) (twoL and [r] [kindR i])
 have h2 : (twoL and [r] [kindR i]).length ≤ 5 := pickL_len _ ([r] ++ [kindR i])
 have h3 : 3 ^ kindM i ≤ 3 ^ 3 := Nat.pow_le_pow_right (by omega) (kindM_le i)
 have h4 : 3 ^ kindM i * (twoL and [r] [kindR i]).length ≤ 27 * 5 := Nat.mul_le_mul h3 h2
 unfold kindL; omega
theorem ofUp2_len (r : Rg) : ∀ i, (ofUp2 r i).length ≤ 135 * i
 | 0 => by simp [ofUp2]
 | i + 1 => by
  have h1 := ofUp2_len r i
  have h2 := kindL_len r i
  simp only [ofUp2, ofR, List.length_append, List.length_map]; omega
theorem ofUp_len (l : List Rg) : ∀ j, (ofUp l j).length ≤ 675 * j
 | 0 => by simp [ofUp]
 | j + 1 => by
  have h1 := ofUp_len l j
  have h2 := ofUp2_len (lat l j) 5
  simp only [ofUp, List.length_append]; omega
theorem kind_size {i : Nat} {x : Int} (h0 : (kindR i).lo ≤ x) (h1 : x ≤ (kindR i).hi) : mayI x = true ∧ sizeN x = kindM i + 1 := by
 unfold kindR at h0 h1
 unfold mayI sizeN kindM
 split at h0
 ·rename_i h; simp [h] at h1 h0 ⊢; omega
 ·rename_i h
  split at h0
  ·rename_i h'; subst h'; simp at h1 h0 ⊢; refine ⟨by omega, ?_⟩; split; omega; split <;> omega
  ·rename_i h'
   split at h0
   ·rename_i h2; subst h2; simp at h1 h0 ⊢; refine ⟨by omega, ?_⟩; split; omega; split; omega; split <;> omega
   ·rename_i h2
    split at h0
    ·rename_i h3; subst h3; simp at h1 h0 ⊢; refine ⟨by omega, ?_⟩; split; omega; split; omega; split <;> omega
    ·rename_i h3; simp [h, h', h2, h3] at h1 h0 ⊢; refine ⟨by omega, ?_⟩; split; omega; split; omega; split <;> omega
theorem put_kind {i : Nat} {x : Int} (h0 : (kindR i).lo ≤ x) (h1 : x ≤ (kindR i).hi) : (putS x).l.length = kindM i + 1 := by
 obtain ⟨a, b⟩ := kind_size h0 h1
 simp [putS, a, putL, conts_len, b]
theorem frz_seqRow {n k : Nat} {h : Heap} {l : List Rg} : freeze n h (k + 3) ((slR l).enc Rg.cells) = some ((slR l).enc Rg.cells) := by
 cases l with
 | nil => rfl
 | cons x l =>
  show (match allM (allM (freeze n h (k + 2))) ((x :: l).map Rg.cells) with | some r => some (V.slR r false) | none => none) = _
  rw [frz_Rg_rows]; rfl
theorem frz_seqs {n k : Nat} {h : Heap} : ∀ {l : List (Sl Rg)}, (∀ s ∈ l, ∃ x, s = seqOf x) → allM (allM (freeze n h (k + 3))) (l.map seqCells) = some (l.map seqCells)
 | [], _ => rfl
 | s :: l, hl => by
  have ih := frz_seqs (n := n) (k := k) (h := h) (l := l) fun s hs => hl s (by simp [hs])
  obtain ⟨x, rfl⟩ := hl s (by simp)
  simp only [List.map_cons, allM, seqCells, seqOf, frz_seqRow] at ih ⊢
  rw [ih]
theorem ofUp_seq {l : List Rg} {s : Sl Rg} : ∀ {j : Nat}, s ∈ ofUp l j → ∃ x, s = seqOf x
 | 0, h => by simp [ofUp] at h
 | j + 1, h => by
  rw [ofUp, List.mem_append] at h
  rcases h with h | h
  ·exact ofUp_seq h
  ·have key : ∀ i, s ∈ ofUp2 (lat l j) i → ∃ x, s = seqOf x := by
    intro i
    induction i with
    | zero => intro h; simp [ofUp2] at h
    | succ i ih =>
     intro h
     rw [ofUp2, List.mem_append] at h
     rcases h with h | h
     ·exact ih h
     ·simp only [ofR, List.mem_map] at h
      obtain ⟨x, _, rfl⟩ := h
      exact ⟨x, rfl⟩
   exact key _ h
theorem frz_ownQ {h : Heap} {n m : Nat} {v : V} {l : List (Sl Rg)} (hO : Own h m v 1 (l.map seqCells)) (hn : n ≤ m) (hl : ∀ s ∈ l, ∃ x, s = seqOf x) : freeze n h depthMax v = some ((slQ l).enc seqCells) := by
 rcases hO with ⟨rfl, e⟩ | ⟨id, rfl, h2, h3, _, h5⟩
 ·have : l = [] := by simpa using e
  subst this; rfl
 ·have hr : rowsOf h (.sl id 0 (l.map seqCells).length 1 false) = some (l.map seqCells) := by simp [rowsOf, h2]; rw [List.take_of_length_le (by simp)]
  have hni : n ≤ id := by omega
  rw [freeze_sl, hr]
  have := frz_seqs (n := n) (h := h) (k := 12) hl
  simp only [this, ble_dec, hni, decide_true, cond]
  cases l with
  | nil => simp at h5
  | cons x l => rfl
end Go.Abs
namespace Go.Abs
open Go Pr
set_option maxRecDepth 10000
structure OB (H : Heap) (m B : Nat) (v : V) (rows : List (Sl Rg)) (r : Rg) : Prop where
 own : Own H m v 1 (rows.map seqCells)
 box : H.get B = some (.rows [r.cells])
 ne : slId v ≠ some B
 lt : B < H.n
 m : m ≤ B
theorem OB.push {H : Heap} {m B : Nat} {v : V} {rows : List (Sl Rg)} {r : Rg} (h : OB H m B v rows r) (o : Obj) : OB (H.push o) m B v rows r :=
 ⟨h.own.ext (fun j hj => by rw [Heap.get_push, if_neg (by omega)]) (by simp), by rw [Heap.get_push, if_neg (by have := h.lt; omega), h.box], h.ne, by have := h.lt; simp; omega, h.m⟩
theorem Own.idlt {h : Heap} {m e : Nat} {v : V} {rows : List (List V)} (hO : Own h m v e rows) {j : Nat} (hj : h.n ≤ j) : Go.Abs.slId v ≠ some j := by
 rcases hO with ⟨rfl, _⟩ | ⟨id, rfl, _, _, h4, _⟩
 ·simp [Go.Abs.slId]
 ·simp [Go.Abs.slId]; omega
theorem Own.setOff {h : Heap} {m e j : Nat} {v : V} {rows : List (List V)} {o : Obj} (hO : Own h m v e rows) (hv : Go.Abs.slId v ≠ some j) : Own (h.set j o) m v e rows := by
 rcases hO with ⟨q, q'⟩ | ⟨id, q3, q4, q5, q6, q7⟩
 ·exact .inl ⟨q, q'⟩
 ·subst q3
  simp [Go.Abs.slId] at hv
  exact .inr ⟨id, rfl, by rw [Heap.get_set, if_neg hv, q4], q5, by simpa using q6, q7⟩
theorem OB.far {H : Heap} {m B j : Nat} {v : V} {rows : List (Sl Rg)} {r : Rg} {o : Obj} (h : OB H m B v rows r) (hj : j ≠ B) (hv : slId v ≠ some j) : OB (H.set j o) m B v rows r :=
 ⟨h.own.setOff hv, by rw [Heap.get_set, if_neg (Ne.symm hj), h.box], h.ne, by have := h.lt; simpa, h.m⟩
theorem OB.boxed {H : Heap} {m B : Nat} {v : V} {rows : List (Sl Rg)} {r : Rg} (h : OB H m B v rows r) (o o' : Obj) : OB ((H.push o).set H.n o') m B v rows r :=
 (h.push o).far (by have := h.lt; omega) (h.own.idlt (Nat.le_refl _))
theorem OB.app {H : Heap} {m B : Nat} {v : V} {rows : List (Sl Rg)} {r : Rg} (h : OB H m B v rows r) (s : Sl Rg) (hl : rows.length + 1 < 4294967296) :
  ∃ v' h', appendRows m H 1 24 v [seqCells s] = some ⟨v', h'⟩ ∧ OB h' m B v' (rows ++ [s]) r ∧ H.n ≤ h'.n := by
 have := h.lt
 have := h.m
 obtain ⟨v', h', a1, a2, a3, a4, a5⟩ := own_append (mk := m) (bytes := 24) (xs := [seqCells s]) h.own (Nat.le_refl _) (by simp [seqCells]) (by simpa using hl) (by omega) (by omega)
 refine ⟨v', h', a1, ⟨by simpa using a2, by rw [a4 _ h.lt h.ne, h.box], fun e => ?_, by omega, h.m⟩, a3⟩
 rcases a5 _ e with e | e
 ·omega
 ·exact h.ne e
theorem of_ok (s : Sl Rg) (hs : s.l.length < 1500000) {d : Bool} {mk : Nat} {h : Heap} : WF PR d mk (.fn 146 [] []) [s.enc Rg.cells] h fun x => x = ⟨(slQ (ofL s.l)).enc seqCells, h⟩ := by
 refine WF.pureOne (F := f146) rfl rfl rfl (Nat.le_of_ble_eq_true rfl) ?_
 refine wbodyS b146 [.tm 2] rfl rfl ?_
 unfold b146
 simp -dsimp
 refine WFS.by (Norm_ok s (by omega)) ?_
 intro v h1 e
 cases e
 have hnl := pickL_len (hasB s.l) s.l
 have hof : ofL s.l = ofUp (normL s.l) (normL s.l).length := rfl
 have hnl2 : (normL s.l).length ≤ 1 + 2 * s.l.length := hnl
 obtain ⟨nl, hnle⟩ : ∃ nl, normL s.l = nl := ⟨_, rfl⟩
 rw [hnle] at hof hnl2
 simp -dsimp [hnle, hof]
 refine wk_loop (fun n st => ∃ (j : Int) (v : V), 0 ≤ j ∧ (n : Int) = nl.length - j ∧ (gK 15).run st.tm = .int .i64 j ∧ (gK 3).run st.tm = v ∧ Own st.h h.n v 1 ((ofUp nl j.toNat).map seqCells) ∧ h.n ≤ st.h.n ∧ st.defs = []) nl.length
  ⟨0, .nils, by omega, by omega, by simp, by simp, .inl ⟨rfl, rfl⟩, by simp, rfl⟩ ?_
 rintro n ⟨tm, h1, defs, round⟩ ⟨j, v, hj, hn, h15, h3, hO, hn1, rfl⟩ hK
 have t13 := hK 13 rfl
 have t14 := hK 14 rfl
 simp at t13 t14 h15 h3
 simp only at hO hn1
 clear hK
 simp -dsimp [h15, t14]
 rw [Br_bool]
 refine ⟨fun hc => ?_, fun hc => ?_⟩
 ·simp at hc
  have hc' : j < (((slR nl).l.length : Nat) : Int) := by simp; omega
  obtain ⟨r, hr⟩ : ∃ r, lat nl j.toNat = r := ⟨_, rfl⟩
  have hjt : (j + 1).toNat = j.toNat + 1 := by omega
  have hup : ofUp nl (j.toNat + 1) = ofUp nl j.toNat ++ ofUp2 r 5 := by rw [ofUp, hr]
  have hlen := ofUp_len nl j.toNat
  obtain ⟨out, hout⟩ : ∃ out, ofUp nl j.toNat = out := ⟨_, rfl⟩
  rw [hout] at hO hlen hup
  have hOB : OB ((h1.push (Obj.rows [[V.int IntKind.i64 0, V.int IntKind.i64 0]])).set h1.n (Obj.rows [r.cells])) h.n h1.n v out r :=
   ⟨(hO.ext (fun j hj => by rw [Heap.get_push, if_neg (by omega)]) (by simp)).setOff (hO.idlt (Nat.le_refl _)), by rw [Heap.get_set, if_pos rfl], hO.idlt (Nat.le_refl _), by simp, hn1⟩
  obtain ⟨H1, hH1⟩ : ∃ H1, (h1.push (Obj.rows [[V.int IntKind.i64 0, V.int IntKind.i64 0]])).set h1.n (Obj.rows [r.cells]) = H1 := ⟨_, rfl⟩
  rw [hH1] at hOB
  have hl2 : (slR nl).l = nl := slR_l nl
  have hrc : [V.int IntKind.i64 r.lo, V.int IntKind.i64 r.hi] = r.cells := rfl
  simp -dsimp [t13, h15, iaddr_Rg hj hc', hr, Rg.cells, hn1]
  rw [hrc, hH1]
  refine WFS.by kinds_ok ?_
  intro v0 h0 e
  cases e
  simp -dsimp
  obtain ⟨B, hB⟩ : ∃ B, h1.n = B := ⟨_, rfl⟩
  rw [hB] at hOB ⊢
  refine wk_loop (fun n st => ∃ (i : Int) (v : V), 0 ≤ i ∧ i ≤ 5 ∧ (n : Int) = 5 - i ∧ (gK 20).run st.tm = .int .i64 i ∧ (gK 3).run st.tm = v ∧ OB st.h h.n B v (out ++ ofUp2 r i.toNat) r ∧ st.defs = []) 5
   ⟨0, v, by omega, by omega, by omega, by simp, by simp [h3], by simpa [ofUp2] using hOB, rfl⟩ ?_
  rintro n2 ⟨tm2, h2, defs2, round2⟩ ⟨i, v2, hi, hi5, hn2, h20, h32, hO2, rfl⟩ hK
  have s5 := hK 5 rfl
  have s19 := hK 19 rfl
  have s13 := hK 13 rfl
  have s14 := hK 14 rfl
  have s15 := hK 15 rfl
  simp [t13, t14, h15] at s5 s19 s13 s14 s15 h20 h32
  simp only at hO2
  clear hK
  simp -dsimp [h20]
  rw [Br_bool]
  refine ⟨fun hd => ?_, fun hd => ?_⟩
  ·simp at hd
   obtain ⟨it, hit⟩ : ∃ it, i.toNat = it := ⟨_, rfl⟩
   have hkc : kindC i.toNat = [.int .i64 (kindR it).lo, .int .i64 (kindR it).hi, .int .i64 (kindM it)] := by rw [hit]; rfl
   have hmH : h.n ≤ h2.n := by have := hO2.lt; have := hO2.m; omega
   have hB2 : ¬ B = h2.n := by have := hO2.lt; omega
   have hbx := hO2.box
   simp -dsimp [s19, h20, kind_idx hi hd, hkc, hmH, s5, hB2, hbx, Rg.cells]
   have hbs : (V.slR [[V.int IntKind.i64 r.lo, V.int IntKind.i64 r.hi]] true) = (Sl.full [r]).enc Rg.cells := rfl
   have hbs2 : (V.slR [[V.int IntKind.i64 (kindR it).lo, V.int IntKind.i64 (kindR it).hi]] true) = (Sl.full [kindR it]).enc Rg.cells := rfl
   rw [hbs, hbs2]
   refine WFS.by (Both_ok _ _ (by simp) (by simp)) ?_
   intro v0 h0 e
   cases e
   have hO3 := hO2.boxed (Obj.rows [[V.int IntKind.i64 0, V.int IntKind.i64 0, V.int IntKind.i64 0]]) (Obj.rows [[V.int IntKind.i64 (kindR it).lo, V.int IntKind.i64 (kindR it).hi, V.int IntKind.i64 (kindM it)]])
   obtain ⟨H3, hH3⟩ : ∃ H3, (h2.push (Obj.rows [[V.int IntKind.i64 0, V.int IntKind.i64 0, V.int IntKind.i64 0]])).set h2.n (Obj.rows [[V.int IntKind.i64 (kindR it).lo, V.int IntKind.i64 (kindR it).hi, V.int IntKind.i64 (kindM it)]]) = H3 := ⟨_, rfl⟩
   have hg3 : H3.get h2.n = some (.rows [[V.int IntKind.i64 (kindR it).lo, V.int IntKind.i64 (kindR it).hi, V.int IntKind.i64 (kindM it)]]) := by rw [← hH3, Heap.get_set, if_pos rfl]
   rw [hH3] at hO3
   rw [hH3]
   simp -dsimp [hg3]
   have hk3 := kindM_le it
   have hKok := kindR_ok it
   have h5 : (twoL and [r] [kindR it]).length ≤ 5 := pickL_len _ ([r] ++ [kindR it])
   refine wk_loop (fun n st => ∃ (m : Nat) (A : List Rg), n = m ∧ m ≤ 3 ∧ (gK 9).run st.tm = .int .i64 m ∧ (gK 8).run st.tm = (slR A).enc Rg.cells ∧ splitsL m A = kindL r it ∧ (∀ x ∈ A, InR (kindR it) x) ∧ A.length * 3 ^ m ≤ 135 ∧ st.h = H3 ∧ st.defs = []) (kindM it)
    ⟨kindM it, _, rfl, hk3, by simp, by simp, rfl, fun x hx => two_in hKok.1 hKok.2.2 hx, Nat.mul_le_mul h5 (Nat.pow_le_pow_right (by omega) hk3 : 3 ^ kindM it ≤ 3 ^ 3), rfl, rfl⟩ ?_
   rintro n3 ⟨tm3, h3', defs3, round3⟩ ⟨m, A, rfl, hm3, h9, h8, hA, hAin, hAl, rfl, rfl⟩ hK
   have u3 := hK 3 rfl
   have u5 := hK 5 rfl
   have u13 := hK 13 rfl
   have u14 := hK 14 rfl
   have u15 := hK 15 rfl
   have u19 := hK 19 rfl
   have u20 := hK 20 rfl
   simp [h32, s5, s13, s14, s15, s19, h20] at u3 u5 u13 u14 u15 u19 u20 h9 h8
   clear hK
   simp -dsimp [h9]
   rw [Br_bool]
   refine ⟨fun hx => ?_, fun hx => ?_⟩
   ·simp at hx
    obtain ⟨m, rfl⟩ : ∃ m', n3 = m' + 1 := ⟨n3 - 1, by omega⟩
    have hfw : fw .i64 (((m : Int) + 1) * 6) = ((6 * (m + 1) : Nat) : Int) := by rw [fw64 (by omega) (by omega)]; omega
    have hfw2 : fw .i64 ((m : Int) + 1 - 1) = (m : Int) := by rw [fw64 (by omega) (by omega)]; omega
    have hfw3 : fw .i64 (m : Int) = (m : Int) := fw64 (by omega) (by omega)
    have hAl2 : A.length ≤ 135 := by
     have : A.length * 1 ≤ A.length * 3 ^ (m + 1) := Nat.mul_le_mul_left _ (Nat.pos_of_ne_zero (by simp))
     omega
    simp -dsimp [h9, h8, hfw]
    refine WFS.by (split_ok (6 * (m + 1)) (by omega) (slR A) (by simp; omega) (fun x hx => by
     have := hAin x (by simpa using hx)
     obtain ⟨y1, y2, y3⟩ := this
     omega)) ?_
    intro v0 h0 e
    cases e
    simp -dsimp [h9, hfw2]
    refine Again.intro m (by omega) ⟨m, _, rfl, by omega, by simp [hfw3], by simp, hA, fun x hx => splitL_in hAin hKok.1 hx, ?_, rfl, rfl⟩
    have h6 := splitUp_len (6 * (m + 1)) A A.length
    have h7 : (splitL (6 * (m + 1)) A).length * 3 ^ m ≤ 3 * A.length * 3 ^ m := Nat.mul_le_mul_right _ h6
    rw [Nat.pow_succ] at hAl
    have h8' : 3 * A.length * 3 ^ m = A.length * (3 ^ m * 3) := by rw [Nat.mul_comm 3 A.length, Nat.mul_assoc, Nat.mul_comm 3]
    omega
   ·simp at hx
    subst hx
    have hA2 : A = kindL r it := hA
    have hAl2 : A.length ≤ 135 := by simpa using hAl
    have hr5 := ofUp2_len r it
    have hi5' : it ≤ 5 := by omega
    simp -dsimp [h8]
    refine wk_loop (fun n st => ∃ (q : Int) (v : V), 0 ≤ q ∧ (n : Int) = A.length - q ∧ (gK 41).run st.tm = .int .i64 q ∧ (gK 3).run st.tm = v ∧ OB st.h h.n B v (out ++ ofUp2 r it ++ (A.take q.toNat).map seqOf) r ∧ st.defs = []) A.length
     ⟨0, v2, by omega, by omega, by simp, by simp [u3], by rw [hit] at hO3; simpa using hO3, rfl⟩ ?_
    rintro n4 ⟨tm4, h4, defs4, round4⟩ ⟨q, v4, hq, hn4, h41, h34, hO4, rfl⟩ hK
    have w39 := hK 39 rfl
    have w40 := hK 40 rfl
    have w13 := hK 13 rfl
    have w14 := hK 14 rfl
    have w15 := hK 15 rfl
    have w19 := hK 19 rfl
    have w20 := hK 20 rfl
    have w5 := hK 5 rfl
    simp [u5, u13, u14, u15, u19, u20] at w39 w40 w13 w14 w15 w19 w20 w5 h41 h34
    simp only at hO4
    clear hK
    simp -dsimp [h41, w40]
    rw [Br_bool]
    refine ⟨fun hy => ?_, fun hy => ?_⟩
    ·simp at hy
     have hy' : q < (((slR A).l.length : Nat) : Int) := by simp; omega
     obtain ⟨x, hx⟩ : ∃ x, lat A q.toNat = x := ⟨_, rfl⟩
     have hxin := hAin x (by rw [← hx]; exact lat_mem (by omega))
     have hmH4 : h.n ≤ h4.n := by have := hO4.lt; have := hO4.m; omega
     have hxc : [V.int IntKind.i64 x.lo, V.int IntKind.i64 x.hi] = x.cells := rfl
     simp -dsimp [w39, h41, iaddr_Rg hq hy', hx, Rg.cells, hmH4]
     rw [hxc]
     have p1 := put_kind (i := it) (x := x.lo) hxin.1 (by have := hxin.2.1; have := hxin.2.2; omega)
     have p2' := put_kind (i := it) (x := x.hi) (by have := hxin.1; have := hxin.2.1; omega) hxin.2.2
     refine WFS.by (one_ok x (by rw [p1, p2']; exact Nat.le_refl _)) ?_
     intro v0 h0 e
     cases e
     have hO5 := hO4.boxed (Obj.rows [[V.int IntKind.i64 0, V.int IntKind.i64 0]]) (Obj.rows [x.cells])
     obtain ⟨H5, hH5⟩ : ∃ H5, (h4.push (Obj.rows [[V.int IntKind.i64 0, V.int IntKind.i64 0]])).set h4.n (Obj.rows [x.cells]) = H5 := ⟨_, rfl⟩
     rw [hH5] at hO5
     rw [hH5]
     simp -dsimp [h34]
     rw [W_append (xs := [seqCells (seqOf x)]) (by simp; rfl)]
     refine OpS.ex ?_
     obtain ⟨v', H6, a1, a2, a3⟩ := hO5.app (seqOf x) (by
      simp only [List.length_append, List.length_map, List.length_take]
      omega)
     simp -dsimp
     refine ⟨_, a1, ?_⟩
     simp -dsimp [h41, fw64 (n := q + 1) (by omega) (by omega)]
     refine Again.intro (n4 - 1) (by omega) ⟨q + 1, v', by omega, by omega, by simp, by simp, ?_, rfl⟩
     have ht : A.take (q + 1).toNat = A.take q.toNat ++ [x] := by
      rw [show (q + 1).toNat = q.toNat + 1 by omega, List.take_add_one, lat_get (by omega), hx]; rfl
     rw [ht, List.map_append, ← List.append_assoc]
     exact a2
    ·simp at hy
     have hy' : decide (q < (A.length : Int)) = false := by simpa using hy
     simp -dsimp [hy', w20, fw64 (n := i + 1) (by omega) (by omega)]
     have hu2 : ofUp2 r (i + 1).toNat = ofUp2 r it ++ A.map seqOf := by
      rw [show (i + 1).toNat = it + 1 by omega, ofUp2, ofR, hA2]
     refine Again.intro (n2 - 1) (by omega) ⟨i + 1, v4, by omega, by omega, by omega, by simp, by simp [h34], ?_, rfl⟩
     rw [hu2, ← List.append_assoc]
     rw [List.take_of_length_le (by omega)] at hO4
     exact hO4
  ·simp at hd
   have : i = 5 := by omega
   subst this
   simp -dsimp [s15, fw64 (n := j + 1) (by omega) (by omega)]
   refine Again.intro (n - 1) (by omega) ⟨j + 1, v2, by omega, by omega, by simp, by simp [h32], ?_, by have := hO2.lt; have := hO2.m; simp; omega, rfl⟩
   rw [hjt, hup]
   exact hO2.own
 ·simp at hc
  have hc' : decide (j < (nl.length : Int)) = false := by simpa using hc
  have : j.toNat = nl.length := by omega
  rw [this] at hO
  simp -dsimp [hc', h3]
  rw [hof]
  exact frz_ownQ hO (Nat.le_refl _) fun s hs => ofUp_seq hs
end Go.Abs
namespace Go.Abs
open Go Pr
set_option maxRecDepth 10000
def Sl.cut3 {α : Type} (s : Sl α) (n : Nat) : Sl α := match s with
 | .nil => .nil
 | .of l => .full (l.take n)
 | .full l => .full (l.take n)
@[simp] theorem cut3_l {α : Type} (s : Sl α) (n : Nat) : (s.cut3 n).l = s.l.take n := by cases s <;> simp [Sl.cut3]
theorem slice3_enc {α : Type} {f : α → List V} {s : Sl α} {esz n : Nat} {hi mx : Opd} {tm : Tm} (he : ∀ a, (f a).length = esz) (hn : n ≤ s.l.length) (h1 : hi.ev tm = .int .i64 n) (h2 : mx.ev tm = .int .i64 n) :
  sliceV esz (cutK none (some hi) (some mx)) tm (s.enc f) = some ((s.cut3 n).enc f) := by
 have hb : ∀ top : Nat, n ≤ top → bnd (n : Int) top = some n := fun top ht => by
  have := bnd_int (n := (n : Int)) (top := top) (by omega) (by omega)
  simpa using this
 have hk : ∀ (len : Nat) fl, n ≤ len → (cutK none (some hi) (some mx)).run len fl tm = some ⟨0, n, true⟩ := by
  intro len fl hl
  simp only [cutK, optK, h1, h2, hb len hl, hb n (Nat.le_refl _)]
  simp
 cases s with
 | nil =>
  simp only [l_nil, List.length_nil] at hn
  simp [Sl.enc, sliceV, hk 0 true hn, Sl.cut3]
 | of l =>
  have hl : rowsLen esz (l.map f) = true := by cases l <;> simp [rowsLen, he]
  simp only [l_of] at hn
  simp [Sl.enc, sliceV, hl, hk _ _ hn, Sl.cut3, List.map_take]
 | full l =>
  have hl : rowsLen esz (l.map f) = true := by cases l <;> simp [rowsLen, he]
  simp only [l_full] at hn
  simp [Sl.enc, sliceV, hl, hk _ _ hn, Sl.cut3, List.map_take]
structure Wd where
 v : V
 l : List UInt8
 m : Nat
def WB (h : Heap) (w : Wd) : Prop := (∃ s : Sl UInt8, w.v = s.enc byteCells ∧ s.l = w.l) ∨
 ∃ id lo f rs, w.v = .sl id lo w.l.length 1 f ∧ h.get id = some (.rows rs) ∧ lo + w.l.length ≤ rs.length ∧ (rs.drop lo).take w.l.length = w.l.map byteCells ∧ id < w.m
theorem WB.keep {h h' : Heap} {w : Wd} (hw : WB h w) (hk : ∀ i, i < w.m → h'.get i = h.get i) : WB h' w := by
 rcases hw with a | ⟨id, lo, f, rs, a, b, c, d, e⟩
 ·exact .inl a
 ·exact .inr ⟨id, lo, f, rs, a, by rw [hk id e, b], c, d, e⟩
theorem WB.len {h H : Heap} {w : Wd} (hw : WB h w) : lenV .sl w.v H = some (.int .i64 w.l.length) := by
 rcases hw with ⟨s, a, b⟩ | ⟨id, lo, f, rs, a, _⟩
 ·rw [a, ← b]; simp
 ·rw [a]; simp
theorem WB.cells {h : Heap} {w : Wd} (hw : WB h w) : w.v.cells = [w.v] ∧ w.v.one = true := by
 rcases hw with ⟨s, a, b⟩ | ⟨id, lo, f, rs, a, _⟩
 ·rw [a]; simp
 ·rw [a]; simp
theorem WB.at {h : Heap} {w : Wd} (hw : WB h w) {k : Int} (k0 : 0 ≤ k) (k1 : k < w.l.length) : ∃ p, iaddrV 1 w.v (.int .i64 k) = some p ∧ loadV none p h = some (.int .u8 (lat w.l k.toNat).toNat) := by
 rcases hw with ⟨s, a, b⟩ | ⟨id, lo, f, rs, a, b, c, d, e⟩
 ·rw [← b] at k1
  exact ⟨_, by rw [a]; exact iaddr_byte k0 k1, by rw [← b]; simp [byteCells]⟩
 ·refine ⟨.ptr id (lo + k.toNat) 0, by rw [a]; exact iaddr_sl k0 k1, ?_⟩
  have h1 : k.toNat < w.l.length := by omega
  have h2 : rs[lo + k.toNat]? = some (byteCells (lat w.l k.toNat)) := by
   have := congrArg (fun l => l[k.toNat]?) d
   simp only [List.getElem?_take, h1, if_true, List.getElem?_drop, List.getElem?_map, lat_get h1] at this
   exact this
  rw [loadV_ptr, b, loadAt_rows, h2]
  simp [byteCells]
theorem WB.from {h : Heap} {w : Wd} (hw : WB h w) {k : Int} {o : Opd} {tm : Tm} (k0 : 0 ≤ k) (k1 : k ≤ w.l.length) (ho : o.ev tm = .int .i64 k) : ∃ v, sliceV 1 (cutK (some o) none none) tm w.v = some v ∧ WB h ⟨v, w.l.drop k.toNat, w.m⟩ := by
 rcases hw with ⟨s, a, b⟩ | ⟨id, lo, f, rs, a, b, c, d, e⟩
 ·refine ⟨(s.cut k.toNat s.l.length).enc byteCells, ?_, .inl ⟨_, rfl, ?_⟩⟩
  ·rw [a]
   refine slice_enc (fun _ => rfl) fun fl => ?_
   rw [b]
   simp [ho, bnd_int k0 k1, cutOf]
  ·rw [cut_l, List.take_of_length_le (by simp), b]
 ·refine ⟨.sl id (lo + k.toNat) (w.l.length - k.toNat) 1 (f && true), ?_, .inr ⟨id, lo + k.toNat, f && true, rs, by simp, b, by simp; omega, ?_, e⟩⟩
  ·rw [a]
   simp [ho, bnd_int k0 k1, cutOf]
  ·have hl : (w.l.drop k.toNat).length = w.l.length - k.toNat := List.length_drop
   simp only [hl, List.map_drop, ← d]
   rw [List.drop_take, List.drop_drop]
theorem WB.upto {h : Heap} {w : Wd} (hw : WB h w) {n : Nat} {hi mx : Opd} {tm : Tm} (hn : n ≤ w.l.length) (h1 : hi.ev tm = .int .i64 n) (h2 : mx.ev tm = .int .i64 n) : ∃ v, sliceV 1 (cutK none (some hi) (some mx)) tm w.v = some v ∧ WB h ⟨v, w.l.take n, w.m⟩ := by
 rcases hw with ⟨s, a, b⟩ | ⟨id, lo, f, rs, a, b, c, d, e⟩
 ·exact ⟨_, by rw [a]; exact slice3_enc (fun _ => rfl) (by rw [b]; exact hn) h1 h2, .inl ⟨_, rfl, by rw [cut3_l, b]⟩⟩
 ·have hb : ∀ top : Nat, n ≤ top → bnd (n : Int) top = some n := fun top ht => by
   have := bnd_int (n := (n : Int)) (top := top) (by omega) (by omega)
   simpa using this
  have hk : (cutK none (some hi) (some mx)).run w.l.length f tm = some ⟨0, n, true⟩ := by
   simp only [cutK, optK, h1, h2, hb _ hn, hb n (Nat.le_refl _)]
   simp
  have hl : (w.l.take n).length = n := by rw [List.length_take]; omega
  refine ⟨.sl id lo n 1 true, ?_, .inr ⟨id, lo, true, rs, by rw [hl], b, by rw [hl]; omega, ?_, e⟩⟩
  ·rw [a, slice_sl, hk]; simp
  ·simp only [hl, List.map_take, ← d, List.take_take]
   rw [Nat.min_eq_left hn]
theorem WB.head {h : Heap} {w : Wd} (hw : WB h w) {k : Int} {o : Opd} {tm : Tm} (k0 : 0 ≤ k) (k1 : k ≤ w.l.length) (ho : o.ev tm = .int .i64 k) : ∃ v, sliceV 1 (cutK none (some o) none) tm w.v = some v ∧ WB h ⟨v, w.l.take k.toNat, w.m⟩ := by
 have hl : (w.l.take k.toNat).length = k.toNat := by rw [List.length_take]; omega
 rcases hw with ⟨s, a, b⟩ | ⟨id, lo, f, rs, a, b, c, d, e⟩
 ·refine ⟨(s.cut 0 k.toNat).enc byteCells, ?_, .inl ⟨_, rfl, ?_⟩⟩
  ·rw [a]
   refine slice_enc (fun _ => rfl) fun fl => ?_
   rw [b]
   simp [ho, bnd_int k0 k1, cutOf]
  ·rw [cut_l, b]; simp
 ·refine ⟨.sl id lo k.toNat 1 (f && decide (k.toNat = w.l.length)), ?_, .inr ⟨id, lo, f && decide (k.toNat = w.l.length), rs, by simp only [hl], b, by simp only [hl]; omega, ?_, e⟩⟩
  ·rw [a]
   simp [ho, bnd_int k0 k1, cutOf]
  ·simp only [hl, List.map_take, ← d, List.take_take]
   rw [Nat.min_eq_left (by omega)]
theorem OpS_head {h : Heap} {w : Wd} (hw : WB h w) {k : Int} {o : Opd} {tm : Tm} {Q : V → Prop} (k0 : 0 ≤ k) (k1 : k ≤ w.l.length) (ho : o.ev tm = .int .i64 k) (hq : ∀ v, WB h ⟨v, w.l.take k.toNat, w.m⟩ → Q v) : OpS (sliceV 1 (cutK none (some o) none) tm w.v) Q ⟨⟩ := by
 obtain ⟨v, a, b⟩ := hw.head k0 k1 ho
 exact ⟨v, a, hq v b⟩
theorem OpS_upto {h : Heap} {w : Wd} (hw : WB h w) {n : Nat} {hi mx : Opd} {tm : Tm} {Q : V → Prop} (hn : n ≤ w.l.length) (h1 : hi.ev tm = .int .i64 n) (h2 : mx.ev tm = .int .i64 n) (hq : ∀ v, WB h ⟨v, w.l.take n, w.m⟩ → Q v) : OpS (sliceV 1 (cutK none (some hi) (some mx)) tm w.v) Q ⟨⟩ := by
 obtain ⟨v, a, b⟩ := hw.upto hn h1 h2
 exact ⟨v, a, hq v b⟩
theorem OpS_from {h : Heap} {w : Wd} (hw : WB h w) {k : Int} {o : Opd} {tm : Tm} {Q : V → Prop} (k0 : 0 ≤ k) (k1 : k ≤ w.l.length) (ho : o.ev tm = .int .i64 k) (hq : ∀ v, WB h ⟨v, w.l.drop k.toNat, w.m⟩ → Q v) : OpS (sliceV 1 (cutK (some o) none none) tm w.v) Q ⟨⟩ := by
 obtain ⟨v, a, b⟩ := hw.from k0 k1 ho
 exact ⟨v, a, hq v b⟩
def inB (r : Rg) (c : UInt8) : Bool := decide (r.lo ≤ c.toNat) && decide ((c.toNat : Int) ≤ r.hi)
def fitsN : List Rg → List UInt8 → Nat
 | r :: s, c :: b => if inB r c = true then fitsN s b + 1 else 0
 | _, _ => 0
theorem fitsN_drop {s : List Rg} {b : List UInt8} {i : Nat} (h1 : i < s.length) (h2 : i < b.length) : fitsN (s.drop i) (b.drop i) = if inB (lat s i) (lat b i) = true then fitsN (s.drop (i + 1)) (b.drop (i + 1)) + 1 else 0 := by
 rw [drop_lat h1, drop_lat h2, fitsN]
theorem fitsN_end {s : List Rg} {b : List UInt8} {i : Nat} (h : s.length ≤ i ∨ b.length ≤ i) : fitsN (s.drop i) (b.drop i) = 0 := by
 rcases h with h | h
 ·rw [List.drop_eq_nil_of_le h]; rfl
 ·rw [List.drop_eq_nil_of_le h]
  cases s.drop i <;> rfl
section
variable {d : Bool} {mk : Nat} {h : Heap}
theorem fits_ok (s : Sl Rg) {b : Wd} (hB : WB h b) (hs : s.l.length < 1000000000) (hb : b.l.length < 1000000000) : WF PR d mk (.fn 179 [] []) [s.enc Rg.cells, b.v] h fun x => x = ⟨.int .i64 (fitsN s.l b.l), h⟩ := by
 refine WF.pureOne (F := f179) rfl rfl rfl (Nat.le_of_ble_eq_true rfl) ?_
 refine wbodyS b179 [.tm 4] rfl rfl ?_
 unfold b179
 obtain ⟨m, hm⟩ : ∃ m, min b.l.length s.l.length = m := ⟨_, rfl⟩
 have e1 : ∀ tm : Tm, (gK 12).run tm = .int .i64 s.l.length → minInt .i64 tm b.l.length [Opd.t 12] = some (.int .i64 m) := fun tm h => by
  rw [minInt_cons (m := s.l.length) (by rw [ev_t, h]; rfl)]
  simp; omega
 have e2 : ∀ tm : Tm, (gK 17).run tm = .int .i64 s.l.length → minInt .i64 tm b.l.length [Opd.t 17] = some (.int .i64 m) := fun tm h => by
  rw [minInt_cons (m := s.l.length) (by rw [ev_t, h]; rfl)]
  simp; omega
 have hlb : ∀ H, lenV .sl b.v H = some (.int .i64 b.l.length) := fun H => hB.len
 simp -dsimp [e1, e2, hlb]
 refine OpS_upto (n := m) hB (by omega) (by simp) (by simp) ?_
 intro v' hB'
 obtain ⟨b', hb'⟩ : ∃ b' : Wd, ⟨v', b.l.take m, b.m⟩ = b' := ⟨_, rfl⟩
 have hbl : b'.l = b.l.take m := by rw [← hb']
 have hbn : b'.l.length = m := by rw [hbl]; simp; omega
 have hbv : v' = b'.v := by rw [← hb']
 rw [hb'] at hB'
 have hlb' : ∀ H, lenV .sl b'.v H = some (.int .i64 m) := fun H => by rw [hB'.len, hbn]
 rw [hbv]
 simp -dsimp [hlb']
 refine wk_loop (fun n st => ∃ i : Int, 0 ≤ i ∧ (n : Int) = m - i ∧ (gK 22).run st.tm = .int .i64 i ∧ fitsN s.l b.l = i.toNat + fitsN (s.l.drop i.toNat) (b.l.drop i.toNat) ∧ st.h = h ∧ st.defs = []) m
  ⟨0, by omega, by omega, by simp, by simp, rfl, rfl⟩ ?_
 rintro n ⟨tm, h1, defs, round⟩ ⟨i, hi, hn, h22, hf, rfl, rfl⟩ hK
 have t0 := hK 0 rfl
 have t1 := hK 1 rfl
 have t20 := hK 20 rfl
 have t21 := hK 21 rfl
 simp at t0 t1 t20 t21 h22
 clear hK
 simp -dsimp [h22, t21]
 rw [Br_bool]
 refine ⟨fun hc => ?_, fun hc => ?_⟩
 ·simp at hc
  have c1 : i < ((b'.l.length : Nat) : Int) := by omega
  have c2 : i < ((s.l.length : Nat) : Int) := by omega
  have hbi : lat b'.l i.toNat = lat b.l i.toNat := by
   rw [lat_eq (by omega), lat_eq (by omega)]
   simp only [hbl, List.getElem_take]
  obtain ⟨c, hcc⟩ : ∃ c, lat b.l i.toNat = c := ⟨_, rfl⟩
  obtain ⟨r, hr⟩ : ∃ r, lat s.l i.toNat = r := ⟨_, rfl⟩
  have hd := fitsN_drop (s := s.l) (b := b.l) (i := i.toNat) (by omega) (by omega)
  rw [hcc, hr] at hd
  rw [hd] at hf
  have hc8 : c.toNat < 256 := c.toNat_lt
  obtain ⟨pp, hp1, hp2⟩ := hB'.at hi c1
  rw [hbi, hcc] at hp2
  simp -dsimp [t20, h22, hp1, hp2, fw64 (n := (c.toNat : Int)) (by omega) (by omega), t0, iaddr_Rg hi c2, hr, Rg.cells]
  rw [Gd_f]
  have hi1 : ((i.toNat : Nat) : Int) = i := by omega
  refine ⟨fun hx => ?_, fun hx => ?_⟩
  ·simp at hx
   have hx' : ¬ (c.toNat : Int) < r.lo := by omega
   simp -dsimp [hx', t0, iaddr_Rg hi c2, hr, Rg.cells]
   rw [Br_bool]
   refine ⟨fun hy => ?_, fun hy => ?_⟩
   ·simp at hy
    have : inB r c = false := by simp [inB]; omega
    rw [this] at hf
    simp -dsimp [hf, hi1]
   ·simp at hy
    have : inB r c = true := by simp [inB]; omega
    rw [this, if_pos rfl] at hf
    simp -dsimp [h22, fw64 (n := i + 1) (by omega) (by omega)]
    refine Again.intro (n - 1) (by omega) ⟨i + 1, by omega, by omega, by simp, ?_, rfl, rfl⟩
    rw [hf, show (i + 1).toNat = i.toNat + 1 by omega]; omega
  ·simp at hx
   have : inB r c = false := by simp [inB]; omega
   rw [this] at hf
   simp -dsimp [hx, hf, hi1]
 ·simp at hc
  have hc' : decide (i < (m : Int)) = false := by simpa using hc
  rw [fitsN_end (by omega)] at hf
  have : i.toNat = m := by omega
  simp -dsimp [hc', t1, hlb', hf, this]
def firstFit : List (Sl Rg) → List UInt8 → Nat
 | [], _ => 0
 | s :: l, b => if fitsN s.l b = s.l.length then s.l.length else firstFit l b
def bestFit : List (Sl Rg) → List UInt8 → Nat
 | [], _ => 0
 | s :: l, b => max (fitsN s.l b) (bestFit l b)
def seqMatch (l : List (Sl Rg)) (w : List UInt8) (k : Int) : Int := if k < 0 ∨ (w.length : Int) < k then 0 else firstFit l (w.drop k.toNat)
def seqPart (l : List (Sl Rg)) (w : List UInt8) (k : Int) : Int := if k < 0 ∨ (w.length : Int) < k then 0 else bestFit l (w.drop k.toNat)
theorem iaddr_seq {s : Sl (Sl Rg)} {k : IntKind} {n : Int} (h0 : 0 ≤ n) (h1 : n < s.l.length) : iaddrV 1 (s.enc seqCells) (.int k n) = some (.ptrR (seqCells (lat s.l n.toNat)) 0) := iaddr_enc h0 h1 fun _ => rfl
theorem match_ok (s : Sl (Sl Rg)) {w : Wd} (hB : WB h w) (k : Int) (hs : s.l.length < 4000000000) (hs2 : ∀ x ∈ s.l, x.l.length < 1000000000) (hw : w.l.length < 1000000000) : WF PR d mk (.fn 166 [] []) [s.enc seqCells, w.v, .int .i64 k] h fun x => x = ⟨.int .i64 (seqMatch s.l w.l k), h⟩ := by
 refine WF.pureOne (F := f166) rfl rfl rfl (Nat.le_of_ble_eq_true rfl) ?_
 refine wbodyS b166 [.tm 6] rfl rfl ?_
 unfold b166
 have hlw : ∀ H, lenV .sl w.v H = some (.int .i64 w.l.length) := fun H => hB.len
 simp -dsimp [hlw]
 rw [Gd_f]
 refine ⟨fun h1 => ?_, fun h1 => ?_⟩
 ·simp at h1
  have h1' : ¬ k < 0 := by omega
  simp -dsimp [h1', hlw]
  rw [Br_bool]
  refine ⟨fun h2 => ?_, fun h2 => ?_⟩
  ·simp at h2
   simp -dsimp [seqMatch, h2]
  simp at h2
  have h2' : ¬ (w.l.length : Int) < k := by omega
  have hm : seqMatch s.l w.l k = firstFit s.l (w.l.drop k.toNat) := by simp [seqMatch, h1', h2']
  simp -dsimp [hm]
  refine wk_loop (fun n st => ∃ i : Int, 0 ≤ i ∧ (n : Int) = s.l.length - i ∧ (gK 20).run st.tm = .int .i64 i ∧ firstFit (s.l.drop i.toNat) (w.l.drop k.toNat) = firstFit s.l (w.l.drop k.toNat) ∧ st.h = h ∧ st.defs = []) s.l.length
   ⟨0, by omega, by omega, by simp, by simp, rfl, rfl⟩ ?_
  rintro n ⟨tm, h0', defs, round⟩ ⟨i, hi, hn, h20, hf, rfl, rfl⟩ hK
  have t1 := hK 1 rfl
  have t2 := hK 2 rfl
  have t18 := hK 18 rfl
  have t19 := hK 19 rfl
  simp at t1 t2 t18 t19 h20
  clear hK
  simp -dsimp [h20, t19]
  rw [Br_bool]
  refine ⟨fun hc => ?_, fun hc => ?_⟩
  ·simp at hc
   have c1 : i < ((s.l.length : Nat) : Int) := by omega
   obtain ⟨x, hx⟩ : ∃ x, lat s.l i.toNat = x := ⟨_, rfl⟩
   have hxs := hs2 x (by rw [← hx]; exact lat_mem (by omega))
   have hd := drop_lat (l := s.l) (i := i.toNat) (by omega)
   rw [hd, hx, firstFit] at hf
   simp -dsimp [t18, h20, iaddr_seq hi c1, hx, seqCells, t1, t2]
   refine OpS_from hB h1 h2 (by simp [t2]) ?_
   intro v' hB'
   simp -dsimp
   refine WFS.by (fits_ok x hB' hxs (by simp; omega)) ?_
   intro v h3 e
   cases e
   simp -dsimp
   rw [Br_bool]
   refine ⟨fun hy => ?_, fun hy => ?_⟩
   ·have hy' : fitsN x.l (w.l.drop k.toNat) = x.l.length := by simp at hy; omega
    rw [if_pos hy'] at hf
    simp -dsimp
    rw [hm, ← hf, hy']
   ·have hy' : ¬ fitsN x.l (w.l.drop k.toNat) = x.l.length := by simp at hy; omega
    rw [if_neg hy'] at hf
    simp -dsimp [h20, fw64 (n := i + 1) (by omega) (by omega)]
    exact Again.intro (n - 1) (by omega) ⟨i + 1, by omega, by omega, by simp, by rw [show (i + 1).toNat = i.toNat + 1 by omega]; exact hf, rfl, rfl⟩
  ·simp at hc
   have hc' : decide (i < (s.l.length : Int)) = false := by simpa using hc
   rw [List.drop_eq_nil_of_le (by omega)] at hf
   simp -dsimp [hc']
   rw [hm, ← hf]
   rfl
 ·simp at h1
  simp -dsimp [h1, seqMatch]
theorem part_ok (s : Sl (Sl Rg)) {w : Wd} (hB : WB h w) (k : Int) (hs : s.l.length < 4000000000) (hs2 : ∀ x ∈ s.l, x.l.length < 1000000000) (hw : w.l.length < 1000000000) : WF PR d mk (.fn 145 [] []) [s.enc seqCells, w.v, .int .i64 k] h fun x => x = ⟨.int .i64 (seqPart s.l w.l k), h⟩ := by
 refine WF.pureOne (F := f145) rfl rfl rfl (Nat.le_of_ble_eq_true rfl) ?_
 refine wbodyS b145 [.tm 6] rfl rfl ?_
 unfold b145
 have hlw : ∀ H, lenV .sl w.v H = some (.int .i64 w.l.length) := fun H => hB.len
 simp -dsimp [hlw]
 rw [Gd_f]
 refine ⟨fun h1 => ?_, fun h1 => ?_⟩
 ·simp at h1
  have h1' : ¬ k < 0 := by omega
  simp -dsimp [h1', hlw]
  rw [Br_bool]
  refine ⟨fun h2 => ?_, fun h2 => ?_⟩
  ·simp at h2
   simp -dsimp [seqPart, h2]
  simp at h2
  have h2' : ¬ (w.l.length : Int) < k := by omega
  have hm : seqPart s.l w.l k = bestFit s.l (w.l.drop k.toNat) := by simp [seqPart, h1', h2']
  simp -dsimp [hm]
  refine wk_loop (fun n st => ∃ (i : Int) (q : Nat), 0 ≤ i ∧ (n : Int) = s.l.length - i ∧ (gK 21).run st.tm = .int .i64 i ∧ (gK 7).run st.tm = .int .i64 q ∧ max q (bestFit (s.l.drop i.toNat) (w.l.drop k.toNat)) = bestFit s.l (w.l.drop k.toNat) ∧ st.h = h ∧ st.defs = []) s.l.length
   ⟨0, 0, by omega, by omega, by simp, by simp, by simp, rfl, rfl⟩ ?_
  rintro n ⟨tm, h0', defs, round⟩ ⟨i, q, hi, hn, h21, h7, hf, rfl, rfl⟩ hK
  have t1 := hK 1 rfl
  have t2 := hK 2 rfl
  have t19 := hK 19 rfl
  have t20 := hK 20 rfl
  simp at t1 t2 t19 t20 h21 h7
  clear hK
  simp -dsimp [h21, t20]
  rw [Br_bool]
  refine ⟨fun hc => ?_, fun hc => ?_⟩
  ·simp at hc
   have c1 : i < ((s.l.length : Nat) : Int) := by omega
   obtain ⟨x, hx⟩ : ∃ x, lat s.l i.toNat = x := ⟨_, rfl⟩
   have hxs := hs2 x (by rw [← hx]; exact lat_mem (by omega))
   have hd := drop_lat (l := s.l) (i := i.toNat) (by omega)
   rw [hd, hx, bestFit] at hf
   simp -dsimp [t19, h21, iaddr_seq hi c1, hx, seqCells, t1, t2, h7]
   refine OpS_from hB h1 h2 (by simp [t2]) ?_
   intro v' hB'
   simp -dsimp
   refine WFS.by (fits_ok x hB' hxs (by simp; omega)) ?_
   intro v h3 e
   cases e
   simp -dsimp
   have e1 : ∀ tm : Tm, (gK 30).run tm = .int .i64 (fitsN x.l (w.l.drop k.toNat)) → maxInt .i64 tm q [Opd.t 30] = some (.int .i64 ((max q (fitsN x.l (w.l.drop k.toNat)) : Nat) : Int)) := fun tm h => by
    rw [maxInt_cons (m := fitsN x.l (w.l.drop k.toNat)) (by rw [ev_t, h]; rfl)]
    simp; omega
   simp -dsimp [e1, h21, fw64 (n := i + 1) (by omega) (by omega)]
   refine Again.intro (n - 1) (by omega) ⟨i + 1, max q (fitsN x.l (w.l.drop k.toNat)), by omega, by omega, by simp, by simp, ?_, rfl, rfl⟩
   rw [show (i + 1).toNat = i.toNat + 1 by omega, ← hf]; omega
  ·simp at hc
   have hc' : decide (i < (s.l.length : Int)) = false := by simpa using hc
   rw [List.drop_eq_nil_of_le (by omega)] at hf
   have hf' : q = bestFit s.l (w.l.drop k.toNat) := by simpa [bestFit] using hf
   simp -dsimp [hc', h7]
   rw [hm, ← hf']
 ·simp at h1
  simp -dsimp [h1, seqPart]
end
end Go.Abs
namespace Go.Abs
open Go Pr
set_option maxRecDepth 10000
structure Ev where
 g : Gr
 w : Wd
 tab : Int
 heal : Bool
def Ev.cells (x : Ev) : List V := [x.g.p.enc Pd.cells, x.g.keys.enc keyCells, x.w.v, .int .i64 x.tab, .bool x.heal]
@[simp] theorem len_Ev {x : Ev} : x.cells.length = 5 := (rfl)
theorem light_ok (x : Ev) (hg : x.g.p.l.length < 1000000000 ∧ ∀ p ∈ x.g.p.l, p.a.l.length < 1000000000 ∧ ∀ a ∈ p.a.l, a.l.length < 1000000000) {d : Bool} {mk : Nat} {h : Heap} (hB : WB h x.w) :
  WF PR d mk (.fn 6 [] []) [.agg x.cells] h fun r => r.h = h ∧ ∃ b : Bool, r.v = .bool b ∧ (b = true → x.g.p.l.length ≤ 16 ∧ x.w.l.length ≤ 16) := by
 refine WF.pureFn (F := f6) (Q := fun v => ∃ b : Bool, v = .bool b ∧ (b = true → x.g.p.l.length ≤ 16 ∧ x.w.l.length ≤ 16)) rfl rfl rfl (Nat.le_of_ble_eq_true rfl) ?_
 refine wbodyS b6 [.tm 2] rfl rfl ?_
 unfold b6
 have hgc : [Sl.enc Pd.cells x.g.p, Sl.enc keyCells x.g.keys] = x.g.cells := rfl
 have hlw : ∀ H, lenV .sl x.w.v H = some (.int .i64 x.w.l.length) := fun H => hB.len
 simp -dsimp [Ev.cells]
 rw [hgc]
 refine WFS.by (few_ok x.g hg _ _ _) ?_
 rintro v h' ⟨rfl, b, rfl⟩
 cases b with
 | false => simp -dsimp
 | true =>
  simp -dsimp
  by_cases c1 : (x.g.p.l.length : Int) ≤ 16
  ·simp -dsimp [c1, hlw]
   omega
  ·simp -dsimp [c1]
theorem Own.wb {h : Heap} {m : Nat} {v : V} {l : List UInt8} (hO : Own h m v 1 (l.map byteCells)) : WB h ⟨v, l, h.n⟩ := by
 rcases hO with ⟨rfl, e⟩ | ⟨id, rfl, h2, _, h4, _⟩
 ·have : l = [] := by simpa using e
  subst this
  exact .inl ⟨.nil, rfl, rfl⟩
 ·refine .inr ⟨id, 0, false, _, by simp, h2, by simp, by simp; rw [List.take_of_length_le (by simp)], h4⟩
theorem rowsOf_wb {h : Heap} {w : Wd} (hB : WB h w) : rowsOf h w.v = some (w.l.map byteCells) := by
 rcases hB with ⟨s, a, b⟩ | ⟨id, lo, f, rs, a, b, c, d, e⟩
 ·rw [a, ← b]; simp
 ·rw [a]; simp [rowsOf, b, c, d]
theorem byte_rows1 (l : List UInt8) : ∀ x ∈ l.map byteCells, x.length = 1 ∧ ones x = true := by
 intro x hx
 obtain ⟨c, _, rfl⟩ := List.mem_map.1 hx
 exact ⟨rfl, rfl⟩
def isT (m : ND VH) : Bool := match m with
 | some l => match l with
  | [r] => match r.v with
   | .bool b => b
   | _ => false
  | _ => false
 | none => false
theorem dedup_heap {h : Heap} {m : ND V} {l : List VH} (e : dedup h m = some l) : ∀ r ∈ l, r.h = h := by
 cases m with
 | none => cases e
 | some k => exact fun r hr => (dedup_mem e r hr).1
theorem pure_heap {AP : Prog} {f n mk : Nat} {F : IFn} {h : Heap} {l : List VH} (hp : AP.prim f = none) (hF : AP.fn f = some F) (hpure : F.pure = true) (e : evCall AP (n + 1) mk (.fn f [] []) [] h = some l) : ∀ r ∈ l, r.h = h := by
 simp only [evCall, hp, hF, hpure, cond, pureRun] at e
 exact dedup_heap e
theorem isT_some {m : ND VH} (h : isT m = true) : ∃ h', m = some [⟨.bool true, h'⟩] := by
 unfold isT at h
 split at h
 ·split at h
  ·rename_i r
   split at h
   ·rename_i b hb
    obtain ⟨v, h'⟩ := r
    simp only at hb
    subst h hb
    exact ⟨h', rfl⟩
   ·cases h
  ·cases h
 ·cases h
def Awake (f : Nat) : Prop := ∀ (d : Bool) (mk : Nat) (o : Obj), mk ≤ 1 → WF PR d mk (.fn f [] []) [] (Heap.push ⟨0, .e⟩ o) fun r => r = ⟨.bool true, Heap.push ⟨0, .e⟩ o⟩
theorem awake_of {f n : Nat} {F : IFn} (hp : PR.prim f = none) (hF : PR.fn f = some F) (hpure : F.pure = true) (hr : ∀ o : Obj, isT (evCall PR (n + 1) 1 (.fn f [] []) [] ⟨1, .n (some o) .e .e⟩) = true) : Awake f := fun d mk o hmk => by
 obtain ⟨h', e⟩ := isT_some (hr o)
 have hm : h' = ⟨1, .n (some o) .e .e⟩ := pure_heap hp hF hpure e _ (List.mem_singleton.2 rfl)
 subst hm
 exact WF.lower PR_mon (WF.ran (d := d) PR_mon e) hmk
structure Ev.Ok (x : Ev) : Prop where
 g : x.g.Fine
 r : ∀ p ∈ x.g.p.l, ∀ a ∈ p.a.l, ∀ s ∈ a.l, s.r.l.length < 1500000
 w : x.w.l.length < 1000000000
theorem Ev.Ok.few {x : Ev} (h : x.Ok) : x.g.p.l.length < 1000000000 ∧ ∀ p ∈ x.g.p.l, p.a.l.length < 1000000000 ∧ ∀ a ∈ p.a.l, a.l.length < 1000000000 :=
 ⟨h.g.p, fun p hp => ⟨h.g.a p hp, fun a ha => h.g.s p hp a ha⟩⟩
end Go.Abs
namespace Go.Abs
open Go Go.ChangeShapes Go.WideShapes Go.RowKit
variable {H : Type} {enc : TypeId × Value → H} {P : Program}
theorem trodAll_stays (hl : laidOutB P = true) {W W' : World} (hB : Below W.heap.size W W') {sp : Nat → Bool} : ∀ {ts : List TypeId} {vs : List Value} {ds : List (DataW H)} {ps : List MemPlace}, (∀ t ∈ ts, P.readableRec t = true ∧ t < P.types.size) →
  DataW.TrodAll enc P W 0 (fun _ => true) true ts vs ds ps → (∀ x ∈ ps, x.block < W.heap.size) → (∀ x ∈ ps, sp x.block = true) → DataW.TrodAll enc P W' 0 sp true ts vs ds ps
 | [], vs, ds, ps, _, h, _, _ => by
  obtain ⟨rfl, rfl, rfl⟩ := trodAll_nil h
  exact trodAll_mk0
 | t :: ts, vs, ds, ps, hr, h, hlt, hsp => by
  obtain ⟨v, vs', d, ds', p, q, rfl, rfl, rfl, h1, h2⟩ := trodAll_cons h
  obtain ⟨r1, r2⟩ := hr t (by simp)
  exact trodAll_cons_mk (WideElems.Trod_stays hl r1 r2 h1 (fun x hx => hB.same (hlt x (by simp [hx]))) fun x hx => hsp x (by simp [hx]))
   (trodAll_stays hl hB (fun u hu => hr u (by simp [hu])) h2 (fun x hx => hlt x (by simp [hx])) fun x hx => hsp x (by simp [hx]))
theorem post_true {f : Func} {s : ChangeSpec} {W W' : World} {args : Array Value} {ds gs : List (DataW H)} {before : List MemPlace} {tb : TypeId} (hs : s.vars = [])
  (hres : (s.fn H ds).results = [.lit (.bool true)]) (harg : (s.fn H ds).args = ds) (hvar : (s.fn H ds).vars = [])
  (hW : DataW.Whole enc P f.params.toList s.vars false W args.toList ds gs before) (hl : laidOutB P = true) (hr : ∀ t ∈ f.params.toList, P.readableRec t = true ∧ t < P.types.size)
  (ht : f.resultTypes = #[tb]) (hu : P.underlying tb = some .bool) (hB : Below W.heap.size W W') : s.post enc P f false true false false W args (.bool true) W' := by
 have hlt := hW.lt
 have hW' := hW
 obtain ⟨p, q, hA, hV, rfl, hz, hn⟩ := hW
 rw [hs] at hV
 obtain ⟨rfl, rfl⟩ := trodVars_none hV
 simp only [List.append_nil] at hlt hz hn
 have hargs : ∀ sp : Nat → Bool, (∀ x ∈ p, sp x.block = true) → DataW.TrodAll enc P W' 0 sp true f.params.toList args.toList (s.fn H (ds ++ [])).args p := fun sp hsp => by
  rw [List.append_nil, harg]
  exact trodAll_stays hl hB hr hA hlt hsp
 have hvars : ∀ sp : Nat → Bool, DataW.TrodVars enc P W' sp s.vars (s.fn H (ds ++ [])).vars [] := fun sp => by
  rw [List.append_nil, hvar, hs]; rfl
 have hresx : ∀ (b : Nat) (sp : Nat → Bool) (hd : Bool), DataW.TrodAll enc P W' b sp hd f.resultTypes.toList ((Value.bool true).resultList f.resultTypes.size) (s.fn H (ds ++ [])).results [] := fun b sp hd => by
  rw [List.append_nil, hres, ht]
  exact trodAll_cons_mk (p := []) (p' := []) (shut_bool hu true) trodAll_mk0
 have hold : ∀ x ∈ p, (fun b => decide (b < W.heap.size)) x.block = true := fun x hx => by simpa using hlt x hx
 refine ⟨ds, [], p ++ [], [], p, [], hW', hresx _ _ _, hargs _ hold, hvars _, World.keptBut_mono (fun x hx => ⟨by simpa using hx, ?_⟩) (hB.frame (· ∈ p)), fun _ => ?_⟩
 ·exact Or.inr (Or.inl hx)
 ·refine ⟨ok_one ht rfl (okWide_bool_mk hu true), _, _, ([] ++ p) ++ [], ⟨[] ++ p, [], trodAll_append (hargs _ (fun _ _ => rfl)) (hresx _ _ _), hvars _, rfl, ?_, ?_⟩, ?_⟩
  ·intro b off hp
   have hp' : MemPlace.cell b off ∈ p := by simpa using hp
   rw [hB.frozen (p := ⟨b, off, none⟩) (hlt _ hp')]
   exact hz b off hp'
  ·intro ha
   cases ha
  ·intro x hx _
   simpa using hx
end Go.Abs
namespace Go.Abs
open Go Pr
set_option maxRecDepth 10000
def octetN (s : Sy) (w : List UInt8) (k : Int) : Int := if 0 ≤ k ∧ k < w.length ∧ hasB s.r.l (lat w k.toNat).toNat = true then 1 else 0
def scalN (s : Sy) (w : List UInt8) (k : Int) : Int := seqMatch (ofL s.r.l) w k
def spartN (s : Sy) (w : List UInt8) (k : Int) : Int := seqPart (ofL s.r.l) w k
def matchN (s : Sy) (w : List UInt8) (k : Int) : Int := if s.kind = 0 then octetN s w k else if s.kind = 1 then scalN s w k else 0
def partN (s : Sy) (w : List UInt8) (k : Int) : Int := if s.kind = 0 then octetN s w k else if s.kind = 1 then spartN s w k else 0
theorem ofL_len {l : List Rg} (h : l.length < 1500000) : (ofL l).length < 4000000000 := by
 have h1 := ofUp_len (normL l) (normL l).length
 have h2 : (normL l).length ≤ 1 + 2 * l.length := pickL_len _ _
 unfold ofL; omega
theorem ofL_seq {l : List Rg} {x : Sl Rg} (hx : x ∈ ofL l) : x.l.length < 1000000000 := by
 obtain ⟨r, rfl⟩ := ofUp_seq hx
 have := putS_len r.lo
 simp [seqOf, oneL, oneUp_len]; omega
section
variable {d : Bool} {mk : Nat} {h : Heap}
theorem octet_ok (s : Sy) {w : Wd} (hB : WB h w) (hm : w.m ≤ h.n) (k : Int) (hs : s.r.l.length < 1500000) (hw : w.l.length < 1000000000) : WF PR d mk (.fn 107 [] []) [.agg s.cells, w.v, .int .i64 k] h fun x => x = ⟨.int .i64 (octetN s w.l k), h⟩ := by
 refine WF.pureOne (F := f107) rfl rfl rfl (Nat.le_of_ble_eq_true rfl) ?_
 refine wbodyS b107 [.tm 6] rfl rfl ?_
 unfold b107
 have hlw : ∀ H, lenV .sl w.v H = some (.int .i64 w.l.length) := fun H => hB.len
 simp -dsimp [Sy.cells]
 rw [Gd_t]
 refine ⟨fun h1 => ?_, fun h1 => ?_⟩
 ·simp at h1
  simp -dsimp [h1, hlw]
  rw [Gd_t]
  refine ⟨fun h2 => ?_, fun h2 => ?_⟩
  ·simp at h2
   have hc8 := (lat w.l k.toNat).toNat_lt
   have hBp : WB (h.push (.rows [[V.int IntKind.i64 s.kind, Sl.enc Rg.cells s.r, V.int IntKind.i64 s.n]])) w := hB.keep fun i hi => by rw [Heap.get_push, if_neg (by omega)]
   obtain ⟨pp, hp1, hp2⟩ := hBp.at h1 h2
   simp -dsimp [h2, h1, hp1, hp2, fw64 (n := ((lat w.l k.toNat).toNat : Int)) (by omega) (by omega)]
   refine WFS.by (Has_ok s.r (by omega) _) ?_
   intro v h3 e
   cases e
   simp -dsimp
   rw [Br_bool]
   refine ⟨fun h4 => ?_, fun h4 => ?_⟩
   ·simp -dsimp [octetN, h1, h2, h4]
   ·simp -dsimp [octetN, h1, h2, h4]
  ·simp at h2
   have h2' : ¬ k < (w.l.length : Int) := by omega
   simp -dsimp [h2', octetN]
 ·simp at h1
  have h1' : ¬ 0 ≤ k := by omega
  simp -dsimp [h1', octetN]
theorem scal_ok (s : Sy) {w : Wd} (hB : WB h w) (hm : w.m ≤ h.n) (k : Int) (hs : s.r.l.length < 1500000) (hw : w.l.length < 1000000000) : WF PR d mk (.fn 141 [] []) [.agg s.cells, w.v, .int .i64 k] h fun x => x = ⟨.int .i64 (scalN s w.l k), h⟩ := by
 refine WF.pureOne (F := f141) rfl rfl rfl (Nat.le_of_ble_eq_true rfl) ?_
 refine wbodyS b141 [.tm 6] rfl rfl ?_
 unfold b141
 simp -dsimp [Sy.cells]
 refine WFS.by (of_ok s.r hs) ?_
 intro v h3 e
 cases e
 simp -dsimp
 refine WFS.by (match_ok (slQ (ofL s.r.l)) (hB.keep (h' := h.push (.rows [[V.int IntKind.i64 s.kind, Sl.enc Rg.cells s.r, V.int IntKind.i64 s.n]])) fun i hi => by rw [Heap.get_push, if_neg (by omega)]) k (by simpa using ofL_len hs) (fun x hx => ofL_seq (by simpa using hx)) hw) ?_
 intro v h3 e
 cases e
 simp -dsimp [scalN]
theorem spart_ok (s : Sy) {w : Wd} (hB : WB h w) (hm : w.m ≤ h.n) (k : Int) (hs : s.r.l.length < 1500000) (hw : w.l.length < 1000000000) : WF PR d mk (.fn 108 [] []) [.agg s.cells, w.v, .int .i64 k] h fun x => x = ⟨.int .i64 (spartN s w.l k), h⟩ := by
 refine WF.pureOne (F := f108) rfl rfl rfl (Nat.le_of_ble_eq_true rfl) ?_
 refine wbodyS b108 [.tm 6] rfl rfl ?_
 unfold b108
 simp -dsimp [Sy.cells]
 refine WFS.by (of_ok s.r hs) ?_
 intro v h3 e
 cases e
 simp -dsimp
 refine WFS.by (part_ok (slQ (ofL s.r.l)) (hB.keep (h' := h.push (.rows [[V.int IntKind.i64 s.kind, Sl.enc Rg.cells s.r, V.int IntKind.i64 s.n]])) fun i hi => by rw [Heap.get_push, if_neg (by omega)]) k (by simpa using ofL_len hs) (fun x hx => ofL_seq (by simpa using hx)) hw) ?_
 intro v h3 e
 cases e
 simp -dsimp [spartN]
theorem none_ok (s : Sy) (v w : V) : WF PR d mk (.fn 109 [] []) [.agg s.cells, v, w] h fun x => x = ⟨.int .i64 0, h⟩ := by
 refine WF.pureOne (F := f109) rfl rfl rfl (Nat.le_of_ble_eq_true rfl) ?_
 refine wbodyS b109 [.tm 6] rfl rfl ?_
 unfold b109
 simp -dsimp [Sy.cells]
@[simp] theorem iaddrA_ptr {len esz i r o : Nat} {k : IntKind} {n : Int} : iaddrAV len esz (.ptr i r o) (.int k n) = (match idx (.int k n) len with | some j => some (.ptr i r (o + j * esz)) | none => none) := (rfl)
theorem how_ok (f0 f1 : Nat) (p0 p1 : Sy → List UInt8 → Int → Int) (s : Sy) {w : Wd} (hB : WB h w) (hm : w.m ≤ h.n) (k : Int) (hs : s.r.l.length < 1500000) (hw : w.l.length < 1000000000)
  (h0 : ∀ d mk h, WB h w → w.m ≤ h.n → WF PR d mk (.fn f0 [] []) [.agg s.cells, w.v, .int .i64 k] h fun x => x = ⟨.int .i64 (p0 s w.l k), h⟩)
  (h1 : ∀ d mk h, WB h w → w.m ≤ h.n → WF PR d mk (.fn f1 [] []) [.agg s.cells, w.v, .int .i64 k] h fun x => x = ⟨.int .i64 (p1 s w.l k), h⟩) :
  WF PR d mk (.fn 110 [] []) [.agg [.fn f0 [] [], .fn f1 [] [], .fn 109 [] []], .agg s.cells, w.v, .int .i64 k] h fun x => x = ⟨.int .i64 (if s.kind = 0 then p0 s w.l k else if s.kind = 1 then p1 s w.l k else 0), h⟩ := by
 refine WF.pureOne (F := f110) rfl rfl rfl (Nat.le_of_ble_eq_true rfl) ?_
 refine wbodyS b110 [.tm 8] rfl rfl ?_
 unfold b110
 have i0 : idx (.int .i64 0) 3 = some 0 := rfl
 have i1 : idx (.int .i64 1) 3 = some 1 := rfl
 have i2 : idx (.int .i64 2) 3 = some 2 := rfl
 have hsc : [V.int IntKind.i64 s.kind, Sl.enc Rg.cells s.r, V.int IntKind.i64 s.n] = s.cells := rfl
 have hk2 : ∀ o o' : Obj, WB ((h.push o).push o') w ∧ w.m ≤ ((h.push o).push o').n := fun o o' => ⟨hB.keep fun i hi => by rw [Heap.get_push, if_neg (by simp; omega), Heap.get_push, if_neg (by omega)], by simp; omega⟩
 simp -dsimp [Sy.cells, i2]
 rw [Gd_f]
 refine ⟨fun hb => ?_, fun hb => ?_⟩
 ·simp at hb
  simp -dsimp [hb]
  rw [Br_bool]
  refine ⟨fun hc => ?_, fun hc => ?_⟩
  ·simp at hc
   simp -dsimp [hc, i1]
   rw [← hc, hsc]
   refine WFS.by (h1 _ _ _ (hk2 _ _).1 (hk2 _ _).2) ?_
   intro v h3 e
   cases e
   simp -dsimp [hc, hb]
  ·simp at hc
   simp -dsimp
   rw [hsc]
   refine WFS.by (none_ok s _ _) ?_
   intro v h3 e
   cases e
   simp -dsimp [hc, hb]
 ·simp at hb
  simp -dsimp [hb, i0]
  rw [← hb, hsc]
  refine WFS.by (h0 _ _ _ (hk2 _ _).1 (hk2 _ _).2) ?_
  intro v h3 e
  cases e
  simp -dsimp [hb]
theorem tMatch_ok (s : Sy) {w : Wd} (hB : WB h w) (hm : w.m ≤ h.n) (k : Int) (hs : s.r.l.length < 1500000) (hw : w.l.length < 1000000000) : WF PR d mk (.fn 104 [] []) [.agg s.cells, w.v, .int .i64 k] h fun x => x = ⟨.tup [.int .i64 (matchN s w.l k), .bool (decide (0 < matchN s w.l k))], h⟩ := by
 refine WF.pureOne (F := f104) rfl rfl rfl (Nat.le_of_ble_eq_true rfl) ?_
 refine wbodyS b104 [.tm 6, .tm 7] rfl rfl ?_
 unfold b104
 have hsc : [V.int IntKind.i64 s.kind, Sl.enc Rg.cells s.r, V.int IntKind.i64 s.n] = s.cells := rfl
 simp -dsimp [Sy.cells]
 rw [hsc]
 have hp : ∀ o : Obj, WB (h.push o) w ∧ w.m ≤ (h.push o).n := fun o => ⟨hB.keep fun i hi => by rw [Heap.get_push, if_neg (by omega)], by simp; omega⟩
 refine WFS.by (how_ok 107 141 octetN scalN s (hp _).1 (hp _).2 k hs hw (fun _ _ _ a b => octet_ok s a b k hs hw) (fun _ _ _ a b => scal_ok s a b k hs hw)) ?_
 intro v h3 e
 cases e
 simp -dsimp
 exact ⟨rfl, Iff.rfl⟩
theorem tPart_ok (s : Sy) {w : Wd} (hB : WB h w) (hm : w.m ≤ h.n) (k : Int) (hs : s.r.l.length < 1500000) (hw : w.l.length < 1000000000) : WF PR d mk (.fn 68 [] []) [.agg s.cells, w.v, .int .i64 k] h fun x => x = ⟨.int .i64 (partN s w.l k), h⟩ := by
 refine WF.pureOne (F := f68) rfl rfl rfl (Nat.le_of_ble_eq_true rfl) ?_
 refine wbodyS b68 [.tm 6] rfl rfl ?_
 unfold b68
 have hsc : [V.int IntKind.i64 s.kind, Sl.enc Rg.cells s.r, V.int IntKind.i64 s.n] = s.cells := rfl
 simp -dsimp [Sy.cells]
 rw [hsc]
 have hp : ∀ o : Obj, WB (h.push o) w ∧ w.m ≤ (h.push o).n := fun o => ⟨hB.keep fun i hi => by rw [Heap.get_push, if_neg (by omega)], by simp; omega⟩
 refine WFS.by (how_ok 107 108 octetN spartN s (hp _).1 (hp _).2 k hs hw (fun _ _ _ a b => octet_ok s a b k hs hw) (fun _ _ _ a b => spart_ok s a b k hs hw)) ?_
 intro v h3 e
 cases e
 simp -dsimp [partN]
end
end Go.Abs
namespace Go.Abs
open Go Pr
theorem fitsN_le (s : List Rg) (b : List UInt8) : fitsN s b ≤ s.length ∧ fitsN s b ≤ b.length := by
 induction s generalizing b with
 | nil => simp [fitsN]
 | cons r s ih =>
  cases b with
  | nil => simp [fitsN]
  | cons c b =>
   have := ih b
   simp only [fitsN, List.length_cons]
   split <;> omega
theorem firstFit_le : ∀ (l : List (Sl Rg)) (b : List UInt8), firstFit l b ≤ b.length
 | [], b => by simp [firstFit]
 | s :: l, b => by
  simp only [firstFit]
  split
  ·rename_i h; have := (fitsN_le s.l b).2; omega
  ·exact firstFit_le l b
theorem matchN_range {s : Sy} {w : List UInt8} {x : Int} (h : 0 < matchN s w x) : 0 ≤ x ∧ x + matchN s w x ≤ w.length := by
 unfold matchN at h ⊢
 split at h
 ·rename_i hk
  rw [if_pos hk]
  unfold octetN at h ⊢
  split at h
  ·rename_i hc; rw [if_pos hc]; omega
  ·omega
 ·rename_i hk
  rw [if_neg hk]
  split at h
  ·rename_i hk1
   rw [if_pos hk1]
   unfold scalN seqMatch at h ⊢
   split at h
   ·omega
   ·rename_i hc
    rw [if_neg hc]
    have := firstFit_le (ofL s.r.l) (w.drop x.toNat)
    rw [List.length_drop] at this
    omega
  ·omega
inductive DerL (g : Gr) (w : List UInt8) : List Sy → Int → Int → Prop
 | nil {x : Int} : DerL g w [] x x
 | term {s : Sy} {l : List Sy} {x z : Int} (hk : s.kind ≠ 2) (hm : 0 < matchN s w x) (h : DerL g w l (x + matchN s w x) z) : DerL g w (s :: l) x z
 | non {s : Sy} {l : List Sy} {a : Sl Sy} {x y z : Int} (hk : s.kind = 2) (hn : 0 ≤ s.n) (ha : a ∈ (lat g.p.l s.n.toNat).a.l) (h1 : DerL g w a.l x y) (h2 : DerL g w l y z) : DerL g w (s :: l) x z
def Der (g : Gr) (w : List UInt8) (n : Int) (x y : Int) : Prop := ∃ a ∈ (lat g.p.l n.toNat).a.l, DerL g w a.l x y
variable {g : Gr} {w : List UInt8}
theorem DerL.mono {l : List Sy} {x y : Int} (h : DerL g w l x y) : x ≤ y ∧ (x = y ∨ (0 ≤ x ∧ y ≤ w.length)) := by
 induction h with
 | nil => exact ⟨Int.le_refl _, .inl rfl⟩
 | term hk hm h ih => have := matchN_range hm; omega
 | non hk hn ha h1 h2 ih1 ih2 => omega
theorem DerL.le {l : List Sy} {x y : Int} (h : DerL g w l x y) (h0 : 0 ≤ x) (h1 : x ≤ w.length) : x ≤ y ∧ y ≤ w.length := by
 have := h.mono; omega
theorem DerL.append {l m : List Sy} {x y z : Int} (h : DerL g w l x y) (h2 : DerL g w m y z) : DerL g w (l ++ m) x z := by
 induction h with
 | nil => exact h2
 | term hk hm h ih => exact .term hk hm (ih h2)
 | non hk hn ha h1 h2' ih1 ih2 => exact .non hk hn ha h1 (ih2 h2)
theorem DerL.split {l m : List Sy} {x z : Int} (h : DerL g w (l ++ m) x z) : ∃ y, DerL g w l x y ∧ DerL g w m y z := by
 induction l generalizing x with
 | nil => exact ⟨x, .nil, h⟩
 | cons s l ih =>
  cases h with
  | term hk hm h =>
   obtain ⟨y, a, b⟩ := ih h
   exact ⟨y, .term hk hm a, b⟩
  | non hk hn ha h1 h2 =>
   obtain ⟨y, a, b⟩ := ih h2
   exact ⟨y, .non hk hn ha h1 a, b⟩
theorem lat_out {α : Type} [Inhabited α] {l : List α} {i : Nat} (h : l.length ≤ i) : lat l i = default := by
 simp [lat, getElem!_neg, h]
theorem alt_range {n : Int} {a : Sl Sy} (h : a ∈ (lat g.p.l n.toNat).a.l) : n.toNat < g.p.l.length := by
 by_cases c : n.toNat < g.p.l.length
 ·exact c
 ·rw [lat_out (by omega)] at h
  simp [default, instInhabitedPd] at h
theorem DerL.null {T : List (Int × Bool)} (hT : Closed g T g.p.l.length) {l : List Sy} {x y : Int} (h : DerL g w l x y) : x = y → onlyB T l = true := by
 induction h with
 | nil => intro _; rfl
 | term hk hm h ih => intro e; have := h.mono; omega
 | @non s l a x y z hk hn ha h1 h2 ih1 ih2 =>
  intro e
  have m1 := h1.mono
  have m2 := h2.mono
  have q1 := ih1 (by omega)
  have q2 := ih2 (by omega)
  have hr := alt_range ha
  have hb : isB T (s.n.toNat : Int) = true := hT _ hr (by simp only [canB, List.any_eq_true]; exact ⟨a, ha, q1⟩)
  rw [show ((s.n.toNat : Nat) : Int) = s.n by omega] at hb
  simp only [onlyB, onlyN, List.any_cons, Bool.not_or, Bool.and_eq_true] at q2 ⊢
  exact ⟨by simp [notN, hk, hb], q2⟩
theorem onlyN_nul {l : List Sy} (h : ∀ T : List (Int × Bool), Closed g T g.p.l.length → onlyB T l = true) : onlyN (nulB g) l = true := by
 simp only [onlyN, Bool.not_eq_true', List.any_eq_false, notN, Bool.or_eq_true, decide_eq_true_eq, Bool.not_eq_true', not_or]
 intro s hs
 have key : ∀ T : List (Int × Bool), Closed g T g.p.l.length → s.kind = 2 ∧ isB T s.n = true := fun T hT => by
  have := h T hT
  simp only [onlyB, onlyN, Bool.not_eq_true', List.any_eq_false, notN, Bool.or_eq_true, decide_eq_true_eq, Bool.not_eq_true', not_or] at this
  have := this s hs
  exact ⟨Decidable.not_not.1 this.1, by simpa using this.2⟩
 refine ⟨?_, ?_⟩
 ·rw [Decidable.not_not]
  by_cases hE : ∃ T : List (Int × Bool), Closed g T g.p.l.length
  ·obtain ⟨T, hT⟩ := hE; exact (key T hT).1
  ·exfalso
   refine hE ⟨(List.range g.p.l.length).map fun k : Nat => ((k : Int), true), fun k hk _ => ?_⟩
   have look : ∀ (l : List Nat), k ∈ l → isB (l.map fun k : Nat => ((k : Int), true)) (k : Int) = true := by
    intro l
    induction l with
    | nil => intro h; cases h
    | cons a l ih =>
     intro h
     simp only [List.map_cons, isB, aLook]
     split
     ·rfl
     ·rename_i hne
      rcases List.mem_cons.1 h with e | h
      ·exact absurd (by rw [e]) hne
      ·exact ih h
   exact look _ (by simpa using hk)
 ·have : nulB g s.n = true := by
   simp only [nulB, decide_eq_true_eq]
   exact fun T hT => (key T hT).2
  simp [this]
theorem mem_leftsUp {N : Int → Bool} {l : List Sy} {i : Nat} (hk : (lat l i).kind = 2) (hn : onlyN N (l.take i) = true) : ∀ {j : Nat}, i < j → (lat l i).n ∈ leftsUp N l j
 | 0, h => by omega
 | j + 1, h => by
  rw [leftsUp, List.mem_append]
  by_cases e : i = j
  ·subst e; right; simp [hk, hn]
  ·exact .inl (mem_leftsUp hk hn (by omega))
theorem mem_leftsAll {N : Int → Bool} {as : List (Sl Sy)} {i : Nat} {x : Int} (hx : x ∈ leftsUp N (lat as i).l (lat as i).l.length) : ∀ {j : Nat}, i < j → x ∈ leftsAll N as j
 | 0, h => by omega
 | j + 1, h => by
  rw [leftsAll, List.mem_append]
  by_cases e : i = j
  ·subst e; exact .inr hx
  ·exact .inl (mem_leftsAll hx (by omega))
theorem left_of {n x : Int} {a : Sl Sy} {i : Nat} (hm : mayB g = true) (h0 : 0 ≤ n) (ha : a ∈ (lat g.p.l n.toNat).a.l) (hi : i < a.l.length) (hk : (lat a.l i).kind = 2) (hd : DerL g w (a.l.take i) x x) : (lat a.l i).n ∈ leftsL g n := by
 have hr := alt_range ha
 rw [leftsL, if_pos ⟨hm, h0, by omega⟩, mem_dd, mem_sortI, leftsOf]
 rw [List.mem_iff_getElem] at ha
 obtain ⟨j, hj, e⟩ := ha
 rw [← lat_eq hj] at e
 have ho := onlyN_nul fun T hT => hd.null hT rfl
 refine mem_leftsAll (i := j) ?_ hj
 rw [e]
 exact mem_leftsUp hk ho hi
theorem Comes.front {a b c : Int} (h : Comes g b c) (hb : b ∈ leftsL g a) : Comes g a c := by
 induction h with
 | one h => exact .more (.one hb) h
 | more _ h' ih => exact .more ih h'
noncomputable def rankN (g : Gr) (n : Int) : Nat := ((List.range g.p.l.length).filter fun m : Nat => comesB g n m).length
theorem rankN_lt {a b : Int} (hb : b ∈ leftsL g a) (h0 : 0 ≤ b) (h1 : b < g.p.l.length) (hac : ¬ Comes g b b) : rankN g b < rankN g a := by
 refine filter_lt (fun m _ hm => ?_) ⟨b.toNat, by simp; omega, ?_, ?_⟩
 ·simp only [comesB, decide_eq_true_eq] at hm ⊢
  exact hm.front hb
 ·simp only [comesB, decide_eq_true_eq]
  rw [show ((b.toNat : Nat) : Int) = b by omega]
  exact .one hb
 ·simp only [comesB, decide_eq_false_iff_not]
  rw [show ((b.toNat : Nat) : Int) = b by omega]
  exact hac
theorem rankN_le (n : Int) : rankN g n ≤ g.p.l.length := by
 have := List.length_filter_le (fun m : Nat => comesB g n m) (List.range g.p.l.length)
 simpa [rankN] using this
noncomputable def muN (g : Gr) (w : List UInt8) (n x : Int) : Nat := (w.length - x.toNat) * 61 + rankN g n
theorem idxP_neg {α : Type} {p : α → Bool} : ∀ {l : List α} {i : Int}, 0 ≤ i → idxP p l i = -1 → ∀ a ∈ l, p a = false
 | [], _, _, _ => by simp
 | a :: l, i, hi, h => by
  simp only [idxP] at h
  intro b hb
  split at h
  ·omega
  ·rename_i hp
   rcases List.mem_cons.1 hb with rfl | hb
   ·simpa using hp
   ·exact idxP_neg (by omega) h b hb
theorem circ_acyclic (hm : mayB g = true) (hc : circI g = -1) {n : Int} (h0 : 0 ≤ n) (h1 : n < g.p.l.length) : ¬ Comes g n n := by
 rw [circI, if_pos hm] at hc
 have := idxP_neg (by omega) hc n.toNat (by simp; omega)
 simp only [comesB, decide_eq_false_iff_not] at this
 rw [show ((n.toNat : Nat) : Int) = n by omega] at this
 exact this
theorem mu_lt (hm : mayB g = true) (hc : circI g = -1) {n x y : Int} {a : Sl Sy} {i : Nat} (h0 : 0 ≤ n) (hx0 : 0 ≤ x) (hx1 : x ≤ w.length) (ha : a ∈ (lat g.p.l n.toNat).a.l) (hi : i < a.l.length) (hk : (lat a.l i).kind = 2) (hd : DerL g w (a.l.take i) x y) : muN g w (lat a.l i).n y < muN g w n x := by
 have hok := mayB_ok hm
 have hr := alt_range ha
 have hsy := (hok.sy _ (lat_mem hr) a ha _ (lat_mem hi)).non hk
 have hl := hd.le hx0 hx1
 have r1 := rankN_le (g := g) (lat a.l i).n
 have hp := hok.p
 unfold muN
 by_cases e : x = y
 ·subst e
  have := rankN_lt (left_of hm h0 ha hi hk hd) hsy.1 hsy.2.1 (circ_acyclic hm hc hsy.1 hsy.2.1)
  omega
 ·have h2 : w.length - y.toNat + 1 ≤ w.length - x.toNat := by omega
  have h3 : (w.length - y.toNat + 1) * 61 ≤ (w.length - x.toNat) * 61 := Nat.mul_le_mul_right _ h2
  omega
end Go.Abs
namespace Go.Abs
open Go Pr
set_option maxRecDepth 10000
def spotV (p : Int × Int) : V := .agg [.int .i64 p.1, .int .i64 p.2]
def endsV (l : List Int) : V := (slOf l).enc intCells
theorem spot_key (a b : Int × Int) : keyEq (spotV a) (spotV b) = some (decide (a = b)) := by
 obtain ⟨a1, a2⟩ := a
 obtain ⟨b1, b2⟩ := b
 simp [keyEq, spotV, eqL, eq1]
theorem spot_ok (a : Int × Int) : keyOk (.agg [.int, .int]) (spotV a) = true := rfl
def IsEnds (g : Gr) (w : List UInt8) (p : Int × Int) (l : List Int) : Prop := l.Pairwise (· < ·) ∧ ∀ y, y ∈ l ↔ Der g w p.1 p.2 y
def EndsOk (g : Gr) (w : List UInt8) (E : Nat) (h : Heap) : Prop := ∃ es c S, h.get E = some (.map es c) ∧ MapR spotV endsV es S ∧ ∀ p l, aLook p S = some l → IsEnds g w p l
structure LkS (g : Gr) (w : Wd) (K E W : Nat) (far : Int) (h : Heap) : Prop where
 k : h.get K = some (.rows [[g.p.enc Pd.cells, g.keys.enc keyCells, w.v, .map E, .map W, .int .i64 far]])
 e : EndsOk g w.l E h
 lk : K < h.n
 le : E < h.n
 lw : W < h.n
 ke : K ≠ E
 kw : K ≠ W
 ew : E ≠ W
 wb : WB h w
 mq : w.m ≤ K
 me : w.m ≤ E
 mw : w.m ≤ W
def Fr1 (E : Nat) (h h' : Heap) : Prop := h.n ≤ h'.n ∧ ∀ i, i < h.n → i ≠ E → h'.get i = h.get i
theorem Fr1.refl {E : Nat} {h : Heap} : Fr1 E h h := ⟨Nat.le_refl _, fun _ _ _ => rfl⟩
theorem Fr1.trans {E : Nat} {h h' h'' : Heap} (a : Fr1 E h h') (b : Fr1 E h' h'') : Fr1 E h h'' :=
 ⟨Nat.le_trans a.1 b.1, fun i hi hE => by rw [b.2 i (by have := a.1; omega) hE, a.2 i hi hE]⟩
theorem LkS.keep {g : Gr} {w : Wd} {K E W : Nat} {far : Int} {h h' : Heap} (hL : LkS g w K E W far h) (hn : h.n ≤ h'.n) (hk : ∀ i, i < h.n → h'.get i = h.get i) : LkS g w K E W far h' := by
 obtain ⟨k, ⟨es, c, S, e1, e2⟩, lk, le, lw, ke, kw, ew, wb, mk, me, mw⟩ := hL
 exact ⟨by rw [hk _ lk, k], ⟨es, c, S, by rw [hk _ le, e1], e2⟩, by omega, by omega, by omega, ke, kw, ew, wb.keep fun i hi => hk i (by omega), mk, me, mw⟩
def AtOK (g : Gr) (w : Wd) (n x : Int) : Prop := ∀ mk h K E W far, LkS g w K E W far h → mk ≤ E → WF PR true mk (.fn 103 [] []) [.ptr K 0 0, spotV (n, x)] h fun r =>
 (∃ l, r.v = endsV l ∧ IsEnds g w.l (n, x) l) ∧ LkS g w K E W far r.h ∧ Fr1 E h r.h
theorem sorted_len {L : Int} : ∀ {l : List Int} {a : Int}, l.Pairwise (· < ·) → (∀ x ∈ l, a ≤ x ∧ x ≤ L) → a ≤ L + 1 → (l.length : Int) ≤ L - a + 1
 | [], a, _, _, h => by simp; omega
 | x :: l, a, hp, hx, h => by
  rw [List.pairwise_cons] at hp
  have h0 := hx x (by simp)
  have := sorted_len (L := L) (l := l) (a := x + 1) hp.2 (fun y hy => ⟨by have := hp.1 y hy; omega, (hx y (by simp [hy])).2⟩) (by omega)
  simp only [List.length_cons]
  omega
theorem ends_len {l : List Int} {n : Nat} (hp : l.Pairwise (· < ·)) (h : ∀ x ∈ l, 0 ≤ x ∧ x ≤ n) (hn : n ≤ 200) : l.length ≤ 201 := by
 have := sorted_len (L := n) (a := 0) hp h (by omega)
 omega
theorem dd_sorted (l : List Int) : (dd (sortI l)).Pairwise (· < ·) := (ddUp_sorted (sortI_sorted l) _ (Nat.le_refl _)).1
theorem mem_dds {l : List Int} {x : Int} : x ∈ dd (sortI l) ↔ x ∈ l := by rw [mem_dd, mem_sortI]
theorem compactF {d : Bool} {mk m0 : Nat} {h : Heap} {v : V} {l : List Int} (hO : Own h m0 v 1 (intRows l)) (h0 : mk ≤ m0) (hl : l.length < 1000000000) :
  WF PR d mk (.fn 106 [] []) [v] h fun r => ∃ h', frzV mk r = some ⟨endsV (dd l), h'⟩ ∧ h'.n = h.n ∧ ∀ j, slId v ≠ some j → h'.get j = h.get j := by
 refine W.mono (compactO hO h0 hl) ?_
 rintro ⟨v', h'⟩ ⟨c1, c2, _, c4⟩
 simp only at c1 c2 c4
 rcases c4 with ⟨rfl, rfl⟩ | ⟨id, f, L, rfl, rfl, c5⟩
 ·exact ⟨h', rfl, c1, fun j hj => c2 j hj⟩
 ·have hid : m0 ≤ id ∧ l ≠ [] := by
   rcases hO with ⟨q, _⟩ | ⟨id', q3, _, q5, _, q7⟩
   ·cases q
   ·injection q3 with q3; exact ⟨by omega, fun e => q7 (by simp [e, intRows])⟩
  have hdd : dd l ≠ [] := fun e => hid.2 (dd_nil.1 e)
  have hr : rowsOf h' (.sl id 0 (dd l).length 1 false) = some (intRows (dd l)) := by
   simp [rowsOf, c5, intRows]
  have hmi : mk ≤ id := by omega
  refine ⟨h'.kill id, ?_, by simpa using c1, fun j hj => ?_⟩
  ·have := frz_int_rows (mk := h'.n) (h := h') (k := 15) (dd l)
   simp only [frzV, hr, depthMax, this, ble_dec, hmi, decide_true, cond]
   simp [endsV, slOf, hdd, Sl.enc, intRows, intCells]
  ·rw [Heap.get_kill, if_neg (by rintro rfl; exact hj rfl)]
   exact c2 j hj
end Go.Abs
namespace Go.Abs
open Go Pr
set_option maxRecDepth 10000
section
variable {g : Gr} {w : List UInt8}
theorem derL_non {s : Sy} {x y : Int} (hk : s.kind = 2) (hn : 0 ≤ s.n) : DerL g w [s] x y ↔ Der g w s.n x y := by
 constructor
 ·intro h
  cases h with
  | term hk' => exact absurd hk hk'
  | non _ _ ha h1 h2 => cases h2; exact ⟨_, ha, h1⟩
 ·rintro ⟨a, ha, h⟩
  exact .non hk hn ha h .nil
theorem derL_term {s : Sy} {x y : Int} (hk : s.kind ≠ 2) : DerL g w [s] x y ↔ 0 < matchN s w x ∧ y = x + matchN s w x := by
 constructor
 ·intro h
  cases h with
  | term _ hm h => cases h; exact ⟨hm, rfl⟩
  | non hk' => exact absurd hk' hk
 ·rintro ⟨hm, rfl⟩
  exact .term hk hm .nil
theorem derL_step {l : List Sy} {i : Nat} {x y : Int} (hi : i < l.length) : DerL g w (l.take (i + 1)) x y ↔ ∃ m, DerL g w (l.take i) x m ∧ DerL g w [lat l i] m y := by
 have e : l.take (i + 1) = l.take i ++ [lat l i] := by rw [List.take_add_one, lat_get hi]; rfl
 rw [e]
 exact ⟨fun h => h.split, fun ⟨m, a, b⟩ => a.append b⟩
end
theorem Own.ext1 {h h' : Heap} {m e E : Nat} {v : V} {rows : List (List V)} (hO : Own h m v e rows) (hE : E < m) (hf : Fr1 E h h') : Own h' m v e rows := by
 rcases hO with q | ⟨id, q3, q4, q5, q6, q7⟩
 ·exact .inl q
 ·exact .inr ⟨id, q3, by rw [hf.2 id q6 (by omega), q4], q5, by have := hf.1; omega, q7⟩
structure AI (g : Gr) (w : Wd) (K E W : Nat) (far : Int) (h0 : Heap) (B : Nat) (row : List V) (v : V) (nx : List Int) (H : Heap) : Prop where
 l : LkS g w K E W far H
 f : Fr1 E h0 H
 o : Own H h0.n v 1 (intRows nx)
 b : H.get B = some (.rows [row])
 ne : Go.Abs.slId v ≠ some B
 bm : h0.n ≤ B
 bn : B < H.n
theorem AI.app {g : Gr} {w : Wd} {K E W mk : Nat} {far : Int} {h0 : Heap} {B : Nat} {row : List V} {v : V} {nx : List Int} {H : Heap} (h : AI g w K E W far h0 B row v nx H) (hE : E < h0.n) (hmk : mk ≤ h0.n) (hK : K < h0.n) (hW : W < h0.n) (xs : List Int) (hl : nx.length + xs.length < 1000000000) :
  ∃ v' H', appendRows mk H 1 8 v (intRows xs) = some ⟨v', H'⟩ ∧ AI g w K E W far h0 B row v' (nx ++ xs) H' := by
 have hf := h.f.1
 obtain ⟨v', H', a1, a2, a3, a4, a5⟩ := own_append (mk := mk) (bytes := 8) (xs := intRows xs) h.o hmk (by
  intro r hr
  simp only [intRows, List.mem_map] at hr
  obtain ⟨a, _, rfl⟩ := hr
  exact ⟨rfl, rfl⟩) (by simp [intRows]; omega) (by omega) hf
 have hs : ∀ j, j < h0.n → H'.get j = H.get j := fun j hj => a4 j (by omega) (h.o.slId hj)
 refine ⟨v', H', a1, ?_, ⟨by omega, fun i hi hiE => by rw [hs i hi, h.f.2 i hi hiE]⟩, by simpa [intRows] using a2, by rw [a4 _ h.bn h.ne, h.b], fun e => ?_, h.bm, by have := h.bn; omega⟩
 ·obtain ⟨k, ⟨es, c, S, e1, e2⟩, lk, le, lw, ke, kw, ew, wb, mk, me, mw⟩ := h.l
  exact ⟨by rw [hs _ hK, k], ⟨es, c, S, by rw [hs _ hE, e1], e2⟩, by omega, by omega, by omega, ke, kw, ew, wb.keep fun i hi => hs i (by omega), mk, me, mw⟩
 ·rcases a5 _ e with e | e
  ·have := h.bn; omega
  ·exact h.ne e
theorem after_ok {g : Gr} {w : Wd} (hw : w.l.length ≤ 200) (l : Sl Sy) (hl : l.l.length ≤ 40) {x : Int} (x0 : 0 ≤ x) (x1 : x ≤ w.l.length) (hsy : ∀ s ∈ l.l, SyOk g.p.l.length s ∧ s.r.l.length < 1500000)
  (hat : ∀ i, i < l.l.length → (lat l.l i).kind = 2 → ∀ y, DerL g w.l (l.l.take i) x y → AtOK g w (lat l.l i).n y) {mk : Nat} {h : Heap} {K E W : Nat} {far : Int} (hL : LkS g w K E W far h) (hmk : mk ≤ E) :
  WF PR true mk (.fn 67 [] []) [.ptr K 0 0, l.enc Sy.cells, .int .i64 x] h fun r => (∃ s : Sl Int, r.v = s.enc intCells ∧ s.l.Pairwise (· < ·) ∧ ∀ y, y ∈ s.l ↔ DerL g w.l l.l x y) ∧ LkS g w K E W far r.h ∧ Fr1 E h r.h := by
 have hK := hL.lk
 have hE := hL.le
 have hW := hL.lw
 refine WF.fn (F := f67) rfl rfl rfl (Nat.le_of_ble_eq_true rfl) ?_
 refine wbodyS b67 [.tm 6] rfl rfl ?_
 unfold b67
 simp -dsimp
 refine wk_loop (fun n st => ∃ (i : Int) (s : Sl Int), 0 ≤ i ∧ (n : Int) = l.l.length - i ∧ (gK 19).run st.tm = .int .i64 i ∧ (gK 7).run st.tm = s.enc intCells ∧ s.l.Pairwise (· < ·) ∧ (∀ y, y ∈ s.l ↔ DerL g w.l (l.l.take i.toNat) x y) ∧ LkS g w K E W far st.h ∧ Fr1 E h st.h ∧ st.defs = []) l.l.length
  ⟨0, .full [x], by omega, by omega, by simp, by simp; rfl, by simp, fun y => by
   simp
   exact ⟨fun e => e ▸ .nil, fun h => by cases h; rfl⟩, hL, Fr1.refl, rfl⟩ ?_
 rintro n ⟨tm, h1, defs, round⟩ ⟨i, now, hi, hn, h19, h7, hp, hmem, hL1, hF1, rfl⟩ hK'
 have t0 := hK' 0 rfl
 have t17 := hK' 17 rfl
 have t18 := hK' 18 rfl
 simp at t0 t17 t18 h19 h7
 simp only at hL1 hF1
 clear hK'
 simp -dsimp [h19, t18]
 rw [Br_bool]
 refine ⟨fun hc => ?_, fun hc => ?_⟩
 ·simp at hc
  have c1 : i < ((l.l.length : Nat) : Int) := by omega
  obtain ⟨s, hs⟩ : ∃ s, lat l.l i.toNat = s := ⟨_, rfl⟩
  have hsm : s ∈ l.l := by rw [← hs]; exact lat_mem (by omega)
  obtain ⟨hso, hsr⟩ := hsy s hsm
  have hh1 := hF1.1
  have hmk1 : mk ≤ h1.n := by omega
  have hrange : ∀ y, y ∈ now.l → 0 ≤ y ∧ y ≤ w.l.length := fun y hy => by
   have := ((hmem y).1 hy).le x0 x1; omega
  have hnl := ends_len hp hrange hw
  have hstep : ∀ y, DerL g w.l (l.l.take (i + 1).toNat) x y ↔ ∃ m, m ∈ now.l ∧ DerL g w.l [s] m y := fun y => by
   rw [show (i + 1).toNat = i.toNat + 1 by omega, derL_step (by omega), hs]
   exact ⟨fun ⟨m, a, b⟩ => ⟨m, (hmem m).2 a, b⟩, fun ⟨m, a, b⟩ => ⟨m, (hmem m).1 a, b⟩⟩
  have hats : s.kind = 2 → ∀ y, y ∈ now.l → AtOK g w s.n y := fun hk y hy => by
   have := hat i.toNat (by omega) (by rw [hs]; exact hk) y ((hmem y).1 hy)
   rwa [hs] at this
  have hsc : [V.int IntKind.i64 s.kind, Sl.enc Rg.cells s.r, V.int IntKind.i64 s.n] = s.cells := rfl
  simp -dsimp [t17, h19, iaddr_Sy hi c1, hs, Sy.cells, hmk1, h7]
  rw [hsc]
  obtain ⟨B, hB⟩ : ∃ B, h1.n = B := ⟨_, rfl⟩
  obtain ⟨H1, hH1⟩ : ∃ H1, (h1.push (Obj.rows [[V.int IntKind.i64 0, V.nils, V.int IntKind.i64 0]])).set h1.n (Obj.rows [s.cells]) = H1 := ⟨_, rfl⟩
  have hkeep : ∀ j, j < h1.n → H1.get j = h1.get j := fun j hj => by rw [← hH1, Heap.get_set, if_neg (by omega), Heap.get_push, if_neg (by omega)]
  have hAI : AI g w K E W far h B s.cells .nils [] H1 :=
   ⟨hL1.keep (by rw [← hH1]; simp) hkeep, hF1.trans ⟨by rw [← hH1]; simp, fun j hj _ => hkeep j hj⟩, .inl ⟨rfl, rfl⟩, by rw [← hH1, ← hB, Heap.get_set, if_pos rfl], by simp [Go.Abs.slId], by omega, by rw [← hH1, ← hB]; simp⟩
  rw [hH1, hB]
  refine wk_loop (fun n st => ∃ (j : Int) (v : V) (nx : List Int), 0 ≤ j ∧ (n : Int) = now.l.length - j ∧ (gK 25).run st.tm = .int .i64 j ∧ (gK 10).run st.tm = v ∧ AI g w K E W far h B s.cells v nx st.h ∧ (∀ y, y ∈ nx ↔ ∃ m ∈ now.l.take j.toNat, DerL g w.l [s] m y) ∧ nx.length ≤ j.toNat * 201 ∧ st.defs = []) now.l.length
   ⟨0, .nils, [], by omega, by omega, by simp, by simp, hAI, by simp, by simp, rfl⟩ ?_
  rintro n2 ⟨tm2, h2, defs2, round2⟩ ⟨j, v, nx, hj, hn2, h25, h10, hA, hnx, hnxl, rfl⟩ hK'
  have u0 := hK' 0 rfl
  have u9 := hK' 9 rfl
  have u17 := hK' 17 rfl
  have u18 := hK' 18 rfl
  have u19 := hK' 19 rfl
  have u23 := hK' 23 rfl
  have u24 := hK' 24 rfl
  simp [t0, t17, t18, h19] at u0 u9 u17 u18 u19 u23 u24 h25 h10
  simp only at hA
  clear hK'
  simp -dsimp [h25, u24]
  rw [Br_bool]
  refine ⟨fun hd => ?_, fun hd => ?_⟩
  ·simp at hd
   have d1 : j < ((now.l.length : Nat) : Int) := by omega
   obtain ⟨m, hm⟩ : ∃ m, lat now.l j.toNat = m := ⟨_, rfl⟩
   have hmm : m ∈ now.l := by rw [← hm]; exact lat_mem (by omega)
   have hmr := hrange m hmm
   have ht : now.l.take (j + 1).toNat = now.l.take j.toNat ++ [m] := by
    rw [show (j + 1).toNat = j.toNat + 1 by omega, List.take_add_one, lat_get (by omega), hm]; rfl
   have hj200 : j.toNat * 201 ≤ 200 * 201 := Nat.mul_le_mul_right _ (by omega)
   simp -dsimp [u23, h25, iaddr_int hj d1, hm, intCells, u9, hA.b, Sy.cells]
   rw [Br_bool]
   refine ⟨fun he => ?_, fun he => ?_⟩
   ·simp at he
    simp -dsimp [u0, u9, hA.b, Sy.cells]
    have hA1 := hA.f.1
    have hBn := hA.bn
    refine WFS.by (hats he m hmm mk h2 K E W far hA.l hmk) ?_
    rintro v2 h3 ⟨⟨l2, rfl, hI⟩, hL3, hF3⟩
    simp only at hL3 hF3
    have hF31 := hF3.1
    have hlen2 : l2.length ≤ 201 := ends_len hI.1 (fun y hy => by
     obtain ⟨a, ha, hd⟩ := (hI.2 y).1 hy
     have := hd.le hmr.1 hmr.2
     simp only at this; omega) hw
    have hA3 : AI g w K E W far h B s.cells v nx h3 := ⟨hL3, hA.f.trans hF3, hA.o.ext1 (by omega) hF3, by rw [hF3.2 B hBn (by omega), hA.b], hA.ne, hA.bm, by omega⟩
    simp -dsimp [h10]
    rw [W_append (xs := intRows l2) (by simp [endsV]; rfl)]
    refine OpS.ex ?_
    obtain ⟨v', h4, a1, a2⟩ := hA3.app (mk := mk) (by omega) (by omega) (by omega) (by omega) l2 (by omega)
    simp -dsimp
    refine ⟨_, a1, ?_⟩
    simp -dsimp [h25, fw64 (n := j + 1) (by omega) (by omega)]
    refine Again.intro (n2 - 1) (by omega) ⟨j + 1, v', nx ++ l2, by omega, by omega, by simp, by simp, a2, fun y => ?_, ?_, rfl⟩
    ·rw [ht, List.mem_append, hnx, hI.2, ← derL_non he (hso.non he).1]
     simp only [List.mem_append, List.mem_singleton]
     constructor
     ·rintro (⟨a, b, c⟩ | h)
      ·exact ⟨a, .inl b, c⟩
      ·exact ⟨m, .inr rfl, h⟩
     ·rintro ⟨a, b | rfl, c⟩
      ·exact .inl ⟨a, b, c⟩
      ·exact .inr c
    ·rw [List.length_append, show (j + 1).toNat = j.toNat + 1 by omega, Nat.add_mul]; omega
   ·simp at he
    have hA1 := hA.f.1
    simp -dsimp [u0, u9, hA.b, hA.l.k, nilcV, Sy.cells]
    rw [hsc]
    refine WFS.by (tMatch_ok s hA.l.wb (by have := hA.l.me; have := hA.l.le; omega) m hsr (by omega)) ?_
    intro v0 h0 e
    cases e
    simp -dsimp
    rw [Br_bool]
    refine ⟨fun hf => ?_, fun hf => ?_⟩
    ·simp at hf
     have hmat := matchN_range hf
     simp -dsimp [h10, fw64 (n := m + matchN s w.l m) (by omega) (by omega)]
     rw [W_append (xs := intRows [m + matchN s w.l m]) (by simp; rfl)]
     refine OpS.ex ?_
     obtain ⟨v', h4, a1, a2⟩ := hA.app (mk := mk) (by omega) (by omega) (by omega) (by omega) [m + matchN s w.l m] (by simp; omega)
     simp -dsimp
     refine ⟨_, a1, ?_⟩
     simp -dsimp [h25, fw64 (n := j + 1) (by omega) (by omega)]
     refine Again.intro (n2 - 1) (by omega) ⟨j + 1, v', nx ++ [m + matchN s w.l m], by omega, by omega, by simp, by simp, a2, fun y => ?_, ?_, rfl⟩
     ·rw [ht, List.mem_append, hnx]
      simp only [List.mem_append, List.mem_singleton]
      constructor
      ·rintro (⟨a, b, c⟩ | h)
       ·exact ⟨a, .inl b, c⟩
       ·exact ⟨m, .inr rfl, (derL_term he).2 ⟨hf, h⟩⟩
      ·rintro ⟨a, b | rfl, c⟩
       ·exact .inl ⟨a, b, c⟩
       ·exact .inr ((derL_term he).1 c).2
     ·rw [List.length_append, show (j + 1).toNat = j.toNat + 1 by omega, Nat.add_mul]; simp; omega
    ·simp at hf
     simp -dsimp [h25, fw64 (n := j + 1) (by omega) (by omega)]
     refine Again.intro (n2 - 1) (by omega) ⟨j + 1, v, nx, by omega, by omega, by simp, by simp [h10], hA, fun y => ?_, ?_, rfl⟩
     ·rw [ht, hnx]
      simp only [List.mem_append, List.mem_singleton]
      constructor
      ·rintro ⟨a, b, c⟩
       exact ⟨a, .inl b, c⟩
      ·rintro ⟨a, b | rfl, c⟩
       ·exact ⟨a, b, c⟩
       ·have := ((derL_term he).1 c).1; omega
     ·rw [show (j + 1).toNat = j.toNat + 1 by omega, Nat.add_mul]; omega
  ·simp at hd
   have hd' : decide (j < (now.l.length : Int)) = false := by simpa using hd
   rw [List.take_of_length_le (by omega)] at hnx
   simp -dsimp [hd', h10]
   have hj200 : j.toNat * 201 ≤ 201 * 201 := Nat.mul_le_mul_right _ (by omega)
   refine WFS.by (sort_ok hA.o (by omega) (by omega)) ?_
   rintro v' h3 ⟨rfl, hO3, hn3, hk3⟩
   simp -dsimp [h10]
   refine WFS.by (compactF hO3 (by omega) (by simp; omega)) ?_
   rintro v' h4 ⟨h5, e5, hn5, hk5⟩
   simp only at hn3 hk3 hO3
   have hlow : ∀ i, i < h.n → h5.get i = h2.get i := fun i hi' => by rw [hk5 i (hO3.slId hi'), hk3 i (hA.o.slId hi')]
   refine OpS.intro e5 ?_
   simp -dsimp [u19, fw64 (n := i + 1) (by omega) (by omega)]
   refine Again.intro (n - 1) (by omega) ⟨i + 1, slOf (dd (sortI nx)), by omega, by omega, by simp, by simp; rfl, by simpa using dd_sorted nx, fun y => ?_, ?_, ?_, rfl⟩
   ·rw [slOf_l, mem_dds, hnx, hstep]
   ·obtain ⟨k, ⟨es, c, S, e1, e2⟩, lk, le, lw, ke, kw, ew, wb, mk, me, mw⟩ := hA.l
    have hA1 := hA.f.1
    exact ⟨by rw [hlow _ hK, k], ⟨es, c, S, by rw [hlow _ hE, e1], e2⟩, by show K < h5.n; omega, by show E < h5.n; omega, by show W < h5.n; omega, ke, kw, ew, wb.keep fun i hi => hlow i (by omega), mk, me, mw⟩
   ·exact ⟨by have := hA.f.1; show h.n ≤ h5.n; omega, fun i hi' hiE => by rw [hlow i hi', hA.f.2 i hi' hiE]⟩
 ·simp at hc
  have hc' : decide (i < (l.l.length : Int)) = false := by simpa using hc
  rw [List.take_of_length_le (by omega)] at hmem
  simp -dsimp [hc', h7]
  exact ⟨⟨now, rfl, hp, hmem⟩, hL1, hF1⟩
end Go.Abs
namespace Go.Abs
open Go Pr
set_option maxRecDepth 10000
structure GrW (g : Gr) (w : Wd) : Prop where
 m : mayB g = true
 c : circI g = -1
 w : w.l.length ≤ 200
 r : ∀ p ∈ g.p.l, ∀ a ∈ p.a.l, ∀ s ∈ a.l, s.r.l.length < 1500000
theorem at_ind {g : Gr} {w : Wd} (hG : GrW g w) : ∀ (m : Nat) (n x : Int), muN g w.l n x < m → 0 ≤ n → n < g.p.l.length → 0 ≤ x → x ≤ w.l.length → AtOK g w n x
 | 0, _, _, h, _, _, _, _ => by omega
 | m + 1, n, x, hmu, n0, n1, x0, x1 => by
  intro mk h K E W far hL hmk
  have hok := mayB_ok hG.m
  have hK := hL.lk
  have hE := hL.le
  have hW := hL.lw
  have hw := hG.w
  refine WF.fn (F := f103) rfl rfl rfl (Nat.le_of_ble_eq_true rfl) ?_
  refine wbodyS b103 [.tm 4] rfl rfl ?_
  unfold b103
  obtain ⟨es, c, S, e1, e2, e3⟩ := hL.e
  have n1' : ¬ K = h.n := by omega
  have n2 : ¬ E = h.n := by omega
  have hlook := look2_ok (kn := .agg [.int, .int]) (zero := .nils) spot_key spot_ok (h := h.push (.rows [[.int .i64 n, .int .i64 x]])) (M := E) (c := c) (by rw [Heap.get_push, if_neg n2, e1]) e2 (n, x)
  have hkk : spotV (n, x) = .agg [.int .i64 n, .int .i64 x] := rfl
  rw [hkk] at hlook
  simp -dsimp [spotV, nilcV, n1', hL.k, hlook]
  obtain ⟨o, ho⟩ : ∃ o, aLook (n, x) S = o := ⟨_, rfl⟩
  rw [ho]
  cases o with
  | some l =>
   simp -dsimp
   exact ⟨⟨l, rfl, e3 _ _ ho⟩, hL.keep (by simp) (fun j hj => by rw [Heap.get_push, if_neg (by omega)]), by simp, fun j hj _ => by rw [Heap.get_push, if_neg (by omega)]⟩
  | none =>
   obtain ⟨p, hp⟩ : ∃ p, lat g.p.l n.toNat = p := ⟨_, rfl⟩
   have hpm : p ∈ g.p.l := by rw [← hp]; exact lat_mem (by omega)
   have ha8 := hok.a p hpm
   simp -dsimp [n1', hL.k, nilcV, iaddr_Pd n0 n1, hp, Pd.cells]
   obtain ⟨B, hB⟩ : ∃ B, h.n = B := ⟨_, rfl⟩
   have hAI : AI g w K E W far h B [.int .i64 n, .int .i64 x] .nils [] (h.push (Obj.rows [[V.int IntKind.i64 n, V.int IntKind.i64 x]])) :=
    ⟨hL.keep (by simp) (fun j hj => by rw [Heap.get_push, if_neg (by omega)]), ⟨by simp, fun j hj _ => by rw [Heap.get_push, if_neg (by omega)]⟩, .inl ⟨rfl, rfl⟩, by rw [← hB]; simp, by simp [Go.Abs.slId], by omega, by rw [← hB]; simp⟩
   refine wk_loop (fun k st => ∃ (i : Int) (v : V) (out : List Int), 0 ≤ i ∧ (k : Int) = p.a.l.length - i ∧ (gK 32).run st.tm = .int .i64 i ∧ (gK 7).run st.tm = v ∧ AI g w K E W far h B [.int .i64 n, .int .i64 x] v out st.h ∧ (∀ y, y ∈ out ↔ ∃ a ∈ p.a.l.take i.toNat, DerL g w.l a.l x y) ∧ out.length ≤ i.toNat * 201 ∧ st.defs = []) p.a.l.length
    ⟨0, .nils, [], by omega, by omega, by simp, by simp, hAI, by simp, by simp, rfl⟩ ?_
   rintro k ⟨tm, h1, defs, round⟩ ⟨i, v, out, hi, hk, h32, h7, hA, hout, houtl, rfl⟩ hK'
   have t0 := hK' 0 rfl
   have t3 := hK' 3 rfl
   have t30 := hK' 30 rfl
   have t31 := hK' 31 rfl
   simp [hB] at t0 t3 t30 t31 h32 h7
   simp only at hA
   clear hK'
   have hA1 := hA.f.1
   have hBn := hA.bn
   have hbox := hA.b
   have hi8 : i.toNat * 201 ≤ 8 * 201 ∨ ¬ i ≤ 8 := by
    by_cases c : i ≤ 8
    ·exact .inl (Nat.mul_le_mul_right _ (by omega))
    ·exact .inr c
   simp -dsimp [h32, t31]
   rw [Br_bool]
   refine ⟨fun hc => ?_, fun hc => ?_⟩
   ·simp at hc
    have c1 : i < ((p.a.l.length : Nat) : Int) := by omega
    obtain ⟨a, ha⟩ : ∃ a, lat p.a.l i.toNat = a := ⟨_, rfl⟩
    have ham : a ∈ p.a.l := by rw [← ha]; exact lat_mem (by omega)
    have ham2 : a ∈ (lat g.p.l n.toNat).a.l := by rw [hp]; exact ham
    simp -dsimp [t30, h32, iaddr_alt hi c1, ha, altCells, t0, t3, h7, hbox]
    refine WFS.by (after_ok hw a (hok.s p hpm a ham) x0 x1 (fun s hs => ⟨hok.sy p hpm a ham s hs, hG.r p hpm a ham s hs⟩) (fun j hj hkj y hd => ?_) hA.l hmk) ?_
    ·have hsy := (hok.sy p hpm a ham _ (lat_mem hj)).non hkj
     have hyr := hd.le x0 x1
     have hlt := mu_lt hG.m hG.c n0 x0 x1 ham2 hj hkj hd
     exact at_ind hG m _ y (by omega) hsy.1 hsy.2.1 (by omega) (by omega)
    rintro v2 h3 ⟨⟨s, rfl, hsp, hsm⟩, hL3, hF3⟩
    simp only at hL3 hF3
    have hF31 := hF3.1
    have hlen2 : s.l.length ≤ 201 := ends_len hsp (fun y hy => by
     have := ((hsm y).1 hy).le x0 x1
     omega) hw
    have hA3 : AI g w K E W far h B [.int .i64 n, .int .i64 x] v out h3 := ⟨hL3, hA.f.trans hF3, hA.o.ext1 (by omega) hF3, by rw [hF3.2 B hBn (by omega), hA.b], hA.ne, hA.bm, by omega⟩
    simp -dsimp
    rw [W_append (xs := intRows s.l) (by simp; rfl)]
    refine OpS.ex ?_
    obtain ⟨v', h4, a1, a2⟩ := hA3.app (mk := mk) (by omega) (by omega) (by omega) (by omega) s.l (by omega)
    simp -dsimp
    refine ⟨_, a1, ?_⟩
    simp -dsimp [h32, fw64 (n := i + 1) (by omega) (by omega)]
    have ht : p.a.l.take (i + 1).toNat = p.a.l.take i.toNat ++ [a] := by
     rw [show (i + 1).toNat = i.toNat + 1 by omega, List.take_add_one, lat_get (by omega), ha]; rfl
    refine Again.intro (k - 1) (by omega) ⟨i + 1, v', out ++ s.l, by omega, by omega, by simp, by simp, a2, fun y => ?_, ?_, rfl⟩
    ·rw [ht, List.mem_append, hout, hsm]
     simp only [List.mem_append, List.mem_singleton]
     constructor
     ·rintro (⟨b, c, d⟩ | h)
      ·exact ⟨b, .inl c, d⟩
      ·exact ⟨a, .inr rfl, h⟩
     ·rintro ⟨b, c | rfl, d⟩
      ·exact .inl ⟨b, c, d⟩
      ·exact .inr d
    ·rw [List.length_append, show (i + 1).toNat = i.toNat + 1 by omega, Nat.add_mul]; omega
   ·simp at hc
    have hc' : decide (i < (p.a.l.length : Int)) = false := by simpa using hc
    rw [List.take_of_length_le (by omega)] at hout
    simp -dsimp [hc', h7]
    refine WFS.by (sort_ok hA.o (by omega) (by omega)) ?_
    rintro v' h3 ⟨rfl, hO3, hn3, hk3⟩
    simp -dsimp [h7]
    refine WFS.by (compactF hO3 (by omega) (by simp; omega)) ?_
    rintro v' h4 ⟨h5, e5, hn5, hk5⟩
    simp only at hn3 hk3 hO3
    have hlow : ∀ i, i < h.n → h5.get i = h1.get i := fun i hi' => by rw [hk5 i (hO3.slId hi'), hk3 i (hA.o.slId hi')]
    refine OpS.intro e5 ?_
    have hbox5 : h5.get B = some (.rows [[.int .i64 n, .int .i64 x]]) := by rw [hk5 B hA.ne, hk3 B hA.ne, hbox]
    obtain ⟨fs, c', S', f1, f2, f3⟩ := hA.l.e
    have hE5 : h5.get E = some (.map fs c') := by rw [hlow E hE, f1]
    have hK5 := (hlow K hK).trans hA.l.k
    obtain ⟨gs, c2, g1, g2⟩ := mupd_ok (kn := .agg [.int, .int]) (vf := endsV) (mk := mk) spot_key spot_ok hE5 f2 hmk (n, x) (dd (sortI out))
    rw [hkk] at g1
    simp -dsimp [t0, t3, nilcV, hK5, hbox5]
    refine OpS.intro g1 ?_
    simp -dsimp
    have hIs : IsEnds g w.l (n, x) (dd (sortI out)) := by
     refine ⟨dd_sorted out, fun y => ?_⟩
     rw [mem_dds, hout]
     show _ ↔ ∃ a ∈ (lat g.p.l n.toNat).a.l, _
     rw [hp]
    refine ⟨⟨_, rfl, hIs⟩, ?_, ?_⟩
    ·obtain ⟨_, _, lk, le, lw, ke, kw, ew, wb, mk', me, mw⟩ := hA.l
     refine ⟨by rw [Heap.get_set, if_neg (by omega), hK5], ⟨gs, c2, _, by rw [Heap.get_set, if_pos rfl], g2, fun q l hq => ?_⟩, by show K < h5.n; omega, by show E < h5.n; omega, by show W < h5.n; omega, ke, kw, ew, wb.keep fun i hi => by rw [Heap.get_set, if_neg (by omega), hlow i (by omega)], mk', me, mw⟩
     rw [aLook_set] at hq
     split at hq
     ·rename_i hqe
      cases hq
      rw [hqe]
      exact hIs
     ·exact f3 q l hq
    ·refine ⟨by show h.n ≤ h5.n; omega, fun j hj hjE => ?_⟩
     rw [Heap.get_set, if_neg hjE, hlow j hj, hA.f.2 j hj hjE]
end Go.Abs
namespace Go.Abs
open Go Pr
set_option maxRecDepth 10000
theorem at_ok {g : Gr} {w : Wd} (hG : GrW g w) {n x : Int} (n0 : 0 ≤ n) (n1 : n < g.p.l.length) (x0 : 0 ≤ x) (x1 : x ≤ w.l.length) : AtOK g w n x :=
 at_ind hG _ n x (Nat.lt_succ_self _) n0 n1 x0 x1
theorem afterA {g : Gr} {w : Wd} (hG : GrW g w) {l m : Sl Sy} {x : Int} (x0 : 0 ≤ x) (x1 : x ≤ w.l.length) (hm : ∃ p ∈ g.p.l, m ∈ p.a.l) (hl : ∃ i, l.l = m.l.take i) {mk : Nat} {h : Heap} {K E W : Nat} {far : Int} (hL : LkS g w K E W far h) (hmk : mk ≤ E) :
  WF PR true mk (.fn 67 [] []) [.ptr K 0 0, l.enc Sy.cells, .int .i64 x] h fun r => (∃ s : Sl Int, r.v = s.enc intCells ∧ s.l.Pairwise (· < ·) ∧ ∀ y, y ∈ s.l ↔ DerL g w.l l.l x y) ∧ LkS g w K E W far r.h ∧ Fr1 E h r.h := by
 have hok := mayB_ok hG.m
 obtain ⟨p, hp, hmp⟩ := hm
 obtain ⟨i, hi⟩ := hl
 have hsub : ∀ s ∈ l.l, s ∈ m.l := fun s hs => List.mem_of_mem_take (by rw [hi] at hs; exact hs)
 refine after_ok hG.w l (by have := hok.s p hp m hmp; rw [hi, List.length_take]; omega) x0 x1 (fun s hs => ⟨hok.sy p hp m hmp s (hsub s hs), hG.r p hp m hmp s (hsub s hs)⟩) (fun j hj hk y hd => ?_) hL hmk
 have hsy := (hok.sy p hp m hmp _ (hsub _ (lat_mem hj))).non hk
 have := hd.le x0 x1
 exact at_ok hG hsy.1 hsy.2.1 (by omega) (by omega)
theorem bestFit_le : ∀ (l : List (Sl Rg)) (b : List UInt8), bestFit l b ≤ b.length
 | [], b => by simp [bestFit]
 | s :: l, b => by
  have := (fitsN_le s.l b).2
  have := bestFit_le l b
  simp only [bestFit]; omega
theorem partN_range {s : Sy} {w : List UInt8} {x : Int} (x0 : 0 ≤ x) (x1 : x ≤ w.length) : 0 ≤ partN s w x ∧ x + partN s w x ≤ w.length := by
 unfold partN
 split
 ·unfold octetN; split <;> omega
 ·split
  ·unfold spartN seqPart
   rw [if_neg (by omega)]
   have := bestFit_le (ofL s.r.l) (w.drop x.toNat)
   rw [List.length_drop] at this
   omega
  ·omega
def Cand (g : Gr) (w : List UInt8) (p : Int × Int) (c : Int) : Prop := ∃ a ∈ (lat g.p.l p.1.toNat).a.l, ∃ i, i < a.l.length ∧ (lat a.l i).kind ≠ 2 ∧ ∃ y, DerL g w (a.l.take i) p.2 y ∧ c = y + partN (lat a.l i) w y
def Succ (g : Gr) (w : List UInt8) (p q : Int × Int) : Prop := ∃ a ∈ (lat g.p.l p.1.toNat).a.l, ∃ i, i < a.l.length ∧ (lat a.l i).kind = 2 ∧ ∃ y, DerL g w (a.l.take i) p.2 y ∧ q = ((lat a.l i).n, y)
inductive Spot (g : Gr) (w : List UInt8) : Int × Int → Prop
 | root : Spot g w (0, 0)
 | step {p q : Int × Int} (h : Spot g w p) (h' : Succ g w p q) : Spot g w q
def Done (g : Gr) (w : List UInt8) (p : Int × Int) (f : Int) (V : List (Int × Int)) : Prop := (∀ c, Cand g w p c → c ≤ f) ∧ ∀ q, Succ g w p q → q ∈ V
def InB (g : Gr) (w : List UInt8) (p : Int × Int) : Prop := 0 ≤ p.1 ∧ p.1 < g.p.l.length ∧ 0 ≤ p.2 ∧ p.2 ≤ w.length
structure Adv (g : Gr) (w : List UInt8) (f : Int) (V : List (Int × Int)) (f' : Int) (V' : List (Int × Int)) : Prop where
 le : f ≤ f'
 sub : ∀ q ∈ V, q ∈ V'
 far : f' = f ∨ ∃ p c, Spot g w p ∧ Cand g w p c ∧ f' = c
 done : ∀ q ∈ V', q ∉ V → Done g w q f' V' ∧ Spot g w q
variable {g : Gr}
theorem Done.mono {w : List UInt8} {p : Int × Int} {f f' : Int} {V V' : List (Int × Int)} (h : Done g w p f V) (hf : f ≤ f') (hV : ∀ q ∈ V, q ∈ V') : Done g w p f' V' :=
 ⟨fun c hc => Int.le_trans (h.1 c hc) hf, fun q hq => hV q (h.2 q hq)⟩
theorem Adv.refl {w : List UInt8} {f : Int} {V : List (Int × Int)} : Adv g w f V f V := ⟨Int.le_refl _, fun _ h => h, .inl rfl, fun _ h h' => absurd h h'⟩
theorem Adv.trans {w : List UInt8} {f f' f'' : Int} {V V' V'' : List (Int × Int)} (a : Adv g w f V f' V') (b : Adv g w f' V' f'' V'') : Adv g w f V f'' V'' := by
 refine ⟨Int.le_trans a.le b.le, fun q hq => b.sub q (a.sub q hq), ?_, fun q hq hn => ?_⟩
 ·rcases b.far with e | e
  ·rw [e]; exact a.far
  ·exact .inr e
 ·by_cases c : q ∈ V'
  ·have := a.done q c hn
   exact ⟨this.1.mono b.le b.sub, this.2⟩
  ·exact b.done q hq c
theorem succ_in {w : Wd} (hm : mayB g = true) {p q : Int × Int} (hp : InB g w.l p) (h : Succ g w.l p q) : InB g w.l q := by
 have hok := mayB_ok hm
 obtain ⟨a, ha, i, hi, hk, y, hd, rfl⟩ := h
 have hr := alt_range ha
 have hsy := (hok.sy _ (lat_mem hr) a ha _ (lat_mem hi)).non hk
 have := hd.le hp.2.2.1 hp.2.2.2
 exact ⟨hsy.1, hsy.2.1, by have := hp.2.2.1; simp only; omega, this.2⟩
theorem spot_in {w : Wd} (hm : mayB g = true) {p : Int × Int} (h : Spot g w.l p) : InB g w.l p := by
 induction h with
 | root => have := (mayB_ok hm).p0; exact ⟨by simp, by simp; omega, by simp, by simp⟩
 | step _ h' ih => exact succ_in hm ih h'
def WOk (W : Nat) (V : List (Int × Int)) (h : Heap) : Prop := ∃ es c S, h.get W = some (.map es c) ∧ MapR spotV boolV es S ∧ ∀ p, aLook p S = if p ∈ V then some true else none
structure LS (g : Gr) (w : Wd) (K E W : Nat) (f : Int) (V : List (Int × Int)) (h : Heap) : Prop where
 l : LkS g w K E W f h
 w : WOk W V h
def Fr3 (K E W : Nat) (h h' : Heap) : Prop := h.n ≤ h'.n ∧ ∀ i, i < h.n → i ≠ K → i ≠ E → i ≠ W → h'.get i = h.get i
theorem Fr3.refl {K E W : Nat} {h : Heap} : Fr3 K E W h h := ⟨Nat.le_refl _, fun _ _ _ _ _ => rfl⟩
theorem Fr3.trans {K E W : Nat} {h h' h'' : Heap} (a : Fr3 K E W h h') (b : Fr3 K E W h' h'') : Fr3 K E W h h'' :=
 ⟨Nat.le_trans a.1 b.1, fun i hi h1 h2 h3 => by rw [b.2 i (by have := a.1; omega) h1 h2 h3, a.2 i hi h1 h2 h3]⟩
theorem Fr1.fr3 {K E W : Nat} {h h' : Heap} (a : Fr1 E h h') : Fr3 K E W h h' := ⟨a.1, fun i hi _ h2 _ => a.2 i hi h2⟩
theorem LS.keep {w : Wd} {K E W : Nat} {f : Int} {V : List (Int × Int)} {h h' : Heap} (hL : LS g w K E W f V h) (hn : h.n ≤ h'.n) (hk : ∀ i, i < h.n → i = K ∨ i = E ∨ i = W ∨ i < w.m → h'.get i = h.get i) : LS g w K E W f V h' := by
 obtain ⟨⟨k, ⟨es, c, S, e1, e2⟩, lk, le, lw, ke, kw, ew, wb, mk, me, mw⟩, es', c', S', f1, f2⟩ := hL
 exact ⟨⟨by rw [hk _ lk (.inl rfl), k], ⟨es, c, S, by rw [hk _ le (.inr (.inl rfl)), e1], e2⟩, by omega, by omega, by omega, ke, kw, ew, wb.keep fun i hi => hk i (by omega) (.inr (.inr (.inr hi))), mk, me, mw⟩, es', c', S', by rw [hk _ lw (.inr (.inr (.inl rfl))), f1], f2⟩
theorem LS.ends {w : Wd} {K E W : Nat} {f : Int} {V : List (Int × Int)} {h h' : Heap} (hL : LS g w K E W f V h) (hL' : LkS g w K E W f h') (hf : Fr1 E h h') : LS g w K E W f V h' := by
 obtain ⟨hl, es', c', S', f1, f2⟩ := hL
 exact ⟨hL', es', c', S', by rw [hf.2 _ hl.lw (Ne.symm hl.ew), f1], f2⟩
theorem LS.far {w : Wd} {K E W : Nat} {f f' : Int} {V : List (Int × Int)} {h : Heap} (hL : LS g w K E W f V h) : LS g w K E W f' V (h.set K (.rows [[g.p.enc Pd.cells, g.keys.enc keyCells, w.v, .map E, .map W, .int .i64 f']])) := by
 obtain ⟨⟨k, ⟨es, c, S, e1, e2⟩, lk, le, lw, ke, kw, ew, wb, mk, me, mw⟩, es', c', S', f1, f2⟩ := hL
 exact ⟨⟨by rw [Heap.get_set, if_pos rfl], ⟨es, c, S, by rw [Heap.get_set, if_neg (Ne.symm ke), e1], e2⟩, lk, le, lw, ke, kw, ew, wb.keep fun i hi => by rw [Heap.get_set, if_neg (by omega)], mk, me, mw⟩, es', c', S', by rw [Heap.get_set, if_neg (Ne.symm kw), f1], f2⟩
def DoneAt (g : Gr) (w : List UInt8) (s : Sy) (y f : Int) (V : List (Int × Int)) : Prop := (s.kind ≠ 2 → y + partN s w y ≤ f) ∧ (s.kind = 2 → (s.n, y) ∈ V)
def DoneAlt (g : Gr) (w : List UInt8) (a : List Sy) (x f : Int) (V : List (Int × Int)) (j : Nat) : Prop := ∀ i, i < j → ∀ y, DerL g w (a.take i) x y → DoneAt g w (lat a i) y f V
theorem DoneAt.mono {w : List UInt8} {s : Sy} {y f f' : Int} {V V' : List (Int × Int)} (h : DoneAt g w s y f V) (hf : f ≤ f') (hV : ∀ q ∈ V, q ∈ V') : DoneAt g w s y f' V' :=
 ⟨fun hk => Int.le_trans (h.1 hk) hf, fun hk => hV _ (h.2 hk)⟩
theorem DoneAlt.mono {w : List UInt8} {a : List Sy} {x f f' : Int} {V V' : List (Int × Int)} {j : Nat} (h : DoneAlt g w a x f V j) (hf : f ≤ f') (hV : ∀ q ∈ V, q ∈ V') : DoneAlt g w a x f' V' j :=
 fun i hi y hd => (h i hi y hd).mono hf hV
theorem done_of {w : List UInt8} {p : Int × Int} {f : Int} {V : List (Int × Int)} (h : ∀ a ∈ (lat g.p.l p.1.toNat).a.l, DoneAlt g w a.l p.2 f V a.l.length) : Done g w p f V := by
 constructor
 ·rintro c ⟨a, ha, i, hi, hk, y, hd, rfl⟩
  exact (h a ha i hi y hd).1 hk
 ·rintro q ⟨a, ha, i, hi, hk, y, hd, rfl⟩
  exact (h a ha i hi y hd).2 hk
end Go.Abs
namespace Go.Abs
open Go Pr
set_option maxRecDepth 10000
section
variable {g : Gr} {w : Wd} {K E W mk l kb sb : Nat} {f0 : Int} {V0 : List (Int × Int)} {n x : Int} {h0 : Heap}
structure BI (g : Gr) (w : Wd) (K E W : Nat) (h0 : Heap) (f0 : Int) (V0 : List (Int × Int)) (f : Int) (V : List (Int × Int)) (H : Heap) : Prop where
 s : LS g w K E W f V H
 a : Adv g w.l f0 V0 f V
 f : Fr3 K E W h0 H
theorem BI.step {f f' : Int} {V V' : List (Int × Int)} {H H' : Heap} (h : BI g w K E W h0 f0 V0 f V H) (hs : LS g w K E W f' V' H') (ha : Adv g w.l f V f' V') (hf : Fr3 K E W H H') : BI g w K E W h0 f0 V0 f' V' H' :=
 ⟨hs, h.a.trans ha, h.f.trans hf⟩
theorem begins1_ok (hG : GrW g w) (hS : Spot g w.l (n, x)) (hkb : h0.get kb = some (.rows [[.ptr K 0 0]])) (hsb : h0.get sb = some (.rows [[.int .i64 n, .int .i64 x]])) (lkb : kb < h0.n) (lsb : sb < h0.n)
  (nk : kb ≠ K ∧ kb ≠ E ∧ kb ≠ W) (ns : sb ≠ K ∧ sb ≠ E ∧ sb ≠ W) (hmk : mk ≤ K) (hmE : mk ≤ E) (hmn : mk ≤ h0.n) (hL0 : LS g w K E W f0 V0 h0)
  (hy : ∀ q f V H, Succ g w.l (n, x) q → BI g w K E W h0 f0 V0 f V H → WF PR false mk (.yld l) [spotV q] H fun r => r.v = .bool true ∧ ∃ f' V', LS g w K E W f' V' r.h ∧ Adv g w.l f V f' V' ∧ q ∈ V' ∧ Fr3 K E W H r.h) :
  WF PR false mk (.fn 66 [] [.ptr kb 0 0, .ptr sb 0 0]) [.yld l] h0 fun r => ∃ f V, BI g w K E W h0 f0 V0 f V r.h ∧ Done g w.l (n, x) f V := by
 have hok := mayB_ok hG.m
 have hin := spot_in hG.m hS
 obtain ⟨n0, n1, x0, x1⟩ := hin
 simp only at n0 n1 x0 x1
 have lK := hL0.l.lk
 have lE := hL0.l.le
 have lW := hL0.l.lw
 refine WF.fn (F := f66) rfl rfl rfl (Nat.le_of_ble_eq_true rfl) ?_
 refine wbodyS b66 [] rfl rfl ?_
 unfold b66
 obtain ⟨p, hp⟩ : ∃ p, lat g.p.l n.toNat = p := ⟨_, rfl⟩
 have hpm : p ∈ g.p.l := by rw [← hp]; exact lat_mem (by omega)
 have ha8 := hok.a p hpm
 simp -dsimp [hkb, hsb, hL0.l.k, nilcV, iaddr_Pd n0 n1, hp, Pd.cells]
 refine wk_loop (fun k st => ∃ (i : Int) (f : Int) (V : List (Int × Int)), 0 ≤ i ∧ (k : Int) = p.a.l.length - i ∧ (gK 21).run st.tm = .int .i64 i ∧ BI g w K E W h0 f0 V0 f V st.h ∧ (∀ a ∈ p.a.l.take i.toNat, DoneAlt g w.l a.l x f V a.l.length) ∧ st.defs = []) p.a.l.length
  ⟨0, f0, V0, by omega, by omega, by simp, ⟨hL0, Adv.refl, Fr3.refl⟩, by simp, rfl⟩ ?_
 rintro k ⟨tm, h1, defs, round⟩ ⟨i, f, U, hi, hk, h21, hB, hdone, rfl⟩ hK'
 have t0 := hK' 0 rfl
 have t1 := hK' 1 rfl
 have t2 := hK' 2 rfl
 have t19 := hK' 19 rfl
 have t20 := hK' 20 rfl
 simp at t0 t1 t2 t19 t20 h21
 simp only at hB
 clear hK'
 simp -dsimp [h21, t20]
 rw [Br_bool]
 refine ⟨fun hc => ?_, fun hc => ?_⟩
 ·simp at hc
  have c1 : i < ((p.a.l.length : Nat) : Int) := by omega
  obtain ⟨a, ha⟩ : ∃ a, lat p.a.l i.toNat = a := ⟨_, rfl⟩
  have ham : a ∈ p.a.l := by rw [← ha]; exact lat_mem (by omega)
  have ham2 : a ∈ (lat g.p.l n.toNat).a.l := by rw [hp]; exact ham
  have hal := hok.s p hpm a ham
  simp -dsimp [t19, h21, iaddr_alt hi c1, ha, altCells]
  refine wk_loop (fun k st => ∃ (j : Int) (f : Int) (V : List (Int × Int)), 0 ≤ j ∧ (k : Int) = a.l.length - j ∧ (gK 27).run st.tm = .int .i64 j ∧ BI g w K E W h0 f0 V0 f V st.h ∧ (∀ a ∈ p.a.l.take i.toNat, DoneAlt g w.l a.l x f V a.l.length) ∧ DoneAlt g w.l a.l x f V j.toNat ∧ st.defs = []) a.l.length
   ⟨0, f, U, by omega, by omega, by simp, hB, hdone, fun i hi => absurd hi (by simp), rfl⟩ ?_
  rintro k2 ⟨tm2, h2, defs2, round2⟩ ⟨j, f2, V2, hj, hk2, h27, hB2, hdone2, hda2, rfl⟩ hK'
  have u0 := hK' 0 rfl
  have u1 := hK' 1 rfl
  have u2 := hK' 2 rfl
  have u5 := hK' 5 rfl
  have u19 := hK' 19 rfl
  have u20 := hK' 20 rfl
  have u21 := hK' 21 rfl
  have u25 := hK' 25 rfl
  have u26 := hK' 26 rfl
  simp [t0, t1, t2, t19, t20, h21] at u0 u1 u2 u5 u19 u20 u21 u25 u26 h27
  simp only at hB2
  clear hK'
  simp -dsimp [h27, u26]
  rw [Br_bool]
  refine ⟨fun hd => ?_, fun hd => ?_⟩
  ·simp at hd
   have d1 : j < ((a.l.length : Nat) : Int) := by omega
   obtain ⟨s, hs⟩ : ∃ s, lat a.l j.toNat = s := ⟨_, rfl⟩
   have hsm : s ∈ a.l := by rw [← hs]; exact lat_mem (by omega)
   have hso := hok.sy p hpm a ham s hsm
   have hsr := hG.r p hpm a ham s hsm
   have hf2 := hB2.f.1
   have hmk2 : mk ≤ h2.n := by omega
   have hkb2 : h2.get kb = some (.rows [[.ptr K 0 0]]) := by rw [hB2.f.2 kb lkb nk.1 nk.2.1 nk.2.2, hkb]
   have hsb2 : h2.get sb = some (.rows [[.int .i64 n, .int .i64 x]]) := by rw [hB2.f.2 sb lsb ns.1 ns.2.1 ns.2.2, hsb]
   have nkb : ¬ kb = h2.n := by omega
   have nsb : ¬ sb = h2.n := by omega
   have hsc : [V.int IntKind.i64 s.kind, Sl.enc Rg.cells s.r, V.int IntKind.i64 s.n] = s.cells := rfl
   obtain ⟨B, hBB⟩ : ∃ B, h2.n = B := ⟨_, rfl⟩
   obtain ⟨H1, hH1⟩ : ∃ H1, (h2.push (Obj.rows [[V.int IntKind.i64 0, V.nils, V.int IntKind.i64 0]])).set h2.n (Obj.rows [s.cells]) = H1 := ⟨_, rfl⟩
   have hkeep : ∀ j, j < h2.n → H1.get j = h2.get j := fun j hj => by rw [← hH1, Heap.get_set, if_neg (by omega), Heap.get_push, if_neg (by omega)]
   have hH1n : H1.n = h2.n + 1 := by rw [← hH1]; simp
   have hbx1 : H1.get B = some (.rows [s.cells]) := by rw [← hH1, ← hBB, Heap.get_set, if_pos rfl]
   have hB3 : BI g w K E W h0 f0 V0 f2 V2 H1 := hB2.step (hB2.s.keep (by omega) fun i hi _ => hkeep i hi) Adv.refl ⟨by omega, fun i hi _ _ _ => hkeep i hi⟩
   simp -dsimp [u25, h27, iaddr_Sy hj d1, hs, Sy.cells, hmk2]
   rw [hsc, hH1, hBB]
   have hkb3 : H1.get kb = some (.rows [[.ptr K 0 0]]) := by rw [hkeep kb (by omega), hkb2]
   have hsb3 : H1.get sb = some (.rows [[.int .i64 n, .int .i64 x]]) := by rw [hkeep sb (by omega), hsb2]
   have hcutE : ∀ tm : Tm, (gK 34).run tm = .int .i64 j → sliceV 3 (cutK none (some (Opd.t 34)) none) tm (a.enc Sy.cells) = some ((a.cut 0 j.toNat).enc Sy.cells) := fun tm ht => by
    refine slice_enc (fun _ => rfl) fun fl => ?_
    simp [ht, bnd_int (n := j) (top := a.l.length) hj (by omega), cutOf]
   simp -dsimp [u1, u2, u5, hkb3, hsb3, hcutE]
   have hcl : (a.cut 0 j.toNat).l = a.l.take j.toNat := by simp
   refine WFS.by (afterA hG x0 x1 ⟨p, hpm, ham⟩ ⟨j.toNat, hcl⟩ hB3.s.l hmE) ?_
   rintro v h3 ⟨⟨ss, rfl, hsp, hsmem⟩, hL3, hF3⟩
   rw [hcl] at hsmem
   simp only at hL3 hF3
   have hB4 : BI g w K E W h0 f0 V0 f2 V2 h3 := hB3.step (hB3.s.ends hL3 hF3) Adv.refl hF3.fr3
   have hF31 := hF3.1
   have hbx3 : h3.get B = some (.rows [s.cells]) := by rw [hF3.2 B (by omega) (by omega), hbx1]
   have hrange : ∀ y, y ∈ ss.l → 0 ≤ y ∧ y ≤ w.l.length := fun y hy => by
    have := ((hsmem y).1 hy).le x0 x1; omega
   have hssl := ends_len hsp hrange hG.w
   simp -dsimp
   refine wk_loop (fun k st => ∃ (q : Int) (f : Int) (V : List (Int × Int)), 0 ≤ q ∧ (k : Int) = ss.l.length - q ∧ (gK 40).run st.tm = .int .i64 q ∧ BI g w K E W h0 f0 V0 f V st.h ∧ (∀ a ∈ p.a.l.take i.toNat, DoneAlt g w.l a.l x f V a.l.length) ∧ DoneAlt g w.l a.l x f V j.toNat ∧ (∀ y ∈ ss.l.take q.toNat, DoneAt g w.l s y f V) ∧ st.h.get B = some (.rows [s.cells]) ∧ B < st.h.n ∧ st.defs = []) ss.l.length
    ⟨0, f2, V2, by omega, by omega, by simp, hB4, hdone2, hda2, by simp, hbx3, by show B < h3.n; omega, rfl⟩ ?_
   rintro k3 ⟨tm3, h4, defs3, round3⟩ ⟨q, f4, V4, hq, hk3, h40, hB5, hdone4, hda4, hat4, hbx4, hBn4, rfl⟩ hK'
   have w0 := hK' 0 rfl
   have w1 := hK' 1 rfl
   have w2 := hK' 2 rfl
   have w5 := hK' 5 rfl
   have w7 := hK' 7 rfl
   have w19 := hK' 19 rfl
   have w20 := hK' 20 rfl
   have w21 := hK' 21 rfl
   have w25 := hK' 25 rfl
   have w26 := hK' 26 rfl
   have w27 := hK' 27 rfl
   have w38 := hK' 38 rfl
   have w39 := hK' 39 rfl
   simp [u0, u1, u2, u5, u19, u20, u21, u25, u26, h27] at w0 w1 w2 w5 w7 w19 w20 w21 w25 w26 w27 w38 w39 h40
   simp only at hB5 hbx4 hBn4
   clear hK'
   simp -dsimp [h40, w39]
   rw [Br_bool]
   refine ⟨fun he => ?_, fun he => ?_⟩
   ·simp at he
    have e1 : q < ((ss.l.length : Nat) : Int) := by omega
    obtain ⟨y, hy'⟩ : ∃ y, lat ss.l q.toNat = y := ⟨_, rfl⟩
    have hym : y ∈ ss.l := by rw [← hy']; exact lat_mem (by omega)
    have hyr := hrange y hym
    have hyd := (hsmem y).1 hym
    have ht : ss.l.take (q + 1).toNat = ss.l.take q.toNat ++ [y] := by
     rw [show (q + 1).toNat = q.toNat + 1 by omega, List.take_add_one, lat_get (by omega), hy']; rfl
    have hkb5 : h4.get kb = some (.rows [[.ptr K 0 0]]) := by rw [hB5.f.2 kb lkb nk.1 nk.2.1 nk.2.2, hkb]
    simp -dsimp [w38, h40, iaddr_int hq e1, hy', intCells, w7, hbx4, Sy.cells]
    rw [Br_bool]
    refine ⟨fun hf => ?_, fun hf => ?_⟩
    ·simp at hf
     simp -dsimp [w1, w7, hkb5, hB5.s.l.k, nilcV, hbx4, Sy.cells]
     rw [hsc]
     have hpr := partN_range (s := s) hyr.1 hyr.2
     have hw200 := hG.w
     have hmx : ∀ tm : Tm, (gK 60).run tm = .int .i64 (y + partN s w.l y) → maxInt .i64 tm f4 [Opd.t 60] = some (.int .i64 (max f4 (y + partN s w.l y))) := fun tm h => by
      rw [maxInt_cons (m := y + partN s w.l y) (by rw [ev_t, h]; rfl)]; rfl
     refine WFS.by (tPart_ok s hB5.s.l.wb (by have := hB5.s.l.me; have := hB5.s.l.le; omega) y hsr (by omega)) ?_
     intro v0 hh0 e
     cases e
     simp -dsimp [fw64 (n := y + partN s w.l y) (by omega) (by omega), hmx, nilcV, hB5.s.l.k, hkb5, w1, hmk]
     have hcand : Cand g w.l (n, x) (y + partN s w.l y) := ⟨a, ham2, j.toNat, by omega, by rw [hs]; exact hf, y, hyd, by rw [hs]⟩
     have hadv : Adv g w.l f4 V4 (max f4 (y + partN s w.l y)) V4 := by
      refine ⟨by omega, fun _ h => h, ?_, fun _ h h' => absurd h h'⟩
      by_cases c : y + partN s w.l y ≤ f4
      ·left; omega
      ·right; exact ⟨_, _, hS, hcand, by omega⟩
     simp -dsimp [h40, fw64 (n := q + 1) (by omega) (by omega)]
     refine Again.intro (k3 - 1) (by omega) ⟨q + 1, max f4 (y + partN s w.l y), V4, by omega, by omega, by simp, hB5.step hB5.s.far hadv ⟨Nat.le_refl _, fun i hi h1 _ _ => by rw [Heap.get_set, if_neg h1]⟩, fun b hb => (hdone4 b hb).mono hadv.le hadv.sub, hda4.mono hadv.le hadv.sub, fun z hz => ?_, ?_, by simpa using hBn4, rfl⟩
     ·rw [ht, List.mem_append, List.mem_singleton] at hz
      rcases hz with hz | rfl
      ·exact (hat4 z hz).mono hadv.le hadv.sub
      ·exact ⟨fun _ => by omega, fun h => absurd h hf⟩
     ·show (Heap.set _ _ _).get B = _
      rw [Heap.get_set, if_neg (by omega), hbx4]
    ·simp at hf
     have hsucc : Succ g w.l (n, x) (s.n, y) := ⟨a, ham2, j.toNat, by omega, by rw [hs]; exact hf, y, hyd, by rw [hs]⟩
     simp -dsimp [w0, w7, hbx4, Sy.cells]
     refine WFS.by (hy (s.n, y) f4 V4 h4 hsucc hB5) ?_
     rintro v0 h5 ⟨e, f5, V5, hL5, hA5, hq5, hF5⟩
     simp only at e hL5 hF5
     subst e
     simp -dsimp [h40, fw64 (n := q + 1) (by omega) (by omega)]
     refine Again.intro (k3 - 1) (by omega) ⟨q + 1, f5, V5, by omega, by omega, by simp, hB5.step hL5 hA5 hF5, fun b hb => (hdone4 b hb).mono hA5.le hA5.sub, hda4.mono hA5.le hA5.sub, fun z hz => ?_, ?_, by have := hF5.1; show B < h5.n; omega, rfl⟩
     ·rw [ht, List.mem_append, List.mem_singleton] at hz
      rcases hz with hz | rfl
      ·exact (hat4 z hz).mono hA5.le hA5.sub
      ·exact ⟨fun h => absurd hf h, fun _ => hq5⟩
     ·show h5.get B = _
      rw [hF5.2 B hBn4 (by omega) (by omega) (by omega), hbx4]
   ·simp at he
    have he' : decide (q < (ss.l.length : Int)) = false := by simpa using he
    rw [List.take_of_length_le (by omega)] at hat4
    simp -dsimp [he', w27, fw64 (n := j + 1) (by omega) (by omega)]
    refine Again.intro (k2 - 1) (by omega) ⟨j + 1, f4, V4, by omega, by omega, by simp, hB5, hdone4, fun i' hi' y hd => ?_, rfl⟩
    by_cases c : i' < j.toNat
    ·exact hda4 i' c y hd
    ·have : i' = j.toNat := by omega
     subst this
     rw [hs]
     exact hat4 y ((hsmem y).2 hd)
  ·simp at hd
   have hd' : decide (j < (a.l.length : Int)) = false := by simpa using hd
   simp -dsimp [hd', u21, fw64 (n := i + 1) (by omega) (by omega)]
   refine Again.intro (k - 1) (by omega) ⟨i + 1, f2, V2, by omega, by omega, by simp, hB2, fun b hb => ?_, rfl⟩
   have ht : p.a.l.take (i + 1).toNat = p.a.l.take i.toNat ++ [a] := by
    rw [show (i + 1).toNat = i.toNat + 1 by omega, List.take_add_one, lat_get (by omega), ha]; rfl
   rw [ht, List.mem_append, List.mem_singleton] at hb
   rcases hb with hb | rfl
   ·exact hdone2 b hb
   ·intro i' hi'; exact hda2 i' (by omega)
 ·simp at hc
  have hc' : decide (i < (p.a.l.length : Int)) = false := by simpa using hc
  rw [List.take_of_length_le (by omega)] at hdone
  simp -dsimp [hc']
  refine ⟨f, U, hB, done_of fun a ha => hdone a (by rw [← hp]; exact ha)⟩
end
end Go.Abs
