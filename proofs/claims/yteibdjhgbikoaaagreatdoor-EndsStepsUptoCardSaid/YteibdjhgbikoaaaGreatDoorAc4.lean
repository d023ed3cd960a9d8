/- What the program's functions come to, by the evaluator's rules; the intermediate code. -/
import Derived.Test.YteibdjhgbikoaaaGreatDoorAc3
set_option linter.unusedSimpArgs false
set_option linter.unusedVariables false
namespace Go.Abs
open Go Pr
theorem qe2 {α : Type} [DecidableEq α] : ∀ {l m : List α}, l.Nodup → (∀ x ∈ l, x ∈ m) → l.length ≤ m.length
 | [], _, _, _ => by simp
 | x :: l, m, hn, h => by
  rw [List.nodup_cons] at hn;have hx := h x (by simp);have := qe2 (m := m.erase x) hn.2 fun y hy => (List.mem_erase_of_ne (by rintro rfl; exact hn.1 hy)).2 (h y (by simp [hy]));rw [List.length_erase_of_mem hx] at this;have : 0 < m.length := List.length_pos_of_mem hx;simp only [List.length_cons]; omega
theorem qeA {α β : Type} {f : α → List β} {c : Nat} : ∀ {l : List α}, (∀ x ∈ l, (f x).length = c) → (l.flatMap f).length = l.length * c
 | [], _ => by simp
 | x :: l, h => by
  rw [List.flatMap_cons, List.length_append, qeA fun y hy => h y (by simp [hy]), h x (by simp), List.length_cons, Nat.succ_mul]; omega
def refsL (x : Ev) (r0 : Int) : List Int := r0 :: (List.range (x.w.l.length + 1)).map fun j => colV x.w.l x.tab (j : Nat)
def qnt (x : Ev) (r0 : Int) : List Spt := (List.range x.g.p.l.length).flatMap fun n : Nat => (List.range (x.w.l.length + 1)).flatMap fun k : Nat => (refsL x r0).map fun r => ((n : Int), (k : Int), r)
theorem qmd (x : Ev) (r0 : Int) : (qnt x r0).length = x.g.p.l.length * ((x.w.l.length + 1) * (x.w.l.length + 2)) := by
 unfold qnt;rw [qeA (c := (x.w.l.length + 1) * (x.w.l.length + 2)), List.length_range];intro n _;rw [qeA (c := x.w.l.length + 2), List.length_range];intro k _;simp [refsL]
theorem qpe {x : Ev} {r0 : Int} {p : Spt} (h : SptOk x r0 p) : p ∈ qnt x r0 := by
 obtain ⟨n, k, r⟩ := p;obtain ⟨n0, n1, k0, k1, hr⟩ := h;simp only at n0 n1 k0 k1 hr;refine List.mem_flatMap.2 ⟨n.toNat, List.mem_range.2 (by omega), List.mem_flatMap.2 ⟨k.toNat, List.mem_range.2 (by omega), List.mem_map.2 ⟨r, ?_, ?_⟩⟩⟩
 ·rcases hr with rfl | ⟨j, j0, j1, rfl⟩
  ·exact List.mem_cons_self
  ·exact List.mem_cons_of_mem _ (List.mem_map.2 ⟨j.toNat, List.mem_range.2 (by omega), by rw [Int.toNat_of_nonneg j0]⟩)
 ·rw [Int.toNat_of_nonneg n0, Int.toNat_of_nonneg k0]
theorem qkc {κ β : Type} [DecidableEq κ] {k : κ} : ∀ {l : List (κ × β)}, k ∈ l.map (·.1) → ∃ v, qaS k l = some v
 | [], h => by simp at h
 | e :: l, h => by
  simp only [qaS]
  by_cases c : k = e.1
  ·exact ⟨e.2, if_pos c⟩
  ·rw [if_neg c];simp only [List.map_cons, List.mem_cons] at h;exact qkc (h.resolve_left c)
theorem LkE.size {x : Ev} {r0 : Int} {K M : Nat} {h : Heap} (hL : LkE x r0 K M h) {es : List (Nat × V × V)} {c : Nat} (he : h.get M = some (.map es c)) : es.length ≤ x.g.p.l.length * ((x.w.l.length + 1) * (x.w.l.length + 2)) := by
 obtain ⟨es', c', S, e1, e2, e3, e4⟩ := hL.m;rw [he] at e1;cases e1;have hl : es.length = (S.map (·.1)).length := by have := congrArg List.length e2; simpa using this
 rw [hl, ← qmd x r0];refine qe2 e3 fun p hp => ?_;obtain ⟨v, hv⟩ := qkc hp;exact qpe (e4 p v hv).1
set_option maxRecDepth 10000
def qnr (x : Ev) (n : Int) : Prop := (mayE x = false → n = 0) ∧ (mayE x = true → 1 ≤ n ∧ n ≤ (x.g.p.l.length * ((x.w.l.length + 1) * (x.w.l.length + 2)) : Nat))
theorem qqu {mk : Nat} {h : Heap} (x : Ev) (hx : EvS x) (hg : x.g.Fine) (hr : ∀ p ∈ x.g.p.l, ∀ a ∈ p.a.l, ∀ s ∈ a.l, s.r.l.length < 1500000) (hB : WB h x.w) (hm : x.w.m ≤ h.n) :
  WF PR false mk (.fn 316 [] []) [.agg x.cells] h fun v => v.h = h ∧ ∃ n, v.v = .int .i64 n ∧ qnr x n := by
 refine WF.pureFn (F := f316) rfl rfl rfl (Nat.le_of_ble_eq_true rfl) (Q := fun v => ∃ n, v = .int .i64 n ∧ qnr x n) ?_;refine qef b316 [.tm 2] rfl rfl ?_;unfold b316;have e5 : [Sl.enc Pd.cells x.g.p, Sl.enc qac x.g.keys, x.w.v, V.int IntKind.i64 x.tab, V.bool x.heal] = x.cells := rfl;simp -dsimp [Ev.cells];rw [e5];obtain ⟨H, hH⟩ : ∃ H, h.push (Obj.rows [x.cells]) = H := ⟨_, rfl⟩;have g0 : H.get h.n = some (.rows [x.cells]) := by rw [← hH]; simp
 have gn : H.n = h.n + 1 := by rw [← hH]; simp
 have gk : ∀ i, i < h.n → H.get i = h.get i := fun i hi => by rw [← hH]; simp [show ¬ i = h.n by omega]
 have hB2 : WB H x.w := hB.keep fun i hi => gk i (by omega);rw [hH];refine WFS.by (qbJ x hg hB2) ?_
 intro v h' e;cases e;simp -dsimp;cases hmay : mayE x with
 | false =>
  simp -dsimp;exact ⟨fun _ => rfl, fun h => by rw [hmay] at h; cases h⟩
 | true =>
  have hw := qbq hmay;have hn0 : 0 < x.g.p.l.length := (qaF hw.m).p0;simp -dsimp [g0, Ev.cells];have hL : LkE x (-1) (H.n + 1) H.n ((H.push (Obj.map [] 0)).push (Obj.rows [qba x H.n])) := by
   refine ⟨by simp, ⟨[], 0, [], by simp, MapR.nil, List.nodup_nil, fun p v hv => by simp [qaS] at hv⟩, by simp, by simp <;> omega, by omega, hB2.keep fun i hi => ?_, by omega, by omega⟩;rw [Heap.get_push, if_neg (by simp; omega), Heap.get_push, if_neg (by omega)]
  refine WFS.by (qgS hx hw hr _ 0 0 (-1) (Nat.lt_succ_self _) (by omega) (by omega) (by omega) (by omega) (.inl rfl) h.n _ (H.n + 1) H.n hL (by omega) (by omega)) ?_
  rintro v H5 ⟨rfl, hL5, hF5, es, c, hM, hne⟩;simp only at hL5 hF5 hM;have hlen : lenV .map (.map H.n) H5 = some (.int .i64 es.length) := by simp [lenV, hM]
  have hsz := hL5.size hM;have hne' : 0 < es.length := List.length_pos_iff.2 hne;simp -dsimp [hL5.k, qba, qcT, hlen];exact ⟨fun h => (by rw [hmay] at h; cases h), fun _ => ⟨by omega, by exact_mod_cast hsz⟩⟩
theorem endsSteps_ok (hA : Awake 310) (x : Ev) (hx : x.Ok) (hkl : x.g.keys.l.length < 1000000000) (s : Sl UInt8) (hs : x.w = ⟨s.enc qak, s.l, 0⟩) :
  WF PR false 0 (.fn 303 [] []) [.agg x.cells] ⟨0, .e⟩ fun r => r.v = .bool true := by
 refine WF.go f303 b303 [.tm 2] rfl rfl rfl rfl rfl rfl ?_;unfold b303;have hB0 : ∀ H, WB H x.w := fun H => .inl ⟨s, by rw [hs], by rw [hs]⟩;have hlw : ∀ H, lenV .sl x.w.v H = some (.int .i64 x.w.l.length) := fun H => (hB0 H).len;have hxc : [x.g.p.enc Pd.cells, x.g.keys.enc qac, x.w.v, .int .i64 x.tab, .bool x.heal] = x.cells := rfl;have hm0 : x.w.m = 0 := by rw [hs]
 simp -dsimp [-qar];rw [qar];simp -dsimp [Ev.cells, -qar];rw [hxc];obtain ⟨h1, hh1⟩ : ∃ h1, (Heap.push ⟨0, .e⟩ (Obj.rows [x.cells]) : Heap) = h1 := ⟨_, rfl⟩;have g1 : h1.get 0 = some (.rows [[x.g.p.enc Pd.cells, x.g.keys.enc qac, x.w.v, .int .i64 x.tab, .bool x.heal]]) := by rw [← hh1]; simp; rfl
 have n1 : h1.n = 1 := by rw [← hh1]; simp
 rw [qar];simp -dsimp [-qar];refine WFS.by (hA _ _ _ (Nat.zero_le _)) ?_
 intro v h' e;cases e;rw [hh1];simp -dsimp [-qar];rw [qar];simp -dsimp [g1, -qar];rw [hxc];refine WFS.by (qe5 x hx.few (hB0 _)) ?_
 rintro v h' ⟨e0, b, e1, hb⟩;simp only at e0 e1;subst e0 e1;cases b with
 | false => simp -dsimp
 | true =>
  obtain ⟨hp16, hw16⟩ := hb rfl;have hS : EvS x := ⟨hx.g.toSmall, hkl, by omega⟩;simp -dsimp [g1];rw [hxc];refine WFS.by (qqu x hS hx.g hx.r (hB0 _) (by omega)) ?_
  rintro v h' ⟨e0, n, e1, hs0, hs1⟩;simp only at e0 e1;subst e0 e1;simp -dsimp [g1];rw [hxc];refine WFS.by (qbJ x hx.g (hB0 _)) ?_
  intro v h' e;cases e;cases hmay : mayE x with
  | false =>
   rw [hs0 hmay];simp -dsimp
  | true =>
   obtain ⟨k1, k2⟩ := hs1 hmay;simp -dsimp [k1, g1, hlw];have m1 : x.g.p.l.length * (x.w.l.length + 1) ≤ 16 * 17 := Nat.mul_le_mul hp16 (by omega);have m2 : x.g.p.l.length * (x.w.l.length + 1) * (x.w.l.length + 2) ≤ 16 * 17 * 18 := Nat.mul_le_mul m1 (by omega);have c1 : ((x.g.p.l.length : Int) * ((x.w.l.length : Int) + 1)) = ((x.g.p.l.length * (x.w.l.length + 1) : Nat) : Int) := by push_cast; rfl
   have c2 : ((x.g.p.l.length * (x.w.l.length + 1) : Nat) : Int) * ((x.w.l.length : Int) + 2) = ((x.g.p.l.length * (x.w.l.length + 1) * (x.w.l.length + 2) : Nat) : Int) := by push_cast; rfl
   rw [fw64 (n := (x.w.l.length : Int) + 1) (by omega) (by omega), c1, fw64 (n := ((x.g.p.l.length * (x.w.l.length + 1) : Nat) : Int)) (by omega) (by omega), fw64 (n := (x.w.l.length : Int) + 2) (by omega) (by omega), c2, fw64 (n := ((x.g.p.l.length * (x.w.l.length + 1) * (x.w.l.length + 2) : Nat) : Int)) (by omega) (by omega), Nat.mul_assoc];exact k2
end Go.Abs

