/- What the program's functions come to, by the evaluator's rules; the intermediate code. -/
import Derived.Test.YteibdjhgbikoaaaGreatDoorAc3
set_option linter.unusedSimpArgs false
set_option linter.unusedVariables false
namespace Go.Abs
open Go Pr
theorem qqs {m : Int} (h0 : 0 ≤ m) (h1 : m ≤ 63) : bitB m 1 = !decide (m.tmod 2 = 0) := by
 have key : ∀ k : Fin 64, bitB ((k.val : Nat) : Int) 1 = !decide (((k.val : Nat) : Int).tmod 2 = 0) := by decide
 have := key ⟨m.toNat, by omega⟩;simpa [Int.toNat_of_nonneg h0] using this
def qbo {α : Type} [Inhabited α] (p : Nat → Bool) (c : List α) : Nat → List α
 | 0 => []
 | i + 1 => if p i = true then qbo p c i ++ [lat c i] else qbo p c i
theorem qeQ {α : Type} [Inhabited α] (p : Nat → Bool) (c : List α) (i : Nat) : ∀ j, ∃ t, qbo p c (i + j) = qbo p c i ++ t ∧ ∀ f ∈ t, ∃ m, i ≤ m ∧ m < i + j ∧ f = lat c m
 | 0 => ⟨[], by simp, by simp⟩
 | j + 1 => by
  obtain ⟨t, h1, h2⟩ := qeQ p c i j;rw [← Nat.add_assoc, qbo];split
  ·refine ⟨t ++ [lat c (i + j)], by rw [h1, List.append_assoc], fun f hf => ?_⟩;rcases List.mem_append.1 hf with hf | hf
   ·obtain ⟨m, m1, m2, e⟩ := h2 f hf; exact ⟨m, m1, by omega, e⟩
   ·rw [List.mem_singleton] at hf; exact ⟨i + j, by omega, by omega, hf⟩
  ·refine ⟨t, h1, fun f hf => ?_⟩;obtain ⟨m, m1, m2, e⟩ := h2 f hf; exact ⟨m, m1, by omega, e⟩
theorem qeR {α : Type} [Inhabited α] (p : Nat → Bool) (c : List α) : ∀ i, (qbo p c i).length ≤ i
 | 0 => Nat.le_refl _
 | i + 1 => by
  have := qeR p c i;rw [qbo]; split <;> simp <;> omega
theorem qdE {α : Type} [Inhabited α] (q : α → Bool) (p : Nat → Bool) (c : List α) : ∀ i, i ≤ c.length → (∀ j, j < i → p j = q (lat c j)) → qbo p c i = (c.take i).filter q
 | 0, _, _ => by simp [qbo]
 | i + 1, hi, h => by
  have ih := qdE q p c i (by omega) fun j hj => h j (by omega);have ht : c.take (i + 1) = c.take i ++ [lat c i] := by rw [List.take_add_one, qaz (by omega : i < c.length)]; rfl
  rw [qbo, h i (by omega), ih, ht, List.filter_append];split
  ·rename_i hq; rw [List.filter_cons_of_pos hq]; rfl
  ·rename_i hq; rw [List.filter_cons_of_neg hq]; simp
theorem qhH {α : Type} [Inhabited α] (p : Nat → Bool) (c : List α) : ∀ i, (∀ j, j < i → p j = false) → qbo p c i = []
 | 0, _ => rfl
 | i + 1, h => by
  rw [qbo, h i (by omega), qhH p c i fun j hj => h j (by omega)]; simp
def qkh (x : Ev) (n k r : Int) (c : List En) (i : Nat) : Bool := qbp x n k (lat c i).1 r && (decide ((lat x.g.p.l n.toNat).marks.tmod 2 = 0) || decide ((i : Int) = c.length - 1))
theorem qo8 {x : Ev} {n k r : Int} {c : List En} (h0 : 0 ≤ (lat x.g.p.l n.toNat).marks) (h1 : (lat x.g.p.l n.toNat).marks ≤ 63) : (qb4 x n c).filter (fun e => qbp x n k e.1 r) = qbo (qkh x n k r c) c c.length := by
 have hb := qqs h0 h1;unfold qb4
 by_cases hm : (lat x.g.p.l n.toNat).marks.tmod 2 = 0
 ·rw [if_neg (by rw [hb]; simp [hm])];rw [qdE (fun e => qbp x n k e.1 r) _ c c.length (Nat.le_refl _) (fun j hj => by simp [qkh, hm]), List.take_length]
 ·rw [if_pos (by rw [hb]; simp [hm])];cases hc : c.length with
  | zero =>
   have : c = [] := List.length_eq_zero_iff.1 hc;subst this; rfl
  | succ m =>
   have hd : c.drop m = [lat c m] := by
    have : c.drop m = lat c m :: c.drop (m + 1) := by
     rw [List.drop_eq_getElem_cons (by omega : m < c.length), lat_eq (by omega)]
    rw [this, List.drop_eq_nil_of_le (by omega)]
   rw [Nat.add_sub_cancel, hd, qbo, qhH _ c m (fun j hj => by simp [qkh, hm, hc]; omega)];have hw : qkh x n k r c m = qbp x n k (lat c m).1 r := by simp [qkh, hc]
   rw [hw, List.filter_cons];split <;> simp
theorem qoN {g : Gr} (h : (qcP g).2 = 0) : qhx g = -1 ∧ badI g = -1 := by
 have hm := (qc8 h).1;have hc := (qc8 h).2;unfold qcP at h;rw [if_pos hm] at h
 by_cases c1 : qhx g = -1
 ·refine ⟨c1, ?_⟩
  by_cases c2 : qo9 g = -1
  ·by_cases c3 : badI g = -1
   ·exact c3
   ·simp [cnL, qcy, hc, c1, c2, c3] at h
  ·simp [cnL, qcy, hc, c1, c2] at h
 ·simp [cnL, qcy, hc, c1] at h
theorem qgV {p : Nat → Bool} : ∀ {n : Nat}, qgX p n = -1 → ∀ j, j < n → p j = false
 | 0, _, j, hj => by omega
 | n + 1, h, j, hj => by
  simp only [qgX] at h;split at h
  ·rename_i h0;split at h
   ·omega
   ·rename_i h1
    by_cases c : j = n
    ·subst c; simpa using h1
    ·exact qgV h0 j (by omega)
  ·rename_i h0; exact absurd h h0
theorem qnO {g : Gr} (hm : mayB g = true) {n b : Int} (n0 : 0 ≤ n) (n1 : n < g.p.l.length) (h : Rch g n b) : 0 ≤ b ∧ b < g.p.l.length := by
 induction h with
 | one h => exact qcY hm n0 n1 h
 | more _ h ih => exact qcY hm ih.1 ih.2 h
theorem qgC {g : Gr} {a : Int} {k : Nat} (hk : k < g.p.l.length) : lat (qaB g a) k = rchB g a k := by
 unfold qaB;rw [lat_eq (by simpa using hk)];simp
theorem qeU {g : Gr} {a : Int} : (qaB g a).length = g.p.l.length := by simp [qaB]
theorem qoE {p : Pd} (h0 : 0 ≤ p.marks) (h1 : p.marks ≤ 63) (h : bitB p.marks 1 = true) : qeB p = true := by
 have key : ∀ k : Fin 64, bitB ((k.val : Nat) : Int) 1 = true → qfC ((k.val : Nat) : Int) 0 = true := by decide
 have := key ⟨p.marks.toNat, by omega⟩;simp only [Int.toNat_of_nonneg h0] at this;simp [qeB, this h]
theorem qno (m : Int) : qfC m 2 = bitB m 32 := rfl
theorem qnP {g : Gr} (hm : mayB g = true) (hl : qhx g = -1) {b : Int} (b0 : 0 < b) (b1 : b < g.p.l.length) : Rch g 0 b := by
 unfold qhx at hl;rw [if_pos hm] at hl;have h := qiE (Int.le_refl 0) hl;have hb : lat ((qaB g 0).set 0 true) b.toNat = true := by
  have := h _ (qai (l := (qaB g 0).set 0 true) (i := b.toNat) (by simp [qeU]; omega));cases hq : lat ((qaB g 0).set 0 true) b.toNat with
  | true => rfl
  | false => rw [hq] at this; simp at this
 have hb2 : lat (qaB g 0) b.toNat = true := by
  rw [lat_eq (by simp [qeU]; omega), List.getElem_set, if_neg (by omega)] at hb;rw [lat_eq (by simp [qeU]; omega)];exact hb
 rw [qgC (by omega), Int.toNat_of_nonneg (by omega)] at hb2;unfold rchB at hb2;simpa using hb2
theorem ql7 {g : Gr} (h : (qcP g).2 = 0) {n : Int} (n0 : 0 ≤ n) (n1 : n < g.p.l.length) (hL : bitB (lat g.p.l n.toNat).marks 1 = true) : Whole g n := by
 have hm := (qc8 h).1;obtain ⟨hlost, hbad⟩ := qoN h;unfold badI qgY at hbad;rw [if_pos hm] at hbad;have hk := (qaF hm).marks _ (qai (l := g.p.l) (i := n.toNat) (by omega));have hq := qgV hbad n.toNat (by omega);simp only [qoE hk.1 hk.2 hL, Bool.true_and, Bool.or_eq_false_iff] at hq;obtain ⟨h1, h2⟩ := hq;rw [Int.toNat_of_nonneg n0] at h1 h2;have hself : ¬ Rch g n n := fun hr => by
  have h3 := qgC (g := g) (a := n) (k := n.toNat) (by omega);rw [h1, Int.toNat_of_nonneg n0] at h3;unfold rchB at h3;simp at h3;exact h3 hr
 intro b hb;obtain ⟨b0, b1⟩ := qnO hm n0 n1 hb;refine ⟨?_, ?_⟩
 ·rintro rfl
  by_cases c : n = 0
  ·subst c; exact hself hb
  ·exact hself (hb.trans (qnP hm hlost (by omega) n1))
 ·unfold qnp;rw [← qno];unfold qhw at h2;rw [List.any_eq_false] at h2;have h4 := h2 b.toNat (by simp [qeU]; omega);rw [qgC (by omega), Int.toNat_of_nonneg b0] at h4;have h5 : rchB g n b = true := by unfold rchB; simpa using hb
  rw [h5] at h4;simpa using h4
section
variable {s t : Ev} (hs : mayE s = true) (ht : mayE t = true) (hg : t.g = s.g) (hw : t.w = s.w) (htab : t.tab = s.tab) (hh : s.heal = false)
include hs ht hg hw htab hh
theorem qp4 {n k r : Int} (n0 : 0 ≤ n) (n1 : n < s.g.p.l.length) (k0 : 0 ≤ k) (k1 : k ≤ s.w.l.length) : ∀ e ∈ (qaL s n k r).2, e ∈ (qaL t n k r).2 := by
 have hS := qbq hs;have hT := qbq ht;have hck : (qcP s.g).2 = 0 := by
  simp only [mayE, Bool.and_eq_true, decide_eq_true_eq] at hs; exact hs.1
 refine (qlx hS hT ⟨by rw [hw], by rw [hg], fun n => by rw [hg], hh⟩ (R := fun a b => a = b) (fun n k r r' e => by subst e; unfold refV; rw [hg, hw, htab]) ?_ _ n k r r (Nat.lt_succ_self _) n0 n1 k0 k1 rfl).2;intro n k r r' n0 n1 k0 k1 hr hc e he;subst hr;have n1' : n < t.g.p.l.length := by rw [hg]; exact n1
 have k1' : k ≤ t.w.l.length := by rw [hw]; exact k1
 have he0 := (qd6 hh n k r).2 e he;rw [qcI hS n0 n1 k0 k1 hh] at he;obtain ⟨hm, hp⟩ := List.mem_filter.1 he;have hin : ∀ f ∈ (qaL t n k r).2, 0 ≤ f.2 := fun f hf => ((qbf hT n0 n1' k0 k1').2 f hf).2.2.1.1;have hin1 : ∀ f ∈ (qaL t n k r).1, 0 ≤ f.2 := fun f hf => ((qbf hT n0 n1' k0 k1').1 f hf).2.2.1.1;have hme : e ∈ qb4 t n (qaL t n k r).1 := by
  unfold qb4 at hm ⊢;rw [hg];split at hm
  ·rename_i hb;rw [if_pos hb];have hf := (qoc hS hT hg hw htab _ n k r (Nat.lt_succ_self _) n0 n1 k0 k1 (ql7 hck n0 n1 hb)).1;rw [← hf]; exact hm
  ·rename_i hb;rw [if_neg hb];exact hc e hm
 rw [qbD hT n0 n1' k0 k1'] at hin1 hme ⊢;simp only at hin1 hme ⊢;unfold endE;refine qd5.2 ⟨List.mem_append.2 (.inl (List.mem_filter.2 ⟨hme, ?_⟩)), fun f hf _ => ?_⟩
 ·rw [← qjm hg hw htab]; exact hp
 ·rw [he0];rcases List.mem_append.1 hf with hf | hf
  ·exact hin1 f (qio (List.mem_filter.1 hf).1)
  ·have := (qhU hf).2.2; omega
end
theorem qor {x : Ev} (hx : EvW x) (hh : x.heal = true) {k r y : Int} (k0 : 0 ≤ k) (k1 : k ≤ x.w.l.length) (hy : y ∈ qaJ x.w.l) (hk : k < y) : ∃ e ∈ (qaL x 0 k r).2, e.1 = y ∧ e.2 ≤ 1 := by
 have hn0 := (qaF hx.m).p0;rw [qbD hx (Int.le_refl 0) (by omega) k0 k1];simp only;unfold endE;have : ((y, 1) : En) ∈ qcr x 0 k := by
  unfold qcr;rw [if_pos ⟨hh, .inl rfl⟩];exact List.mem_map.2 ⟨y, List.mem_filter.2 ⟨hy, by simpa using hk⟩, rfl⟩
 obtain ⟨f, hf, h1, h2⟩ := qla (List.mem_append.2 (.inr this) : ((y, 1) : En) ∈ ((qb4 x 0 (qcG x (qaN x (refV x 0 k r)) 0 k)).filter fun e => qbp x 0 k e.1 r) ++ qcr x 0 k);exact ⟨f, hf, h1, h2⟩
set_option maxRecDepth 10000
theorem qlZ {α : Type} [Inhabited α] (q : α → Bool) {l : List α} {j : Nat} (h : j < l.length) : (l.take (j + 1)).any q = ((l.take j).any q || q (lat l j)) := by
 rw [List.take_add_one, qaz h];simp [List.any_append]
theorem qqO {x : Ev} {n k r : Int} (hm : mayE x = true) (n0 : 0 ≤ n) (n1 : n < x.g.p.l.length) (k0 : 0 ≤ k) (k1 : k ≤ x.w.l.length) : ofE x n k r = qaL x n k r := if_pos ⟨hm, n0, n1, k0, k1⟩
theorem qly {x : Ev} (hm : mayE x = true) {n k r : Int} (n0 : 0 ≤ n) (n1 : n < x.g.p.l.length) (k0 : 0 ≤ k) (k1 : k ≤ x.w.l.length) : (qaL x n k r).2.length ≤ 201 :=
 qb7 (qc3 (qbq hm) (ref := r) n0 n1 k0 k1).2 (n := x.w.l.length) (fun e he => by
  have := (qbf (qbq hm) (ref := r) n0 n1 k0 k1).2 e he;exact ⟨by have := this.1; omega, this.2.1⟩) (qbq hm).w
theorem endsHeal_ok (hA : Awake 310) (x : Ev) (hx : x.Ok) (hkl : x.g.keys.l.length < 1000000000) (s : Sl UInt8) (hs : x.w = ⟨s.enc qak, s.l, 0⟩) (k r : Int) :
  WF PR false 0 (.fn 302 [] []) [.agg x.cells, .int .i64 k, .int .i64 r] ⟨0, .e⟩ fun r => r.v = .bool true := by
 refine WF.go f302 b302 [.tm 6] rfl rfl rfl rfl rfl rfl ?_;unfold b302;have hB0 : ∀ H, WB H x.w := fun H => .inl ⟨s, by rw [hs], by rw [hs]⟩;have hlw : ∀ H, lenV .sl x.w.v H = some (.int .i64 x.w.l.length) := fun H => (hB0 H).len;have hxc : [x.g.p.enc Pd.cells, x.g.keys.enc qac, x.w.v, .int .i64 x.tab, .bool x.heal] = x.cells := rfl;have hm0 : x.w.m = 0 := by rw [hs]
 obtain ⟨y, hy⟩ : ∃ y : Ev, (⟨x.g, x.w, x.tab, false⟩ : Ev) = y := ⟨_, rfl⟩;obtain ⟨z, hz⟩ : ∃ z : Ev, (⟨x.g, x.w, x.tab, true⟩ : Ev) = z := ⟨_, rfl⟩;have hyc : [x.g.p.enc Pd.cells, x.g.keys.enc qac, x.w.v, .int .i64 x.tab, .bool false] = y.cells := by rw [← hy]; rfl
 have hzc : [x.g.p.enc Pd.cells, x.g.keys.enc qac, x.w.v, .int .i64 x.tab, .bool true] = z.cells := by rw [← hz]; rfl
 have hyg : y.g = x.g := by rw [← hy]
 have hyw : y.w = x.w := by rw [← hy]
 have hzg : z.g = x.g := by rw [← hz]
 have hzw : z.w = x.w := by rw [← hz]
 simp -dsimp [-qar];rw [qar];simp -dsimp [Ev.cells, -qar];rw [hxc];obtain ⟨h1, hh1⟩ : ∃ h1, (Heap.push ⟨0, .e⟩ (Obj.rows [x.cells]) : Heap) = h1 := ⟨_, rfl⟩;have g1 : h1.get 0 = some (.rows [[x.g.p.enc Pd.cells, x.g.keys.enc qac, x.w.v, .int .i64 x.tab, .bool x.heal]]) := by rw [← hh1]; simp; rfl
 have n1 : h1.n = 1 := by rw [← hh1]; simp
 rw [qar];simp -dsimp [-qar];refine WFS.by (hA _ _ _ (Nat.zero_le _)) ?_
 intro v h' e;cases e;rw [hh1];simp -dsimp [-qar];rw [qar];simp -dsimp [g1, -qar];rw [hxc];refine WFS.by (qe5 x hx.few (hB0 _)) ?_
 rintro v h' ⟨e0, b, e1, hb⟩;simp only at e0 e1;subst e0 e1;simp -dsimp [g1, n1, -qar];rw [qar];simp -dsimp [g1, n1, -qar];have hone : x.w.v.one = true := (hB0 ⟨0, .e⟩).cells.2;obtain ⟨H, hH⟩ : ∃ H, (((h'.set 0 (.rows [z.cells])).push (.rows [[.nils, .nils, .nils, .int .i64 0, .bool false]])).set 1 (.rows [z.cells])).set 1 (.rows [y.cells]) = H := ⟨_, rfl⟩;have G0 : H.get 0 = some (.rows [[x.g.p.enc Pd.cells, x.g.keys.enc qac, x.w.v, .int .i64 x.tab, .bool true]]) := by rw [← hH, hzc]; simp [n1]
 have G1 : H.get 1 = some (.rows [[x.g.p.enc Pd.cells, x.g.keys.enc qac, x.w.v, .int .i64 x.tab, .bool false]]) := by rw [← hH, hyc]; simp
 have Gn : H.n = 2 := by rw [← hH]; simp [n1]
 cases b with
 | false => simp -dsimp [g1, n1, hone]
 | true =>
  obtain ⟨hp16, hw16⟩ := hb rfl;simp -dsimp [g1, n1, hone];rw [hzc, hyc, hH];have hSy : EvS y := ⟨by rw [hyg]; exact hx.g.toSmall, by rw [hyg]; exact hkl, by rw [hyw]; omega⟩;have hSz : EvS z := ⟨by rw [hzg]; exact hx.g.toSmall, by rw [hzg]; exact hkl, by rw [hzw]; omega⟩;have hBy : ∀ H, WB H y.w := fun H => by rw [hyw]; exact hB0 H
  have hBz : ∀ H, WB H z.w := fun H => by rw [hzw]; exact hB0 H
  have hgy : y.g.Fine := by rw [hyg]; exact hx.g
  have hgz : z.g.Fine := by rw [hzg]; exact hx.g
  have hry : ∀ p ∈ y.g.p.l, ∀ a ∈ p.a.l, ∀ s ∈ a.l, s.r.l.length < 1500000 := by rw [hyg]; exact hx.r
  have hrz : ∀ p ∈ z.g.p.l, ∀ a ∈ p.a.l, ∀ s ∈ a.l, s.r.l.length < 1500000 := by rw [hzg]; exact hx.r
  refine WFS.by (qbJ z hgz (hBz _)) ?_
  intro v h' e;cases e;cases hmay : mayE z with
  | false => simp -dsimp
  | true =>
  simp -dsimp;rw [Gd_f];refine ⟨fun hc => ?_, fun hc => ?_⟩;rotate_left
  ·simp -dsimp [hc]
  have k0 : 0 ≤ k := by simpa using hc
  simp -dsimp [hc, G0, hlw];rw [qaa];refine ⟨fun hc2 => ?_, fun hc2 => ?_⟩
  ·simp -dsimp
  have k1 : k ≤ x.w.l.length := by simpa using hc2
  have hmayy : mayE y = true := by rw [← hmay, ← hy, ← hz]; rfl
  have hn0 : 0 < x.g.p.l.length := by have := (qaF (qbq hmay).m).p0; rw [hzg] at this; exact this
  have kz : k ≤ z.w.l.length := by rw [hzw]; exact k1
  have ky : k ≤ y.w.l.length := by rw [hyw]; exact k1
  have nz : (0 : Int) < z.g.p.l.length := by rw [hzg]; omega
  have ny : (0 : Int) < y.g.p.l.length := by rw [hyg]; omega
  simp -dsimp [G0];rw [hzc];refine WFS.by (qec z hSz hgz hrz (hBz _) (by rw [hzw]; omega) 0 k r) ?_
  intro v h' e;cases e;rw [qqO hmay (Int.le_refl 0) nz k0 kz];simp -dsimp [G0];refine WFS.by (qk3 (w := x.w) (hB0 _) (by omega) (by omega)) ?_
  intro v h' e;cases e;obtain ⟨L, hL⟩ : ∃ L, (qaL z 0 k r).2 = L := ⟨_, rfl⟩;have hLl : L.length ≤ 201 := by rw [← hL]; exact qly hmay (Int.le_refl 0) nz k0 kz
  obtain ⟨Y, hY⟩ : ∃ Y, qaJ x.w.l = Y := ⟨_, rfl⟩;have hYl : Y.length ≤ 17 := by have := qcJ x.w.l; rw [hY] at this; omega
  rw [hL, hY];have hline : ∀ y ∈ Y, k < y → L.any (fun f => decide (f.1 = y) && decide (f.2 ≤ 1)) = true := fun q hq hk => by
   have hz1 : z.heal = true := by rw [← hz]
   obtain ⟨f, hf, f1, f2⟩ := qor (qbq hmay) hz1 (r := r) k0 kz (by rw [hzw, hY]; exact hq) hk;rw [hL] at hf;rw [List.any_eq_true];exact ⟨f, hf, by simp [f1, f2]⟩
  have hiaL : ∀ {j : Nat}, j < L.length → qaw 2 ((slE L).enc qad) (.int .i64 j) = some (.ptrR (qad (lat L j)) 0) := fun {j} hj => by
   have := qap (f := qad) (s := slE L) (esz := 2) (k := .i64) (n := (j : Int)) (by omega) (by simp; omega) (fun _ => rfl);rw [this]; simp
  have hiaY : ∀ {j : Nat}, j < Y.length → qaw 1 ((slOf Y).enc qaM) (.int .i64 j) = some (.ptrR (qaM (lat Y j)) 0) := fun {j} hj => by
   have := qap (f := qaM) (s := slOf Y) (esz := 1) (k := .i64) (n := (j : Int)) (by omega) (by simp; omega) (fun _ => rfl);rw [this]; simp
  simp -dsimp;refine qaf (fun m st => ∃ i : Nat, i + m = Y.length ∧ (gK 12).run st.tm = .int .i64 i ∧ st.h = H ∧ st.defs = []) Y.length ⟨0, by omega, by simp, rfl, rfl⟩ ?_;rintro m ⟨tm, h2, defs, round⟩ ⟨i, hi, h12, rfl, rfl⟩ hK';have t1 := hK' 1 rfl;have t2 := hK' 2 rfl;have t9 := hK' 9 rfl;have t10 := hK' 10 rfl;have t11 := hK' 11 rfl;simp at t1 t2 t9 t10 t11 h12;clear hK';simp only at G0 G1;simp -dsimp [h12, t11];rw [qaa];refine ⟨fun hc => ?_, fun hc => ?_⟩
  ·have c1 : i < Y.length := by simpa using hc
   obtain ⟨q, hq⟩ : ∃ q, lat Y i = q := ⟨_, rfl⟩;have hia := hiaY c1;rw [hq] at hia;simp -dsimp;refine qaf (fun m st => ∃ j : Nat, j + m = L.length ∧ (gK 14).run st.tm = .int .i64 j ∧ (gK 13).run st.tm = .bool ((L.take j).any (fun f => decide (f.1 = q) && decide (f.2 ≤ 1))) ∧ st.h = h2 ∧ st.defs = []) L.length ⟨0, by omega, by simp, by simp, rfl, rfl⟩ ?_;rintro m2 ⟨tm2, h3, defs, round2⟩ ⟨j, hj, h14, h13, rfl, rfl⟩ hK';have u1 := hK' 1 rfl;have u10 := hK' 10 rfl;have u11 := hK' 11 rfl;have u12 := hK' 12 rfl;simp at u1 u10 u11 u12 h14 h13;rw [t1] at u1;rw [t10] at u10;rw [t11] at u11;rw [h12] at u12;clear hK';simp -dsimp [h14, u10];rw [qaa];refine ⟨fun hc => ?_, fun hc => ?_⟩
   ·have d1 : j < L.length := by simpa using hc
    have hia2 := hiaL d1;have hf1 := fw64 (n := (j : Int) + 1) (by omega) (by omega);have hsn := qlZ (fun f : En => decide (f.1 = q) && decide (f.2 ≤ 1)) d1;obtain ⟨a, ha⟩ : ∃ a, (L.take j).any (fun f => decide (f.1 = q) && decide (f.2 ≤ 1)) = a := ⟨_, rfl⟩;rw [ha] at h13 hsn;cases a with
    | true =>
     simp -dsimp [h13, h14, hf1];exact qah.intro (m2 - 1) (by omega) ⟨j + 1, by omega, by simp, by simp [hsn], rfl, rfl⟩
    | false =>
     simp -dsimp [h13, u10, h14, hia2, qad, u11, u12, hia, qaM];rw [Gd_t];refine ⟨fun he => ?_, fun he => ?_⟩
     ·simp -dsimp [he, u10, h14, hia2, qad, hf1];exact qah.intro (m2 - 1) (by omega) ⟨j + 1, by omega, by simp, by simp [hsn, he], rfl, rfl⟩
     ·simp -dsimp [he, h14, hf1];exact qah.intro (m2 - 1) (by omega) ⟨j + 1, by omega, by simp, by simp [hsn, he], rfl, rfl⟩
   ·have d1 : j = L.length := by simp at hc; omega
    subst d1;rw [List.take_length] at h13;have hf1 := fw64 (n := (i : Int) + 1) (by omega) (by omega);obtain ⟨a, ha⟩ : ∃ a, L.any (fun f => decide (f.1 = q) && decide (f.2 ≤ 1)) = a := ⟨_, rfl⟩;rw [ha] at h13;cases a with
    | true =>
     simp -dsimp [h13, u12, hf1];exact qah.intro (m - 1) (by omega) ⟨i + 1, by omega, by simp, rfl, rfl⟩
    | false =>
     simp -dsimp [h13, u11, u12, hia, qaM, u1];rw [qaa];refine ⟨fun hgt => ?_, fun hgt => ?_⟩
     ·have hl := hline q (by rw [← hq]; exact qai c1) (by simpa using hgt);rw [ha] at hl; cases hl
     ·simp -dsimp [u12, hf1];exact qah.intro (m - 1) (by omega) ⟨i + 1, by omega, by simp, rfl, rfl⟩
  ·simp -dsimp [t9, G1, t1, t2];rw [hyc];refine WFS.by (qec y hSy hgy hry (hBy _) (by rw [hyw]; omega) 0 k r) ?_
   intro v h' e;cases e;rw [qqO hmayy (Int.le_refl 0) ny k0 ky];obtain ⟨M, hM⟩ : ∃ M, (qaL y 0 k r).2 = M := ⟨_, rfl⟩;have hMl : M.length ≤ 201 := by rw [← hM]; exact qly hmayy (Int.le_refl 0) ny k0 ky
   rw [hM];have hsub : ∀ e ∈ M, L.any (fun f => decide (f.1 = e.1) && decide (f.2 = 0)) = true := fun e he => by
    have hyh : y.heal = false := by rw [← hy]
    rw [← hM] at he;have h0 := (qd6 hyh 0 k r).2 e he;have := qp4 hmayy hmay (by rw [hzg, hyg]) (by rw [hzw, hyw]) (by rw [← hz, ← hy]) hyh (r := r) (Int.le_refl 0) ny k0 ky e he;rw [hL] at this;rw [List.any_eq_true];exact ⟨e, this, by simp [h0]⟩
   have hiaM : ∀ {j : Nat}, j < M.length → qaw 2 ((slE M).enc qad) (.int .i64 j) = some (.ptrR (qad (lat M j)) 0) := fun {j} hj => by
    have := qap (f := qad) (s := slE M) (esz := 2) (k := .i64) (n := (j : Int)) (by omega) (by simp; omega) (fun _ => rfl);rw [this]; simp
   simp -dsimp;refine qaf (fun m st => ∃ i : Nat, i + m = M.length ∧ (gK 16).run st.tm = .int .i64 i ∧ st.h = h2 ∧ st.defs = []) M.length ⟨0, by omega, by simp, rfl, rfl⟩ ?_;rintro m ⟨tm, h2, defs, round⟩ ⟨i, hi, h16, rfl, rfl⟩ hK';have v10 := hK' 10 rfl;have v15 := hK' 15 rfl;simp [t10] at v10 v15 h16;clear hK';simp -dsimp [h16, v15];rw [qaa];refine ⟨fun hc => ?_, fun hc => ?_⟩
   ·have c1 : i < M.length := by simpa using hc
    obtain ⟨q, hq⟩ : ∃ q, lat M i = q := ⟨_, rfl⟩;have hia := hiaM c1;rw [hq] at hia;simp -dsimp;refine qaf (fun m st => ∃ j : Nat, j + m = L.length ∧ (gK 18).run st.tm = .int .i64 j ∧ (gK 17).run st.tm = .bool ((L.take j).any (fun f => decide (f.1 = q.1) && decide (f.2 = 0))) ∧ st.h = h2 ∧ st.defs = []) L.length ⟨0, by omega, by simp, by simp, rfl, rfl⟩ ?_;rintro m2 ⟨tm2, h3, defs, round2⟩ ⟨j, hj, h18, h17, rfl, rfl⟩ hK';have u10 := hK' 10 rfl;have u15 := hK' 15 rfl;have u16 := hK' 16 rfl;simp [v10, v15, h16] at u10 u15 u16 h18 h17;clear hK';simp -dsimp [h18, u10];rw [qaa];refine ⟨fun hc => ?_, fun hc => ?_⟩
    ·have d1 : j < L.length := by simpa using hc
     have hia2 := hiaL d1;have hf1 := fw64 (n := (j : Int) + 1) (by omega) (by omega);have hsn := qlZ (fun f : En => decide (f.1 = q.1) && decide (f.2 = 0)) d1;obtain ⟨a, ha⟩ : ∃ a, (L.take j).any (fun f => decide (f.1 = q.1) && decide (f.2 = 0)) = a := ⟨_, rfl⟩;rw [ha] at h17 hsn;cases a with
     | true =>
      simp -dsimp [h17, h18, hf1];exact qah.intro (m2 - 1) (by omega) ⟨j + 1, by omega, by simp, by simp [hsn], rfl, rfl⟩
     | false =>
      simp -dsimp [h17, u10, h18, hia2, qad, u15, u16, hia];rw [Gd_t];refine ⟨fun he => ?_, fun he => ?_⟩
      ·simp -dsimp [he, u10, h18, hia2, qad, hf1];exact qah.intro (m2 - 1) (by omega) ⟨j + 1, by omega, by simp, by simp [hsn, he], rfl, rfl⟩
      ·simp -dsimp [he, h18, hf1];exact qah.intro (m2 - 1) (by omega) ⟨j + 1, by omega, by simp, by simp [hsn, he], rfl, rfl⟩
    ·have d1 : j = L.length := by simp at hc; omega
     subst d1;rw [List.take_length, hsub q (by rw [← hq]; exact qai c1)] at h17;have hf1 := fw64 (n := (i : Int) + 1) (by omega) (by omega);simp -dsimp [h17, u16, hf1];exact qah.intro (m - 1) (by omega) ⟨i + 1, by omega, by simp, rfl, rfl⟩
   ·simp -dsimp
end Go.Abs

