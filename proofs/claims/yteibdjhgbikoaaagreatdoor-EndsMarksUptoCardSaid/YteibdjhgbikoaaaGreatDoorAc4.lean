/- What the program's functions come to, by the evaluator's rules; the intermediate code. -/
import Derived.Test.YteibdjhgbikoaaaGreatDoorAc3
set_option linter.unusedSimpArgs false
set_option linter.unusedVariables false
namespace Go.Abs
open Go Pr
theorem qqs {m : Int} (h0 : 0 ≤ m) (h1 : m ≤ 63) : bitB m 1 = !decide (m.tmod 2 = 0) := by
 have key : ∀ k : Fin 64, bitB ((k.val : Nat) : Int) 1 = !decide (((k.val : Nat) : Int).tmod 2 = 0) := by decide
 have := key ⟨m.toNat, by omega⟩;simpa [Int.toNat_of_nonneg h0] using this
def qbo {α : Type} [Inhabited α] (p : Nat → Bool) (c : List α) : Nat → List α
 | 0 => []
 | i + 1 => if p i = true then qbo p c i ++ [lat c i] else qbo p c i
theorem qeQ {α : Type} [Inhabited α] (p : Nat → Bool) (c : List α) (i : Nat) : ∀ j, ∃ t, qbo p c (i + j) = qbo p c i ++ t ∧ ∀ f ∈ t, ∃ m, i ≤ m ∧ m < i + j ∧ f = lat c m
 | 0 => ⟨[], by simp, by simp⟩
 | j + 1 => by
  obtain ⟨t, h1, h2⟩ := qeQ p c i j;rw [← Nat.add_assoc, qbo];split
  ·refine ⟨t ++ [lat c (i + j)], by rw [h1, List.append_assoc], fun f hf => ?_⟩;rcases List.mem_append.1 hf with hf | hf
   ·obtain ⟨m, m1, m2, e⟩ := h2 f hf; exact ⟨m, m1, by omega, e⟩
   ·rw [List.mem_singleton] at hf; exact ⟨i + j, by omega, by omega, hf⟩
  ·refine ⟨t, h1, fun f hf => ?_⟩;obtain ⟨m, m1, m2, e⟩ := h2 f hf; exact ⟨m, m1, by omega, e⟩
theorem qeR {α : Type} [Inhabited α] (p : Nat → Bool) (c : List α) : ∀ i, (qbo p c i).length ≤ i
 | 0 => Nat.le_refl _
 | i + 1 => by
  have := qeR p c i;rw [qbo]; split <;> simp <;> omega
theorem qdE {α : Type} [Inhabited α] (q : α → Bool) (p : Nat → Bool) (c : List α) : ∀ i, i ≤ c.length → (∀ j, j < i → p j = q (lat c j)) → qbo p c i = (c.take i).filter q
 | 0, _, _ => by simp [qbo]
 | i + 1, hi, h => by
  have ih := qdE q p c i (by omega) fun j hj => h j (by omega);have ht : c.take (i + 1) = c.take i ++ [lat c i] := by rw [List.take_add_one, qaz (by omega : i < c.length)]; rfl
  rw [qbo, h i (by omega), ih, ht, List.filter_append];split
  ·rename_i hq; rw [List.filter_cons_of_pos hq]; rfl
  ·rename_i hq; rw [List.filter_cons_of_neg hq]; simp
theorem qhH {α : Type} [Inhabited α] (p : Nat → Bool) (c : List α) : ∀ i, (∀ j, j < i → p j = false) → qbo p c i = []
 | 0, _ => rfl
 | i + 1, h => by
  rw [qbo, h i (by omega), qhH p c i fun j hj => h j (by omega)]; simp
def qkh (x : Ev) (n k r : Int) (c : List En) (i : Nat) : Bool := qbp x n k (lat c i).1 r && (decide ((lat x.g.p.l n.toNat).marks.tmod 2 = 0) || decide ((i : Int) = c.length - 1))
theorem qo8 {x : Ev} {n k r : Int} {c : List En} (h0 : 0 ≤ (lat x.g.p.l n.toNat).marks) (h1 : (lat x.g.p.l n.toNat).marks ≤ 63) : (qb4 x n c).filter (fun e => qbp x n k e.1 r) = qbo (qkh x n k r c) c c.length := by
 have hb := qqs h0 h1;unfold qb4
 by_cases hm : (lat x.g.p.l n.toNat).marks.tmod 2 = 0
 ·rw [if_neg (by rw [hb]; simp [hm])];rw [qdE (fun e => qbp x n k e.1 r) _ c c.length (Nat.le_refl _) (fun j hj => by simp [qkh, hm]), List.take_length]
 ·rw [if_pos (by rw [hb]; simp [hm])];cases hc : c.length with
  | zero =>
   have : c = [] := List.length_eq_zero_iff.1 hc;subst this; rfl
  | succ m =>
   have hd : c.drop m = [lat c m] := by
    have : c.drop m = lat c m :: c.drop (m + 1) := by
     rw [List.drop_eq_getElem_cons (by omega : m < c.length), lat_eq (by omega)]
    rw [this, List.drop_eq_nil_of_le (by omega)]
   rw [Nat.add_sub_cancel, hd, qbo, qhH _ c m (fun j hj => by simp [qkh, hm, hc]; omega)];have hw : qkh x n k r c m = qbp x n k (lat c m).1 r := by simp [qkh, hc]
   rw [hw, List.filter_cons];split <;> simp
set_option maxRecDepth 10000
theorem eqvE (a b : En) : eqv (.struct [.int, .int]) (.agg [.int .i64 a.1, .int .i64 a.2]) (.agg [.int .i64 b.1, .int .i64 b.2]) = some (decide (a = b)) := by
 have : decide (a = b) = (decide (a.1 = b.1) && decide (a.2 = b.2)) := by
  rw [Bool.eq_iff_iff]; simp [Prod.ext_iff]
 rw [this];simp [eqv, okKs, SK.ok, eqL, eq1, qek, ikB]
theorem endsMarks_ok (hA : Awake 310) (x : Ev) (hx : x.Ok) (hkl : x.g.keys.l.length < 1000000000) (s : Sl UInt8) (hs : x.w = ⟨s.enc qak, s.l, 0⟩) (n k r : Int) :
  WF PR false 0 (.fn 301 [] []) [.agg x.cells, .int .i64 n, .int .i64 k, .int .i64 r] ⟨0, .e⟩ fun r => r.v = .bool true := by
 refine WF.go f301 b301 [.tm 8] rfl rfl rfl rfl rfl rfl ?_;unfold b301;have hB0 : ∀ H, WB H x.w := fun H => .inl ⟨s, by rw [hs], by rw [hs]⟩;have hlw : ∀ H, lenV .sl x.w.v H = some (.int .i64 x.w.l.length) := fun H => (hB0 H).len;have hxc : [x.g.p.enc Pd.cells, x.g.keys.enc qac, x.w.v, .int .i64 x.tab, .bool x.heal] = x.cells := rfl;have hm0 : x.w.m = 0 := by rw [hs]
 obtain ⟨y, hy⟩ : ∃ y : Ev, (⟨x.g, x.w, x.tab, false⟩ : Ev) = y := ⟨_, rfl⟩;have hyg : y.g = x.g := by rw [← hy]
 have hyw : y.w = x.w := by rw [← hy]
 have hyh : y.heal = false := by rw [← hy]
 have hyc : [x.g.p.enc Pd.cells, x.g.keys.enc qac, x.w.v, .int .i64 x.tab, .bool false] = y.cells := by rw [← hy]; rfl
 simp -dsimp [-qar];rw [qar];simp -dsimp [Ev.cells, -qar];rw [hxc];obtain ⟨h1, hh1⟩ : ∃ h1, (Heap.push ⟨0, .e⟩ (Obj.rows [x.cells]) : Heap) = h1 := ⟨_, rfl⟩;have g1 : h1.get 0 = some (.rows [[x.g.p.enc Pd.cells, x.g.keys.enc qac, x.w.v, .int .i64 x.tab, .bool x.heal]]) := by rw [← hh1]; simp; rfl
 have n1 : h1.n = 1 := by rw [← hh1]; simp
 rw [qar];simp -dsimp [-qar];refine WFS.by (hA _ _ _ (Nat.zero_le _)) ?_
 intro v h' e;cases e;rw [hh1];simp -dsimp [-qar];rw [qar];simp -dsimp [g1, -qar];rw [hxc];refine WFS.by (qe5 x hx.few (hB0 _)) ?_
 rintro v h' ⟨e0, b, e1, hb⟩;simp only at e0 e1;subst e0 e1;obtain ⟨h2, hh2⟩ : ∃ h2, h'.set 0 (.rows [y.cells]) = h2 := ⟨_, rfl⟩;have g2 : h2.get 0 = some (.rows [[x.g.p.enc Pd.cells, x.g.keys.enc qac, x.w.v, .int .i64 x.tab, .bool false]]) := by rw [← hh2, Heap.get_set, if_pos rfl, hyc]
 have n2 : h2.n = 1 := by rw [← hh2]; exact n1
 cases b with
 | false => simp -dsimp [g1]
 | true =>
  obtain ⟨hp16, hw16⟩ := hb rfl;have hS : EvS y := ⟨by rw [hyg]; exact hx.g.toSmall, by rw [hyg]; exact hkl, by rw [hyw]; omega⟩;have hBy : ∀ H, WB H y.w := fun H => by rw [hyw]; exact hB0 H
  have hmy : y.w.m = 0 := by rw [hyw]; exact hm0
  have hgy : y.g.Fine := by rw [hyg]; exact hx.g
  have hry : ∀ p ∈ y.g.p.l, ∀ a ∈ p.a.l, ∀ s ∈ a.l, s.r.l.length < 1500000 := by rw [hyg]; exact hx.r
  simp -dsimp [g1];rw [hyc, hh2];refine WFS.by (qbJ y hgy (hBy _)) ?_
  intro v h' e;cases e;simp -dsimp;cases hmay : mayE y with
  | false => simp -dsimp
  | true =>
   simp -dsimp;rw [Gd_f];refine ⟨fun hc => ?_, fun hc => ?_⟩;rotate_left
   ·simp -dsimp [hc]
   ·have n0 : 0 ≤ n := by simpa using hc
    simp -dsimp [hc, g2];rw [qaa];refine ⟨fun hc2 => ?_, fun hc2 => ?_⟩
    ·simp -dsimp
    ·have n1' : n < x.g.p.l.length := by simpa using hc2
     simp -dsimp [g2];rw [hyc];refine WFS.by (qqC y hS hgy hry (hBy _) (by omega) n k r) ?_
     intro v h' e;cases e;simp -dsimp [g2];rw [hyc];refine WFS.by (qec y hS hgy hry (hBy _) (by omega) n k r) ?_
     intro v h' e;cases e;simp -dsimp;obtain ⟨C, hC⟩ : ∃ C, (ofE y n k r).1 = C := ⟨_, rfl⟩;obtain ⟨E, hE⟩ : ∃ E, (ofE y n k r).2 = E := ⟨_, rfl⟩;rw [hC, hE];obtain ⟨p, hp⟩ : ∃ p, qkh y n k r C = p := ⟨_, rfl⟩;obtain ⟨hpw, hCl, hsel⟩ : C.Pairwise (fun a b => a.1 < b.1) ∧ C.length ≤ 201 ∧ E = qbo p C C.length := by
      rw [← hC, ← hE, ← hp, ← hC];unfold ofE;have hmk := (qaF (qbq hmay).m).marks _ (qai (l := y.g.p.l) (i := n.toNat) (by rw [hyg]; omega));split
      ·rename_i hin;obtain ⟨_, a0, a1, b0, b1⟩ := hin;have hr := qc3 (qbq hmay) (ref := r) a0 a1 b0 b1;have hi := qbf (qbq hmay) (ref := r) a0 a1 b0 b1;refine ⟨hr.1, qb7 hr.1 (n := y.w.l.length) (fun e he => ?_) (by rw [hyw]; omega), ?_⟩
       ·have := hi.1 e he;exact ⟨by have := this.1; omega, this.2.1⟩
       ·rw [qcI (qbq hmay) a0 a1 b0 b1 hyh, qo8 hmk.1 hmk.2]
      ·exact ⟨List.Pairwise.nil, by simp, rfl⟩
     have hEl : E.length ≤ 201 := by rw [hsel]; exact Nat.le_trans (qeR p C _) hCl
     refine qaf (fun m st => ∃ i : Nat, i + m = C.length ∧ (gK 14).run st.tm = .int .i64 i ∧ (gK 13).run st.tm = .int .i64 (qbo p C i).length ∧ st.h = h2 ∧ st.defs = []) C.length ⟨0, by omega, by simp, by simp [qbo], rfl, rfl⟩ ?_;rintro m ⟨tm, h3, defs, round⟩ ⟨i, hi, h14, h13, rfl, rfl⟩ hK';have t1 := hK' 1 rfl;have t2 := hK' 2 rfl;have t3 := hK' 3 rfl;have t4 := hK' 4 rfl;have t11 := hK' 11 rfl;have t12 := hK' 12 rfl;simp at t1 t2 t3 t4 t11 t12 h14 h13;clear hK';simp only at g2;simp -dsimp [h14, t11];rw [qaa];refine ⟨fun hc => ?_, fun hc => ?_⟩
     ·have c1 : i < C.length := by simpa using hc
      obtain ⟨e, he⟩ : ∃ e, lat C i = e := ⟨_, rfl⟩;have hia : qaw 2 ((slE C).enc qad) (.int .i64 i) = some (.ptrR (qad e) 0) := by
       have := qap (f := qad) (s := slE C) (esz := 2) (k := .i64) (n := (i : Int)) (by omega) (by simp; omega) (fun _ => rfl);rw [this]; simp [he]
      simp -dsimp [t4, g2, t1, t2, t11, h14, hia, qad, t3];rw [hyc];refine WFS.by (qoY y hS (hBy _) (by omega) n k e.1 r) ?_
      intro v h' e;cases e;obtain ⟨q, hq⟩ : ∃ q, (qbo p C i).length = q := ⟨_, rfl⟩;have hqi : q ≤ 201 := by have := qeR p C i; omega
      have hT : p i = true → q < E.length ∧ lat E q = e := fun hpi => by
       obtain ⟨u, hu, _⟩ := qeQ p C (i + 1) (C.length - (i + 1));rw [show i + 1 + (C.length - (i + 1)) = C.length by omega, ← hsel, qbo, if_pos hpi, he] at hu;rw [hu];refine ⟨by simp; omega, ?_⟩;rw [lat_eq (by simp; omega)];simp [← hq]
      have hF : p i = false → q < E.length → ¬ lat E q = e := fun hpi hlt heq => by
       obtain ⟨u, hu, hu2⟩ := qeQ p C (i + 1) (C.length - (i + 1));rw [show i + 1 + (C.length - (i + 1)) = C.length by omega, ← hsel, qbo, if_neg (by simp [hpi])] at hu;have hm : e ∈ u := by
        rw [← heq, lat_eq hlt];obtain ⟨z, hz⟩ : ∃ z, E[q] = z := ⟨_, rfl⟩;have h3 : E[q]? = some z := by rw [List.getElem?_eq_getElem hlt, hz]
        rw [hz];rw [hu, List.getElem?_append_right (by omega)] at h3;exact List.mem_of_getElem? h3
       obtain ⟨j, j1, j2, hj⟩ := hu2 e hm;have := List.pairwise_iff_getElem.1 hpw i j c1 (by omega) (by omega);rw [← lat_eq c1, ← lat_eq (by omega : j < C.length), he, ← hj] at this;omega
      have hnT : p i = true → (qbo p C (i + 1)).length = q + 1 := fun hpi => by rw [qbo, if_pos hpi]; simp [hq]
      have hnF : p i = false → (qbo p C (i + 1)).length = q := fun hpi => by rw [qbo, if_neg (by simp [hpi]), hq]
      have hia2 : ∀ hlt : q < E.length, qaw 2 ((slE E).enc qad) (.int .i64 q) = some (.ptrR (qad (lat E q)) 0) := fun hlt => by
       have := qap (f := qad) (s := slE E) (esz := 2) (k := .i64) (n := (q : Int)) (by omega) (by simp; omega) (fun _ => rfl);rw [this]; simp
      have hpi0 : p i = (qbp y n k e.1 r && (decide ((lat x.g.p.l n.toNat).marks.tmod 2 = 0) || decide ((i : Int) = C.length - 1))) := by rw [← hp, qkh, he, hyg]
      rw [hq] at h13;have hf1 := fw64 (n := (i : Int) + 1) (by omega) (by omega);have hf2 := fw64 (n := (q : Int) + 1) (by omega) (by omega);have hf3 := fw64 (n := (C.length : Int) - 1) (by omega) (by omega);cases hps : qbp y n k e.1 r with
      | false =>
       have hpi : p i = false := by rw [hpi0, hps]; rfl
       simp -dsimp [h13, t12];rw [Gd_t];refine ⟨fun hlt => ?_, fun hlt => ?_⟩
       ·have hlt' : q < E.length := by simpa using hlt
        have hne : decide (lat E q = e) = false := by simpa using hF hpi hlt'
        simp -dsimp [hlt, t12, h13, hia2 hlt', qad, t11, h14, hia, eqvE, hne, hf1];exact qah.intro (m - 1) (by omega) ⟨i + 1, by omega, by simp, by simp [hnF hpi, h13], rfl, rfl⟩
       ·simp -dsimp [hlt, h14, hf1];exact qah.intro (m - 1) (by omega) ⟨i + 1, by omega, by simp, by simp [hnF hpi, h13], rfl, rfl⟩
      | true =>
       obtain ⟨pd, hpd⟩ : ∃ pd, lat x.g.p.l n.toNat = pd := ⟨_, rfl⟩;rw [hps, hpd] at hpi0;have hrem : (binK .rem).run (.int .i64 pd.marks) (.int .i64 2) = some (.int .i64 (pd.marks.tmod 2)) := rfl;simp -dsimp [h13, t12, t4, g2, t1, qbg n0 n1', hpd, Pd.cells, hrem];rw [Gd_f];refine ⟨fun hev => ?_, fun hev => ?_⟩
       ·simp -dsimp [hev, h14, t11, hf3];cases hlast : decide ((i : Int) = C.length - 1) with
        | false =>
         have hpi : p i = false := by rw [hpi0, hev, hlast]; rfl
         simp -dsimp [h13, t12];rw [Gd_t];refine ⟨fun hlt => ?_, fun hlt => ?_⟩
         ·have hlt' : q < E.length := by simpa using hlt
          have hne : decide (lat E q = e) = false := by simpa using hF hpi hlt'
          simp -dsimp [hlt, t12, h13, hia2 hlt', qad, t11, h14, hia, eqvE, hne, hf1];exact qah.intro (m - 1) (by omega) ⟨i + 1, by omega, by simp, by simp [hnF hpi, h13], rfl, rfl⟩
         ·simp -dsimp [hlt, h14, hf1];exact qah.intro (m - 1) (by omega) ⟨i + 1, by omega, by simp, by simp [hnF hpi, h13], rfl, rfl⟩
        | true =>
         have hpi : p i = true := by rw [hpi0, hlast]; simp
         simp -dsimp [h13, t12];obtain ⟨hlt', heq⟩ := hT hpi;have hlt : decide (q < E.length) = true := by simpa using hlt'
         have hne : decide (lat E q = e) = true := by simpa using heq
         simp -dsimp [hlt, t12, h13, hia2 hlt', qad, t11, h14, hia, eqvE, hne, hf1, hf2];exact qah.intro (m - 1) (by omega) ⟨i + 1, by omega, by simp, by simp [hnT hpi, h13], rfl, rfl⟩
       ·simp at hev;have hpi : p i = true := by rw [hpi0, hev]; rfl
        simp -dsimp [hev, h13, t12];obtain ⟨hlt', heq⟩ := hT hpi;have hlt : decide (q < E.length) = true := by simpa using hlt'
        have hne : decide (lat E q = e) = true := by simpa using heq
        simp -dsimp [hlt, t12, h13, hia2 hlt', qad, t11, h14, hia, eqvE, hne, hf1, hf2];exact qah.intro (m - 1) (by omega) ⟨i + 1, by omega, by simp, by simp [hnT hpi, h13], rfl, rfl⟩
     ·have c1 : i = C.length := by simp at hc; omega
      subst c1;rw [← hsel] at h13;simp -dsimp [h13, t12]
end Go.Abs

