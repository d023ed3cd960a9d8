/- What the program's functions come to, by the evaluator's rules; the intermediate code. -/
import Derived.Test.YteibdjhgbikoaaaGreatDoorAc3
set_option linter.unusedSimpArgs false
set_option linter.unusedVariables false
namespace Go.Abs
open Go Pr
set_option maxRecDepth 10000
theorem qn3 {x : Ev} {n k r : Int} {e : En} (he : e ∈ (ofE x n k r).2) : mayE x = true ∧ 0 ≤ k ∧ k ≤ e.1 ∧ e.1 ≤ x.w.l.length ∧ 0 ≤ e.2 ∧ (x.heal = false → e.2 = 0) := by
 unfold ofE at he;split at he
 ·rename_i hc;obtain ⟨h1, n0, n1, k0, k1⟩ := hc;have h2 := (qbf (qbq h1) (ref := r) n0 n1 k0 k1).2 e he;exact ⟨h1, k0, h2.1, h2.2.1, h2.2.2.1.1, fun hh => (qd6 hh n k r).2 e he⟩
 ·cases he
theorem qpL (x : Ev) (n k r : Int) : (ofE x n k r).2.Pairwise (fun a b => a.1 < b.1) := by
 unfold ofE;split
 ·rename_i hc;obtain ⟨h1, n0, n1, k0, k1⟩ := hc;exact (qc3 (qbq h1) (ref := r) n0 n1 k0 k1).2
 ·exact List.Pairwise.nil
theorem endsOrder_ok (hA : Awake 310) (x : Ev) (hx : x.Ok) (hkl : x.g.keys.l.length < 1000000000) (s : Sl UInt8) (hs : x.w = ⟨s.enc qak, s.l, 0⟩) (n k r : Int) :
  WF PR false 0 (.fn 300 [] []) [.agg x.cells, .int .i64 n, .int .i64 k, .int .i64 r] ⟨0, .e⟩ fun r => r.v = .bool true := by
 refine WF.go f300 b300 [.tm 8] rfl rfl rfl rfl rfl rfl ?_;unfold b300;have hB0 : ∀ H, WB H x.w := fun H => .inl ⟨s, by rw [hs], by rw [hs]⟩;have hlw : ∀ H, lenV .sl x.w.v H = some (.int .i64 x.w.l.length) := fun H => (hB0 H).len;have hxc : [x.g.p.enc Pd.cells, x.g.keys.enc qac, x.w.v, .int .i64 x.tab, .bool x.heal] = x.cells := rfl;have hm0 : x.w.m = 0 := by rw [hs]
 simp -dsimp [-qar];rw [qar];simp -dsimp [Ev.cells, -qar];rw [hxc];obtain ⟨h1, hh1⟩ : ∃ h1, (Heap.push ⟨0, .e⟩ (Obj.rows [x.cells]) : Heap) = h1 := ⟨_, rfl⟩;have g1 : h1.get 0 = some (.rows [[x.g.p.enc Pd.cells, x.g.keys.enc qac, x.w.v, .int .i64 x.tab, .bool x.heal]]) := by rw [← hh1]; simp; rfl
 have n1 : h1.n = 1 := by rw [← hh1]; simp
 rw [qar];simp -dsimp [-qar];refine WFS.by (hA _ _ _ (Nat.zero_le _)) ?_
 intro v h' e;cases e;rw [hh1];simp -dsimp [-qar];rw [qar];simp -dsimp [g1, -qar];rw [hxc];refine WFS.by (qe5 x hx.few (hB0 _)) ?_
 rintro v h' ⟨e0, b, e1, hb⟩;simp only at e0 e1;subst e0 e1;cases b with
 | false => simp -dsimp
 | true =>
  obtain ⟨hp16, hw16⟩ := hb rfl;have hS : EvS x := ⟨hx.g.toSmall, hkl, by omega⟩;simp -dsimp [g1];rw [hxc];refine WFS.by (qec x hS hx.g hx.r (hB0 _) (by omega) n k r) ?_
  intro v h' e;cases e;obtain ⟨L, hL⟩ : ∃ L, (ofE x n k r).2 = L := ⟨_, rfl⟩;have hf : ∀ e ∈ L, mayE x = true ∧ 0 ≤ k ∧ k ≤ e.1 ∧ e.1 ≤ x.w.l.length ∧ 0 ≤ e.2 ∧ (x.heal = false → e.2 = 0) := fun e he => qn3 (r := r) (n := n) (by rw [hL]; exact he);have hp : L.Pairwise (fun a b => a.1 < b.1) := by rw [← hL]; exact qpL x n k r
  rw [hL];simp -dsimp;have hLl : L.length ≤ 201 := by
   refine qb7 hp (fun e he => ?_) (show x.w.l.length ≤ 200 by omega);have := hf e he;omega
  refine qaf (fun m st => ∃ i : Nat, i + m = L.length ∧ (gK 12).run st.tm = .int .i64 i ∧ st.h = h' ∧ st.defs = []) L.length ⟨0, by omega, by simp, rfl, rfl⟩ ?_;rintro m ⟨tm, h2, defs, round⟩ ⟨i, hi, h12, rfl, rfl⟩ hK';have t2 := hK' 2 rfl;have t4 := hK' 4 rfl;have t11 := hK' 11 rfl;simp at t2 t4 t11 h12;clear hK';simp only at g1;simp -dsimp [h12, t11];rw [qaa];refine ⟨fun hc => ?_, fun hc => ?_⟩
  ·have c1 : i < L.length := by simpa using hc
   obtain ⟨e, he⟩ : ∃ e, lat L i = e := ⟨_, rfl⟩;obtain ⟨e1, e2, e3, e4, e5, e6⟩ := hf e (by rw [← he]; exact qai c1);have hia : qaw 2 ((slE L).enc qad) (.int .i64 i) = some (.ptrR (qad e) 0) := by
    have := qap (f := qad) (s := slE L) (esz := 2) (k := .i64) (n := (i : Int)) (by omega) (by simp; omega) (fun _ => rfl);rw [this]; simp [he]
   have q1 : ¬ e.1 < k := by omega
   have q2 : ¬ (x.w.l.length : Int) < e.1 := by omega
   have q3 : ¬ e.2 < 0 := by omega
   simp -dsimp [t11, h12, hia, qad, t2, q1, q2, q3, t4, g1, hlw];rw [Gd_t];refine ⟨fun hh => ?_, fun hh => ?_⟩
   ·have hh1 : x.heal = false := by simpa using hh
    have q4 : ¬ 0 < e.2 := by have := e6 hh1; omega
    simp -dsimp [hh, hh1, t11, h12, hia, qad, q4];rw [Gd_t];refine ⟨fun hz => ?_, fun hz => ?_⟩
    ·have i0 : 0 < i := by simpa using hz
     obtain ⟨f, hfe⟩ : ∃ f, lat L (i - 1) = f := ⟨_, rfl⟩;have hia3 : qaw 2 ((slE L).enc qad) (.int .i64 ((i : Int) - 1)) = some (.ptrR (qad f) 0) := by
      have := qap (f := qad) (s := slE L) (esz := 2) (k := .i64) (n := (i : Int) - 1) (by omega) (by simp; omega) (fun _ => rfl);rw [this]; simp [show ((i : Int) - 1).toNat = i - 1 by omega, hfe]
     have hlt : f.1 < e.1 := by
      have := (List.pairwise_iff_getElem.1 hp) (i - 1) i (by omega) c1 (by omega);rw [← lat_eq (by omega), ← lat_eq c1, hfe, he] at this;exact this
     have q5 : ¬ e.1 ≤ f.1 := by omega
     simp -dsimp [t11, h12, hz, hia, hia3, qad, fw64 (n := (i : Int) - 1) (by omega) (by omega), q5, fw64 (n := (i : Int) + 1) (by omega) (by omega)];exact qah.intro (m - 1) (by omega) ⟨i + 1, by omega, by simp, rfl, rfl⟩
    ·simp -dsimp [hz, h12, fw64 (n := (i : Int) + 1) (by omega) (by omega)];exact qah.intro (m - 1) (by omega) ⟨i + 1, by omega, by simp, rfl, rfl⟩
   ·simp -dsimp [hh, h12];rw [Gd_t];refine ⟨fun hz => ?_, fun hz => ?_⟩
    ·have i0 : 0 < i := by simpa using hz
     obtain ⟨f, hfe⟩ : ∃ f, lat L (i - 1) = f := ⟨_, rfl⟩;have hia3 : qaw 2 ((slE L).enc qad) (.int .i64 ((i : Int) - 1)) = some (.ptrR (qad f) 0) := by
      have := qap (f := qad) (s := slE L) (esz := 2) (k := .i64) (n := (i : Int) - 1) (by omega) (by simp; omega) (fun _ => rfl);rw [this]; simp [show ((i : Int) - 1).toNat = i - 1 by omega, hfe]
     have hlt : f.1 < e.1 := by
      have := (List.pairwise_iff_getElem.1 hp) (i - 1) i (by omega) c1 (by omega);rw [← lat_eq (by omega), ← lat_eq c1, hfe, he] at this;exact this
     have q5 : ¬ e.1 ≤ f.1 := by omega
     simp -dsimp [t11, h12, hz, hia, hia3, qad, fw64 (n := (i : Int) - 1) (by omega) (by omega), q5, fw64 (n := (i : Int) + 1) (by omega) (by omega)];exact qah.intro (m - 1) (by omega) ⟨i + 1, by omega, by simp, rfl, rfl⟩
    ·simp -dsimp [hz, h12, fw64 (n := (i : Int) + 1) (by omega) (by omega)];exact qah.intro (m - 1) (by omega) ⟨i + 1, by omega, by simp, rfl, rfl⟩
  ·have hdd : decide (i < L.length) = false := by simpa using hc
   simp -dsimp [hdd, t11];rw [Gd_f];refine ⟨fun hz => ?_, fun hz => ?_⟩
   ·have hne : 0 < L.length := by
     cases L with
     | nil => simp at hz
     | cons a l => simp
    obtain ⟨e1, e2, _⟩ := hf (lat L 0) (qai hne);simp -dsimp [hz, t4, g1];rw [hxc];refine WFS.by (qbJ x hx.g (hB0 _)) ?_
    intro v h' e;cases e;have q6 : ¬ k < 0 := by omega
    simp -dsimp [e1, t2, e2]
   ·simp -dsimp [hz]
end Go.Abs

