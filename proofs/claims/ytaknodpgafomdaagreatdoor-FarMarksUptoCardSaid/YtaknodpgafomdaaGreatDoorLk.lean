/- Written by seatgen.py: the intermediate code against the seat's loaded program. -/
import Derived.Test.YtaknodpgafomdaaGreatDoorProg
import Derived.Test.YtaknodpgafomdaaGreatDoorAj1
import Derived.Test.YtaknodpgafomdaaGreatDoorSh
import Derived.KernelRfl
namespace Go.Proofs.YtaknodpgafomdaaGreatDoor
open Go Go.Abs Go.RowKit Go.Sort
set_option maxRecDepth 100000
set_option linter.unusedSimpArgs false
def nfs : List Nat := [0, 1, 2, 99999, 3, 4, 5, 8, 6, 7, 9, 10, 11, 13, 12, 14, 15, 16, 23, 17, 18, 19, 20, 21, 22, 24, 25, 26, 27, 28, 29, 30, 31, 32, 42, 33, 34, 35, 36, 37, 38, 39, 40, 41, 43, 44, 45, 46, 47, 48, 49, 50, 51, 52, 53, 54, 55, 56, 57, 58, 59, 60, 61, 62, 63, 64, 67, 68, 69, 65, 66, 70, 71, 72, 73, 74, 75, 76, 77, 78, 79, 80, 81, 82, 83, 84, 85, 86, 87, 88, 89, 90, 91, 92, 93, 94, 95, 96, 97, 98, 99, 100, 101, 106, 107, 108, 109, 110, 111, 112, 113, 102, 103, 104, 105, 114, 115, 116, 117, 118, 119, 120, 121, 122, 123, 124, 125, 126, 127, 128, 129, 130, 131, 132, 133, 134, 135, 136, 137, 138, 139, 142, 143, 144, 145, 146, 147, 140, 141, 148, 149, 150, 151, 152, 153, 154, 155, 156, 157, 158, 159, 160, 161, 162, 163, 164, 167, 168, 169, 170, 171, 172, 173, 174, 175, 176, 177, 178, 179, 180, 181, 182, 183, 184, 165, 166, 185, 186, 187, 188, 189, 190, 191, 192, 193, 194, 195, 196, 197, 198, 199, 200, 201, 203, 204, 205, 206, 207, 208, 209, 210, 211, 212, 202, 213, 214, 215, 216, 217, 218, 219, 220, 221, 222, 223, 224, 225, 226, 227, 228, 229, 230, 231, 232, 233, 234, 235, 236, 237, 238, 239, 240, 241, 242, 243, 244, 245, 246, 247, 248, 249, 250, 251, 252, 253, 254, 255, 256, 257, 258, 259, 260, 261, 262, 263, 264, 265, 266]
def nf (i : Nat) : Nat := nfs.getD i 99999
def nt (i : Nat) : Nat := if i = 0 then 74 else if i = 1 then 9 else if i = 2 then 265 else if i = 3 then 3 else i + 1000000
theorem nt_inj : ∀ t u, nt t = nt u → t = u := by
  intro t u h
  simp only [nt] at h
  (repeat' split at h) <;> omega
theorem look0 : (fun W : World => chkTo Tryz.prog (numAt nf nt W) PR 0 21) = fun _ => true := by kernel_rfl
theorem look1 : (fun W : World => chkTo Tryz.prog (numAt nf nt W) PR 21 20) = fun _ => true := by kernel_rfl
theorem look2 : (fun W : World => chkTo Tryz.prog (numAt nf nt W) PR 41 32) = fun _ => true := by kernel_rfl
theorem look3 : (fun W : World => chkTo Tryz.prog (numAt nf nt W) PR 73 34) = fun _ => true := by kernel_rfl
theorem look4 : (fun W : World => chkTo Tryz.prog (numAt nf nt W) PR 107 35) = fun _ => true := by kernel_rfl
theorem look5 : (fun W : World => chkTo Tryz.prog (numAt nf nt W) PR 142 44) = fun _ => true := by kernel_rfl
theorem look6 : (fun W : World => chkTo Tryz.prog (numAt nf nt W) PR 186 76) = fun _ => true := by kernel_rfl
theorem linkFn (W : World) : ∀ f F, PR.prim f = none → PR.fn f = some F → ∃ fn c, Tryz.prog.funcs[nf f]? = some fn ∧ fn.body = some c ∧ fn.ntmps = F.nt ∧ (fn.name == "runtime.NumGoroutine") = false ∧ okC Tryz.prog (numAt nf nt W) F.nt F.body c = true ∧ okRes Tryz.prog F.res fn.results.toList = true := by
  intro f F hp hF
  have ht : f < 262 := by
    by_cases c : f < 262
    · exact c
    · have : Nat.blt f Pr.top = false := by cases hb : Nat.blt f Pr.top <;> simp [Pr.top] at hb ⊢; omega
      simp only [PR, this, cond] at hF; cases hF
  by_cases c0 : f < 21
  · exact chk_fn (congrFun look0 W) f F (by omega) (by omega) hp hF
  by_cases c1 : f < 41
  · exact chk_fn (congrFun look1 W) f F (by omega) (by omega) hp hF
  by_cases c2 : f < 73
  · exact chk_fn (congrFun look2 W) f F (by omega) (by omega) hp hF
  by_cases c3 : f < 107
  · exact chk_fn (congrFun look3 W) f F (by omega) (by omega) hp hF
  by_cases c4 : f < 142
  · exact chk_fn (congrFun look4 W) f F (by omega) (by omega) hp hF
  by_cases c5 : f < 186
  · exact chk_fn (congrFun look5 W) f F (by omega) (by omega) hp hF
  exact chk_fn (congrFun look6 W) f F (by omega) (by omega) hp hF
theorem meth0 : (fun (v : Value) (w : World) => (method (Tryz.prog.types.size + Made.depth) (nt 2) v "Len").run Tryz.prog w) = fun v w => .ok (nf 160, v) w := by kernel_rfl
theorem meth1 : (fun (v : Value) (w : World) => (method (Tryz.prog.types.size + Made.depth) (nt 2) v "Less").run Tryz.prog w) = fun v w => .ok (nf 258, v) w := by kernel_rfl
theorem meth2 : (fun (v : Value) (w : World) => (method (Tryz.prog.types.size + Made.depth) (nt 2) v "Pop").run Tryz.prog w) = fun v w => .ok (nf 259, v) w := by kernel_rfl
theorem meth3 : (fun (v : Value) (w : World) => (method (Tryz.prog.types.size + Made.depth) (nt 2) v "Push").run Tryz.prog w) = fun v w => .ok (nf 260, v) w := by kernel_rfl
theorem meth4 : (fun (v : Value) (w : World) => (method (Tryz.prog.types.size + Made.depth) (nt 2) v "Swap").run Tryz.prog w) = fun v w => .ok (nf 261, v) w := by kernel_rfl
theorem linkMeth (W : World) : MethOK Tryz.prog (numAt nf nt W) PR.meth := by
  intro t m f h v w
  simp only [PR, Pr.meths] at h
  cases e0 : (Nat.beq t 2 && m == "Len") with
  | true =>
    simp only [e0, cond, Option.some.injEq] at h
    simp only [Bool.and_eq_true, Nat.beq_eq, beq_iff_eq] at e0
    obtain ⟨rfl, rfl⟩ := e0
    subst h
    exact congrFun (congrFun meth0 v) w
  | false =>
    simp only [e0, cond] at h
    cases e1 : (Nat.beq t 2 && m == "Less") with
    | true =>
      simp only [e1, cond, Option.some.injEq] at h
      simp only [Bool.and_eq_true, Nat.beq_eq, beq_iff_eq] at e1
      obtain ⟨rfl, rfl⟩ := e1
      subst h
      exact congrFun (congrFun meth1 v) w
    | false =>
      simp only [e1, cond] at h
      cases e2 : (Nat.beq t 2 && m == "Pop") with
      | true =>
        simp only [e2, cond, Option.some.injEq] at h
        simp only [Bool.and_eq_true, Nat.beq_eq, beq_iff_eq] at e2
        obtain ⟨rfl, rfl⟩ := e2
        subst h
        exact congrFun (congrFun meth2 v) w
      | false =>
        simp only [e2, cond] at h
        cases e3 : (Nat.beq t 2 && m == "Push") with
        | true =>
          simp only [e3, cond, Option.some.injEq] at h
          simp only [Bool.and_eq_true, Nat.beq_eq, beq_iff_eq] at e3
          obtain ⟨rfl, rfl⟩ := e3
          subst h
          exact congrFun (congrFun meth3 v) w
        | false =>
          simp only [e3, cond] at h
          cases e4 : (Nat.beq t 2 && m == "Swap") with
          | true =>
            simp only [e4, cond, Option.some.injEq] at h
            simp only [Bool.and_eq_true, Nat.beq_eq, beq_iff_eq] at e4
            obtain ⟨rfl, rfl⟩ := e4
            subst h
            exact congrFun (congrFun meth4 v) w
          | false =>
            simp only [e4, cond] at h
            cases h
theorem mixed : Tryz.prog.follows .mixedOrders = true := by kernel_rfl
theorem funcIx : Tryz.prog.funcs[nf 225]? = some Tryz.f224 := by kernel_rfl
theorem linked (hS : SortLaw Tryz.prog (nf 105) #[]) (hF : SortLaw Tryz.prog (nf 226) #[.func (.func (nf 227)) #[] #[]]) (W : World) : Link Tryz.prog (numAt nf nt W) PR where
  hN := nt_inj
  mixed := mixed
  meth := linkMeth W
  fn := linkFn W
  prim := by
    intro f p h
    simp only [PR, prims] at h
    cases e1 : Nat.beq f 225 with
    | true =>
      simp only [e1, cond, Option.some.injEq] at h
      rw [Nat.beq_eq] at e1
      subst e1 h
      exact indexByte_ok (N := numAt nf nt W) (f := 225) funcIx (of_decide_eq_true (by kernel_rfl)) (by kernel_rfl) (by kernel_rfl) (by kernel_rfl)
    | false =>
      cases e2 : Nat.beq f 105 with
      | true =>
        simp only [e1, e2, cond, Option.some.injEq] at h
        rw [Nat.beq_eq] at e2
        subst e2 h
        exact sortPrim_ok (N := numAt nf nt W) (f := 105) (fn := Tryz.f108) (show Tryz.prog.funcs[nf 105]? = _ by kernel_rfl) (of_decide_eq_true (by kernel_rfl)) rfl hS
      | false =>
        cases e3 : Nat.beq f 226 with
        | true =>
          simp only [e1, e2, e3, cond, Option.some.injEq] at h
          rw [Nat.beq_eq] at e3
          subst e3 h
          exact sortFunc_ok (N := numAt nf nt W) (f := 226) (fn := Tryz.f225) (show Tryz.prog.funcs[nf 226]? = _ by kernel_rfl) (of_decide_eq_true (by kernel_rfl)) rfl hF
        | false => simp only [e1, e2, e3, cond] at h; cases h
theorem cmpIs (x y : Int) : ltOf Lib.compareInt x y = decide (x < y) := by
  unfold ltOf Lib.compareInt
  by_cases h1 : x < y
  · simp [h1]
  · by_cases h2 : y < x <;> simp [h1, h2]
theorem sortLawI : SortLaw Tryz.prog (nf 105) #[] where
  some := fun blk off cap zs w hH hb _ hl => by
    rw [Array.append_empty]
    exact Tryz.slices_Sort_int blk off cap zs w hH hb hl
  none := fun p cap w => by
    rw [Array.append_empty]
    exact Tryz.slices_Sort_int_none p cap w
theorem sortLawF : SortLaw Tryz.prog (nf 226) #[.func (.func (nf 227)) #[] #[]] where
  some := fun blk off cap zs w hH hb _ hl => by
    have eg : ∀ args w, (callFunc (nf 227) args).run Tryz.prog w = .ok (.enter (nf 227) args) w := enters_of (fn := Tryz.f226) (show Tryz.prog.funcs[nf 227]? = _ by kernel_rfl) (by kernel_rfl) rfl
    have hc : CmpReads Tryz.prog (nf 227) #[] (Value.int .i64) Lib.compareInt blk off zs.toArray.size w := fun m os dk _ x y => Calls.mono (Tryz.cmp_Compare_int x y _) fun e w' h => ⟨h.1, 0, h.2⟩
    have h := Tryz.slices_SortFunc_total (Value.int .i64) (fun _ => rfl) Lib.compareInt ⟨fun x => by rw [cmpIs]; simp, fun x y z h1 h2 => by rw [cmpIs] at *; simp at *; omega, fun x y z h1 h2 => by rw [cmpIs] at *; simp at *; omega⟩ (nf 227) #[] blk off cap zs.toArray w eg hc.lays hH hb (by simpa using hl) (fun x y h1 h2 => by rw [cmpIs] at *; simp at *; omega)
    have hle : (fun x y : Int => !ltOf Lib.compareInt y x) = fun x y => decide (x ≤ y) := by
      funext x y
      rw [cmpIs]
      by_cases h : x ≤ y
      · have h' : ¬ y < x := by omega
        simp [h, h']
      · have h' : y < x := by omega
        simp [h, h']
    rw [hle] at h
    exact h
  none := fun p cap w => Tryz.slices_SortFunc_none (α := Int) p cap _ w
theorem link (W : World) : Link Tryz.prog (numAt nf nt W) PR := linked sortLawI sortLawF W
end Go.Proofs.YtaknodpgafomdaaGreatDoor
