/- Written by seatgen.py: the intermediate code against the seat's loaded program. -/
import Derived.Test.YtaknodpgafomdabGreatDoorProg
import Derived.Test.YtaknodpgafomdabGreatDoorAj1
import Derived.Test.YtaknodpgafomdabGreatDoorAwe1
import Derived.Test.YtaknodpgafomdabGreatDoorSh
import Derived.KernelRfl
namespace Go.Proofs.YtaknodpgafomdabGreatDoor
open Go Go.Abs Go.RowKit Go.Sort
set_option maxRecDepth 100000
set_option linter.unusedSimpArgs false
def nfs : List Nat := [0, 1, 2, 99999, 99999, 99999, 99999, 99999, 99999, 99999, 5, 99999, 99999, 99999, 99999, 9, 10, 11, 99999, 99999, 99999, 99999, 99999, 99999, 99999, 17, 18, 19, 20, 21, 22, 23, 24, 25, 99999, 99999, 99999, 99999, 99999, 99999, 99999, 99999, 99999, 99999, 30, 31, 32, 33, 34, 35, 36, 37, 38, 39, 40, 41, 42, 43, 44, 45, 46, 47, 48, 49, 50, 51, 99999, 99999, 99999, 99999, 99999, 59, 60, 61, 62, 63, 64, 65, 66, 67, 68, 69, 70, 71, 72, 73, 74, 75, 76, 77, 78, 79, 80, 81, 82, 83, 84, 85, 86, 87, 88, 89, 90, 99999, 143, 175, 176, 184, 99999, 186, 187, 99999, 99999, 99999, 99999, 113, 114, 115, 116, 117, 118, 119, 120, 121, 122, 123, 124, 125, 126, 127, 128, 129, 130, 131, 132, 133, 134, 135, 136, 137, 138, 185, 219, 145, 147, 99999, 224, 99999, 99999, 161, 162, 163, 164, 141, 165, 166, 167, 168, 169, 170, 171, 172, 173, 174, 177, 178, 223, 241, 242, 243, 244, 245, 246, 247, 248, 249, 196, 197, 198, 251, 252, 253, 254, 255, 99999, 99999, 206, 207, 180, 181, 182, 183, 208, 209, 210, 211, 212, 213, 214, 215, 216, 217, 218, 265, 226, 227, 266, 267, 146, 230, 231, 268, 269, 99999, 235, 236, 221, 222, 237, 238, 239, 240, 274, 257, 250, 262, 263, 97, 264, 273, 276, 277, 278, 279, 280, 281, 282, 283, 284, 285, 286, 287, 288, 289, 290, 291, 292, 293, 294, 295, 296, 297, 298, 299, 300, 301, 302, 303, 304, 305, 306, 307, 308, 309, 310, 311, 312, 313, 99999, 99999, 99999, 99999, 99999, 99999, 99999, 99999, 99999, 99999, 99999, 99999, 99999, 99999, 99999, 99999, 99999, 99999, 99999, 99999, 99999, 99999, 99999, 99999, 99999, 99999, 99999, 99999, 99999, 99999, 99999, 99999, 99999, 99999, 99999, 99999, 99999, 99999, 99999, 99999, 99999, 99999, 99999, 152, 12, 203, 55, 103, 13, 99999, 99999, 52, 99999, 99999, 99999, 99999, 202, 91, 100, 101, 102, 151, 26, 139, 92, 99999, 53, 148, 149, 150, 201, 54, 56, 140, 93, 199, 200, 94, 95, 96, 98, 99, 179, 142, 232, 144, 220, 258, 259, 260, 261, 188, 189, 190, 191, 192, 193, 194, 195, 270, 271, 272, 225, 228, 229, 275, 256, 99999, 99999, 99999, 99999, 99999, 99999, 99999, 99999, 99999, 99999, 205, 99999, 99999, 15, 29, 99999, 233, 234, 57, 58, 99999, 104, 105, 106, 107, 108, 109, 110, 111, 112, 99999, 99999, 99999, 153, 154, 155, 156, 157, 158, 159, 160, 99999, 99999, 204, 99999, 99999, 99999, 99999, 99999, 99999, 99999, 3, 99999, 99999, 4, 6, 99999, 7, 8, 14, 99999, 99999, 16, 27, 28]
def nf (i : Nat) : Nat := nfs.getD i 99999
def nt (i : Nat) : Nat := if i = 0 then 71 else if i = 1 then 9 else if i = 2 then 332 else if i = 3 then 3 else i + 1000000
theorem nt_inj : ∀ t u, nt t = nt u → t = u := by
  intro t u h
  simp only [nt] at h
  (repeat' split at h) <;> omega
theorem look0 : (fun W : World => chkTo Tryz.prog (numAt nf nt W) PR 0 55) = fun _ => true := by kernel_rfl
theorem look1 : (fun W : World => chkTo Tryz.prog (numAt nf nt W) PR 55 41) = fun _ => true := by kernel_rfl
theorem look2 : (fun W : World => chkTo Tryz.prog (numAt nf nt W) PR 96 40) = fun _ => true := by kernel_rfl
theorem look3 : (fun W : World => chkTo Tryz.prog (numAt nf nt W) PR 136 58) = fun _ => true := by kernel_rfl
theorem look4 : (fun W : World => chkTo Tryz.prog (numAt nf nt W) PR 194 137) = fun _ => true := by kernel_rfl
theorem look5 : (fun W : World => chkTo Tryz.prog (numAt nf nt W) PR 331 59) = fun _ => true := by kernel_rfl
theorem look6 : (fun W : World => chkTo Tryz.prog (numAt nf nt W) PR 390 26) = fun _ => true := by kernel_rfl
theorem look7 : (fun W : World => chkTo Tryz.prog (numAt nf nt W) PR 416 24) = fun _ => true := by kernel_rfl
theorem linkFn (W : World) : ∀ f F, PR.prim f = none → PR.fn f = some F → ∃ fn c, Tryz.prog.funcs[nf f]? = some fn ∧ fn.body = some c ∧ fn.ntmps = F.nt ∧ (fn.name == "runtime.NumGoroutine") = false ∧ okC Tryz.prog (numAt nf nt W) F.nt F.body c = true ∧ okRes Tryz.prog F.res fn.results.toList = true := by
  intro f F hp hF
  have ht : f < 440 := by
    by_cases c : f < 440
    · exact c
    · have : Nat.blt f Pr.top = false := by cases hb : Nat.blt f Pr.top <;> simp [Pr.top] at hb ⊢; omega
      simp only [PR, this, cond] at hF; cases hF
  by_cases c0 : f < 55
  · exact chk_fn (congrFun look0 W) f F (by omega) (by omega) hp hF
  by_cases c1 : f < 96
  · exact chk_fn (congrFun look1 W) f F (by omega) (by omega) hp hF
  by_cases c2 : f < 136
  · exact chk_fn (congrFun look2 W) f F (by omega) (by omega) hp hF
  by_cases c3 : f < 194
  · exact chk_fn (congrFun look3 W) f F (by omega) (by omega) hp hF
  by_cases c4 : f < 331
  · exact chk_fn (congrFun look4 W) f F (by omega) (by omega) hp hF
  by_cases c5 : f < 390
  · exact chk_fn (congrFun look5 W) f F (by omega) (by omega) hp hF
  by_cases c6 : f < 416
  · exact chk_fn (congrFun look6 W) f F (by omega) (by omega) hp hF
  exact chk_fn (congrFun look7 W) f F (by omega) (by omega) hp hF
theorem meth0 : (fun (v : Value) (w : World) => (method (Tryz.prog.types.size + Made.depth) (nt 2) v "Len").run Tryz.prog w) = fun v w => .ok (nf 160, v) w := by kernel_rfl
theorem meth1 : (fun (v : Value) (w : World) => (method (Tryz.prog.types.size + Made.depth) (nt 2) v "Less").run Tryz.prog w) = fun v w => .ok (nf 258, v) w := by kernel_rfl
theorem meth2 : (fun (v : Value) (w : World) => (method (Tryz.prog.types.size + Made.depth) (nt 2) v "Pop").run Tryz.prog w) = fun v w => .ok (nf 259, v) w := by kernel_rfl
theorem meth3 : (fun (v : Value) (w : World) => (method (Tryz.prog.types.size + Made.depth) (nt 2) v "Push").run Tryz.prog w) = fun v w => .ok (nf 260, v) w := by kernel_rfl
theorem meth4 : (fun (v : Value) (w : World) => (method (Tryz.prog.types.size + Made.depth) (nt 2) v "Swap").run Tryz.prog w) = fun v w => .ok (nf 261, v) w := by kernel_rfl
theorem linkMeth (W : World) : MethOK Tryz.prog (numAt nf nt W) PR.meth := by
  intro t m f h v w
  simp only [PR, Pr.meths] at h
  cases e0 : (Nat.beq t 2 && m == "Len") with
  | true =>
    simp only [e0, cond, Option.some.injEq] at h
    simp only [Bool.and_eq_true, Nat.beq_eq, beq_iff_eq] at e0
    obtain ⟨rfl, rfl⟩ := e0
    subst h
    exact congrFun (congrFun meth0 v) w
  | false =>
    simp only [e0, cond] at h
    cases e1 : (Nat.beq t 2 && m == "Less") with
    | true =>
      simp only [e1, cond, Option.some.injEq] at h
      simp only [Bool.and_eq_true, Nat.beq_eq, beq_iff_eq] at e1
      obtain ⟨rfl, rfl⟩ := e1
      subst h
      exact congrFun (congrFun meth1 v) w
    | false =>
      simp only [e1, cond] at h
      cases e2 : (Nat.beq t 2 && m == "Pop") with
      | true =>
        simp only [e2, cond, Option.some.injEq] at h
        simp only [Bool.and_eq_true, Nat.beq_eq, beq_iff_eq] at e2
        obtain ⟨rfl, rfl⟩ := e2
        subst h
        exact congrFun (congrFun meth2 v) w
      | false =>
        simp only [e2, cond] at h
        cases e3 : (Nat.beq t 2 && m == "Push") with
        | true =>
          simp only [e3, cond, Option.some.injEq] at h
          simp only [Bool.and_eq_true, Nat.beq_eq, beq_iff_eq] at e3
          obtain ⟨rfl, rfl⟩ := e3
          subst h
          exact congrFun (congrFun meth3 v) w
        | false =>
          simp only [e3, cond] at h
          cases e4 : (Nat.beq t 2 && m == "Swap") with
          | true =>
            simp only [e4, cond, Option.some.injEq] at h
            simp only [Bool.and_eq_true, Nat.beq_eq, beq_iff_eq] at e4
            obtain ⟨rfl, rfl⟩ := e4
            subst h
            exact congrFun (congrFun meth4 v) w
          | false =>
            simp only [e4, cond] at h
            cases h
theorem mixed : Tryz.prog.follows .mixedOrders = true := by kernel_rfl
theorem funcIx : Tryz.prog.funcs[nf 225]? = some Tryz.f262 := by kernel_rfl
theorem linked (hS : SortLaw Tryz.prog (nf 105) #[]) (hF : SortLaw Tryz.prog (nf 226) #[.func (.func (nf 227)) #[] #[]]) (hE : SortLawE Tryz.prog (nf 345) (nf 346)) (W : World) : Link Tryz.prog (numAt nf nt W) PR where
  hN := nt_inj
  mixed := mixed
  meth := linkMeth W
  fn := linkFn W
  prim := by
    intro f p h
    simp only [PR, prims] at h
    cases e1 : Nat.beq f 225 with
    | true =>
      simp only [e1, cond, Option.some.injEq] at h
      rw [Nat.beq_eq] at e1
      subst e1 h
      exact indexByte_ok (N := numAt nf nt W) (f := 225) funcIx (of_decide_eq_true (by kernel_rfl)) (by kernel_rfl) (by kernel_rfl) (by kernel_rfl)
    | false =>
      cases e2 : Nat.beq f 105 with
      | true =>
        simp only [e1, e2, cond, Option.some.injEq] at h
        rw [Nat.beq_eq] at e2
        subst e2 h
        exact sortPrim_ok (N := numAt nf nt W) (f := 105) (fn := Tryz.f175) (show Tryz.prog.funcs[nf 105]? = _ by kernel_rfl) (of_decide_eq_true (by kernel_rfl)) rfl hS
      | false =>
        cases e3 : Nat.beq f 226 with
        | true =>
          simp only [e1, e2, e3, cond, Option.some.injEq] at h
          rw [Nat.beq_eq] at e3
          subst e3 h
          exact sortFunc_ok (N := numAt nf nt W) (f := 226) (fn := Tryz.f263) (show Tryz.prog.funcs[nf 226]? = _ by kernel_rfl) (of_decide_eq_true (by kernel_rfl)) rfl hF
        | false =>
          cases e4 : Nat.beq f 345 with
          | true =>
            simp only [e1, e2, e3, e4, cond, Option.some.injEq] at h
            rw [Nat.beq_eq] at e4
            subst e4 h
            exact sortE_ok (N := numAt nf nt W) (f := 345) (c := 346) (fn := Tryz.f94) (show Tryz.prog.funcs[nf 345]? = _ by kernel_rfl) (of_decide_eq_true (by kernel_rfl)) rfl hE
          | false => simp only [e1, e2, e3, e4, cond] at h; cases h
theorem cmpIs (x y : Int) : ltOf Lib.compareInt x y = decide (x < y) := by
  unfold ltOf Lib.compareInt
  by_cases h1 : x < y
  · simp [h1]
  · by_cases h2 : y < x <;> simp [h1, h2]
theorem sortLawI : SortLaw Tryz.prog (nf 105) #[] where
  some := fun blk off cap zs w hH hb _ hl => by
    rw [Array.append_empty]
    exact Tryz.slices_Sort_int blk off cap zs w hH hb hl
  none := fun p cap w => by
    rw [Array.append_empty]
    exact Tryz.slices_Sort_int_none p cap w
theorem sortLawF : SortLaw Tryz.prog (nf 226) #[.func (.func (nf 227)) #[] #[]] where
  some := fun blk off cap zs w hH hb _ hl => by
    have eg : ∀ args w, (callFunc (nf 227) args).run Tryz.prog w = .ok (.enter (nf 227) args) w := enters_of (fn := Tryz.f97) (show Tryz.prog.funcs[nf 227]? = _ by kernel_rfl) (by kernel_rfl) rfl
    have hc : CmpReads Tryz.prog (nf 227) #[] (Value.int .i64) Lib.compareInt blk off zs.toArray.size w := fun m os dk _ x y => Calls.mono (Tryz.cmp_Compare_int x y _) fun e w' h => ⟨h.1, 0, h.2⟩
    have h := Tryz.slices_SortFunc_total (Value.int .i64) (fun _ => rfl) Lib.compareInt ⟨fun x => by rw [cmpIs]; simp, fun x y z h1 h2 => by rw [cmpIs] at *; simp at *; omega, fun x y z h1 h2 => by rw [cmpIs] at *; simp at *; omega⟩ (nf 227) #[] blk off cap zs.toArray w eg hc.lays hH hb (by simpa using hl) (fun x y h1 h2 => by rw [cmpIs] at *; simp at *; omega)
    have hle : (fun x y : Int => !ltOf Lib.compareInt y x) = fun x y => decide (x ≤ y) := by
      funext x y
      rw [cmpIs]
      by_cases h : x ≤ y
      · have h' : ¬ y < x := by omega
        simp [h, h']
      · have h' : y < x := by omega
        simp [h, h']
    rw [hle] at h
    exact h
  none := fun p cap w => Tryz.slices_SortFunc_none (α := Int) p cap _ w
theorem linkN (W : World) : Link Tryz.prog (numAt nf nt W) PRn := PRn_link nt_inj mixed (linkMeth W) (linkFn W)
theorem cmpE (blk off size : Nat) (w : World) : CmpLays Tryz.prog (nf 346) #[] encE 2 cfE blk off size w := fun m os dk _ x y => by
  rw [Array.append_empty]
  exact int_calls (linkN _) (f := 346) (fn := Tryz.f95) rfl (show Tryz.prog.funcs[nf 346]? = _ by kernel_rfl) (of_decide_eq_true (by kernel_rfl)) rfl
    (VRs.cons (by simp only [VR]; exact ⟨_, rfl, VRs.cons (by simp only [VR]) (VRs.cons (by simp only [VR]) VRs.nil)⟩) (VRs.cons (by simp only [VR]; exact ⟨_, rfl, VRs.cons (by simp only [VR]) (VRs.cons (by simp only [VR]) VRs.nil)⟩) VRs.nil)) (tidy1_ok x y (Nat.zero_le _))
theorem flatK_E (l : List En) : flatK encE 2 l.toArray = (flatE l).toArray := by
  refine Array.ext_getElem? fun i => ?_
  unfold flatK
  by_cases c : i < l.length * 2
  · have h2 := flatE_get l (i / 2) (by omega)
    have hl : i / 2 < l.length := by omega
    have e0 : l.toArray[i / 2]! = lat l (i / 2) := by rw [lat_eq hl]; simp [hl]
    rw [Array.getElem?_map, Array.getElem?_range]
    simp only [List.size_toArray, c, if_true, Option.map_some, e0, List.getElem?_toArray]
    rcases Nat.mod_two_eq_zero_or_one i with e | e
    · rw [show i = i / 2 * 2 by omega, h2.1, show i / 2 * 2 / 2 = i / 2 by omega, show i / 2 * 2 % 2 = 0 by omega]; rfl
    · rw [show i = i / 2 * 2 + 1 by omega, h2.2, show (i / 2 * 2 + 1) / 2 = i / 2 by omega, show (i / 2 * 2 + 1) % 2 = 1 by omega]; rfl
  · rw [Array.getElem?_eq_none (by simp; omega), Array.getElem?_eq_none (by simp; omega)]
theorem sortLawE : SortLawE Tryz.prog (nf 345) (nf 346) where
  some := fun blk off cap l w hH hb _ hl => by
    have eg : ∀ args w, (callFunc (nf 346) args).run Tryz.prog w = .ok (.enter (nf 346) args) w := enters_of (fn := Tryz.f95) (show Tryz.prog.funcs[nf 346]? = _ by kernel_rfl) (by kernel_rfl) rfl
    have hlt : ∀ x y, ltOf cfE x y = ltC x y := fun _ _ => rfl
    have h := Tryz.slices_SortFunc_totalE encE (fun _ => rfl) (fun x v hv => by simp [encE] at hv; rcases hv with rfl | rfl <;> rfl) cfE ⟨fun x => by rw [hlt, cfE_lt]; simp [leE_iff], fun x y z h1 h2 => by rw [hlt, cfE_lt] at *; simp at *; rw [← Bool.not_eq_true, leE_iff] at *; omega, fun x y z h1 h2 => by rw [hlt, cfE_lt] at *; simp at *; rw [leE_iff] at *; omega⟩ (nf 346) #[] blk off cap l.toArray w eg (cmpE blk off _ w) (by unfold HoldsK; rw [flatK_E]; exact hH) hb (by simpa using hl) (fun x y h1 h2 => by rw [hlt, cfE_lt] at h1 h2; simp [leE_iff] at h1 h2; exact Prod.ext (by omega) (by omega))
    rw [show (fun x y => !ltOf cfE y x) = (fun x y => !ltC y x) from rfl] at h
    simp only [merge_sortE] at h
    refine h.mono fun e w' h => ⟨h.1, ?_⟩
    obtain ⟨n, os, rfl⟩ := h.2
    refine ⟨n, os, ?_⟩
    unfold sortWorldK putRowK
    rw [flatK_E]
  none := fun p cap w => Tryz.slices_SortFunc_noneE (α := En) p cap _ w
theorem link (W : World) : Link Tryz.prog (numAt nf nt W) PR := linked sortLawI sortLawF sortLawE W
end Go.Proofs.YtaknodpgafomdabGreatDoor
