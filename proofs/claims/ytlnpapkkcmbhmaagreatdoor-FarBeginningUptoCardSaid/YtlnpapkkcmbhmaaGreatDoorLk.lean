/- Written by seatgen.py: the intermediate code against the seat's loaded program. -/
import Derived.Test.YtlnpapkkcmbhmaaGreatDoorProg
import Derived.Test.YtlnpapkkcmbhmaaGreatDoorAj1
import Derived.Test.YtlnpapkkcmbhmaaGreatDoorSh
import Derived.KernelRfl
namespace Go.Proofs.YtlnpapkkcmbhmaaGreatDoor
open Go Go.Abs
set_option maxRecDepth 100000
set_option linter.unusedSimpArgs false
def nf (i : Nat) : Nat := cond (Nat.blt i 150) (cond (Nat.blt i 75) (cond (Nat.blt i 37) (cond (Nat.blt i 18) (cond (Nat.blt i 9) (cond (Nat.blt i 4) (cond (Nat.blt i 2) (cond (Nat.blt i 1) (0) (1)) (cond (Nat.blt i 3) (2) (4))) (cond (Nat.blt i 6) (cond (Nat.blt i 5) (5) (6)) (cond (Nat.blt i 7) (7) (cond (Nat.blt i 8) (11) (13))))) (cond (Nat.blt i 13) (cond (Nat.blt i 11) (cond (Nat.blt i 10) (9) (14)) (cond (Nat.blt i 12) (8) (15))) (cond (Nat.blt i 15) (cond (Nat.blt i 14) (16) (19)) (cond (Nat.blt i 16) (20) (cond (Nat.blt i 17) (21) (22)))))) (cond (Nat.blt i 27) (cond (Nat.blt i 22) (cond (Nat.blt i 20) (cond (Nat.blt i 19) (23) (26)) (cond (Nat.blt i 21) (27) (28))) (cond (Nat.blt i 24) (cond (Nat.blt i 23) (29) (30)) (cond (Nat.blt i 25) (31) (cond (Nat.blt i 26) (32) (33))))) (cond (Nat.blt i 32) (cond (Nat.blt i 29) (cond (Nat.blt i 28) (34) (35)) (cond (Nat.blt i 30) (36) (cond (Nat.blt i 31) (37) (38)))) (cond (Nat.blt i 34) (cond (Nat.blt i 33) (39) (40)) (cond (Nat.blt i 35) (41) (cond (Nat.blt i 36) (44) (45))))))) (cond (Nat.blt i 56) (cond (Nat.blt i 46) (cond (Nat.blt i 41) (cond (Nat.blt i 39) (cond (Nat.blt i 38) (46) (47)) (cond (Nat.blt i 40) (48) (49))) (cond (Nat.blt i 43) (cond (Nat.blt i 42) (50) (51)) (cond (Nat.blt i 44) (52) (cond (Nat.blt i 45) (53) (54))))) (cond (Nat.blt i 51) (cond (Nat.blt i 48) (cond (Nat.blt i 47) (55) (56)) (cond (Nat.blt i 49) (57) (cond (Nat.blt i 50) (58) (59)))) (cond (Nat.blt i 53) (cond (Nat.blt i 52) (60) (61)) (cond (Nat.blt i 54) (62) (cond (Nat.blt i 55) (63) (64)))))) (cond (Nat.blt i 65) (cond (Nat.blt i 60) (cond (Nat.blt i 58) (cond (Nat.blt i 57) (65) (66)) (cond (Nat.blt i 59) (67) (68))) (cond (Nat.blt i 62) (cond (Nat.blt i 61) (69) (70)) (cond (Nat.blt i 63) (71) (cond (Nat.blt i 64) (72) (73))))) (cond (Nat.blt i 70) (cond (Nat.blt i 67) (cond (Nat.blt i 66) (74) (75)) (cond (Nat.blt i 68) (76) (cond (Nat.blt i 69) (77) (83)))) (cond (Nat.blt i 72) (cond (Nat.blt i 71) (84) (85)) (cond (Nat.blt i 73) (86) (cond (Nat.blt i 74) (87) (88)))))))) (cond (Nat.blt i 112) (cond (Nat.blt i 93) (cond (Nat.blt i 84) (cond (Nat.blt i 79) (cond (Nat.blt i 77) (cond (Nat.blt i 76) (89) (90)) (cond (Nat.blt i 78) (91) (92))) (cond (Nat.blt i 81) (cond (Nat.blt i 80) (93) (94)) (cond (Nat.blt i 82) (95) (cond (Nat.blt i 83) (96) (97))))) (cond (Nat.blt i 88) (cond (Nat.blt i 86) (cond (Nat.blt i 85) (98) (99)) (cond (Nat.blt i 87) (100) (101))) (cond (Nat.blt i 90) (cond (Nat.blt i 89) (102) (103)) (cond (Nat.blt i 91) (104) (cond (Nat.blt i 92) (105) (106)))))) (cond (Nat.blt i 102) (cond (Nat.blt i 97) (cond (Nat.blt i 95) (cond (Nat.blt i 94) (107) (108)) (cond (Nat.blt i 96) (109) (110))) (cond (Nat.blt i 99) (cond (Nat.blt i 98) (111) (112)) (cond (Nat.blt i 100) (113) (cond (Nat.blt i 101) (114) (115))))) (cond (Nat.blt i 107) (cond (Nat.blt i 104) (cond (Nat.blt i 103) (116) (117)) (cond (Nat.blt i 105) (118) (cond (Nat.blt i 106) (119) (120)))) (cond (Nat.blt i 109) (cond (Nat.blt i 108) (121) (122)) (cond (Nat.blt i 110) (123) (cond (Nat.blt i 111) (124) (135))))))) (cond (Nat.blt i 131) (cond (Nat.blt i 121) (cond (Nat.blt i 116) (cond (Nat.blt i 114) (cond (Nat.blt i 113) (136) (137)) (cond (Nat.blt i 115) (138) (139))) (cond (Nat.blt i 118) (cond (Nat.blt i 117) (140) (141)) (cond (Nat.blt i 119) (142) (cond (Nat.blt i 120) (143) (144))))) (cond (Nat.blt i 126) (cond (Nat.blt i 123) (cond (Nat.blt i 122) (145) (146)) (cond (Nat.blt i 124) (147) (cond (Nat.blt i 125) (148) (149)))) (cond (Nat.blt i 128) (cond (Nat.blt i 127) (150) (151)) (cond (Nat.blt i 129) (152) (cond (Nat.blt i 130) (153) (154)))))) (cond (Nat.blt i 140) (cond (Nat.blt i 135) (cond (Nat.blt i 133) (cond (Nat.blt i 132) (155) (156)) (cond (Nat.blt i 134) (157) (158))) (cond (Nat.blt i 137) (cond (Nat.blt i 136) (159) (160)) (cond (Nat.blt i 138) (161) (cond (Nat.blt i 139) (162) (163))))) (cond (Nat.blt i 145) (cond (Nat.blt i 142) (cond (Nat.blt i 141) (164) (165)) (cond (Nat.blt i 143) (166) (cond (Nat.blt i 144) (167) (168)))) (cond (Nat.blt i 147) (cond (Nat.blt i 146) (169) (170)) (cond (Nat.blt i 148) (132) (cond (Nat.blt i 149) (177) (179))))))))) (cond (Nat.blt i 225) (cond (Nat.blt i 187) (cond (Nat.blt i 168) (cond (Nat.blt i 159) (cond (Nat.blt i 154) (cond (Nat.blt i 152) (cond (Nat.blt i 151) (180) (181)) (cond (Nat.blt i 153) (182) (183))) (cond (Nat.blt i 156) (cond (Nat.blt i 155) (184) (185)) (cond (Nat.blt i 157) (186) (cond (Nat.blt i 158) (187) (188))))) (cond (Nat.blt i 163) (cond (Nat.blt i 161) (cond (Nat.blt i 160) (189) (190)) (cond (Nat.blt i 162) (191) (192))) (cond (Nat.blt i 165) (cond (Nat.blt i 164) (193) (194)) (cond (Nat.blt i 166) (195) (cond (Nat.blt i 167) (196) (197)))))) (cond (Nat.blt i 177) (cond (Nat.blt i 172) (cond (Nat.blt i 170) (cond (Nat.blt i 169) (198) (199)) (cond (Nat.blt i 171) (200) (201))) (cond (Nat.blt i 174) (cond (Nat.blt i 173) (202) (203)) (cond (Nat.blt i 175) (204) (cond (Nat.blt i 176) (205) (206))))) (cond (Nat.blt i 182) (cond (Nat.blt i 179) (cond (Nat.blt i 178) (207) (208)) (cond (Nat.blt i 180) (209) (cond (Nat.blt i 181) (210) (211)))) (cond (Nat.blt i 184) (cond (Nat.blt i 183) (212) (213)) (cond (Nat.blt i 185) (217) (cond (Nat.blt i 186) (218) (219))))))) (cond (Nat.blt i 206) (cond (Nat.blt i 196) (cond (Nat.blt i 191) (cond (Nat.blt i 189) (cond (Nat.blt i 188) (220) (221)) (cond (Nat.blt i 190) (222) (223))) (cond (Nat.blt i 193) (cond (Nat.blt i 192) (224) (225)) (cond (Nat.blt i 194) (226) (cond (Nat.blt i 195) (227) (228))))) (cond (Nat.blt i 201) (cond (Nat.blt i 198) (cond (Nat.blt i 197) (229) (230)) (cond (Nat.blt i 199) (231) (cond (Nat.blt i 200) (232) (233)))) (cond (Nat.blt i 203) (cond (Nat.blt i 202) (234) (235)) (cond (Nat.blt i 204) (236) (cond (Nat.blt i 205) (237) (238)))))) (cond (Nat.blt i 215) (cond (Nat.blt i 210) (cond (Nat.blt i 208) (cond (Nat.blt i 207) (239) (240)) (cond (Nat.blt i 209) (241) (242))) (cond (Nat.blt i 212) (cond (Nat.blt i 211) (243) (244)) (cond (Nat.blt i 213) (245) (cond (Nat.blt i 214) (125) (246))))) (cond (Nat.blt i 220) (cond (Nat.blt i 217) (cond (Nat.blt i 216) (247) (248)) (cond (Nat.blt i 218) (249) (cond (Nat.blt i 219) (250) (251)))) (cond (Nat.blt i 222) (cond (Nat.blt i 221) (252) (253)) (cond (Nat.blt i 223) (254) (cond (Nat.blt i 224) (255) (256)))))))) (cond (Nat.blt i 262) (cond (Nat.blt i 243) (cond (Nat.blt i 234) (cond (Nat.blt i 229) (cond (Nat.blt i 227) (cond (Nat.blt i 226) (257) (258)) (cond (Nat.blt i 228) (259) (260))) (cond (Nat.blt i 231) (cond (Nat.blt i 230) (261) (262)) (cond (Nat.blt i 232) (263) (cond (Nat.blt i 233) (264) (265))))) (cond (Nat.blt i 238) (cond (Nat.blt i 236) (cond (Nat.blt i 235) (266) (267)) (cond (Nat.blt i 237) (268) (269))) (cond (Nat.blt i 240) (cond (Nat.blt i 239) (270) (271)) (cond (Nat.blt i 241) (272) (cond (Nat.blt i 242) (273) (274)))))) (cond (Nat.blt i 252) (cond (Nat.blt i 247) (cond (Nat.blt i 245) (cond (Nat.blt i 244) (275) (276)) (cond (Nat.blt i 246) (277) (278))) (cond (Nat.blt i 249) (cond (Nat.blt i 248) (279) (280)) (cond (Nat.blt i 250) (281) (cond (Nat.blt i 251) (282) (283))))) (cond (Nat.blt i 257) (cond (Nat.blt i 254) (cond (Nat.blt i 253) (284) (285)) (cond (Nat.blt i 255) (286) (cond (Nat.blt i 256) (287) (288)))) (cond (Nat.blt i 259) (cond (Nat.blt i 258) (289) (290)) (cond (Nat.blt i 260) (291) (cond (Nat.blt i 261) (292) (293))))))) (cond (Nat.blt i 281) (cond (Nat.blt i 271) (cond (Nat.blt i 266) (cond (Nat.blt i 264) (cond (Nat.blt i 263) (294) (295)) (cond (Nat.blt i 265) (296) (297))) (cond (Nat.blt i 268) (cond (Nat.blt i 267) (298) (299)) (cond (Nat.blt i 269) (3) (cond (Nat.blt i 270) (10) (12))))) (cond (Nat.blt i 276) (cond (Nat.blt i 273) (cond (Nat.blt i 272) (17) (18)) (cond (Nat.blt i 274) (24) (cond (Nat.blt i 275) (25) (42)))) (cond (Nat.blt i 278) (cond (Nat.blt i 277) (43) (78)) (cond (Nat.blt i 279) (79) (cond (Nat.blt i 280) (80) (81)))))) (cond (Nat.blt i 290) (cond (Nat.blt i 285) (cond (Nat.blt i 283) (cond (Nat.blt i 282) (82) (126)) (cond (Nat.blt i 284) (127) (128))) (cond (Nat.blt i 287) (cond (Nat.blt i 286) (129) (130)) (cond (Nat.blt i 288) (131) (cond (Nat.blt i 289) (133) (134))))) (cond (Nat.blt i 295) (cond (Nat.blt i 292) (cond (Nat.blt i 291) (171) (172)) (cond (Nat.blt i 293) (173) (cond (Nat.blt i 294) (174) (175)))) (cond (Nat.blt i 297) (cond (Nat.blt i 296) (176) (178)) (cond (Nat.blt i 298) (214) (cond (Nat.blt i 299) (215) (216)))))))))
def nt (i : Nat) : Nat := if i = 0 then 86 else if i = 1 then 9 else if i = 2 then 296 else if i = 3 then 3 else i + 1000000
theorem nt_inj : ∀ t u, nt t = nt u → t = u := by
  intro t u h
  simp only [nt] at h
  (repeat' split at h) <;> omega
theorem look0 : (fun W : World => chkTo Tryz.prog (numAt nf nt W) PR 0 33) = fun _ => true := by kernel_rfl
theorem look1 : (fun W : World => chkTo Tryz.prog (numAt nf nt W) PR 33 40) = fun _ => true := by kernel_rfl
theorem look2 : (fun W : World => chkTo Tryz.prog (numAt nf nt W) PR 73 27) = fun _ => true := by kernel_rfl
theorem look3 : (fun W : World => chkTo Tryz.prog (numAt nf nt W) PR 100 37) = fun _ => true := by kernel_rfl
theorem look4 : (fun W : World => chkTo Tryz.prog (numAt nf nt W) PR 137 52) = fun _ => true := by kernel_rfl
theorem look5 : (fun W : World => chkTo Tryz.prog (numAt nf nt W) PR 189 73) = fun _ => true := by kernel_rfl
theorem linkFn (W : World) : ∀ f F, PR.prim f = none → PR.fn f = some F → ∃ fn c, Tryz.prog.funcs[nf f]? = some fn ∧ fn.body = some c ∧ fn.ntmps = F.nt ∧ (fn.name == "runtime.NumGoroutine") = false ∧ okC Tryz.prog (numAt nf nt W) F.nt F.body c = true ∧ okRes Tryz.prog F.res fn.results.toList = true := by
  intro f F hp hF
  have ht : f < 262 := by
    by_cases c : f < 262
    · exact c
    · have : Nat.blt f Pr.top = false := by cases hb : Nat.blt f Pr.top <;> simp [Pr.top] at hb ⊢; omega
      simp only [PR, this, cond] at hF; cases hF
  by_cases c0 : f < 33
  · exact chk_fn (congrFun look0 W) f F (by omega) (by omega) hp hF
  by_cases c1 : f < 73
  · exact chk_fn (congrFun look1 W) f F (by omega) (by omega) hp hF
  by_cases c2 : f < 100
  · exact chk_fn (congrFun look2 W) f F (by omega) (by omega) hp hF
  by_cases c3 : f < 137
  · exact chk_fn (congrFun look3 W) f F (by omega) (by omega) hp hF
  by_cases c4 : f < 189
  · exact chk_fn (congrFun look4 W) f F (by omega) (by omega) hp hF
  exact chk_fn (congrFun look5 W) f F (by omega) (by omega) hp hF
theorem meth0 : (fun (v : Value) (w : World) => (method (Tryz.prog.types.size + Made.depth) (nt 2) v "Len").run Tryz.prog w) = fun v w => .ok (nf 160, v) w := by kernel_rfl
theorem meth1 : (fun (v : Value) (w : World) => (method (Tryz.prog.types.size + Made.depth) (nt 2) v "Less").run Tryz.prog w) = fun v w => .ok (nf 258, v) w := by kernel_rfl
theorem meth2 : (fun (v : Value) (w : World) => (method (Tryz.prog.types.size + Made.depth) (nt 2) v "Pop").run Tryz.prog w) = fun v w => .ok (nf 259, v) w := by kernel_rfl
theorem meth3 : (fun (v : Value) (w : World) => (method (Tryz.prog.types.size + Made.depth) (nt 2) v "Push").run Tryz.prog w) = fun v w => .ok (nf 260, v) w := by kernel_rfl
theorem meth4 : (fun (v : Value) (w : World) => (method (Tryz.prog.types.size + Made.depth) (nt 2) v "Swap").run Tryz.prog w) = fun v w => .ok (nf 261, v) w := by kernel_rfl
theorem linkMeth (W : World) : MethOK Tryz.prog (numAt nf nt W) PR.meth := by
  intro t m f h v w
  simp only [PR, Pr.meths] at h
  cases e0 : (Nat.beq t 2 && m == "Len") with
  | true =>
    simp only [e0, cond, Option.some.injEq] at h
    simp only [Bool.and_eq_true, Nat.beq_eq, beq_iff_eq] at e0
    obtain ⟨rfl, rfl⟩ := e0
    subst h
    exact congrFun (congrFun meth0 v) w
  | false =>
    simp only [e0, cond] at h
    cases e1 : (Nat.beq t 2 && m == "Less") with
    | true =>
      simp only [e1, cond, Option.some.injEq] at h
      simp only [Bool.and_eq_true, Nat.beq_eq, beq_iff_eq] at e1
      obtain ⟨rfl, rfl⟩ := e1
      subst h
      exact congrFun (congrFun meth1 v) w
    | false =>
      simp only [e1, cond] at h
      cases e2 : (Nat.beq t 2 && m == "Pop") with
      | true =>
        simp only [e2, cond, Option.some.injEq] at h
        simp only [Bool.and_eq_true, Nat.beq_eq, beq_iff_eq] at e2
        obtain ⟨rfl, rfl⟩ := e2
        subst h
        exact congrFun (congrFun meth2 v) w
      | false =>
        simp only [e2, cond] at h
        cases e3 : (Nat.beq t 2 && m == "Push") with
        | true =>
          simp only [e3, cond, Option.some.injEq] at h
          simp only [Bool.and_eq_true, Nat.beq_eq, beq_iff_eq] at e3
          obtain ⟨rfl, rfl⟩ := e3
          subst h
          exact congrFun (congrFun meth3 v) w
        | false =>
          simp only [e3, cond] at h
          cases e4 : (Nat.beq t 2 && m == "Swap") with
          | true =>
            simp only [e4, cond, Option.some.injEq] at h
            simp only [Bool.and_eq_true, Nat.beq_eq, beq_iff_eq] at e4
            obtain ⟨rfl, rfl⟩ := e4
            subst h
            exact congrFun (congrFun meth4 v) w
          | false =>
            simp only [e4, cond] at h
            cases h
theorem mixed : Tryz.prog.follows .mixedOrders = true := by kernel_rfl
theorem funcIx : Tryz.prog.funcs[nf 225]? = some Tryz.f257 := by kernel_rfl
theorem linked (hS : SortLaw Tryz.prog (nf 105) #[]) (hF : SortLaw Tryz.prog (nf 226) #[.func (.func (nf 227)) #[] #[]]) (W : World) : Link Tryz.prog (numAt nf nt W) PR where
  hN := nt_inj
  mixed := mixed
  meth := linkMeth W
  fn := linkFn W
  prim := by
    intro f p h
    simp only [PR, prims] at h
    cases e1 : Nat.beq f 225 with
    | true =>
      simp only [e1, cond, Option.some.injEq] at h
      rw [Nat.beq_eq] at e1
      subst e1 h
      exact indexByte_ok (N := numAt nf nt W) (f := 225) funcIx (of_decide_eq_true (by kernel_rfl)) (by kernel_rfl) (by kernel_rfl) (by kernel_rfl)
    | false =>
      cases e2 : Nat.beq f 105 with
      | true =>
        simp only [e1, e2, cond, Option.some.injEq] at h
        rw [Nat.beq_eq] at e2
        subst e2 h
        exact sortPrim_ok (N := numAt nf nt W) (f := 105) (fn := Tryz.f119) (show Tryz.prog.funcs[nf 105]? = _ by kernel_rfl) (of_decide_eq_true (by kernel_rfl)) rfl hS
      | false =>
        cases e3 : Nat.beq f 226 with
        | true =>
          simp only [e1, e2, e3, cond, Option.some.injEq] at h
          rw [Nat.beq_eq] at e3
          subst e3 h
          exact sortFunc_ok (N := numAt nf nt W) (f := 226) (fn := Tryz.f258) (show Tryz.prog.funcs[nf 226]? = _ by kernel_rfl) (of_decide_eq_true (by kernel_rfl)) rfl hF
        | false => simp only [e1, e2, e3, cond] at h; cases h
theorem cmpIs (x y : Int) : ltOf Lib.compareInt x y = decide (x < y) := by
  unfold ltOf Lib.compareInt
  by_cases h1 : x < y
  · simp [h1]
  · by_cases h2 : y < x <;> simp [h1, h2]
theorem sortLawI : SortLaw Tryz.prog (nf 105) #[] where
  some := fun blk off cap zs w hH hb _ hl => by
    rw [Array.append_empty]
    exact Tryz.slices_Sort_int blk off cap zs w hH hb hl
  none := fun p cap w => by
    rw [Array.append_empty]
    exact Tryz.slices_Sort_int_none p cap w
theorem sortLawF : SortLaw Tryz.prog (nf 226) #[.func (.func (nf 227)) #[] #[]] where
  some := fun blk off cap zs w hH hb _ hl => by
    have eg : ∀ args w, (callFunc (nf 227) args).run Tryz.prog w = .ok (.enter (nf 227) args) w := enters_of (fn := Tryz.f259) (show Tryz.prog.funcs[nf 227]? = _ by kernel_rfl) (by kernel_rfl) rfl
    have hc : CmpReads Tryz.prog (nf 227) #[] (Value.int .i64) Lib.compareInt blk off zs.toArray.size w := fun m os dk _ x y => Calls.mono (Tryz.cmp_Compare_int x y _) fun e w' h => ⟨h.1, 0, h.2⟩
    have h := Tryz.slices_SortFunc_total (Value.int .i64) (fun _ => rfl) Lib.compareInt ⟨fun x => by rw [cmpIs]; simp, fun x y z h1 h2 => by rw [cmpIs] at *; simp at *; omega, fun x y z h1 h2 => by rw [cmpIs] at *; simp at *; omega⟩ (nf 227) #[] blk off cap zs.toArray w eg hc.lays hH hb (by simpa using hl) (fun x y h1 h2 => by rw [cmpIs] at *; simp at *; omega)
    have hle : (fun x y : Int => !ltOf Lib.compareInt y x) = fun x y => decide (x ≤ y) := by
      funext x y
      rw [cmpIs]
      by_cases h : x ≤ y
      · have h' : ¬ y < x := by omega
        simp [h, h']
      · have h' : y < x := by omega
        simp [h, h']
    rw [hle] at h
    exact h
  none := fun p cap w => Tryz.slices_SortFunc_none (α := Int) p cap _ w
theorem link (W : World) : Link Tryz.prog (numAt nf nt W) PR := linked sortLawI sortLawF W
end Go.Proofs.YtlnpapkkcmbhmaaGreatDoor
