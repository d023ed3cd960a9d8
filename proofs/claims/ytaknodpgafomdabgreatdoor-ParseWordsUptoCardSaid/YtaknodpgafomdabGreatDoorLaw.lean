/- ParseWords, the second form's card: whatever the input (of bulk at most 1048576), the call returns true, and each argument reads behind it as before; the listed tables hold what the program's text lays. -/
import Derived.Test.YtaknodpgafomdabGreatDoorCm
namespace Go.Proofs.YtaknodpgafomdabGreatDoor
open Go Go.Abs Go.ChangeShapes Go.WideShapes Go.ChangeAt Go.RowKit
set_option linter.unusedSimpArgs false
set_option linter.unusedVariables false
set_option maxRecDepth 100000
theorem fn : Tryz.prog.funcs[nf 426]? = some Tryz.f3 := by kernel_rfl
theorem params : Tryz.f3.params = #[22] := by kernel_rfl
theorem resT : Tryz.f3.resultTypes = #[4] := by kernel_rfl
theorem shOk0 : okSh Tryz.prog 40 22 [.slice shInt] = true := by kernel_rfl
theorem readable : ∀ t ∈ Tryz.f3.params.toList, Tryz.prog.readableRec t = true ∧ t < Tryz.prog.types.size := by
  rw [params]
  intro t ht
  simp only [List.mem_cons, List.mem_nil_iff, or_false] at ht
  rcases ht with rfl
  · exact ⟨by kernel_rfl, of_decide_eq_true (by kernel_rfl)⟩
theorem contract (H : Type) (enc : TypeId × Value → H) (W : World) (base : Nat) (args : Array Value) (ds gs : List (DataW H)) (before : List MemPlace)
    (hval : ∀ (j : Nat) t v, Tryz.f3.params[j]? = some t → args[j]? = some v → Value.okWide Tryz.prog W .any base t v)
    (hW : DataW.Whole enc Tryz.prog Tryz.f3.params.toList Rows.parseWordsSpec.vars false W args.toList ds gs before) (hk : Rows.uptoSmall H (ds ++ gs) = true) :
    Calls Tryz.prog (nf 426) args W fun e W' => ∃ v, e = .returned v ∧ Rows.parseWordsSpec.post enc Tryz.prog Tryz.f3 false true false false W args v W' := by
  have hW' := hW
  obtain ⟨p, q, hA, hV, rfl, hfz, hnd⟩ := hW
  rw [params] at hA hval
  obtain ⟨v0, vs0, d0, ds0, p0, q0, hargs, rfl, rfl, h0, r0⟩ := trodAll_cons hA
  obtain ⟨rfl, rfl, rfl⟩ := trodAll_nil r0
  obtain rfl : args = #[v0] := Array.ext' (by simpa using hargs)
  obtain ⟨rfl, rfl⟩ := trodVars_none hV
  rw [List.append_nil] at hk
  have hB : Rows.uptoBulkAll [d0] ≤ 1048576 := of_decide_eq_true hk
  have b0 := bulkAll [d0] d0 (by simp)
  obtain ⟨u0, x0, y0⟩ := arg_one (N := numAt nf nt W) (ι := fun _ => none) bulk shOk0 (cell_slice Tryz.underlying22 (hval 0 22 v0 rfl rfl)) h0 (Nat.le_trans b0 hB)
  obtain ⟨l0, rfl, hl0, _⟩ := sl_of y0 fun r hr => int_of hr
  have hc := law_calls (link W) (f := 426) rfl fn (of_decide_eq_true (by kernel_rfl)) rfl (VRs.cons x0 VRs.nil)
    (parseWords_ok l0 (by omega))
  refine hc.mono fun e W' h => ⟨_, h.1, ?_⟩
  exact post_true (gs := []) rfl rfl rfl rfl hW' laidOut readable resT Tryz.underlying4 h.2
def wargs : Array Value := #[.slice none 0 0]
theorem laid_met (os : Os) : laidMet Tryz.prog Rows.parseWordsUptoRow.laid ((laidWorld os).forCall (fun _ _ => 0) ⟨#[], wargs, []⟩).memory :=
  laidMet_of_run' 8 (by kernel_rfl) (by kernel_rfl)
theorem reads (os : Os) {H : Type} (enc : TypeId × Value → H) : ∃ places, DataW.whole enc Tryz.prog ((laidWorld os).forCall (fun _ _ => 0) ⟨#[], wargs, []⟩).memory Tryz.f3.params.toList Rows.parseWordsSpec.vars false wargs.toList 8 = some ([.nil], [], places) :=
  ⟨[], by kernel_rfl⟩
theorem liftedUpto (os : Os) (started : os.Started) (H : Type) (enc : TypeId × Value → H) (F : Stop.Interp) :
    ReturnsInHanded {} Tryz.checked os (nf 426) .any ((Rows.OpenSpec.upto Rows.parseWordsSpec).preRow enc Tryz.prog Tryz.f3 Rows.parseWordsUptoRow.domain false Rows.parseWordsUptoRow.laid) (((Rows.OpenSpec.upto Rows.parseWordsSpec).at F).post enc Tryz.prog Tryz.f3 false true false false) := by
  obtain ⟨places, hx⟩ := reads os enc
  refine returnsInHanded_of_row (C := Tryz.checked) (s := Rows.OpenSpec.upto Rows.parseWordsSpec) ownOff started (by kernel_rfl) fn
    (witness_row_at (enc := enc) (C := Tryz.checked) false (laidWorld os) wargs rfl (by kernel_rfl) (by kernel_rfl) (by kernel_rfl)
      (OpenSpec.preRow_of_cond 8 hx (by kernel_rfl) (fun k hk => by cases hk; kernel_rfl) (by kernel_rfl) (laid_met os))) ?_
  intro W base args ds gs before hval hW _ hcond _ _ _ _
  exact contract H enc W base args ds gs before hval hW (hcond _ rfl)
theorem j1 : (Rows.parseWordsUptoRow.inPlace == Tryz.pinned.checked.prog.inPlace (nf 426)) = true := by kernel_rfl
theorem j2 : (Rows.parseWordsUptoRow.unfollowed == Tryz.pinned.checked.prog.unfollowed (nf 426)) = true := by kernel_rfl
theorem j3 : (Rows.parseWordsUptoRow.recurses == Tryz.pinned.checked.prog.recurses (nf 426)) = true := by kernel_rfl
theorem j4 : (Rows.parseWordsUptoRow.named == Tryz.pinned.checked.prog.varsNamed (nf 426)) = true := by kernel_rfl
theorem j5 : laidOutB Tryz.pinned.checked.prog = true := by kernel_rfl
theorem j6 : mapsRowed Tryz.pinned.checked.prog = true := by kernel_rfl
theorem closed : joinedFacts Tryz.pinned.checked.prog (nf 426) Tryz.f3 (Rows.OpenSpec.upto Rows.parseWordsSpec).bare Rows.parseWordsUptoRow = true := by
  unfold joinedFacts
  rw [j1, j2, j3, j4, j5, j6]
  kernel_rfl
theorem saidUpto : Rows.ParseWordsUptoSaid :=
  OpenClaim.holds_of_cond (nf 426) Tryz.f3 rfl rfl rfl rfl rfl rfl rfl ⟨rfl, rfl, rfl, rfl, rfl⟩ rfl rfl rfl rfl rfl (by kernel_rfl) fn closed
    (of_decide_eq_true (by kernel_rfl)) (by unfold Func.isWrapper; first | (rw [if_pos (by decide +kernel)]; kernel_rfl) | (rw [if_neg (by decide +kernel)]; exact ⟨rfl, rfl⟩))
    (fun os started H enc _ F => by rw [OpenClaim.pre_eq_preRow]; exact liftedUpto os started H enc F)
theorem plain (f : FuncId) (fn' : Func) (hf : Tryz.pinned.checked.prog.funcNamed "exegete/exegetelaw20.ParseWords" = some f) (hfn : Tryz.pinned.checked.prog.funcs[f]? = some fn') :
    true = Tryz.pinned.checked.prog.looks [] ∧ ∀ (j : Nat) t, fn'.params[j]? = some t → Tryz.pinned.checked.prog.wantsStandIn t = false := by
  obtain rfl : f = nf 426 := Option.some.inj ((show Tryz.prog.funcNamed "exegete/exegetelaw20.ParseWords" = some (nf 426) by kernel_rfl).symm.trans hf) |>.symm
  obtain rfl : fn' = Tryz.f3 := (Option.some.inj (fn.symm.trans hfn)).symm
  refine ⟨by kernel_rfl, fun j t ht => ?_⟩
  rw [params] at ht
  have : t = 22 := by simpa using Array.mem_of_getElem? ht
  rcases this with rfl
  exact (show Tryz.prog.wantsStandIn 22 = false by kernel_rfl)
/-- The card. -/
theorem cardUpto : Rows.ParseWordsUptoCardSaid :=
  Claim7.holds_tied_plain_at .later [] _ _ _ _ saidUpto (fun _ h => by cases h) (by kernel_rfl) (fun _ h => by cases h) parseWordsUpto_row_tie rfl ⟨rfl, rfl⟩ (by kernel_rfl) rfl plain (by kernel_rfl)
end Go.Proofs.YtaknodpgafomdabGreatDoor
