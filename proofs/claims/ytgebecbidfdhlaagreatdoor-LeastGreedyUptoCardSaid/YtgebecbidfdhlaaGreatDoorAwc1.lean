/- The law's first call, run by the kernel. -/
import Derived.Test.YtgebecbidfdhlaaGreatDoorAwb1
set_option linter.unusedSimpArgs false
set_option linter.unusedVariables false
namespace Go.Abs
open Go Pr
set_option maxRecDepth 100000
theorem runM:evCall PR 4000 1 (.fn 312 [] []) [.agg cEvN.cells] ⟨0,.e⟩=some [⟨.bool true,⟨0,.e⟩⟩]:=by kernel_rfl
theorem qv1:mayE cEvN=true:=qwf qvS (.inl ⟨.nil,rfl,rfl⟩) runM
end Go.Abs

