/- The law's first call, run by the kernel. -/
import Derived.Test.YtgebecbidfdhlaaGreatDoorAwf1
set_option linter.unusedSimpArgs false
set_option linter.unusedVariables false
namespace Go.Abs
open Go Pr
set_option maxRecDepth 100000
theorem runMg:evCall PR 4000 1 (.fn 312 [] []) [.agg gEvN.cells] ⟨0,.e⟩=some [⟨.bool true,⟨0,.e⟩⟩]:=by kernel_rfl
theorem gMayN:mayE gEvN=true:=qwf qym (.inl ⟨.nil,rfl,rfl⟩) runMg
theorem runMh:evCall PR 4000 1 (.fn 312 [] []) [.agg kEvN.cells] ⟨0,.e⟩=some [⟨.bool true,⟨0,.e⟩⟩]:=by kernel_rfl
theorem kMayN:mayE kEvN=true:=qwf qyl (.inl ⟨.nil,rfl,rfl⟩) runMh
end Go.Abs

