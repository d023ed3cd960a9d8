/- The law's first call, run by the kernel. -/
import Derived.Test.YtgebecbidfdhlaaGreatDoorAwd1
set_option linter.unusedSimpArgs false
set_option linter.unusedVariables false
namespace Go.Abs
open Go Pr
set_option maxRecDepth 100000
theorem runHB:(λo:Obj=>evCall PR 4000 1 (.fn 10 [] []) [.str [97,32,61,32,34,120,34,42,59]] (cBC1 o))=λo=>some [⟨.tup [.agg hVB,.int .i64 9,.int .i64 0],cBC1 o⟩]:=by kernel_rfl
theorem runHM:evCall PR 4000 1 (.fn 312 [] []) [.agg hEvN.cells] ⟨0,.e⟩=some [⟨.bool true,⟨0,.e⟩⟩]:=by kernel_rfl
theorem hMayN:mayE hEvN=true:=qwf qxz (.inl ⟨.nil,rfl,rfl⟩) runHM
end Go.Abs

