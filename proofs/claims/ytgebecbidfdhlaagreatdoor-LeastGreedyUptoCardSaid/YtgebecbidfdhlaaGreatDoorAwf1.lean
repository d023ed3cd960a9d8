/- The law's first call, run by the kernel. -/
import Derived.Test.YtgebecbidfdhlaaGreatDoorAwe1
set_option linter.unusedSimpArgs false
set_option linter.unusedVariables false
namespace Go.Abs
open Go Pr
set_option maxRecDepth 100000
theorem runGh:(λo:Obj=>evCall PR 4000 1 (.fn 10 [] []) [.str [97,32,61,32,98,32,99,59,32,98,32,61,32,124,32,34,120,34,32,98,59,32,99,32,61,32,124,32,34,120,34,32,99,59]] (cBC1 o))=λo=>some [⟨.tup [.agg gVh,.int .i64 34,.int .i64 0],cBC1 o⟩]:=by kernel_rfl
end Go.Abs

