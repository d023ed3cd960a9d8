/- The law's first call, run by the kernel. -/
import Derived.Test.YtgebecbidfdhlaaGreatDoorAw1
set_option linter.unusedSimpArgs false
set_option linter.unusedVariables false
namespace Go.Abs
open Go Pr
set_option maxRecDepth 100000
theorem qxx:(λo:Obj=>evCall PR 4000 0 (.fn 10 [] []) [.str [97,32,61,32,98,32,99,59,32,98,32,61,32,34,120,34,42,59,32,99,32,61,32,34,120,34,42,59]] (cBC0 o))=λo=>some [⟨.tup [.agg gVC1,.int .i64 28,.int .i64 0],cBC0 o⟩]:=by kernel_rfl
end Go.Abs

