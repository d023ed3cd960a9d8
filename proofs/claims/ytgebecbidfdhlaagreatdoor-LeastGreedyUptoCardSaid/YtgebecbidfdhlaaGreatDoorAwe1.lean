/- The law's first call, run by the kernel. -/
import Derived.Test.YtgebecbidfdhlaaGreatDoorAwd1
set_option linter.unusedSimpArgs false
set_option linter.unusedVariables false
namespace Go.Abs
open Go Pr
set_option maxRecDepth 100000
theorem runGg:evCall PR 4000 0 (.fn 10 [] []) [.str [97,32,61,32,98,32,99,59,32,98,32,61,32,34,120,34,32,98,32,124,32,59,32,99,32,61,32,34,120,34,32,99,32,124,32,59]] ⟨0,.e⟩=some [⟨.tup [.agg gVg,.int .i64 36,.int .i64 0],⟨0,.e⟩⟩]:=by kernel_rfl
end Go.Abs

