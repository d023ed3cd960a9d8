/- The law's first call, run by the kernel. -/
import Derived.Test.YtaknodpgafomdabGreatDoorAc4
set_option linter.unusedSimpArgs false
set_option linter.unusedVariables false
namespace Go.Abs
open Go Pr
set_option maxRecDepth 100000
theorem runP1:evCall PR 4000 0 (.fn 432 [] []) [.str exT,.sl 0 0 1 1 true,.int .i64 8,.int .i64 100] exH1=some [⟨.tup [.agg exA,.int .i64 8,.int .i64 0],exH1⟩]:=by kernel_rfl
end Go.Abs

