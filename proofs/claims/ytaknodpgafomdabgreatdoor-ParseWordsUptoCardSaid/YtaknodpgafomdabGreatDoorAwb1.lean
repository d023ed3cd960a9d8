/- The law's first call, run by the kernel. -/
import Derived.Test.YtaknodpgafomdabGreatDoorAw1
set_option linter.unusedSimpArgs false
set_option linter.unusedVariables false
namespace Go.Abs
open Go Pr
set_option maxRecDepth 100000
theorem runP2:evCall PR 4000 0 (.fn 432 [] []) [.str exT,.sl 2 0 1 1 true,.int .i64 8,.int .i64 100] exH2=some [⟨.tup [.agg exB,.int .i64 8,.int .i64 0],exH2⟩]:=by kernel_rfl
theorem runP3:evCall PR 4000 0 (.fn 432 [] []) [.str exT,.sl 4 0 1 1 true,.int .i64 8,.int .i64 0] exH3=some [⟨.tup [.agg exC,.int .i64 8,.int .i64 0],exH3⟩]:=by kernel_rfl
end Go.Abs

