/- The law's first call, run by the kernel. -/
import Derived.Test.YtaknodpgafomdabGreatDoorAwc1
set_option linter.unusedSimpArgs false
set_option linter.unusedVariables false
namespace Go.Abs
open Go Pr
set_option maxRecDepth 100000
theorem runWd:evCall PR 6000 0 (.fn 10 [] []) [.str [37,32,34,105,102,34,32,34,100,111,34,59,32,97,32,61,32,119,32,40,34,32,34,32,119,41,42,59,32,64,108,111,110,103,32,64,114,101,115,32,119,32,61,32,91,97,45,122,93,43,59]] ⟨0,.e⟩=some [⟨.tup [.agg wdC,.int .i64 51,.int .i64 0],⟨0,.e⟩⟩]:=by kernel_rfl
end Go.Abs

