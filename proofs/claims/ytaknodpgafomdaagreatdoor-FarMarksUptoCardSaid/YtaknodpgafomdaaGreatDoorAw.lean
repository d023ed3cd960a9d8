/- The law's first call, run by the kernel: it answers true. -/
import Derived.Test.YtaknodpgafomdaaGreatDoorLk
namespace Go.Proofs.YtaknodpgafomdaaGreatDoor
open Go Go.Abs
theorem awakeRun : (fun o : Abs.Obj => isT (evCall PR 4000 1 (.fn 5 [] []) [] ⟨1, .n (some o) .e .e⟩)) = fun _ => true := by kernel_rfl
theorem awake : Awake 5 := awake_of (n := 3999) rfl rfl rfl fun o => congrFun awakeRun o
end Go.Proofs.YtaknodpgafomdaaGreatDoor

