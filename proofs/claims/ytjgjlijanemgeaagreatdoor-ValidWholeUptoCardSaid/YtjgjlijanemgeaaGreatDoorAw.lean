/- The law's first call, run by the kernel: it answers true. -/
import Derived.Test.YtjgjlijanemgeaaGreatDoorLk
namespace Go.Proofs.YtjgjlijanemgeaaGreatDoor
open Go Go.Abs
theorem awakeRun : (fun o : Abs.Obj => isT (evCall PR 4000 1 (.fn 381 [] []) [] ⟨1, .n (some o) .e .e⟩)) = fun _ => true := by kernel_rfl
theorem awake : Awake 381 := awake_of (n := 3999) rfl rfl rfl fun o => congrFun awakeRun o
end Go.Proofs.YtjgjlijanemgeaaGreatDoor

