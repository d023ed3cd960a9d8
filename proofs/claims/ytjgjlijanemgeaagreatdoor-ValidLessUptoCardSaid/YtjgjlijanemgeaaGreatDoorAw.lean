/- The law's first call, run by the kernel: it answers true. -/
import Derived.Test.YtjgjlijanemgeaaGreatDoorLk
namespace Go.Proofs.YtjgjlijanemgeaaGreatDoor
open Go Go.Abs
theorem awakeRun : (fun o o2 : Abs.Obj => isT (evCall PR 4000 2 (.fn 381 [] []) [] ⟨2, .n (some o) (.n (some o2) .e .e) .e⟩)) = fun _ _ => true := by kernel_rfl
theorem awake : Awake2 381 := awake2_of (n := 3999) rfl rfl rfl fun o o2 => congrFun (congrFun awakeRun o) o2
end Go.Proofs.YtjgjlijanemgeaaGreatDoor

