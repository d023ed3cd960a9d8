/- What all laws of this seat share: how great a datum is, a world for the witness. -/
import Derived.Test.YtaknodpgafomdabGreatDoorLk
import Derived.Test.YtaknodpgafomdabGreatDoorCards
import Derived.Test.YtaknodpgafomdabGreatDoorTie
import Derived.WalkKit
import Derived.ProofKit
import Derived.OpenShut
import Derived.Deep.DeepHandedRow
import Derived.Lib.LaidTab
namespace Go.Proofs.YtaknodpgafomdabGreatDoor
open Go Go.Abs Go.ChangeShapes Go.WideShapes Go.ChangeAt Go.RowKit
theorem ownOff : ownKnob Tryz.prog.godebug = none := by kernel_rfl
theorem laidOut : laidOutB Tryz.prog = true := by kernel_rfl
theorem bulkAll {H : Type} : ∀ (l : List (DataW H)), (∀ d ∈ l, Rows.uptoBulk d ≤ Rows.uptoBulkAll l)
  | [], d, h => by cases h
  | a :: l, d, h => by
    simp only [Rows.uptoBulkAll]
    rcases List.mem_cons.1 h with rfl | h
    · omega
    · have := bulkAll l d h; omega
theorem bulkPos {H : Type} (d : DataW H) : 1 ≤ Rows.uptoBulk d := by
  cases d with
  | lit l => cases l <;> simp only [Rows.uptoBulk] <;> omega
  | _ => simp only [Rows.uptoBulk] <;> omega
theorem bulkLen {H : Type} : ∀ l : List (DataW H), l.length ≤ Rows.uptoBulkAll l
  | [] => Nat.zero_le _
  | a :: l => by
    have h1 := bulkPos a
    have h2 := bulkLen l
    simp only [Rows.uptoBulkAll, List.length_cons]; omega
theorem bulk {H : Type} : Bulk (Rows.uptoBulk (H := H)) where
  agg := fun ps d h => by have := bulkAll ps d h; simp only [Rows.uptoBulk]; omega
  slice := fun es sp d h => by have := bulkAll es d h; simp only [Rows.uptoBulk]; omega
  len := fun es sp => by have := bulkLen es; simp only [Rows.uptoBulk]; omega
  str := fun l => by simp only [Rows.uptoBulk]; omega
/-- A world for the witness: the settled one, the two tables holding what the text lays. -/
noncomputable def laidWorld (os : Os) : World :=
  let w := World.holding Tryz.prog os ⟨#[], #[], []⟩
  let put (g : Nat) (l : List Nat) (h : Array Go.Obj) : Array Go.Obj := h.modify g fun
    | .cells _ t frozen => .cells (l.map fun n => Value.int .u8 (Int.ofNat n)).toArray t frozen
    | o => o
  { w with heap := put ((Tryz.prog.globalNamed "unicode/utf8.first").getD 0) Go.Pinned.utf8FirstZ (put ((Tryz.prog.globalNamed "unicode/utf8.acceptRanges").getD 0) [128, 191, 160, 191, 128, 159, 144, 191, 128, 143, 0, 0, 0, 0, 0, 0, 0, 0, 0, 0, 0, 0, 0, 0, 0, 0, 0, 0, 0, 0, 0, 0] w.heap) }
end Go.Proofs.YtaknodpgafomdabGreatDoor

