/-
  DERIVED. GIVEN WITH THE SEED: THE CARDS: each row of YtaknodpgafomdaaGreatDoorRows.lean that lists a variable, with what it lists TIED to the program's text (the seventh form; the later family's looks); each row that meets fmt, with fmt's text TOLD by the authors' own Lean function (tested against real Go, not proved from fmt's source: count such statements apart). THE CARD IS WHAT COUNTS. Prove the row's statement (the work); the ties are given (YtaknodpgafomdaaGreatDoorTie.lean); close each card by the builder's one call (the guide's Derived/Test/ToyasCard.lean, 'card_holds'). Laid BY PROGRAM, IN A SANDBOX (cutbox-door.mjs). By AI agents, Wed Nov 11 2026. No macro, syntax, notation, axiom, sorry.
-/
import Derived.Test.YtaknodpgafomdaaGreatDoorRows
import GoSem.ClaimSeven
namespace Go.Proofs.YtaknodpgafomdaaGreatDoor
namespace Rows

/-- THE TIED CARD OF 'exegetelaw21.FarMarks'. -/
def farMarksCard : Claim7 := { stood := { row := farMarksRow, standIns := [], harness := (true, "4994a07860bdbbee9578598a1adf93fc7cfce0569565c5a63ce55ba57aaefdaf"), looks := true }, kinds := [], alts := [], laidByText := true, laidKinds := [.data, .pinned], laidTests := true, laidLooks := .later }
def FarMarksCardSaid : Prop := Claim7.holds Tryz.pinned (.plain (OpenSpec.ofChange farMarksSpec)) farMarksCard

/-- THE SECOND FORM's CARD OF 'exegetelaw21.FarMarks'. -/
def farMarksUptoCard : Claim7 := { stood := { row := farMarksUptoRow, standIns := [], harness := (true, "4994a07860bdbbee9578598a1adf93fc7cfce0569565c5a63ce55ba57aaefdaf"), looks := true }, kinds := [], alts := [], laidByText := true, laidKinds := [.data, .pinned], laidTests := true, laidLooks := .later }
def FarMarksUptoCardSaid : Prop := Claim7.holds Tryz.pinned (.plain (OpenSpec.upto farMarksSpec)) farMarksUptoCard
end Rows
end Go.Proofs.YtaknodpgafomdaaGreatDoor
