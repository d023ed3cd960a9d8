/-
  DERIVED. GIVEN WITH THE SEED: THE CARDS: each row of YtnkameckipjfiaaGreatDoorRows.lean that lists a variable, with what it lists TIED to the program's text (the seventh form; the later family's looks); each row that meets fmt, with fmt's text TOLD by the authors' own Lean function (tested against real Go, not proved from fmt's source: count such statements apart). THE CARD IS WHAT COUNTS. Prove the row's statement (the work); the ties are given (YtnkameckipjfiaaGreatDoorTie.lean); close each card by the builder's one call (the guide's Derived/Test/ToyasCard.lean, 'card_holds'). Laid BY PROGRAM, IN A SANDBOX (cutbox-door.mjs). By AI agents, Wed Nov 11 2026. No macro, syntax, notation, axiom, sorry.
-/
import Derived.Test.YtnkameckipjfiaaGreatDoorRows
import GoSem.ClaimSeven
namespace Go.Proofs.YtnkameckipjfiaaGreatDoor
namespace Rows

/-- THE TIED CARD OF 'exegetelaw22.HealLists'. -/
def healListsCard : Claim7 := { stood := { row := healListsRow, standIns := [], harness := (true, "96f01776af0d217621264535841f5c15973c126fb7bc10d0db641fa6a7e48db7"), looks := true }, kinds := [], alts := [], laidByText := true, laidKinds := [.data, .pinned], laidTests := true, laidLooks := .later }
def HealListsCardSaid : Prop := Claim7.holds Tryz.pinned (.plain (OpenSpec.ofChange healListsSpec)) healListsCard

/-- THE TIED CARD OF 'exegetelaw22.HealLines'. -/
def healLinesCard : Claim7 := { stood := { row := healLinesRow, standIns := [], harness := (true, "96f01776af0d217621264535841f5c15973c126fb7bc10d0db641fa6a7e48db7"), looks := true }, kinds := [], alts := [], laidByText := true, laidKinds := [.data, .pinned], laidTests := true, laidLooks := .later }
def HealLinesCardSaid : Prop := Claim7.holds Tryz.pinned (.plain (OpenSpec.ofChange healLinesSpec)) healLinesCard

/-- THE SECOND FORM's CARD OF 'exegetelaw22.HealLists'. -/
def healListsUptoCard : Claim7 := { stood := { row := healListsUptoRow, standIns := [], harness := (true, "96f01776af0d217621264535841f5c15973c126fb7bc10d0db641fa6a7e48db7"), looks := true }, kinds := [], alts := [], laidByText := true, laidKinds := [.data, .pinned], laidTests := true, laidLooks := .later }
def HealListsUptoCardSaid : Prop := Claim7.holds Tryz.pinned (.plain (OpenSpec.upto healListsSpec)) healListsUptoCard

/-- THE SECOND FORM's CARD OF 'exegetelaw22.HealLines'. -/
def healLinesUptoCard : Claim7 := { stood := { row := healLinesUptoRow, standIns := [], harness := (true, "96f01776af0d217621264535841f5c15973c126fb7bc10d0db641fa6a7e48db7"), looks := true }, kinds := [], alts := [], laidByText := true, laidKinds := [.data, .pinned], laidTests := true, laidLooks := .later }
def HealLinesUptoCardSaid : Prop := Claim7.holds Tryz.pinned (.plain (OpenSpec.upto healLinesSpec)) healLinesUptoCard
end Rows
end Go.Proofs.YtnkameckipjfiaaGreatDoor
