/-
  DERIVED. GIVEN WITH THE SEED: THE CARDS: each row of YtlnpapkkcmbhmaaGreatDoorRows.lean that lists a variable, with what it lists TIED to the program's text (the seventh form; the later family's looks); each row that meets fmt, with fmt's text TOLD by the authors' own Lean function (tested against real Go, not proved from fmt's source: count such statements apart). THE CARD IS WHAT COUNTS. Prove the row's statement (the work); the ties are given (YtlnpapkkcmbhmaaGreatDoorTie.lean); close each card by the builder's one call (the guide's Derived/Test/ToyasCard.lean, 'card_holds'). Laid BY PROGRAM, IN A SANDBOX (cutbox-door.mjs). By AI agents, Wed Nov 11 2026. No macro, syntax, notation, axiom, sorry.
-/
import Derived.Test.YtlnpapkkcmbhmaaGreatDoorRows
import GoSem.ClaimSeven
namespace Go.Proofs.YtlnpapkkcmbhmaaGreatDoor
namespace Rows

/-- THE TIED CARD OF 'exegetelaw21.FarTells'. -/
def farTellsCard : Claim7 := { stood := { row := farTellsRow, standIns := [], harness := (true, "eec421164abf23c85dd92cb07e967077b490d61d1faf07c7b65f7c1f0b5bb9d4"), looks := true }, kinds := [], alts := [], laidByText := true, laidKinds := [.data, .pinned], laidTests := true, laidLooks := .later }
def FarTellsCardSaid : Prop := Claim7.holds Tryz.pinned (.plain (OpenSpec.ofChange farTellsSpec)) farTellsCard

/-- THE TIED CARD OF 'exegetelaw21.FarBeginning'. -/
def farBeginningCard : Claim7 := { stood := { row := farBeginningRow, standIns := [], harness := (true, "eec421164abf23c85dd92cb07e967077b490d61d1faf07c7b65f7c1f0b5bb9d4"), looks := true }, kinds := [], alts := [], laidByText := true, laidKinds := [.data, .pinned], laidTests := true, laidLooks := .later }
def FarBeginningCardSaid : Prop := Claim7.holds Tryz.pinned (.plain (OpenSpec.ofChange farBeginningSpec)) farBeginningCard

/-- THE TIED CARD OF 'exegetelaw21.FarMarks'. -/
def farMarksCard : Claim7 := { stood := { row := farMarksRow, standIns := [], harness := (true, "eec421164abf23c85dd92cb07e967077b490d61d1faf07c7b65f7c1f0b5bb9d4"), looks := true }, kinds := [], alts := [], laidByText := true, laidKinds := [.data, .pinned], laidTests := true, laidLooks := .later }
def FarMarksCardSaid : Prop := Claim7.holds Tryz.pinned (.plain (OpenSpec.ofChange farMarksSpec)) farMarksCard

/-- THE SECOND FORM's CARD OF 'exegetelaw21.FarTells'. -/
def farTellsUptoCard : Claim7 := { stood := { row := farTellsUptoRow, standIns := [], harness := (true, "eec421164abf23c85dd92cb07e967077b490d61d1faf07c7b65f7c1f0b5bb9d4"), looks := true }, kinds := [], alts := [], laidByText := true, laidKinds := [.data, .pinned], laidTests := true, laidLooks := .later }
def FarTellsUptoCardSaid : Prop := Claim7.holds Tryz.pinned (.plain (OpenSpec.upto farTellsSpec)) farTellsUptoCard

/-- THE SECOND FORM's CARD OF 'exegetelaw21.FarBeginning'. -/
def farBeginningUptoCard : Claim7 := { stood := { row := farBeginningUptoRow, standIns := [], harness := (true, "eec421164abf23c85dd92cb07e967077b490d61d1faf07c7b65f7c1f0b5bb9d4"), looks := true }, kinds := [], alts := [], laidByText := true, laidKinds := [.data, .pinned], laidTests := true, laidLooks := .later }
def FarBeginningUptoCardSaid : Prop := Claim7.holds Tryz.pinned (.plain (OpenSpec.upto farBeginningSpec)) farBeginningUptoCard

/-- THE SECOND FORM's CARD OF 'exegetelaw21.FarMarks'. -/
def farMarksUptoCard : Claim7 := { stood := { row := farMarksUptoRow, standIns := [], harness := (true, "eec421164abf23c85dd92cb07e967077b490d61d1faf07c7b65f7c1f0b5bb9d4"), looks := true }, kinds := [], alts := [], laidByText := true, laidKinds := [.data, .pinned], laidTests := true, laidLooks := .later }
def FarMarksUptoCardSaid : Prop := Claim7.holds Tryz.pinned (.plain (OpenSpec.upto farMarksSpec)) farMarksUptoCard
end Rows
end Go.Proofs.YtlnpapkkcmbhmaaGreatDoor
