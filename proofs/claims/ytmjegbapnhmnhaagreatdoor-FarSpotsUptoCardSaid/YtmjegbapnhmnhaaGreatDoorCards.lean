/-
  DERIVED. GIVEN WITH THE SEED: THE CARDS: each row of YtmjegbapnhmnhaaGreatDoorRows.lean that lists a variable, with what it lists TIED to the program's text (the seventh form; the later family's looks); each row that meets fmt, with fmt's text TOLD by the authors' own Lean function (tested against real Go, not proved from fmt's source: count such statements apart). THE CARD IS WHAT COUNTS. Prove the row's statement (the work); the ties are given (YtmjegbapnhmnhaaGreatDoorTie.lean); close each card by the builder's one call (the guide's Derived/Test/ToyasCard.lean, 'card_holds'). Laid BY PROGRAM, IN A SANDBOX (cutbox-door.mjs). By AI agents, Wed Nov 11 2026. No macro, syntax, notation, axiom, sorry.
-/
import Derived.Test.YtmjegbapnhmnhaaGreatDoorRows
import GoSem.ClaimSeven
namespace Go.Proofs.YtmjegbapnhmnhaaGreatDoor
namespace Rows

/-- THE TIED CARD OF 'exegetelaw21.FarMarks'. -/
def farMarksCard : Claim7 := { stood := { row := farMarksRow, standIns := [], harness := (true, "c097852cf71ca959fe55dd785982a6dd3ebc2237cc6fe84b2799e836c728dfaa"), looks := true }, kinds := [], alts := [], laidByText := true, laidKinds := [.data, .pinned], laidTests := true, laidLooks := .later }
def FarMarksCardSaid : Prop := Claim7.holds Tryz.pinned (.plain (OpenSpec.ofChange farMarksSpec)) farMarksCard

/-- THE TIED CARD OF 'exegetelaw21.FarBounds'. -/
def farBoundsCard : Claim7 := { stood := { row := farBoundsRow, standIns := [], harness := (true, "c097852cf71ca959fe55dd785982a6dd3ebc2237cc6fe84b2799e836c728dfaa"), looks := true }, kinds := [], alts := [], laidByText := true, laidKinds := [.data, .pinned], laidTests := true, laidLooks := .later }
def FarBoundsCardSaid : Prop := Claim7.holds Tryz.pinned (.plain (OpenSpec.ofChange farBoundsSpec)) farBoundsCard

/-- THE TIED CARD OF 'exegetelaw21.FarSpots'. -/
def farSpotsCard : Claim7 := { stood := { row := farSpotsRow, standIns := [], harness := (true, "c097852cf71ca959fe55dd785982a6dd3ebc2237cc6fe84b2799e836c728dfaa"), looks := true }, kinds := [], alts := [], laidByText := true, laidKinds := [.data, .pinned], laidTests := true, laidLooks := .later }
def FarSpotsCardSaid : Prop := Claim7.holds Tryz.pinned (.plain (OpenSpec.ofChange farSpotsSpec)) farSpotsCard

/-- THE TIED CARD OF 'exegetelaw22.HealLists'. -/
def healListsCard : Claim7 := { stood := { row := healListsRow, standIns := [], harness := (true, "c097852cf71ca959fe55dd785982a6dd3ebc2237cc6fe84b2799e836c728dfaa"), looks := true }, kinds := [], alts := [], laidByText := true, laidKinds := [.data, .pinned], laidTests := true, laidLooks := .later }
def HealListsCardSaid : Prop := Claim7.holds Tryz.pinned (.plain (OpenSpec.ofChange healListsSpec)) healListsCard

/-- THE TIED CARD OF 'exegetelaw22.HealLines'. -/
def healLinesCard : Claim7 := { stood := { row := healLinesRow, standIns := [], harness := (true, "c097852cf71ca959fe55dd785982a6dd3ebc2237cc6fe84b2799e836c728dfaa"), looks := true }, kinds := [], alts := [], laidByText := true, laidKinds := [.data, .pinned], laidTests := true, laidLooks := .later }
def HealLinesCardSaid : Prop := Claim7.holds Tryz.pinned (.plain (OpenSpec.ofChange healLinesSpec)) healLinesCard

/-- THE TIED CARD OF 'exegetelaw20.ParseWords'. -/
def parseWordsCard : Claim7 := { stood := { row := parseWordsRow, standIns := [], harness := (true, "c097852cf71ca959fe55dd785982a6dd3ebc2237cc6fe84b2799e836c728dfaa"), looks := true }, kinds := [], alts := [], laidByText := true, laidKinds := [.data, .pinned], laidTests := true, laidLooks := .later }
def ParseWordsCardSaid : Prop := Claim7.holds Tryz.pinned (.plain (OpenSpec.ofChange parseWordsSpec)) parseWordsCard

/-- THE SECOND FORM's CARD OF 'exegetelaw21.FarMarks'. -/
def farMarksUptoCard : Claim7 := { stood := { row := farMarksUptoRow, standIns := [], harness := (true, "c097852cf71ca959fe55dd785982a6dd3ebc2237cc6fe84b2799e836c728dfaa"), looks := true }, kinds := [], alts := [], laidByText := true, laidKinds := [.data, .pinned], laidTests := true, laidLooks := .later }
def FarMarksUptoCardSaid : Prop := Claim7.holds Tryz.pinned (.plain (OpenSpec.upto farMarksSpec)) farMarksUptoCard

/-- THE SECOND FORM's CARD OF 'exegetelaw21.FarBounds'. -/
def farBoundsUptoCard : Claim7 := { stood := { row := farBoundsUptoRow, standIns := [], harness := (true, "c097852cf71ca959fe55dd785982a6dd3ebc2237cc6fe84b2799e836c728dfaa"), looks := true }, kinds := [], alts := [], laidByText := true, laidKinds := [.data, .pinned], laidTests := true, laidLooks := .later }
def FarBoundsUptoCardSaid : Prop := Claim7.holds Tryz.pinned (.plain (OpenSpec.upto farBoundsSpec)) farBoundsUptoCard

/-- THE SECOND FORM's CARD OF 'exegetelaw21.FarSpots'. -/
def farSpotsUptoCard : Claim7 := { stood := { row := farSpotsUptoRow, standIns := [], harness := (true, "c097852cf71ca959fe55dd785982a6dd3ebc2237cc6fe84b2799e836c728dfaa"), looks := true }, kinds := [], alts := [], laidByText := true, laidKinds := [.data, .pinned], laidTests := true, laidLooks := .later }
def FarSpotsUptoCardSaid : Prop := Claim7.holds Tryz.pinned (.plain (OpenSpec.upto farSpotsSpec)) farSpotsUptoCard

/-- THE SECOND FORM's CARD OF 'exegetelaw22.HealLists'. -/
def healListsUptoCard : Claim7 := { stood := { row := healListsUptoRow, standIns := [], harness := (true, "c097852cf71ca959fe55dd785982a6dd3ebc2237cc6fe84b2799e836c728dfaa"), looks := true }, kinds := [], alts := [], laidByText := true, laidKinds := [.data, .pinned], laidTests := true, laidLooks := .later }
def HealListsUptoCardSaid : Prop := Claim7.holds Tryz.pinned (.plain (OpenSpec.upto healListsSpec)) healListsUptoCard

/-- THE SECOND FORM's CARD OF 'exegetelaw22.HealLines'. -/
def healLinesUptoCard : Claim7 := { stood := { row := healLinesUptoRow, standIns := [], harness := (true, "c097852cf71ca959fe55dd785982a6dd3ebc2237cc6fe84b2799e836c728dfaa"), looks := true }, kinds := [], alts := [], laidByText := true, laidKinds := [.data, .pinned], laidTests := true, laidLooks := .later }
def HealLinesUptoCardSaid : Prop := Claim7.holds Tryz.pinned (.plain (OpenSpec.upto healLinesSpec)) healLinesUptoCard

/-- THE SECOND FORM's CARD OF 'exegetelaw20.ParseWords'. -/
def parseWordsUptoCard : Claim7 := { stood := { row := parseWordsUptoRow, standIns := [], harness := (true, "c097852cf71ca959fe55dd785982a6dd3ebc2237cc6fe84b2799e836c728dfaa"), looks := true }, kinds := [], alts := [], laidByText := true, laidKinds := [.data, .pinned], laidTests := true, laidLooks := .later }
def ParseWordsUptoCardSaid : Prop := Claim7.holds Tryz.pinned (.plain (OpenSpec.upto parseWordsSpec)) parseWordsUptoCard
end Rows
end Go.Proofs.YtmjegbapnhmnhaaGreatDoor
