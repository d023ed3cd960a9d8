/-
  DERIVED. GIVEN WITH THE SEED: THE CARDS: each row of YteibdjhgbikoaaaGreatDoorRows.lean that lists a variable, with what it lists TIED to the program's text (the seventh form; the later family's looks); each row that meets fmt, with fmt's text TOLD by the authors' own Lean function (tested against real Go, not proved from fmt's source: count such statements apart). THE CARD IS WHAT COUNTS. Prove the row's statement (the work); the ties are given (YteibdjhgbikoaaaGreatDoorTie.lean); close each card by the builder's one call (the guide's Derived/Test/ToyasCard.lean, 'card_holds'). Laid BY PROGRAM, IN A SANDBOX (cutbox-door.mjs). By AI agents, Wed Nov 11 2026. No macro, syntax, notation, axiom, sorry.
-/
import Derived.Test.YteibdjhgbikoaaaGreatDoorRows
import GoSem.ClaimSeven
namespace Go.Proofs.YteibdjhgbikoaaaGreatDoor
namespace Rows

/-- THE TIED CARD OF 'exegetelaw16.EndsOrder'. -/
def endsOrderCard : Claim7 := { stood := { row := endsOrderRow, standIns := [], harness := (true, "d09bf779680baed0fcfbe5cbb2d637496da54519e816df6701f10635144903ba"), looks := true }, kinds := [], alts := [], laidByText := true, laidKinds := [.data, .pinned], laidTests := true, laidLooks := .later }
def EndsOrderCardSaid : Prop := Claim7.holds Tryz.pinned (.plain (OpenSpec.ofChange endsOrderSpec)) endsOrderCard

/-- THE TIED CARD OF 'exegetelaw16.EndsMarks'. -/
def endsMarksCard : Claim7 := { stood := { row := endsMarksRow, standIns := [], harness := (true, "d09bf779680baed0fcfbe5cbb2d637496da54519e816df6701f10635144903ba"), looks := true }, kinds := [], alts := [], laidByText := true, laidKinds := [.data, .pinned], laidTests := true, laidLooks := .later }
def EndsMarksCardSaid : Prop := Claim7.holds Tryz.pinned (.plain (OpenSpec.ofChange endsMarksSpec)) endsMarksCard

/-- THE TIED CARD OF 'exegetelaw16.EndsHeal'. -/
def endsHealCard : Claim7 := { stood := { row := endsHealRow, standIns := [], harness := (true, "d09bf779680baed0fcfbe5cbb2d637496da54519e816df6701f10635144903ba"), looks := true }, kinds := [], alts := [], laidByText := true, laidKinds := [.data, .pinned], laidTests := true, laidLooks := .later }
def EndsHealCardSaid : Prop := Claim7.holds Tryz.pinned (.plain (OpenSpec.ofChange endsHealSpec)) endsHealCard

/-- THE TIED CARD OF 'exegetelaw16.EndsSteps'. -/
def endsStepsCard : Claim7 := { stood := { row := endsStepsRow, standIns := [], harness := (true, "d09bf779680baed0fcfbe5cbb2d637496da54519e816df6701f10635144903ba"), looks := true }, kinds := [], alts := [], laidByText := true, laidKinds := [.data, .pinned], laidTests := true, laidLooks := .later }
def EndsStepsCardSaid : Prop := Claim7.holds Tryz.pinned (.plain (OpenSpec.ofChange endsStepsSpec)) endsStepsCard

/-- THE TIED CARD OF 'exegetelaw16.EndsBare'. -/
def endsBareCard : Claim7 := { stood := { row := endsBareRow, standIns := [], harness := (true, "d09bf779680baed0fcfbe5cbb2d637496da54519e816df6701f10635144903ba"), looks := true }, kinds := [], alts := [], laidByText := true, laidKinds := [.data, .pinned], laidTests := true, laidLooks := .later }
def EndsBareCardSaid : Prop := Claim7.holds Tryz.pinned (.plain (OpenSpec.ofChange endsBareSpec)) endsBareCard

/-- THE TIED CARD OF 'exegetelaw16.EndsBehind'. -/
def endsBehindCard : Claim7 := { stood := { row := endsBehindRow, standIns := [], harness := (true, "d09bf779680baed0fcfbe5cbb2d637496da54519e816df6701f10635144903ba"), looks := true }, kinds := [], alts := [], laidByText := true, laidKinds := [.data, .pinned], laidTests := true, laidLooks := .later }
def EndsBehindCardSaid : Prop := Claim7.holds Tryz.pinned (.plain (OpenSpec.ofChange endsBehindSpec)) endsBehindCard

/-- THE TIED CARD OF 'exegetelaw16.EndsAlts'. -/
def endsAltsCard : Claim7 := { stood := { row := endsAltsRow, standIns := [], harness := (true, "d09bf779680baed0fcfbe5cbb2d637496da54519e816df6701f10635144903ba"), looks := true }, kinds := [], alts := [], laidByText := true, laidKinds := [.data, .pinned], laidTests := true, laidLooks := .later }
def EndsAltsCardSaid : Prop := Claim7.holds Tryz.pinned (.plain (OpenSpec.ofChange endsAltsSpec)) endsAltsCard

/-- THE TIED CARD OF 'exegetelaw16.EndsAfter'. -/
def endsAfterCard : Claim7 := { stood := { row := endsAfterRow, standIns := [], harness := (true, "d09bf779680baed0fcfbe5cbb2d637496da54519e816df6701f10635144903ba"), looks := true }, kinds := [], alts := [], laidByText := true, laidKinds := [.data, .pinned], laidTests := true, laidLooks := .later }
def EndsAfterCardSaid : Prop := Claim7.holds Tryz.pinned (.plain (OpenSpec.ofChange endsAfterSpec)) endsAfterCard

/-- THE TIED CARD OF 'exegetelaw21.FarBounds'. -/
def farBoundsCard : Claim7 := { stood := { row := farBoundsRow, standIns := [], harness := (true, "d09bf779680baed0fcfbe5cbb2d637496da54519e816df6701f10635144903ba"), looks := true }, kinds := [], alts := [], laidByText := true, laidKinds := [.data, .pinned], laidTests := true, laidLooks := .later }
def FarBoundsCardSaid : Prop := Claim7.holds Tryz.pinned (.plain (OpenSpec.ofChange farBoundsSpec)) farBoundsCard

/-- THE TIED CARD OF 'exegetelaw21.FarSpots'. -/
def farSpotsCard : Claim7 := { stood := { row := farSpotsRow, standIns := [], harness := (true, "d09bf779680baed0fcfbe5cbb2d637496da54519e816df6701f10635144903ba"), looks := true }, kinds := [], alts := [], laidByText := true, laidKinds := [.data, .pinned], laidTests := true, laidLooks := .later }
def FarSpotsCardSaid : Prop := Claim7.holds Tryz.pinned (.plain (OpenSpec.ofChange farSpotsSpec)) farSpotsCard

/-- THE SECOND FORM's CARD OF 'exegetelaw16.EndsOrder'. -/
def endsOrderUptoCard : Claim7 := { stood := { row := endsOrderUptoRow, standIns := [], harness := (true, "d09bf779680baed0fcfbe5cbb2d637496da54519e816df6701f10635144903ba"), looks := true }, kinds := [], alts := [], laidByText := true, laidKinds := [.data, .pinned], laidTests := true, laidLooks := .later }
def EndsOrderUptoCardSaid : Prop := Claim7.holds Tryz.pinned (.plain (OpenSpec.upto endsOrderSpec)) endsOrderUptoCard

/-- THE SECOND FORM's CARD OF 'exegetelaw16.EndsMarks'. -/
def endsMarksUptoCard : Claim7 := { stood := { row := endsMarksUptoRow, standIns := [], harness := (true, "d09bf779680baed0fcfbe5cbb2d637496da54519e816df6701f10635144903ba"), looks := true }, kinds := [], alts := [], laidByText := true, laidKinds := [.data, .pinned], laidTests := true, laidLooks := .later }
def EndsMarksUptoCardSaid : Prop := Claim7.holds Tryz.pinned (.plain (OpenSpec.upto endsMarksSpec)) endsMarksUptoCard

/-- THE SECOND FORM's CARD OF 'exegetelaw16.EndsHeal'. -/
def endsHealUptoCard : Claim7 := { stood := { row := endsHealUptoRow, standIns := [], harness := (true, "d09bf779680baed0fcfbe5cbb2d637496da54519e816df6701f10635144903ba"), looks := true }, kinds := [], alts := [], laidByText := true, laidKinds := [.data, .pinned], laidTests := true, laidLooks := .later }
def EndsHealUptoCardSaid : Prop := Claim7.holds Tryz.pinned (.plain (OpenSpec.upto endsHealSpec)) endsHealUptoCard

/-- THE SECOND FORM's CARD OF 'exegetelaw16.EndsSteps'. -/
def endsStepsUptoCard : Claim7 := { stood := { row := endsStepsUptoRow, standIns := [], harness := (true, "d09bf779680baed0fcfbe5cbb2d637496da54519e816df6701f10635144903ba"), looks := true }, kinds := [], alts := [], laidByText := true, laidKinds := [.data, .pinned], laidTests := true, laidLooks := .later }
def EndsStepsUptoCardSaid : Prop := Claim7.holds Tryz.pinned (.plain (OpenSpec.upto endsStepsSpec)) endsStepsUptoCard

/-- THE SECOND FORM's CARD OF 'exegetelaw16.EndsBare'. -/
def endsBareUptoCard : Claim7 := { stood := { row := endsBareUptoRow, standIns := [], harness := (true, "d09bf779680baed0fcfbe5cbb2d637496da54519e816df6701f10635144903ba"), looks := true }, kinds := [], alts := [], laidByText := true, laidKinds := [.data, .pinned], laidTests := true, laidLooks := .later }
def EndsBareUptoCardSaid : Prop := Claim7.holds Tryz.pinned (.plain (OpenSpec.upto endsBareSpec)) endsBareUptoCard

/-- THE SECOND FORM's CARD OF 'exegetelaw16.EndsBehind'. -/
def endsBehindUptoCard : Claim7 := { stood := { row := endsBehindUptoRow, standIns := [], harness := (true, "d09bf779680baed0fcfbe5cbb2d637496da54519e816df6701f10635144903ba"), looks := true }, kinds := [], alts := [], laidByText := true, laidKinds := [.data, .pinned], laidTests := true, laidLooks := .later }
def EndsBehindUptoCardSaid : Prop := Claim7.holds Tryz.pinned (.plain (OpenSpec.upto endsBehindSpec)) endsBehindUptoCard

/-- THE SECOND FORM's CARD OF 'exegetelaw16.EndsAlts'. -/
def endsAltsUptoCard : Claim7 := { stood := { row := endsAltsUptoRow, standIns := [], harness := (true, "d09bf779680baed0fcfbe5cbb2d637496da54519e816df6701f10635144903ba"), looks := true }, kinds := [], alts := [], laidByText := true, laidKinds := [.data, .pinned], laidTests := true, laidLooks := .later }
def EndsAltsUptoCardSaid : Prop := Claim7.holds Tryz.pinned (.plain (OpenSpec.upto endsAltsSpec)) endsAltsUptoCard

/-- THE SECOND FORM's CARD OF 'exegetelaw16.EndsAfter'. -/
def endsAfterUptoCard : Claim7 := { stood := { row := endsAfterUptoRow, standIns := [], harness := (true, "d09bf779680baed0fcfbe5cbb2d637496da54519e816df6701f10635144903ba"), looks := true }, kinds := [], alts := [], laidByText := true, laidKinds := [.data, .pinned], laidTests := true, laidLooks := .later }
def EndsAfterUptoCardSaid : Prop := Claim7.holds Tryz.pinned (.plain (OpenSpec.upto endsAfterSpec)) endsAfterUptoCard

/-- THE SECOND FORM's CARD OF 'exegetelaw21.FarBounds'. -/
def farBoundsUptoCard : Claim7 := { stood := { row := farBoundsUptoRow, standIns := [], harness := (true, "d09bf779680baed0fcfbe5cbb2d637496da54519e816df6701f10635144903ba"), looks := true }, kinds := [], alts := [], laidByText := true, laidKinds := [.data, .pinned], laidTests := true, laidLooks := .later }
def FarBoundsUptoCardSaid : Prop := Claim7.holds Tryz.pinned (.plain (OpenSpec.upto farBoundsSpec)) farBoundsUptoCard

/-- THE SECOND FORM's CARD OF 'exegetelaw21.FarSpots'. -/
def farSpotsUptoCard : Claim7 := { stood := { row := farSpotsUptoRow, standIns := [], harness := (true, "d09bf779680baed0fcfbe5cbb2d637496da54519e816df6701f10635144903ba"), looks := true }, kinds := [], alts := [], laidByText := true, laidKinds := [.data, .pinned], laidTests := true, laidLooks := .later }
def FarSpotsUptoCardSaid : Prop := Claim7.holds Tryz.pinned (.plain (OpenSpec.upto farSpotsSpec)) farSpotsUptoCard
end Rows
end Go.Proofs.YteibdjhgbikoaaaGreatDoor
