/-
  DERIVED. GIVEN WITH THE SEED: THE CARDS: each row of YtjepefjpjiibgaaGreatDoorRows.lean that lists a variable, with what it lists TIED to the program's text (the seventh form; the later family's looks); each row that meets fmt, with fmt's text TOLD by the authors' own Lean function (tested against real Go, not proved from fmt's source: count such statements apart). THE CARD IS WHAT COUNTS. Prove the row's statement (the work); the ties are given (YtjepefjpjiibgaaGreatDoorTie.lean); close each card by the builder's one call (the guide's Derived/Test/ToyasCard.lean, 'card_holds'). Laid BY PROGRAM, IN A SANDBOX (cutbox-door.mjs). By AI agents, Wed Nov 11 2026. No macro, syntax, notation, axiom, sorry.
-/
import Derived.Test.YtjepefjpjiibgaaGreatDoorRows
import GoSem.ClaimSeven
namespace Go.Proofs.YtjepefjpjiibgaaGreatDoor
namespace Rows

/-- THE TIED CARD OF 'exegetelaw16.EndsBare'. -/
def endsBareCard : Claim7 := { stood := { row := endsBareRow, standIns := [], harness := (true, "4d8fdec8b6324020fda9c061a3a8959c66e9dfdf8572ac23146964da1048b8e3"), looks := true }, kinds := [], alts := [], laidByText := true, laidKinds := [.data, .pinned], laidTests := true, laidLooks := .later }
def EndsBareCardSaid : Prop := Claim7.holds Tryz.pinned (.plain (OpenSpec.ofChange endsBareSpec)) endsBareCard

/-- THE TIED CARD OF 'exegetelaw16.EndsAlts'. -/
def endsAltsCard : Claim7 := { stood := { row := endsAltsRow, standIns := [], harness := (true, "4d8fdec8b6324020fda9c061a3a8959c66e9dfdf8572ac23146964da1048b8e3"), looks := true }, kinds := [], alts := [], laidByText := true, laidKinds := [.data, .pinned], laidTests := true, laidLooks := .later }
def EndsAltsCardSaid : Prop := Claim7.holds Tryz.pinned (.plain (OpenSpec.ofChange endsAltsSpec)) endsAltsCard

/-- THE TIED CARD OF 'exegetelaw16.EndsAfter'. -/
def endsAfterCard : Claim7 := { stood := { row := endsAfterRow, standIns := [], harness := (true, "4d8fdec8b6324020fda9c061a3a8959c66e9dfdf8572ac23146964da1048b8e3"), looks := true }, kinds := [], alts := [], laidByText := true, laidKinds := [.data, .pinned], laidTests := true, laidLooks := .later }
def EndsAfterCardSaid : Prop := Claim7.holds Tryz.pinned (.plain (OpenSpec.ofChange endsAfterSpec)) endsAfterCard

/-- THE TIED CARD OF 'exegetelaw16.EndsBehind'. -/
def endsBehindCard : Claim7 := { stood := { row := endsBehindRow, standIns := [], harness := (true, "4d8fdec8b6324020fda9c061a3a8959c66e9dfdf8572ac23146964da1048b8e3"), looks := true }, kinds := [], alts := [], laidByText := true, laidKinds := [.data, .pinned], laidTests := true, laidLooks := .later }
def EndsBehindCardSaid : Prop := Claim7.holds Tryz.pinned (.plain (OpenSpec.ofChange endsBehindSpec)) endsBehindCard

/-- THE SECOND FORM's CARD OF 'exegetelaw16.EndsBare'. -/
def endsBareUptoCard : Claim7 := { stood := { row := endsBareUptoRow, standIns := [], harness := (true, "4d8fdec8b6324020fda9c061a3a8959c66e9dfdf8572ac23146964da1048b8e3"), looks := true }, kinds := [], alts := [], laidByText := true, laidKinds := [.data, .pinned], laidTests := true, laidLooks := .later }
def EndsBareUptoCardSaid : Prop := Claim7.holds Tryz.pinned (.plain (OpenSpec.upto endsBareSpec)) endsBareUptoCard

/-- THE SECOND FORM's CARD OF 'exegetelaw16.EndsAlts'. -/
def endsAltsUptoCard : Claim7 := { stood := { row := endsAltsUptoRow, standIns := [], harness := (true, "4d8fdec8b6324020fda9c061a3a8959c66e9dfdf8572ac23146964da1048b8e3"), looks := true }, kinds := [], alts := [], laidByText := true, laidKinds := [.data, .pinned], laidTests := true, laidLooks := .later }
def EndsAltsUptoCardSaid : Prop := Claim7.holds Tryz.pinned (.plain (OpenSpec.upto endsAltsSpec)) endsAltsUptoCard

/-- THE SECOND FORM's CARD OF 'exegetelaw16.EndsAfter'. -/
def endsAfterUptoCard : Claim7 := { stood := { row := endsAfterUptoRow, standIns := [], harness := (true, "4d8fdec8b6324020fda9c061a3a8959c66e9dfdf8572ac23146964da1048b8e3"), looks := true }, kinds := [], alts := [], laidByText := true, laidKinds := [.data, .pinned], laidTests := true, laidLooks := .later }
def EndsAfterUptoCardSaid : Prop := Claim7.holds Tryz.pinned (.plain (OpenSpec.upto endsAfterSpec)) endsAfterUptoCard

/-- THE SECOND FORM's CARD OF 'exegetelaw16.EndsBehind'. -/
def endsBehindUptoCard : Claim7 := { stood := { row := endsBehindUptoRow, standIns := [], harness := (true, "4d8fdec8b6324020fda9c061a3a8959c66e9dfdf8572ac23146964da1048b8e3"), looks := true }, kinds := [], alts := [], laidByText := true, laidKinds := [.data, .pinned], laidTests := true, laidLooks := .later }
def EndsBehindUptoCardSaid : Prop := Claim7.holds Tryz.pinned (.plain (OpenSpec.upto endsBehindSpec)) endsBehindUptoCard
end Rows
end Go.Proofs.YtjepefjpjiibgaaGreatDoor
