/-
  DERIVED. GIVEN WITH THE SEED: THE CARDS: each row of YtjgjlijanemgeaaGreatDoorRows.lean that lists a variable, with what it lists TIED to the program's text (the seventh form; the later family's looks); each row that meets fmt, with fmt's text TOLD by the authors' own Lean function (tested against real Go, not proved from fmt's source: count such statements apart). THE CARD IS WHAT COUNTS. Prove the row's statement (the work); the ties are given (YtjgjlijanemgeaaGreatDoorTie.lean); close each card by the builder's one call (the guide's Derived/Test/ToyasCard.lean, 'card_holds'). Laid BY PROGRAM, IN A SANDBOX (cutbox-door.mjs). By AI agents, Wed Nov 11 2026. No macro, syntax, notation, axiom, sorry.
-/
import Derived.Test.YtjgjlijanemgeaaGreatDoorRows
import GoSem.ClaimSeven
namespace Go.Proofs.YtjgjlijanemgeaaGreatDoor
namespace Rows

/-- THE TIED CARD OF 'exegetelaw19.ValidLess'. -/
def validLessCard : Claim7 := { stood := { row := validLessRow, standIns := [], harness := (true, "ecc45cd5e6499fa0376e5e493f1577a54fe3347b206d24b24f906b375fa8ea2a"), looks := true }, kinds := [], alts := [], laidByText := true, laidKinds := [.data, .pinned], laidTests := true, laidLooks := .later }
def ValidLessCardSaid : Prop := Claim7.holds Tryz.pinned (.plain (OpenSpec.ofChange validLessSpec)) validLessCard

/-- THE TIED CARD OF 'exegetelaw19.ValidHeal'. -/
def validHealCard : Claim7 := { stood := { row := validHealRow, standIns := [], harness := (true, "ecc45cd5e6499fa0376e5e493f1577a54fe3347b206d24b24f906b375fa8ea2a"), looks := true }, kinds := [], alts := [], laidByText := true, laidKinds := [.data, .pinned], laidTests := true, laidLooks := .later }
def ValidHealCardSaid : Prop := Claim7.holds Tryz.pinned (.plain (OpenSpec.ofChange validHealSpec)) validHealCard

/-- THE TIED CARD OF 'exegetelaw19.ValidWhole'. -/
def validWholeCard : Claim7 := { stood := { row := validWholeRow, standIns := [], harness := (true, "ecc45cd5e6499fa0376e5e493f1577a54fe3347b206d24b24f906b375fa8ea2a"), looks := true }, kinds := [], alts := [], laidByText := true, laidKinds := [.data, .pinned], laidTests := true, laidLooks := .later }
def ValidWholeCardSaid : Prop := Claim7.holds Tryz.pinned (.plain (OpenSpec.ofChange validWholeSpec)) validWholeCard

/-- THE TIED CARD OF 'exegetelaw18.LeastOrder'. -/
def leastOrderCard : Claim7 := { stood := { row := leastOrderRow, standIns := [], harness := (true, "ecc45cd5e6499fa0376e5e493f1577a54fe3347b206d24b24f906b375fa8ea2a"), looks := true }, kinds := [], alts := [], laidByText := true, laidKinds := [.data, .pinned], laidTests := true, laidLooks := .later }
def LeastOrderCardSaid : Prop := Claim7.holds Tryz.pinned (.plain (OpenSpec.ofChange leastOrderSpec)) leastOrderCard

/-- THE TIED CARD OF 'exegetelaw17.CountOne'. -/
def countOneCard : Claim7 := { stood := { row := countOneRow, standIns := [], harness := (true, "ecc45cd5e6499fa0376e5e493f1577a54fe3347b206d24b24f906b375fa8ea2a"), looks := true }, kinds := [], alts := [], laidByText := true, laidKinds := [.data, .pinned], laidTests := true, laidLooks := .later }
def CountOneCardSaid : Prop := Claim7.holds Tryz.pinned (.plain (OpenSpec.ofChange countOneSpec)) countOneCard

/-- THE TIED CARD OF 'exegetelaw17.CountEnds'. -/
def countEndsCard : Claim7 := { stood := { row := countEndsRow, standIns := [], harness := (true, "ecc45cd5e6499fa0376e5e493f1577a54fe3347b206d24b24f906b375fa8ea2a"), looks := true }, kinds := [], alts := [], laidByText := true, laidKinds := [.data, .pinned], laidTests := true, laidLooks := .later }
def CountEndsCardSaid : Prop := Claim7.holds Tryz.pinned (.plain (OpenSpec.ofChange countEndsSpec)) countEndsCard

/-- THE SECOND FORM's CARD OF 'exegetelaw19.ValidLess'. -/
def validLessUptoCard : Claim7 := { stood := { row := validLessUptoRow, standIns := [], harness := (true, "ecc45cd5e6499fa0376e5e493f1577a54fe3347b206d24b24f906b375fa8ea2a"), looks := true }, kinds := [], alts := [], laidByText := true, laidKinds := [.data, .pinned], laidTests := true, laidLooks := .later }
def ValidLessUptoCardSaid : Prop := Claim7.holds Tryz.pinned (.plain (OpenSpec.upto validLessSpec)) validLessUptoCard

/-- THE SECOND FORM's CARD OF 'exegetelaw19.ValidHeal'. -/
def validHealUptoCard : Claim7 := { stood := { row := validHealUptoRow, standIns := [], harness := (true, "ecc45cd5e6499fa0376e5e493f1577a54fe3347b206d24b24f906b375fa8ea2a"), looks := true }, kinds := [], alts := [], laidByText := true, laidKinds := [.data, .pinned], laidTests := true, laidLooks := .later }
def ValidHealUptoCardSaid : Prop := Claim7.holds Tryz.pinned (.plain (OpenSpec.upto validHealSpec)) validHealUptoCard

/-- THE SECOND FORM's CARD OF 'exegetelaw19.ValidWhole'. -/
def validWholeUptoCard : Claim7 := { stood := { row := validWholeUptoRow, standIns := [], harness := (true, "ecc45cd5e6499fa0376e5e493f1577a54fe3347b206d24b24f906b375fa8ea2a"), looks := true }, kinds := [], alts := [], laidByText := true, laidKinds := [.data, .pinned], laidTests := true, laidLooks := .later }
def ValidWholeUptoCardSaid : Prop := Claim7.holds Tryz.pinned (.plain (OpenSpec.upto validWholeSpec)) validWholeUptoCard

/-- THE SECOND FORM's CARD OF 'exegetelaw18.LeastOrder'. -/
def leastOrderUptoCard : Claim7 := { stood := { row := leastOrderUptoRow, standIns := [], harness := (true, "ecc45cd5e6499fa0376e5e493f1577a54fe3347b206d24b24f906b375fa8ea2a"), looks := true }, kinds := [], alts := [], laidByText := true, laidKinds := [.data, .pinned], laidTests := true, laidLooks := .later }
def LeastOrderUptoCardSaid : Prop := Claim7.holds Tryz.pinned (.plain (OpenSpec.upto leastOrderSpec)) leastOrderUptoCard

/-- THE SECOND FORM's CARD OF 'exegetelaw17.CountOne'. -/
def countOneUptoCard : Claim7 := { stood := { row := countOneUptoRow, standIns := [], harness := (true, "ecc45cd5e6499fa0376e5e493f1577a54fe3347b206d24b24f906b375fa8ea2a"), looks := true }, kinds := [], alts := [], laidByText := true, laidKinds := [.data, .pinned], laidTests := true, laidLooks := .later }
def CountOneUptoCardSaid : Prop := Claim7.holds Tryz.pinned (.plain (OpenSpec.upto countOneSpec)) countOneUptoCard

/-- THE SECOND FORM's CARD OF 'exegetelaw17.CountEnds'. -/
def countEndsUptoCard : Claim7 := { stood := { row := countEndsUptoRow, standIns := [], harness := (true, "ecc45cd5e6499fa0376e5e493f1577a54fe3347b206d24b24f906b375fa8ea2a"), looks := true }, kinds := [], alts := [], laidByText := true, laidKinds := [.data, .pinned], laidTests := true, laidLooks := .later }
def CountEndsUptoCardSaid : Prop := Claim7.holds Tryz.pinned (.plain (OpenSpec.upto countEndsSpec)) countEndsUptoCard
end Rows
end Go.Proofs.YtjgjlijanemgeaaGreatDoor
