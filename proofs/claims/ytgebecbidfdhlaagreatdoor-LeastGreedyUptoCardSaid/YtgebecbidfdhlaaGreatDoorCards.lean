/-
  DERIVED. GIVEN WITH THE SEED: THE CARDS: each row of YtgebecbidfdhlaaGreatDoorRows.lean that lists a variable, with what it lists TIED to the program's text (the seventh form; the later family's looks); each row that meets fmt, with fmt's text TOLD by the authors' own Lean function (tested against real Go, not proved from fmt's source: count such statements apart). THE CARD IS WHAT COUNTS. Prove the row's statement (the work); the ties are given (YtgebecbidfdhlaaGreatDoorTie.lean); close each card by the builder's one call (the guide's Derived/Test/ToyasCard.lean, 'card_holds'). Laid BY PROGRAM, IN A SANDBOX (cutbox-door.mjs). By AI agents, Wed Nov 11 2026. No macro, syntax, notation, axiom, sorry.
-/
import Derived.Test.YtgebecbidfdhlaaGreatDoorRows
import GoSem.ClaimSeven
namespace Go.Proofs.YtgebecbidfdhlaaGreatDoor
namespace Rows

/-- THE TIED CARD OF 'exegetelaw17.CountBalls'. -/
def countBallsCard : Claim7 := { stood := { row := countBallsRow, standIns := [], harness := (true, "af6623541b054a89647b66ba67ca1dc1228e0c6d67b8c37b06e67f6ad8016219"), looks := true }, kinds := [], alts := [], laidByText := true, laidKinds := [.data, .pinned], laidTests := true, laidLooks := .later }
def CountBallsCardSaid : Prop := Claim7.holds Tryz.pinned (.plain (OpenSpec.ofChange countBallsSpec)) countBallsCard

/-- THE TIED CARD OF 'exegetelaw17.CountTwice'. -/
def countTwiceCard : Claim7 := { stood := { row := countTwiceRow, standIns := [], harness := (true, "af6623541b054a89647b66ba67ca1dc1228e0c6d67b8c37b06e67f6ad8016219"), looks := true }, kinds := [], alts := [], laidByText := true, laidKinds := [.data, .pinned], laidTests := true, laidLooks := .later }
def CountTwiceCardSaid : Prop := Claim7.holds Tryz.pinned (.plain (OpenSpec.ofChange countTwiceSpec)) countTwiceCard

/-- THE TIED CARD OF 'exegetelaw18.LeastOrder'. -/
def leastOrderCard : Claim7 := { stood := { row := leastOrderRow, standIns := [], harness := (true, "af6623541b054a89647b66ba67ca1dc1228e0c6d67b8c37b06e67f6ad8016219"), looks := true }, kinds := [], alts := [], laidByText := true, laidKinds := [.data, .pinned], laidTests := true, laidLooks := .later }
def LeastOrderCardSaid : Prop := Claim7.holds Tryz.pinned (.plain (OpenSpec.ofChange leastOrderSpec)) leastOrderCard

/-- THE TIED CARD OF 'exegetelaw18.LeastGreedy'. -/
def leastGreedyCard : Claim7 := { stood := { row := leastGreedyRow, standIns := [], harness := (true, "af6623541b054a89647b66ba67ca1dc1228e0c6d67b8c37b06e67f6ad8016219"), looks := true }, kinds := [], alts := [], laidByText := true, laidKinds := [.data, .pinned], laidTests := true, laidLooks := .later }
def LeastGreedyCardSaid : Prop := Claim7.holds Tryz.pinned (.plain (OpenSpec.ofChange leastGreedySpec)) leastGreedyCard

/-- THE SECOND FORM's CARD OF 'exegetelaw17.CountBalls'. -/
def countBallsUptoCard : Claim7 := { stood := { row := countBallsUptoRow, standIns := [], harness := (true, "af6623541b054a89647b66ba67ca1dc1228e0c6d67b8c37b06e67f6ad8016219"), looks := true }, kinds := [], alts := [], laidByText := true, laidKinds := [.data, .pinned], laidTests := true, laidLooks := .later }
def CountBallsUptoCardSaid : Prop := Claim7.holds Tryz.pinned (.plain (OpenSpec.upto countBallsSpec)) countBallsUptoCard

/-- THE SECOND FORM's CARD OF 'exegetelaw17.CountTwice'. -/
def countTwiceUptoCard : Claim7 := { stood := { row := countTwiceUptoRow, standIns := [], harness := (true, "af6623541b054a89647b66ba67ca1dc1228e0c6d67b8c37b06e67f6ad8016219"), looks := true }, kinds := [], alts := [], laidByText := true, laidKinds := [.data, .pinned], laidTests := true, laidLooks := .later }
def CountTwiceUptoCardSaid : Prop := Claim7.holds Tryz.pinned (.plain (OpenSpec.upto countTwiceSpec)) countTwiceUptoCard

/-- THE SECOND FORM's CARD OF 'exegetelaw18.LeastOrder'. -/
def leastOrderUptoCard : Claim7 := { stood := { row := leastOrderUptoRow, standIns := [], harness := (true, "af6623541b054a89647b66ba67ca1dc1228e0c6d67b8c37b06e67f6ad8016219"), looks := true }, kinds := [], alts := [], laidByText := true, laidKinds := [.data, .pinned], laidTests := true, laidLooks := .later }
def LeastOrderUptoCardSaid : Prop := Claim7.holds Tryz.pinned (.plain (OpenSpec.upto leastOrderSpec)) leastOrderUptoCard

/-- THE SECOND FORM's CARD OF 'exegetelaw18.LeastGreedy'. -/
def leastGreedyUptoCard : Claim7 := { stood := { row := leastGreedyUptoRow, standIns := [], harness := (true, "af6623541b054a89647b66ba67ca1dc1228e0c6d67b8c37b06e67f6ad8016219"), looks := true }, kinds := [], alts := [], laidByText := true, laidKinds := [.data, .pinned], laidTests := true, laidLooks := .later }
def LeastGreedyUptoCardSaid : Prop := Claim7.holds Tryz.pinned (.plain (OpenSpec.upto leastGreedySpec)) leastGreedyUptoCard
end Rows
end Go.Proofs.YtgebecbidfdhlaaGreatDoor
