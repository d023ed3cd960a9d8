/-
  NARROWER THAN 'FOR EVERY INPUT', by the rows' own cells (each row's printed sentence says how): ValidLess: laid · ValidHeal: laid · ValidWhole: laid · LeastOrder: laid · CountOne: laid · CountEnds: laid.
  DERIVED. THE GIVEN ROWS OF THIS SEAT. 6 by the template 'for every input the law returns true; each argument reads behind the call as it read before'; 0 by the template 'total and deterministic' (their statements: YtjgjlijanemgeaaGreatDoorTotals.lean).
  GIVEN WITH THE SEED: the statements are not yours to turn. If you find one false, say at which input.
  Laid BY PROGRAM, IN A SANDBOX (cutbox-rows.mjs): the forced cells as the released guide's own fill.sh prints them over the translation 200da6a652211a40… (all of the seat's roots in one cut). By AI agents, Wed Nov 11 2026. No macro, syntax, notation, axiom, sorry.
-/
import Derived.Test.YtjgjlijanemgeaaGreatDoorChecked
import GoSem.PinnedTables
import GoSem.Claim
import GoSem.ClaimJoined
import GoSem.ClaimMapViews
import Derived.JoinedTies
import Derived.KernelRfl
namespace Go.Proofs.YtjgjlijanemgeaaGreatDoor
/- THE CELL 'sum', in the pinned program and in every row, IS THE sha256 OF THE DUMP (.gsa) THAT YtjgjlijanemgeaaGreatDoorProg.lean LOADS. Nothing in Lean hashes anything: it is a label: what it is worth is what the hold of that sum in a sandbox is worth. -/
noncomputable def Tryz.pinned : Pinned := { name := "ytjgjlijanemgeaagreatdoor", sum := "200da6a652211a4014f404021ed26daa996c46c9646d7905046a89960ac8f31e", checked := Tryz.checked }
namespace Rows
def none {H : Type} : Left H := { results := [], args := [] }

/- WHAT THE LISTED PACKAGE-LEVEL VARIABLES READ AS WHEN THE CALL BEGINS. Each datum BY PROGRAM (the guide's laid-datum.mjs) off the statement by which the dump's own 'gosem.cut.vars' lays the variable. In a bare row this is a premise. The card (YtjgjlijanemgeaaGreatDoorCards.lean) ties it to the program's text. -/
def laid_unicode_utf8_acceptRanges {H : Type} : DataW H := .agg [.agg [.lit (.int .u8 128), .lit (.int .u8 191)], .agg [.lit (.int .u8 160), .lit (.int .u8 191)], .agg [.lit (.int .u8 128), .lit (.int .u8 159)], .agg [.lit (.int .u8 144), .lit (.int .u8 191)], .agg [.lit (.int .u8 128), .lit (.int .u8 143)], .agg [.lit (.int .u8 0), .lit (.int .u8 0)], .agg [.lit (.int .u8 0), .lit (.int .u8 0)], .agg [.lit (.int .u8 0), .lit (.int .u8 0)], .agg [.lit (.int .u8 0), .lit (.int .u8 0)], .agg [.lit (.int .u8 0), .lit (.int .u8 0)], .agg [.lit (.int .u8 0), .lit (.int .u8 0)], .agg [.lit (.int .u8 0), .lit (.int .u8 0)], .agg [.lit (.int .u8 0), .lit (.int .u8 0)], .agg [.lit (.int .u8 0), .lit (.int .u8 0)], .agg [.lit (.int .u8 0), .lit (.int .u8 0)], .agg [.lit (.int .u8 0), .lit (.int .u8 0)]]
/-- One of Go's own tables, pinned by name: the form's constant. -/
def laid_unicode_utf8_first : DataW Unit := Go.Pinned.utf8First

/-- 'exegetelaw19.ValidLess': WHATEVER THE INPUT: true; the input reads as it did. -/
def validLessSpec : ChangeSpec := { name := "validLess", fn := fun _ => fun
  | [d1, d2, d3] => { results := [.lit (.bool true)], args := [d1, d2, d3] }
  | _ => none }
def validLessRow : OpenClaim := { program := "ytjgjlijanemgeaagreatdoor", sum := "200da6a652211a4014f404021ed26daa996c46c9646d7905046a89960ac8f31e", func := "exegete/exegetelaw19.ValidLess", spec := "validLess", inPlace := ["internal/bytealg.IndexByteString", "internal/bytealg.IndexString"], unfollowed := true, recurses := true, named := ["unicode/utf8.first", "unicode/utf8.acceptRanges", "internal/bytealg.MaxLen"], plainKeys := false, apart := false, laid := [("unicode/utf8.acceptRanges", laid_unicode_utf8_acceptRanges), ("unicode/utf8.first", laid_unicode_utf8_first)] }
def ValidLessSaid : Prop := validLessRow.holds Tryz.pinned (OpenSpec.ofChange validLessSpec)

/-- ITS FALSE NEIGHBOUR: 'it returns false'. Refute it at one input. -/
def validLessWrong : ChangeSpec := { name := "validLess", fn := fun _ => fun
  | [d1, d2, d3] => { results := [.lit (.bool false)], args := [d1, d2, d3] }
  | _ => none }
def ValidLessWrongFalsely : Prop := validLessRow.holds Tryz.pinned (OpenSpec.ofChange validLessWrong)

/-- 'exegetelaw19.ValidHeal': WHATEVER THE INPUT: true; the input reads as it did. -/
def validHealSpec : ChangeSpec := { name := "validHeal", fn := fun _ => fun
  | [d1, d2] => { results := [.lit (.bool true)], args := [d1, d2] }
  | _ => none }
def validHealRow : OpenClaim := { program := "ytjgjlijanemgeaagreatdoor", sum := "200da6a652211a4014f404021ed26daa996c46c9646d7905046a89960ac8f31e", func := "exegete/exegetelaw19.ValidHeal", spec := "validHeal", inPlace := ["internal/bytealg.IndexByteString", "internal/bytealg.IndexString"], unfollowed := true, recurses := true, named := ["unicode/utf8.first", "unicode/utf8.acceptRanges", "internal/bytealg.MaxLen"], plainKeys := false, apart := false, laid := [("unicode/utf8.acceptRanges", laid_unicode_utf8_acceptRanges), ("unicode/utf8.first", laid_unicode_utf8_first)] }
def ValidHealSaid : Prop := validHealRow.holds Tryz.pinned (OpenSpec.ofChange validHealSpec)

/-- ITS FALSE NEIGHBOUR: 'it returns false'. Refute it at one input. -/
def validHealWrong : ChangeSpec := { name := "validHeal", fn := fun _ => fun
  | [d1, d2] => { results := [.lit (.bool false)], args := [d1, d2] }
  | _ => none }
def ValidHealWrongFalsely : Prop := validHealRow.holds Tryz.pinned (OpenSpec.ofChange validHealWrong)

/-- 'exegetelaw19.ValidWhole': WHATEVER THE INPUT: true; the input reads as it did. -/
def validWholeSpec : ChangeSpec := { name := "validWhole", fn := fun _ => fun
  | [d1, d2, d3] => { results := [.lit (.bool true)], args := [d1, d2, d3] }
  | _ => none }
def validWholeRow : OpenClaim := { program := "ytjgjlijanemgeaagreatdoor", sum := "200da6a652211a4014f404021ed26daa996c46c9646d7905046a89960ac8f31e", func := "exegete/exegetelaw19.ValidWhole", spec := "validWhole", inPlace := ["internal/bytealg.IndexByteString", "internal/bytealg.IndexString"], unfollowed := true, recurses := true, named := ["unicode/utf8.first", "unicode/utf8.acceptRanges", "internal/bytealg.MaxLen"], plainKeys := false, apart := false, laid := [("unicode/utf8.acceptRanges", laid_unicode_utf8_acceptRanges), ("unicode/utf8.first", laid_unicode_utf8_first)] }
def ValidWholeSaid : Prop := validWholeRow.holds Tryz.pinned (OpenSpec.ofChange validWholeSpec)

/-- ITS FALSE NEIGHBOUR: 'it returns false'. Refute it at one input. -/
def validWholeWrong : ChangeSpec := { name := "validWhole", fn := fun _ => fun
  | [d1, d2, d3] => { results := [.lit (.bool false)], args := [d1, d2, d3] }
  | _ => none }
def ValidWholeWrongFalsely : Prop := validWholeRow.holds Tryz.pinned (OpenSpec.ofChange validWholeWrong)

/-- 'exegetelaw18.LeastOrder': WHATEVER THE INPUT: true; the input reads as it did. -/
def leastOrderSpec : ChangeSpec := { name := "leastOrder", fn := fun _ => fun
  | [d1, d2, d3, d4] => { results := [.lit (.bool true)], args := [d1, d2, d3, d4] }
  | _ => none }
def leastOrderRow : OpenClaim := { program := "ytjgjlijanemgeaagreatdoor", sum := "200da6a652211a4014f404021ed26daa996c46c9646d7905046a89960ac8f31e", func := "exegete/exegetelaw18.LeastOrder", spec := "leastOrder", inPlace := ["internal/bytealg.IndexByteString", "internal/bytealg.IndexString"], unfollowed := true, recurses := true, named := ["unicode/utf8.first", "unicode/utf8.acceptRanges", "internal/bytealg.MaxLen"], plainKeys := false, apart := false, laid := [("unicode/utf8.acceptRanges", laid_unicode_utf8_acceptRanges), ("unicode/utf8.first", laid_unicode_utf8_first)] }
def LeastOrderSaid : Prop := leastOrderRow.holds Tryz.pinned (OpenSpec.ofChange leastOrderSpec)

/-- ITS FALSE NEIGHBOUR: 'it returns false'. Refute it at one input. -/
def leastOrderWrong : ChangeSpec := { name := "leastOrder", fn := fun _ => fun
  | [d1, d2, d3, d4] => { results := [.lit (.bool false)], args := [d1, d2, d3, d4] }
  | _ => none }
def LeastOrderWrongFalsely : Prop := leastOrderRow.holds Tryz.pinned (OpenSpec.ofChange leastOrderWrong)

/-- 'exegetelaw17.CountOne': WHATEVER THE INPUT: true; the input reads as it did. -/
def countOneSpec : ChangeSpec := { name := "countOne", fn := fun _ => fun
  | [d1, d2] => { results := [.lit (.bool true)], args := [d1, d2] }
  | _ => none }
def countOneRow : OpenClaim := { program := "ytjgjlijanemgeaagreatdoor", sum := "200da6a652211a4014f404021ed26daa996c46c9646d7905046a89960ac8f31e", func := "exegete/exegetelaw17.CountOne", spec := "countOne", inPlace := ["internal/bytealg.IndexByteString", "internal/bytealg.IndexString"], unfollowed := true, recurses := true, named := ["unicode/utf8.first", "unicode/utf8.acceptRanges", "internal/bytealg.MaxLen"], plainKeys := false, apart := false, laid := [("unicode/utf8.acceptRanges", laid_unicode_utf8_acceptRanges), ("unicode/utf8.first", laid_unicode_utf8_first)] }
def CountOneSaid : Prop := countOneRow.holds Tryz.pinned (OpenSpec.ofChange countOneSpec)

/-- ITS FALSE NEIGHBOUR: 'it returns false'. Refute it at one input. -/
def countOneWrong : ChangeSpec := { name := "countOne", fn := fun _ => fun
  | [d1, d2] => { results := [.lit (.bool false)], args := [d1, d2] }
  | _ => none }
def CountOneWrongFalsely : Prop := countOneRow.holds Tryz.pinned (OpenSpec.ofChange countOneWrong)

/-- 'exegetelaw17.CountEnds': WHATEVER THE INPUT: true; the input reads as it did. -/
def countEndsSpec : ChangeSpec := { name := "countEnds", fn := fun _ => fun
  | [d1, d2, d3, d4, d5] => { results := [.lit (.bool true)], args := [d1, d2, d3, d4, d5] }
  | _ => none }
def countEndsRow : OpenClaim := { program := "ytjgjlijanemgeaagreatdoor", sum := "200da6a652211a4014f404021ed26daa996c46c9646d7905046a89960ac8f31e", func := "exegete/exegetelaw17.CountEnds", spec := "countEnds", inPlace := ["internal/bytealg.IndexByteString", "internal/bytealg.IndexString"], unfollowed := true, recurses := true, named := ["unicode/utf8.first", "unicode/utf8.acceptRanges", "internal/bytealg.MaxLen"], plainKeys := false, apart := false, laid := [("unicode/utf8.acceptRanges", laid_unicode_utf8_acceptRanges), ("unicode/utf8.first", laid_unicode_utf8_first)] }
def CountEndsSaid : Prop := countEndsRow.holds Tryz.pinned (OpenSpec.ofChange countEndsSpec)

/-- ITS FALSE NEIGHBOUR: 'it returns false'. Refute it at one input. -/
def countEndsWrong : ChangeSpec := { name := "countEnds", fn := fun _ => fun
  | [d1, d2, d3, d4, d5] => { results := [.lit (.bool false)], args := [d1, d2, d3, d4, d5] }
  | _ => none }
def CountEndsWrongFalsely : Prop := countEndsRow.holds Tryz.pinned (OpenSpec.ofChange countEndsWrong)

/- THE SECOND FORM. 'bulk': how many values and letters a reading holds, each counted each time it is reached (what is shared counts as often as it is met; a slice's spare places count too). A statement '..UptoSaid' is the law's where the arguments, and the package variables that the reading takes, are together of bulk at most 1048576: NARROWER than '..Said'. Prove '..Said' where nothing that the law and all that it calls make is longer than what came in: it says more and counts as full. Else prove '..UptoSaid'. A law counts once. -/
mutual
def uptoBulk {H : Type} : DataW H → Nat
  | .lit (.string bytes) => bytes.length + 1
  | .lit _ => 1
  | .nil => 1
  | .ptr d => uptoBulk d + 1
  | .slice elems spare => uptoBulkAll elems + uptoBulkAll spare + 1
  | .agg parts => uptoBulkAll parts + 1
  | .iface _ d => uptoBulk d + 1
  | .map entries => uptoBulkEntries entries + 1
  | .held _ => 1
def uptoBulkAll {H : Type} : List (DataW H) → Nat
  | [] => 0
  | d :: r => uptoBulk d + uptoBulkAll r
def uptoBulkEntries {H : Type} : List (Lit × DataW H) → Nat
  | [] => 0
  | x :: r => uptoBulkEntry x + uptoBulkEntries r
def uptoBulkEntry {H : Type} : Lit × DataW H → Nat
  | (.string bytes, d) => bytes.length + uptoBulk d + 1
  | (_, d) => uptoBulk d + 1
 end
def uptoSmall : (H : Type) → List (DataW H) → Bool := fun _ ds => decide (uptoBulkAll ds ≤ 1048576)
def OpenSpec.upto (s : _root_.Go.ChangeSpec) : _root_.Go.OpenSpec := { _root_.Go.OpenSpec.ofChange s with cond := some uptoSmall }

/-- 'exegetelaw19.ValidLess', WHERE WHAT IT READS IS OF BULK AT MOST 1048576: true; the input reads as it did. -/
def validLessUptoRow : OpenClaim := { program := "ytjgjlijanemgeaagreatdoor", sum := "200da6a652211a4014f404021ed26daa996c46c9646d7905046a89960ac8f31e", func := "exegete/exegetelaw19.ValidLess", spec := "validLess", inPlace := ["internal/bytealg.IndexByteString", "internal/bytealg.IndexString"], unfollowed := true, recurses := true, named := ["unicode/utf8.first", "unicode/utf8.acceptRanges", "internal/bytealg.MaxLen"], plainKeys := false, apart := false, laid := [("unicode/utf8.acceptRanges", laid_unicode_utf8_acceptRanges), ("unicode/utf8.first", laid_unicode_utf8_first)], narrowed := true }
def ValidLessUptoSaid : Prop := validLessUptoRow.holds Tryz.pinned (OpenSpec.upto validLessSpec)

/-- 'exegetelaw19.ValidHeal', WHERE WHAT IT READS IS OF BULK AT MOST 1048576: true; the input reads as it did. -/
def validHealUptoRow : OpenClaim := { program := "ytjgjlijanemgeaagreatdoor", sum := "200da6a652211a4014f404021ed26daa996c46c9646d7905046a89960ac8f31e", func := "exegete/exegetelaw19.ValidHeal", spec := "validHeal", inPlace := ["internal/bytealg.IndexByteString", "internal/bytealg.IndexString"], unfollowed := true, recurses := true, named := ["unicode/utf8.first", "unicode/utf8.acceptRanges", "internal/bytealg.MaxLen"], plainKeys := false, apart := false, laid := [("unicode/utf8.acceptRanges", laid_unicode_utf8_acceptRanges), ("unicode/utf8.first", laid_unicode_utf8_first)], narrowed := true }
def ValidHealUptoSaid : Prop := validHealUptoRow.holds Tryz.pinned (OpenSpec.upto validHealSpec)

/-- 'exegetelaw19.ValidWhole', WHERE WHAT IT READS IS OF BULK AT MOST 1048576: true; the input reads as it did. -/
def validWholeUptoRow : OpenClaim := { program := "ytjgjlijanemgeaagreatdoor", sum := "200da6a652211a4014f404021ed26daa996c46c9646d7905046a89960ac8f31e", func := "exegete/exegetelaw19.ValidWhole", spec := "validWhole", inPlace := ["internal/bytealg.IndexByteString", "internal/bytealg.IndexString"], unfollowed := true, recurses := true, named := ["unicode/utf8.first", "unicode/utf8.acceptRanges", "internal/bytealg.MaxLen"], plainKeys := false, apart := false, laid := [("unicode/utf8.acceptRanges", laid_unicode_utf8_acceptRanges), ("unicode/utf8.first", laid_unicode_utf8_first)], narrowed := true }
def ValidWholeUptoSaid : Prop := validWholeUptoRow.holds Tryz.pinned (OpenSpec.upto validWholeSpec)

/-- 'exegetelaw18.LeastOrder', WHERE WHAT IT READS IS OF BULK AT MOST 1048576: true; the input reads as it did. -/
def leastOrderUptoRow : OpenClaim := { program := "ytjgjlijanemgeaagreatdoor", sum := "200da6a652211a4014f404021ed26daa996c46c9646d7905046a89960ac8f31e", func := "exegete/exegetelaw18.LeastOrder", spec := "leastOrder", inPlace := ["internal/bytealg.IndexByteString", "internal/bytealg.IndexString"], unfollowed := true, recurses := true, named := ["unicode/utf8.first", "unicode/utf8.acceptRanges", "internal/bytealg.MaxLen"], plainKeys := false, apart := false, laid := [("unicode/utf8.acceptRanges", laid_unicode_utf8_acceptRanges), ("unicode/utf8.first", laid_unicode_utf8_first)], narrowed := true }
def LeastOrderUptoSaid : Prop := leastOrderUptoRow.holds Tryz.pinned (OpenSpec.upto leastOrderSpec)

/-- 'exegetelaw17.CountOne', WHERE WHAT IT READS IS OF BULK AT MOST 1048576: true; the input reads as it did. -/
def countOneUptoRow : OpenClaim := { program := "ytjgjlijanemgeaagreatdoor", sum := "200da6a652211a4014f404021ed26daa996c46c9646d7905046a89960ac8f31e", func := "exegete/exegetelaw17.CountOne", spec := "countOne", inPlace := ["internal/bytealg.IndexByteString", "internal/bytealg.IndexString"], unfollowed := true, recurses := true, named := ["unicode/utf8.first", "unicode/utf8.acceptRanges", "internal/bytealg.MaxLen"], plainKeys := false, apart := false, laid := [("unicode/utf8.acceptRanges", laid_unicode_utf8_acceptRanges), ("unicode/utf8.first", laid_unicode_utf8_first)], narrowed := true }
def CountOneUptoSaid : Prop := countOneUptoRow.holds Tryz.pinned (OpenSpec.upto countOneSpec)

/-- 'exegetelaw17.CountEnds', WHERE WHAT IT READS IS OF BULK AT MOST 1048576: true; the input reads as it did. -/
def countEndsUptoRow : OpenClaim := { program := "ytjgjlijanemgeaagreatdoor", sum := "200da6a652211a4014f404021ed26daa996c46c9646d7905046a89960ac8f31e", func := "exegete/exegetelaw17.CountEnds", spec := "countEnds", inPlace := ["internal/bytealg.IndexByteString", "internal/bytealg.IndexString"], unfollowed := true, recurses := true, named := ["unicode/utf8.first", "unicode/utf8.acceptRanges", "internal/bytealg.MaxLen"], plainKeys := false, apart := false, laid := [("unicode/utf8.acceptRanges", laid_unicode_utf8_acceptRanges), ("unicode/utf8.first", laid_unicode_utf8_first)], narrowed := true }
def CountEndsUptoSaid : Prop := countEndsUptoRow.holds Tryz.pinned (OpenSpec.upto countEndsSpec)

end Rows
end Go.Proofs.YtjgjlijanemgeaaGreatDoor
