/-
  NARROWER THAN 'FOR EVERY INPUT', by the rows' own cells (each row's printed sentence says how): EndsOrder: laid · EndsMarks: laid · EndsHeal: laid · EndsSteps: laid · EndsBare: laid · EndsBehind: laid · EndsAlts: laid · EndsAfter: laid · FarBounds: laid · FarSpots: laid.
  DERIVED. THE GIVEN ROWS OF THIS SEAT. 10 by the template 'for every input the law returns true; each argument reads behind the call as it read before'; 0 by the template 'total and deterministic' (their statements: YteibdjhgbikoaaaGreatDoorTotals.lean).
  GIVEN WITH THE SEED: the statements are not yours to turn. If you find one false, say at which input.
  Laid BY PROGRAM, IN A SANDBOX (cutbox-rows.mjs): the forced cells as the released guide's own fill.sh prints them over the translation 603cf62475da6f35… (all of the seat's roots in one cut). By AI agents, Wed Nov 11 2026. No macro, syntax, notation, axiom, sorry.
-/
import Derived.Test.YteibdjhgbikoaaaGreatDoorChecked
import GoSem.PinnedTables
import GoSem.Claim
import GoSem.ClaimJoined
import GoSem.ClaimMapViews
import Derived.JoinedTies
import Derived.KernelRfl
namespace Go.Proofs.YteibdjhgbikoaaaGreatDoor
/- THE CELL 'sum', in the pinned program and in every row, IS THE sha256 OF THE DUMP (.gsa) THAT YteibdjhgbikoaaaGreatDoorProg.lean LOADS. Nothing in Lean hashes anything: it is a label: what it is worth is what the hold of that sum in a sandbox is worth. -/
noncomputable def Tryz.pinned : Pinned := { name := "yteibdjhgbikoaaagreatdoor", sum := "603cf62475da6f35ab20c53db91b4700b3d054db2e929b5e01219933c1e2e5ed", checked := Tryz.checked }
namespace Rows
def none {H : Type} : Left H := { results := [], args := [] }

/- WHAT THE LISTED PACKAGE-LEVEL VARIABLES READ AS WHEN THE CALL BEGINS. Each datum BY PROGRAM (the guide's laid-datum.mjs) off the statement by which the dump's own 'gosem.cut.vars' lays the variable. In a bare row this is a premise. The card (YteibdjhgbikoaaaGreatDoorCards.lean) ties it to the program's text. -/
def laid_unicode_utf8_acceptRanges {H : Type} : DataW H := .agg [.agg [.lit (.int .u8 128), .lit (.int .u8 191)], .agg [.lit (.int .u8 160), .lit (.int .u8 191)], .agg [.lit (.int .u8 128), .lit (.int .u8 159)], .agg [.lit (.int .u8 144), .lit (.int .u8 191)], .agg [.lit (.int .u8 128), .lit (.int .u8 143)], .agg [.lit (.int .u8 0), .lit (.int .u8 0)], .agg [.lit (.int .u8 0), .lit (.int .u8 0)], .agg [.lit (.int .u8 0), .lit (.int .u8 0)], .agg [.lit (.int .u8 0), .lit (.int .u8 0)], .agg [.lit (.int .u8 0), .lit (.int .u8 0)], .agg [.lit (.int .u8 0), .lit (.int .u8 0)], .agg [.lit (.int .u8 0), .lit (.int .u8 0)], .agg [.lit (.int .u8 0), .lit (.int .u8 0)], .agg [.lit (.int .u8 0), .lit (.int .u8 0)], .agg [.lit (.int .u8 0), .lit (.int .u8 0)], .agg [.lit (.int .u8 0), .lit (.int .u8 0)]]
/-- One of Go's own tables, pinned by name: the form's constant. -/
def laid_unicode_utf8_first : DataW Unit := Go.Pinned.utf8First

/-- 'exegetelaw16.EndsOrder': WHATEVER THE INPUT: true; the input reads as it did. -/
def endsOrderSpec : ChangeSpec := { name := "endsOrder", fn := fun _ => fun
  | [d1, d2, d3, d4] => { results := [.lit (.bool true)], args := [d1, d2, d3, d4] }
  | _ => none }
def endsOrderRow : OpenClaim := { program := "yteibdjhgbikoaaagreatdoor", sum := "603cf62475da6f35ab20c53db91b4700b3d054db2e929b5e01219933c1e2e5ed", func := "exegete/exegetelaw16.EndsOrder", spec := "endsOrder", inPlace := ["internal/bytealg.IndexByteString", "internal/bytealg.IndexString"], unfollowed := true, recurses := true, named := ["unicode/utf8.first", "unicode/utf8.acceptRanges", "internal/bytealg.MaxLen"], plainKeys := false, apart := false, laid := [("unicode/utf8.acceptRanges", laid_unicode_utf8_acceptRanges), ("unicode/utf8.first", laid_unicode_utf8_first)] }
def EndsOrderSaid : Prop := endsOrderRow.holds Tryz.pinned (OpenSpec.ofChange endsOrderSpec)

/-- ITS FALSE NEIGHBOUR: 'it returns false'. Refute it at one input. -/
def endsOrderWrong : ChangeSpec := { name := "endsOrder", fn := fun _ => fun
  | [d1, d2, d3, d4] => { results := [.lit (.bool false)], args := [d1, d2, d3, d4] }
  | _ => none }
def EndsOrderWrongFalsely : Prop := endsOrderRow.holds Tryz.pinned (OpenSpec.ofChange endsOrderWrong)

/-- 'exegetelaw16.EndsMarks': WHATEVER THE INPUT: true; the input reads as it did. -/
def endsMarksSpec : ChangeSpec := { name := "endsMarks", fn := fun _ => fun
  | [d1, d2, d3, d4] => { results := [.lit (.bool true)], args := [d1, d2, d3, d4] }
  | _ => none }
def endsMarksRow : OpenClaim := { program := "yteibdjhgbikoaaagreatdoor", sum := "603cf62475da6f35ab20c53db91b4700b3d054db2e929b5e01219933c1e2e5ed", func := "exegete/exegetelaw16.EndsMarks", spec := "endsMarks", inPlace := ["internal/bytealg.IndexByteString", "internal/bytealg.IndexString"], unfollowed := true, recurses := true, named := ["unicode/utf8.first", "unicode/utf8.acceptRanges", "internal/bytealg.MaxLen"], plainKeys := false, apart := false, laid := [("unicode/utf8.acceptRanges", laid_unicode_utf8_acceptRanges), ("unicode/utf8.first", laid_unicode_utf8_first)] }
def EndsMarksSaid : Prop := endsMarksRow.holds Tryz.pinned (OpenSpec.ofChange endsMarksSpec)

/-- ITS FALSE NEIGHBOUR: 'it returns false'. Refute it at one input. -/
def endsMarksWrong : ChangeSpec := { name := "endsMarks", fn := fun _ => fun
  | [d1, d2, d3, d4] => { results := [.lit (.bool false)], args := [d1, d2, d3, d4] }
  | _ => none }
def EndsMarksWrongFalsely : Prop := endsMarksRow.holds Tryz.pinned (OpenSpec.ofChange endsMarksWrong)

/-- 'exegetelaw16.EndsHeal': WHATEVER THE INPUT: true; the input reads as it did. -/
def endsHealSpec : ChangeSpec := { name := "endsHeal", fn := fun _ => fun
  | [d1, d2, d3] => { results := [.lit (.bool true)], args := [d1, d2, d3] }
  | _ => none }
def endsHealRow : OpenClaim := { program := "yteibdjhgbikoaaagreatdoor", sum := "603cf62475da6f35ab20c53db91b4700b3d054db2e929b5e01219933c1e2e5ed", func := "exegete/exegetelaw16.EndsHeal", spec := "endsHeal", inPlace := ["internal/bytealg.IndexByteString", "internal/bytealg.IndexString"], unfollowed := true, recurses := true, named := ["unicode/utf8.first", "unicode/utf8.acceptRanges", "internal/bytealg.MaxLen"], plainKeys := false, apart := false, laid := [("unicode/utf8.acceptRanges", laid_unicode_utf8_acceptRanges), ("unicode/utf8.first", laid_unicode_utf8_first)] }
def EndsHealSaid : Prop := endsHealRow.holds Tryz.pinned (OpenSpec.ofChange endsHealSpec)

/-- ITS FALSE NEIGHBOUR: 'it returns false'. Refute it at one input. -/
def endsHealWrong : ChangeSpec := { name := "endsHeal", fn := fun _ => fun
  | [d1, d2, d3] => { results := [.lit (.bool false)], args := [d1, d2, d3] }
  | _ => none }
def EndsHealWrongFalsely : Prop := endsHealRow.holds Tryz.pinned (OpenSpec.ofChange endsHealWrong)

/-- 'exegetelaw16.EndsSteps': WHATEVER THE INPUT: true; the input reads as it did. -/
def endsStepsSpec : ChangeSpec := { name := "endsSteps", fn := fun _ => fun
  | [d] => { results := [.lit (.bool true)], args := [d] }
  | _ => none }
def endsStepsRow : OpenClaim := { program := "yteibdjhgbikoaaagreatdoor", sum := "603cf62475da6f35ab20c53db91b4700b3d054db2e929b5e01219933c1e2e5ed", func := "exegete/exegetelaw16.EndsSteps", spec := "endsSteps", inPlace := ["internal/bytealg.IndexByteString", "internal/bytealg.IndexString"], unfollowed := true, recurses := true, named := ["unicode/utf8.first", "unicode/utf8.acceptRanges", "internal/bytealg.MaxLen"], plainKeys := false, apart := false, laid := [("unicode/utf8.acceptRanges", laid_unicode_utf8_acceptRanges), ("unicode/utf8.first", laid_unicode_utf8_first)] }
def EndsStepsSaid : Prop := endsStepsRow.holds Tryz.pinned (OpenSpec.ofChange endsStepsSpec)

/-- ITS FALSE NEIGHBOUR: 'it returns false'. Refute it at one input. -/
def endsStepsWrong : ChangeSpec := { name := "endsSteps", fn := fun _ => fun
  | [d] => { results := [.lit (.bool false)], args := [d] }
  | _ => none }
def EndsStepsWrongFalsely : Prop := endsStepsRow.holds Tryz.pinned (OpenSpec.ofChange endsStepsWrong)

/-- 'exegetelaw16.EndsBare': WHATEVER THE INPUT: true; the input reads as it did. -/
def endsBareSpec : ChangeSpec := { name := "endsBare", fn := fun _ => fun
  | [d1, d2, d3, d4] => { results := [.lit (.bool true)], args := [d1, d2, d3, d4] }
  | _ => none }
def endsBareRow : OpenClaim := { program := "yteibdjhgbikoaaagreatdoor", sum := "603cf62475da6f35ab20c53db91b4700b3d054db2e929b5e01219933c1e2e5ed", func := "exegete/exegetelaw16.EndsBare", spec := "endsBare", inPlace := ["internal/bytealg.IndexByteString", "internal/bytealg.IndexString"], unfollowed := true, recurses := true, named := ["unicode/utf8.first", "unicode/utf8.acceptRanges", "internal/bytealg.MaxLen"], plainKeys := false, apart := false, laid := [("unicode/utf8.acceptRanges", laid_unicode_utf8_acceptRanges), ("unicode/utf8.first", laid_unicode_utf8_first)] }
def EndsBareSaid : Prop := endsBareRow.holds Tryz.pinned (OpenSpec.ofChange endsBareSpec)

/-- ITS FALSE NEIGHBOUR: 'it returns false'. Refute it at one input. -/
def endsBareWrong : ChangeSpec := { name := "endsBare", fn := fun _ => fun
  | [d1, d2, d3, d4] => { results := [.lit (.bool false)], args := [d1, d2, d3, d4] }
  | _ => none }
def EndsBareWrongFalsely : Prop := endsBareRow.holds Tryz.pinned (OpenSpec.ofChange endsBareWrong)

/-- 'exegetelaw16.EndsBehind': WHATEVER THE INPUT: true; the input reads as it did. -/
def endsBehindSpec : ChangeSpec := { name := "endsBehind", fn := fun _ => fun
  | [d1, d2, d3, d4, d5] => { results := [.lit (.bool true)], args := [d1, d2, d3, d4, d5] }
  | _ => none }
def endsBehindRow : OpenClaim := { program := "yteibdjhgbikoaaagreatdoor", sum := "603cf62475da6f35ab20c53db91b4700b3d054db2e929b5e01219933c1e2e5ed", func := "exegete/exegetelaw16.EndsBehind", spec := "endsBehind", inPlace := ["internal/bytealg.IndexByteString", "internal/bytealg.IndexString"], unfollowed := true, recurses := true, named := ["unicode/utf8.first", "unicode/utf8.acceptRanges", "internal/bytealg.MaxLen"], plainKeys := false, apart := false, laid := [("unicode/utf8.acceptRanges", laid_unicode_utf8_acceptRanges), ("unicode/utf8.first", laid_unicode_utf8_first)] }
def EndsBehindSaid : Prop := endsBehindRow.holds Tryz.pinned (OpenSpec.ofChange endsBehindSpec)

/-- ITS FALSE NEIGHBOUR: 'it returns false'. Refute it at one input. -/
def endsBehindWrong : ChangeSpec := { name := "endsBehind", fn := fun _ => fun
  | [d1, d2, d3, d4, d5] => { results := [.lit (.bool false)], args := [d1, d2, d3, d4, d5] }
  | _ => none }
def EndsBehindWrongFalsely : Prop := endsBehindRow.holds Tryz.pinned (OpenSpec.ofChange endsBehindWrong)

/-- 'exegetelaw16.EndsAlts': WHATEVER THE INPUT: true; the input reads as it did. -/
def endsAltsSpec : ChangeSpec := { name := "endsAlts", fn := fun _ => fun
  | [d1, d2, d3, d4] => { results := [.lit (.bool true)], args := [d1, d2, d3, d4] }
  | _ => none }
def endsAltsRow : OpenClaim := { program := "yteibdjhgbikoaaagreatdoor", sum := "603cf62475da6f35ab20c53db91b4700b3d054db2e929b5e01219933c1e2e5ed", func := "exegete/exegetelaw16.EndsAlts", spec := "endsAlts", inPlace := ["internal/bytealg.IndexByteString", "internal/bytealg.IndexString"], unfollowed := true, recurses := true, named := ["unicode/utf8.first", "unicode/utf8.acceptRanges", "internal/bytealg.MaxLen"], plainKeys := false, apart := false, laid := [("unicode/utf8.acceptRanges", laid_unicode_utf8_acceptRanges), ("unicode/utf8.first", laid_unicode_utf8_first)] }
def EndsAltsSaid : Prop := endsAltsRow.holds Tryz.pinned (OpenSpec.ofChange endsAltsSpec)

/-- ITS FALSE NEIGHBOUR: 'it returns false'. Refute it at one input. -/
def endsAltsWrong : ChangeSpec := { name := "endsAlts", fn := fun _ => fun
  | [d1, d2, d3, d4] => { results := [.lit (.bool false)], args := [d1, d2, d3, d4] }
  | _ => none }
def EndsAltsWrongFalsely : Prop := endsAltsRow.holds Tryz.pinned (OpenSpec.ofChange endsAltsWrong)

/-- 'exegetelaw16.EndsAfter': WHATEVER THE INPUT: true; the input reads as it did. -/
def endsAfterSpec : ChangeSpec := { name := "endsAfter", fn := fun _ => fun
  | [d1, d2, d3, d4, d5] => { results := [.lit (.bool true)], args := [d1, d2, d3, d4, d5] }
  | _ => none }
def endsAfterRow : OpenClaim := { program := "yteibdjhgbikoaaagreatdoor", sum := "603cf62475da6f35ab20c53db91b4700b3d054db2e929b5e01219933c1e2e5ed", func := "exegete/exegetelaw16.EndsAfter", spec := "endsAfter", inPlace := ["internal/bytealg.IndexByteString", "internal/bytealg.IndexString"], unfollowed := true, recurses := true, named := ["unicode/utf8.first", "unicode/utf8.acceptRanges", "internal/bytealg.MaxLen"], plainKeys := false, apart := false, laid := [("unicode/utf8.acceptRanges", laid_unicode_utf8_acceptRanges), ("unicode/utf8.first", laid_unicode_utf8_first)] }
def EndsAfterSaid : Prop := endsAfterRow.holds Tryz.pinned (OpenSpec.ofChange endsAfterSpec)

/-- ITS FALSE NEIGHBOUR: 'it returns false'. Refute it at one input. -/
def endsAfterWrong : ChangeSpec := { name := "endsAfter", fn := fun _ => fun
  | [d1, d2, d3, d4, d5] => { results := [.lit (.bool false)], args := [d1, d2, d3, d4, d5] }
  | _ => none }
def EndsAfterWrongFalsely : Prop := endsAfterRow.holds Tryz.pinned (OpenSpec.ofChange endsAfterWrong)

/-- 'exegetelaw21.FarBounds': WHATEVER THE INPUT: true; the input reads as it did. -/
def farBoundsSpec : ChangeSpec := { name := "farBounds", fn := fun _ => fun
  | [d1, d2] => { results := [.lit (.bool true)], args := [d1, d2] }
  | _ => none }
def farBoundsRow : OpenClaim := { program := "yteibdjhgbikoaaagreatdoor", sum := "603cf62475da6f35ab20c53db91b4700b3d054db2e929b5e01219933c1e2e5ed", func := "exegete/exegetelaw21.FarBounds", spec := "farBounds", inPlace := ["internal/bytealg.IndexByteString", "internal/bytealg.IndexString"], unfollowed := true, recurses := true, named := ["unicode/utf8.first", "unicode/utf8.acceptRanges", "internal/bytealg.MaxLen"], plainKeys := false, apart := false, laid := [("unicode/utf8.acceptRanges", laid_unicode_utf8_acceptRanges), ("unicode/utf8.first", laid_unicode_utf8_first)] }
def FarBoundsSaid : Prop := farBoundsRow.holds Tryz.pinned (OpenSpec.ofChange farBoundsSpec)

/-- ITS FALSE NEIGHBOUR: 'it returns false'. Refute it at one input. -/
def farBoundsWrong : ChangeSpec := { name := "farBounds", fn := fun _ => fun
  | [d1, d2] => { results := [.lit (.bool false)], args := [d1, d2] }
  | _ => none }
def FarBoundsWrongFalsely : Prop := farBoundsRow.holds Tryz.pinned (OpenSpec.ofChange farBoundsWrong)

/-- 'exegetelaw21.FarSpots': WHATEVER THE INPUT: true; the input reads as it did. -/
def farSpotsSpec : ChangeSpec := { name := "farSpots", fn := fun _ => fun
  | [d1, d2] => { results := [.lit (.bool true)], args := [d1, d2] }
  | _ => none }
def farSpotsRow : OpenClaim := { program := "yteibdjhgbikoaaagreatdoor", sum := "603cf62475da6f35ab20c53db91b4700b3d054db2e929b5e01219933c1e2e5ed", func := "exegete/exegetelaw21.FarSpots", spec := "farSpots", inPlace := ["internal/bytealg.IndexByteString", "internal/bytealg.IndexString"], unfollowed := true, recurses := true, named := ["unicode/utf8.first", "unicode/utf8.acceptRanges", "internal/bytealg.MaxLen"], plainKeys := false, apart := false, laid := [("unicode/utf8.acceptRanges", laid_unicode_utf8_acceptRanges), ("unicode/utf8.first", laid_unicode_utf8_first)] }
def FarSpotsSaid : Prop := farSpotsRow.holds Tryz.pinned (OpenSpec.ofChange farSpotsSpec)

/-- ITS FALSE NEIGHBOUR: 'it returns false'. Refute it at one input. -/
def farSpotsWrong : ChangeSpec := { name := "farSpots", fn := fun _ => fun
  | [d1, d2] => { results := [.lit (.bool false)], args := [d1, d2] }
  | _ => none }
def FarSpotsWrongFalsely : Prop := farSpotsRow.holds Tryz.pinned (OpenSpec.ofChange farSpotsWrong)

/- THE SECOND FORM. 'bulk': how many values and letters a reading holds, each counted each time it is reached (what is shared counts as often as it is met; a slice's spare places count too). A statement '..UptoSaid' is the law's where the arguments, and the package variables that the reading takes, are together of bulk at most 1048576: NARROWER than '..Said'. Prove '..Said' where nothing that the law and all that it calls make is longer than what came in: it says more and counts as full. Else prove '..UptoSaid'. A law counts once. -/
mutual
def uptoBulk {H : Type} : DataW H → Nat
  | .lit (.string bytes) => bytes.length + 1
  | .lit _ => 1
  | .nil => 1
  | .ptr d => uptoBulk d + 1
  | .slice elems spare => uptoBulkAll elems + uptoBulkAll spare + 1
  | .agg parts => uptoBulkAll parts + 1
  | .iface _ d => uptoBulk d + 1
  | .map entries => uptoBulkEntries entries + 1
  | .held _ => 1
def uptoBulkAll {H : Type} : List (DataW H) → Nat
  | [] => 0
  | d :: r => uptoBulk d + uptoBulkAll r
def uptoBulkEntries {H : Type} : List (Lit × DataW H) → Nat
  | [] => 0
  | x :: r => uptoBulkEntry x + uptoBulkEntries r
def uptoBulkEntry {H : Type} : Lit × DataW H → Nat
  | (.string bytes, d) => bytes.length + uptoBulk d + 1
  | (_, d) => uptoBulk d + 1
 end
def uptoSmall : (H : Type) → List (DataW H) → Bool := fun _ ds => decide (uptoBulkAll ds ≤ 1048576)
def OpenSpec.upto (s : _root_.Go.ChangeSpec) : _root_.Go.OpenSpec := { _root_.Go.OpenSpec.ofChange s with cond := some uptoSmall }

/-- 'exegetelaw16.EndsOrder', WHERE WHAT IT READS IS OF BULK AT MOST 1048576: true; the input reads as it did. -/
def endsOrderUptoRow : OpenClaim := { program := "yteibdjhgbikoaaagreatdoor", sum := "603cf62475da6f35ab20c53db91b4700b3d054db2e929b5e01219933c1e2e5ed", func := "exegete/exegetelaw16.EndsOrder", spec := "endsOrder", inPlace := ["internal/bytealg.IndexByteString", "internal/bytealg.IndexString"], unfollowed := true, recurses := true, named := ["unicode/utf8.first", "unicode/utf8.acceptRanges", "internal/bytealg.MaxLen"], plainKeys := false, apart := false, laid := [("unicode/utf8.acceptRanges", laid_unicode_utf8_acceptRanges), ("unicode/utf8.first", laid_unicode_utf8_first)], narrowed := true }
def EndsOrderUptoSaid : Prop := endsOrderUptoRow.holds Tryz.pinned (OpenSpec.upto endsOrderSpec)

/-- 'exegetelaw16.EndsMarks', WHERE WHAT IT READS IS OF BULK AT MOST 1048576: true; the input reads as it did. -/
def endsMarksUptoRow : OpenClaim := { program := "yteibdjhgbikoaaagreatdoor", sum := "603cf62475da6f35ab20c53db91b4700b3d054db2e929b5e01219933c1e2e5ed", func := "exegete/exegetelaw16.EndsMarks", spec := "endsMarks", inPlace := ["internal/bytealg.IndexByteString", "internal/bytealg.IndexString"], unfollowed := true, recurses := true, named := ["unicode/utf8.first", "unicode/utf8.acceptRanges", "internal/bytealg.MaxLen"], plainKeys := false, apart := false, laid := [("unicode/utf8.acceptRanges", laid_unicode_utf8_acceptRanges), ("unicode/utf8.first", laid_unicode_utf8_first)], narrowed := true }
def EndsMarksUptoSaid : Prop := endsMarksUptoRow.holds Tryz.pinned (OpenSpec.upto endsMarksSpec)

/-- 'exegetelaw16.EndsHeal', WHERE WHAT IT READS IS OF BULK AT MOST 1048576: true; the input reads as it did. -/
def endsHealUptoRow : OpenClaim := { program := "yteibdjhgbikoaaagreatdoor", sum := "603cf62475da6f35ab20c53db91b4700b3d054db2e929b5e01219933c1e2e5ed", func := "exegete/exegetelaw16.EndsHeal", spec := "endsHeal", inPlace := ["internal/bytealg.IndexByteString", "internal/bytealg.IndexString"], unfollowed := true, recurses := true, named := ["unicode/utf8.first", "unicode/utf8.acceptRanges", "internal/bytealg.MaxLen"], plainKeys := false, apart := false, laid := [("unicode/utf8.acceptRanges", laid_unicode_utf8_acceptRanges), ("unicode/utf8.first", laid_unicode_utf8_first)], narrowed := true }
def EndsHealUptoSaid : Prop := endsHealUptoRow.holds Tryz.pinned (OpenSpec.upto endsHealSpec)

/-- 'exegetelaw16.EndsSteps', WHERE WHAT IT READS IS OF BULK AT MOST 1048576: true; the input reads as it did. -/
def endsStepsUptoRow : OpenClaim := { program := "yteibdjhgbikoaaagreatdoor", sum := "603cf62475da6f35ab20c53db91b4700b3d054db2e929b5e01219933c1e2e5ed", func := "exegete/exegetelaw16.EndsSteps", spec := "endsSteps", inPlace := ["internal/bytealg.IndexByteString", "internal/bytealg.IndexString"], unfollowed := true, recurses := true, named := ["unicode/utf8.first", "unicode/utf8.acceptRanges", "internal/bytealg.MaxLen"], plainKeys := false, apart := false, laid := [("unicode/utf8.acceptRanges", laid_unicode_utf8_acceptRanges), ("unicode/utf8.first", laid_unicode_utf8_first)], narrowed := true }
def EndsStepsUptoSaid : Prop := endsStepsUptoRow.holds Tryz.pinned (OpenSpec.upto endsStepsSpec)

/-- 'exegetelaw16.EndsBare', WHERE WHAT IT READS IS OF BULK AT MOST 1048576: true; the input reads as it did. -/
def endsBareUptoRow : OpenClaim := { program := "yteibdjhgbikoaaagreatdoor", sum := "603cf62475da6f35ab20c53db91b4700b3d054db2e929b5e01219933c1e2e5ed", func := "exegete/exegetelaw16.EndsBare", spec := "endsBare", inPlace := ["internal/bytealg.IndexByteString", "internal/bytealg.IndexString"], unfollowed := true, recurses := true, named := ["unicode/utf8.first", "unicode/utf8.acceptRanges", "internal/bytealg.MaxLen"], plainKeys := false, apart := false, laid := [("unicode/utf8.acceptRanges", laid_unicode_utf8_acceptRanges), ("unicode/utf8.first", laid_unicode_utf8_first)], narrowed := true }
def EndsBareUptoSaid : Prop := endsBareUptoRow.holds Tryz.pinned (OpenSpec.upto endsBareSpec)

/-- 'exegetelaw16.EndsBehind', WHERE WHAT IT READS IS OF BULK AT MOST 1048576: true; the input reads as it did. -/
def endsBehindUptoRow : OpenClaim := { program := "yteibdjhgbikoaaagreatdoor", sum := "603cf62475da6f35ab20c53db91b4700b3d054db2e929b5e01219933c1e2e5ed", func := "exegete/exegetelaw16.EndsBehind", spec := "endsBehind", inPlace := ["internal/bytealg.IndexByteString", "internal/bytealg.IndexString"], unfollowed := true, recurses := true, named := ["unicode/utf8.first", "unicode/utf8.acceptRanges", "internal/bytealg.MaxLen"], plainKeys := false, apart := false, laid := [("unicode/utf8.acceptRanges", laid_unicode_utf8_acceptRanges), ("unicode/utf8.first", laid_unicode_utf8_first)], narrowed := true }
def EndsBehindUptoSaid : Prop := endsBehindUptoRow.holds Tryz.pinned (OpenSpec.upto endsBehindSpec)

/-- 'exegetelaw16.EndsAlts', WHERE WHAT IT READS IS OF BULK AT MOST 1048576: true; the input reads as it did. -/
def endsAltsUptoRow : OpenClaim := { program := "yteibdjhgbikoaaagreatdoor", sum := "603cf62475da6f35ab20c53db91b4700b3d054db2e929b5e01219933c1e2e5ed", func := "exegete/exegetelaw16.EndsAlts", spec := "endsAlts", inPlace := ["internal/bytealg.IndexByteString", "internal/bytealg.IndexString"], unfollowed := true, recurses := true, named := ["unicode/utf8.first", "unicode/utf8.acceptRanges", "internal/bytealg.MaxLen"], plainKeys := false, apart := false, laid := [("unicode/utf8.acceptRanges", laid_unicode_utf8_acceptRanges), ("unicode/utf8.first", laid_unicode_utf8_first)], narrowed := true }
def EndsAltsUptoSaid : Prop := endsAltsUptoRow.holds Tryz.pinned (OpenSpec.upto endsAltsSpec)

/-- 'exegetelaw16.EndsAfter', WHERE WHAT IT READS IS OF BULK AT MOST 1048576: true; the input reads as it did. -/
def endsAfterUptoRow : OpenClaim := { program := "yteibdjhgbikoaaagreatdoor", sum := "603cf62475da6f35ab20c53db91b4700b3d054db2e929b5e01219933c1e2e5ed", func := "exegete/exegetelaw16.EndsAfter", spec := "endsAfter", inPlace := ["internal/bytealg.IndexByteString", "internal/bytealg.IndexString"], unfollowed := true, recurses := true, named := ["unicode/utf8.first", "unicode/utf8.acceptRanges", "internal/bytealg.MaxLen"], plainKeys := false, apart := false, laid := [("unicode/utf8.acceptRanges", laid_unicode_utf8_acceptRanges), ("unicode/utf8.first", laid_unicode_utf8_first)], narrowed := true }
def EndsAfterUptoSaid : Prop := endsAfterUptoRow.holds Tryz.pinned (OpenSpec.upto endsAfterSpec)

/-- 'exegetelaw21.FarBounds', WHERE WHAT IT READS IS OF BULK AT MOST 1048576: true; the input reads as it did. -/
def farBoundsUptoRow : OpenClaim := { program := "yteibdjhgbikoaaagreatdoor", sum := "603cf62475da6f35ab20c53db91b4700b3d054db2e929b5e01219933c1e2e5ed", func := "exegete/exegetelaw21.FarBounds", spec := "farBounds", inPlace := ["internal/bytealg.IndexByteString", "internal/bytealg.IndexString"], unfollowed := true, recurses := true, named := ["unicode/utf8.first", "unicode/utf8.acceptRanges", "internal/bytealg.MaxLen"], plainKeys := false, apart := false, laid := [("unicode/utf8.acceptRanges", laid_unicode_utf8_acceptRanges), ("unicode/utf8.first", laid_unicode_utf8_first)], narrowed := true }
def FarBoundsUptoSaid : Prop := farBoundsUptoRow.holds Tryz.pinned (OpenSpec.upto farBoundsSpec)

/-- 'exegetelaw21.FarSpots', WHERE WHAT IT READS IS OF BULK AT MOST 1048576: true; the input reads as it did. -/
def farSpotsUptoRow : OpenClaim := { program := "yteibdjhgbikoaaagreatdoor", sum := "603cf62475da6f35ab20c53db91b4700b3d054db2e929b5e01219933c1e2e5ed", func := "exegete/exegetelaw21.FarSpots", spec := "farSpots", inPlace := ["internal/bytealg.IndexByteString", "internal/bytealg.IndexString"], unfollowed := true, recurses := true, named := ["unicode/utf8.first", "unicode/utf8.acceptRanges", "internal/bytealg.MaxLen"], plainKeys := false, apart := false, laid := [("unicode/utf8.acceptRanges", laid_unicode_utf8_acceptRanges), ("unicode/utf8.first", laid_unicode_utf8_first)], narrowed := true }
def FarSpotsUptoSaid : Prop := farSpotsUptoRow.holds Tryz.pinned (OpenSpec.upto farSpotsSpec)

end Rows
end Go.Proofs.YteibdjhgbikoaaaGreatDoor
