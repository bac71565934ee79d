/-
  NARROWER THAN 'FOR EVERY INPUT', by the rows' own cells (each row's printed sentence says how): PlainLists: laid · PlainSizes: laid · PlainDeep: laid · HistTurns: laid · HistNames: laid · HistNone: laid · CleanChooses: laid · CleanSteps: laid.
  DERIVED. THE GIVEN ROWS OF THIS SEAT. 8 by the template 'for every input the law returns true; each argument reads behind the call as it read before'; 0 by the template 'total and deterministic' (their statements: YteabhojpkhaknaaGreatDoorTotals.lean).
  GIVEN WITH THE SEED: the statements are not yours to turn. If you find one false, say at which input.
  Laid BY PROGRAM, IN A SANDBOX (cutbox-rows.mjs): the forced cells as the released guide's own fill.sh prints them over the translation 1ce997370502832b… (all of the seat's roots in one cut). By AI agents, Wed Nov 11 2026. No macro, syntax, notation, axiom, sorry.
-/
import Derived.Test.YteabhojpkhaknaaGreatDoorChecked
import GoSem.PinnedTables
import GoSem.Claim
import GoSem.ClaimJoined
import GoSem.ClaimMapViews
import Derived.JoinedTies
import Derived.KernelRfl
namespace Go.Proofs.YteabhojpkhaknaaGreatDoor
/- THE CELL 'sum', in the pinned program and in every row, IS THE sha256 OF THE DUMP (.gsa) THAT YteabhojpkhaknaaGreatDoorProg.lean LOADS. Nothing in Lean hashes anything: it is a label: what it is worth is what the hold of that sum in a sandbox is worth. -/
noncomputable def Tryz.pinned : Pinned := { name := "yteabhojpkhaknaagreatdoor", sum := "1ce997370502832b692d99b77c74f3eb2e648a4804f9c440aabe61fd47099147", checked := Tryz.checked }
namespace Rows
def none {H : Type} : Left H := { results := [], args := [] }

/- WHAT THE LISTED PACKAGE-LEVEL VARIABLES READ AS WHEN THE CALL BEGINS. Each datum BY PROGRAM (the guide's laid-datum.mjs) off the statement by which the dump's own 'gosem.cut.vars' lays the variable. In a bare row this is a premise. The card (YteabhojpkhaknaaGreatDoorCards.lean) ties it to the program's text. -/
def laid_unicode_utf8_acceptRanges {H : Type} : DataW H := .agg [.agg [.lit (.int .u8 128), .lit (.int .u8 191)], .agg [.lit (.int .u8 160), .lit (.int .u8 191)], .agg [.lit (.int .u8 128), .lit (.int .u8 159)], .agg [.lit (.int .u8 144), .lit (.int .u8 191)], .agg [.lit (.int .u8 128), .lit (.int .u8 143)], .agg [.lit (.int .u8 0), .lit (.int .u8 0)], .agg [.lit (.int .u8 0), .lit (.int .u8 0)], .agg [.lit (.int .u8 0), .lit (.int .u8 0)], .agg [.lit (.int .u8 0), .lit (.int .u8 0)], .agg [.lit (.int .u8 0), .lit (.int .u8 0)], .agg [.lit (.int .u8 0), .lit (.int .u8 0)], .agg [.lit (.int .u8 0), .lit (.int .u8 0)], .agg [.lit (.int .u8 0), .lit (.int .u8 0)], .agg [.lit (.int .u8 0), .lit (.int .u8 0)], .agg [.lit (.int .u8 0), .lit (.int .u8 0)], .agg [.lit (.int .u8 0), .lit (.int .u8 0)]]
/-- One of Go's own tables, pinned by name: the form's constant. -/
def laid_unicode_utf8_first : DataW Unit := Go.Pinned.utf8First

/-- 'nautiluslaw14.PlainLists': WHATEVER THE INPUT: true; the input reads as it did. -/
def plainListsSpec : ChangeSpec := { name := "plainLists", fn := fun _ => fun
  | [d] => { results := [.lit (.bool true)], args := [d] }
  | _ => none }
def plainListsRow : OpenClaim := { program := "yteabhojpkhaknaagreatdoor", sum := "1ce997370502832b692d99b77c74f3eb2e648a4804f9c440aabe61fd47099147", func := "nautilus/nautiluslaw14.PlainLists", spec := "plainLists", inPlace := ["internal/bytealg.IndexByteString", "internal/bytealg.IndexString", "internal/abi.NoEscape", "internal/bytealg.MakeNoZero"], unfollowed := true, recurses := true, named := ["unicode/utf8.first", "unicode/utf8.acceptRanges", "internal/bytealg.MaxLen"], apart := false, laid := [("unicode/utf8.acceptRanges", laid_unicode_utf8_acceptRanges), ("unicode/utf8.first", laid_unicode_utf8_first)] }
def PlainListsSaid : Prop := plainListsRow.holds Tryz.pinned (OpenSpec.ofChange plainListsSpec)

/-- ITS FALSE NEIGHBOUR: 'it returns false'. Refute it at one input. -/
def plainListsWrong : ChangeSpec := { name := "plainLists", fn := fun _ => fun
  | [d] => { results := [.lit (.bool false)], args := [d] }
  | _ => none }
def PlainListsWrongFalsely : Prop := plainListsRow.holds Tryz.pinned (OpenSpec.ofChange plainListsWrong)

/-- 'nautiluslaw14.PlainSizes': WHATEVER THE INPUT: true; the input reads as it did. -/
def plainSizesSpec : ChangeSpec := { name := "plainSizes", fn := fun _ => fun
  | [d1, d2, d3, d4] => { results := [.lit (.bool true)], args := [d1, d2, d3, d4] }
  | _ => none }
def plainSizesRow : OpenClaim := { program := "yteabhojpkhaknaagreatdoor", sum := "1ce997370502832b692d99b77c74f3eb2e648a4804f9c440aabe61fd47099147", func := "nautilus/nautiluslaw14.PlainSizes", spec := "plainSizes", inPlace := ["internal/bytealg.IndexByteString", "internal/bytealg.IndexString", "internal/abi.NoEscape", "internal/bytealg.MakeNoZero"], unfollowed := true, recurses := true, named := ["unicode/utf8.first", "unicode/utf8.acceptRanges", "internal/bytealg.MaxLen"], apart := false, laid := [("unicode/utf8.acceptRanges", laid_unicode_utf8_acceptRanges), ("unicode/utf8.first", laid_unicode_utf8_first)] }
def PlainSizesSaid : Prop := plainSizesRow.holds Tryz.pinned (OpenSpec.ofChange plainSizesSpec)

/-- ITS FALSE NEIGHBOUR: 'it returns false'. Refute it at one input. -/
def plainSizesWrong : ChangeSpec := { name := "plainSizes", fn := fun _ => fun
  | [d1, d2, d3, d4] => { results := [.lit (.bool false)], args := [d1, d2, d3, d4] }
  | _ => none }
def PlainSizesWrongFalsely : Prop := plainSizesRow.holds Tryz.pinned (OpenSpec.ofChange plainSizesWrong)

/-- 'nautiluslaw14.PlainDeep': WHATEVER THE INPUT: true; the input reads as it did. -/
def plainDeepSpec : ChangeSpec := { name := "plainDeep", fn := fun _ => fun
  | [d1, d2] => { results := [.lit (.bool true)], args := [d1, d2] }
  | _ => none }
def plainDeepRow : OpenClaim := { program := "yteabhojpkhaknaagreatdoor", sum := "1ce997370502832b692d99b77c74f3eb2e648a4804f9c440aabe61fd47099147", func := "nautilus/nautiluslaw14.PlainDeep", spec := "plainDeep", inPlace := ["internal/bytealg.IndexByteString", "internal/bytealg.IndexString", "internal/abi.NoEscape", "internal/bytealg.MakeNoZero"], unfollowed := true, recurses := true, named := ["unicode/utf8.first", "unicode/utf8.acceptRanges", "internal/bytealg.MaxLen"], apart := false, laid := [("unicode/utf8.acceptRanges", laid_unicode_utf8_acceptRanges), ("unicode/utf8.first", laid_unicode_utf8_first)] }
def PlainDeepSaid : Prop := plainDeepRow.holds Tryz.pinned (OpenSpec.ofChange plainDeepSpec)

/-- ITS FALSE NEIGHBOUR: 'it returns false'. Refute it at one input. -/
def plainDeepWrong : ChangeSpec := { name := "plainDeep", fn := fun _ => fun
  | [d1, d2] => { results := [.lit (.bool false)], args := [d1, d2] }
  | _ => none }
def PlainDeepWrongFalsely : Prop := plainDeepRow.holds Tryz.pinned (OpenSpec.ofChange plainDeepWrong)

/-- 'nautiluslaw22.HistTurns': WHATEVER THE INPUT: true; the input reads as it did. -/
def histTurnsSpec : ChangeSpec := { name := "histTurns", fn := fun _ => fun
  | [d1, d2] => { results := [.lit (.bool true)], args := [d1, d2] }
  | _ => none }
def histTurnsRow : OpenClaim := { program := "yteabhojpkhaknaagreatdoor", sum := "1ce997370502832b692d99b77c74f3eb2e648a4804f9c440aabe61fd47099147", func := "nautilus/nautiluslaw22.HistTurns", spec := "histTurns", inPlace := ["internal/bytealg.IndexByteString", "internal/bytealg.IndexString", "internal/abi.NoEscape", "internal/bytealg.MakeNoZero"], unfollowed := true, recurses := true, named := ["unicode/utf8.first", "unicode/utf8.acceptRanges", "internal/bytealg.MaxLen"], apart := false, laid := [("unicode/utf8.acceptRanges", laid_unicode_utf8_acceptRanges), ("unicode/utf8.first", laid_unicode_utf8_first)] }
def HistTurnsSaid : Prop := histTurnsRow.holds Tryz.pinned (OpenSpec.ofChange histTurnsSpec)

/-- ITS FALSE NEIGHBOUR: 'it returns false'. Refute it at one input. -/
def histTurnsWrong : ChangeSpec := { name := "histTurns", fn := fun _ => fun
  | [d1, d2] => { results := [.lit (.bool false)], args := [d1, d2] }
  | _ => none }
def HistTurnsWrongFalsely : Prop := histTurnsRow.holds Tryz.pinned (OpenSpec.ofChange histTurnsWrong)

/-- 'nautiluslaw22.HistNames': WHATEVER THE INPUT: true; the input reads as it did. -/
def histNamesSpec : ChangeSpec := { name := "histNames", fn := fun _ => fun
  | [d] => { results := [.lit (.bool true)], args := [d] }
  | _ => none }
def histNamesRow : OpenClaim := { program := "yteabhojpkhaknaagreatdoor", sum := "1ce997370502832b692d99b77c74f3eb2e648a4804f9c440aabe61fd47099147", func := "nautilus/nautiluslaw22.HistNames", spec := "histNames", inPlace := ["internal/bytealg.IndexByteString", "internal/bytealg.IndexString", "internal/abi.NoEscape", "internal/bytealg.MakeNoZero"], unfollowed := true, recurses := true, named := ["unicode/utf8.first", "unicode/utf8.acceptRanges", "internal/bytealg.MaxLen"], apart := false, laid := [("unicode/utf8.acceptRanges", laid_unicode_utf8_acceptRanges), ("unicode/utf8.first", laid_unicode_utf8_first)] }
def HistNamesSaid : Prop := histNamesRow.holds Tryz.pinned (OpenSpec.ofChange histNamesSpec)

/-- ITS FALSE NEIGHBOUR: 'it returns false'. Refute it at one input. -/
def histNamesWrong : ChangeSpec := { name := "histNames", fn := fun _ => fun
  | [d] => { results := [.lit (.bool false)], args := [d] }
  | _ => none }
def HistNamesWrongFalsely : Prop := histNamesRow.holds Tryz.pinned (OpenSpec.ofChange histNamesWrong)

/-- 'nautiluslaw22.HistNone': WHATEVER THE INPUT: true; the input reads as it did. -/
def histNoneSpec : ChangeSpec := { name := "histNone", fn := fun _ => fun
  | [d1, d2] => { results := [.lit (.bool true)], args := [d1, d2] }
  | _ => none }
def histNoneRow : OpenClaim := { program := "yteabhojpkhaknaagreatdoor", sum := "1ce997370502832b692d99b77c74f3eb2e648a4804f9c440aabe61fd47099147", func := "nautilus/nautiluslaw22.HistNone", spec := "histNone", inPlace := ["internal/bytealg.IndexByteString", "internal/bytealg.IndexString", "internal/abi.NoEscape", "internal/bytealg.MakeNoZero"], unfollowed := true, recurses := true, named := ["unicode/utf8.first", "unicode/utf8.acceptRanges", "internal/bytealg.MaxLen"], apart := false, laid := [("unicode/utf8.acceptRanges", laid_unicode_utf8_acceptRanges), ("unicode/utf8.first", laid_unicode_utf8_first)] }
def HistNoneSaid : Prop := histNoneRow.holds Tryz.pinned (OpenSpec.ofChange histNoneSpec)

/-- ITS FALSE NEIGHBOUR: 'it returns false'. Refute it at one input. -/
def histNoneWrong : ChangeSpec := { name := "histNone", fn := fun _ => fun
  | [d1, d2] => { results := [.lit (.bool false)], args := [d1, d2] }
  | _ => none }
def HistNoneWrongFalsely : Prop := histNoneRow.holds Tryz.pinned (OpenSpec.ofChange histNoneWrong)

/-- 'nautiluslaw20.CleanChooses': WHATEVER THE INPUT: true; the input reads as it did. -/
def cleanChoosesSpec : ChangeSpec := { name := "cleanChooses", fn := fun _ => fun
  | [d1, d2, d3, d4] => { results := [.lit (.bool true)], args := [d1, d2, d3, d4] }
  | _ => none }
def cleanChoosesRow : OpenClaim := { program := "yteabhojpkhaknaagreatdoor", sum := "1ce997370502832b692d99b77c74f3eb2e648a4804f9c440aabe61fd47099147", func := "nautilus/nautiluslaw20.CleanChooses", spec := "cleanChooses", inPlace := ["internal/abi.NoEscape", "internal/bytealg.MakeNoZero", "internal/bytealg.IndexByteString", "internal/bytealg.IndexString"], unfollowed := true, recurses := true, named := ["unicode/utf8.first", "unicode/utf8.acceptRanges", "internal/bytealg.MaxLen"], apart := false, laid := [("unicode/utf8.acceptRanges", laid_unicode_utf8_acceptRanges), ("unicode/utf8.first", laid_unicode_utf8_first)] }
def CleanChoosesSaid : Prop := cleanChoosesRow.holds Tryz.pinned (OpenSpec.ofChange cleanChoosesSpec)

/-- ITS FALSE NEIGHBOUR: 'it returns false'. Refute it at one input. -/
def cleanChoosesWrong : ChangeSpec := { name := "cleanChooses", fn := fun _ => fun
  | [d1, d2, d3, d4] => { results := [.lit (.bool false)], args := [d1, d2, d3, d4] }
  | _ => none }
def CleanChoosesWrongFalsely : Prop := cleanChoosesRow.holds Tryz.pinned (OpenSpec.ofChange cleanChoosesWrong)

/-- 'nautiluslaw20.CleanSteps': WHATEVER THE INPUT: true; the input reads as it did. -/
def cleanStepsSpec : ChangeSpec := { name := "cleanSteps", fn := fun _ => fun
  | [d1, d2, d3, d4, d5, d6] => { results := [.lit (.bool true)], args := [d1, d2, d3, d4, d5, d6] }
  | _ => none }
def cleanStepsRow : OpenClaim := { program := "yteabhojpkhaknaagreatdoor", sum := "1ce997370502832b692d99b77c74f3eb2e648a4804f9c440aabe61fd47099147", func := "nautilus/nautiluslaw20.CleanSteps", spec := "cleanSteps", inPlace := ["internal/abi.NoEscape", "internal/bytealg.MakeNoZero", "internal/bytealg.IndexByteString", "internal/bytealg.IndexString"], unfollowed := true, recurses := true, named := ["unicode/utf8.first", "unicode/utf8.acceptRanges", "internal/bytealg.MaxLen"], apart := false, laid := [("unicode/utf8.acceptRanges", laid_unicode_utf8_acceptRanges), ("unicode/utf8.first", laid_unicode_utf8_first)] }
def CleanStepsSaid : Prop := cleanStepsRow.holds Tryz.pinned (OpenSpec.ofChange cleanStepsSpec)

/-- ITS FALSE NEIGHBOUR: 'it returns false'. Refute it at one input. -/
def cleanStepsWrong : ChangeSpec := { name := "cleanSteps", fn := fun _ => fun
  | [d1, d2, d3, d4, d5, d6] => { results := [.lit (.bool false)], args := [d1, d2, d3, d4, d5, d6] }
  | _ => none }
def CleanStepsWrongFalsely : Prop := cleanStepsRow.holds Tryz.pinned (OpenSpec.ofChange cleanStepsWrong)

/- THE SECOND FORM. 'bulk': how many values and letters a reading holds, each counted each time it is reached (what is shared counts as often as it is met; a slice's spare places count too). A statement '..UptoSaid' is the law's where the arguments, and the package variables that the reading takes, are together of bulk at most 1048576: NARROWER than '..Said'. Prove '..Said' where nothing that the law and all that it calls make is longer than what came in: it says more and counts as full. Else prove '..UptoSaid'. A law counts once. -/
mutual
def uptoBulk {H : Type} : DataW H → Nat
  | .lit (.string bytes) => bytes.length + 1
  | .lit _ => 1
  | .nil => 1
  | .ptr d => uptoBulk d + 1
  | .slice elems spare => uptoBulkAll elems + uptoBulkAll spare + 1
  | .agg parts => uptoBulkAll parts + 1
  | .iface _ d => uptoBulk d + 1
  | .map entries => uptoBulkEntries entries + 1
  | .held _ => 1
def uptoBulkAll {H : Type} : List (DataW H) → Nat
  | [] => 0
  | d :: r => uptoBulk d + uptoBulkAll r
def uptoBulkEntries {H : Type} : List (Lit × DataW H) → Nat
  | [] => 0
  | x :: r => uptoBulkEntry x + uptoBulkEntries r
def uptoBulkEntry {H : Type} : Lit × DataW H → Nat
  | (.string bytes, d) => bytes.length + uptoBulk d + 1
  | (_, d) => uptoBulk d + 1
 end
def uptoSmall : (H : Type) → List (DataW H) → Bool := fun _ ds => decide (uptoBulkAll ds ≤ 1048576)
def OpenSpec.upto (s : _root_.Go.ChangeSpec) : _root_.Go.OpenSpec := { _root_.Go.OpenSpec.ofChange s with cond := some uptoSmall }

/-- 'nautiluslaw14.PlainLists', WHERE WHAT IT READS IS OF BULK AT MOST 1048576: true; the input reads as it did. -/
def plainListsUptoRow : OpenClaim := { program := "yteabhojpkhaknaagreatdoor", sum := "1ce997370502832b692d99b77c74f3eb2e648a4804f9c440aabe61fd47099147", func := "nautilus/nautiluslaw14.PlainLists", spec := "plainLists", inPlace := ["internal/bytealg.IndexByteString", "internal/bytealg.IndexString", "internal/abi.NoEscape", "internal/bytealg.MakeNoZero"], unfollowed := true, recurses := true, named := ["unicode/utf8.first", "unicode/utf8.acceptRanges", "internal/bytealg.MaxLen"], apart := false, laid := [("unicode/utf8.acceptRanges", laid_unicode_utf8_acceptRanges), ("unicode/utf8.first", laid_unicode_utf8_first)], narrowed := true }
def PlainListsUptoSaid : Prop := plainListsUptoRow.holds Tryz.pinned (OpenSpec.upto plainListsSpec)

/-- 'nautiluslaw14.PlainSizes', WHERE WHAT IT READS IS OF BULK AT MOST 1048576: true; the input reads as it did. -/
def plainSizesUptoRow : OpenClaim := { program := "yteabhojpkhaknaagreatdoor", sum := "1ce997370502832b692d99b77c74f3eb2e648a4804f9c440aabe61fd47099147", func := "nautilus/nautiluslaw14.PlainSizes", spec := "plainSizes", inPlace := ["internal/bytealg.IndexByteString", "internal/bytealg.IndexString", "internal/abi.NoEscape", "internal/bytealg.MakeNoZero"], unfollowed := true, recurses := true, named := ["unicode/utf8.first", "unicode/utf8.acceptRanges", "internal/bytealg.MaxLen"], apart := false, laid := [("unicode/utf8.acceptRanges", laid_unicode_utf8_acceptRanges), ("unicode/utf8.first", laid_unicode_utf8_first)], narrowed := true }
def PlainSizesUptoSaid : Prop := plainSizesUptoRow.holds Tryz.pinned (OpenSpec.upto plainSizesSpec)

/-- 'nautiluslaw14.PlainDeep', WHERE WHAT IT READS IS OF BULK AT MOST 1048576: true; the input reads as it did. -/
def plainDeepUptoRow : OpenClaim := { program := "yteabhojpkhaknaagreatdoor", sum := "1ce997370502832b692d99b77c74f3eb2e648a4804f9c440aabe61fd47099147", func := "nautilus/nautiluslaw14.PlainDeep", spec := "plainDeep", inPlace := ["internal/bytealg.IndexByteString", "internal/bytealg.IndexString", "internal/abi.NoEscape", "internal/bytealg.MakeNoZero"], unfollowed := true, recurses := true, named := ["unicode/utf8.first", "unicode/utf8.acceptRanges", "internal/bytealg.MaxLen"], apart := false, laid := [("unicode/utf8.acceptRanges", laid_unicode_utf8_acceptRanges), ("unicode/utf8.first", laid_unicode_utf8_first)], narrowed := true }
def PlainDeepUptoSaid : Prop := plainDeepUptoRow.holds Tryz.pinned (OpenSpec.upto plainDeepSpec)

/-- 'nautiluslaw22.HistTurns', WHERE WHAT IT READS IS OF BULK AT MOST 1048576: true; the input reads as it did. -/
def histTurnsUptoRow : OpenClaim := { program := "yteabhojpkhaknaagreatdoor", sum := "1ce997370502832b692d99b77c74f3eb2e648a4804f9c440aabe61fd47099147", func := "nautilus/nautiluslaw22.HistTurns", spec := "histTurns", inPlace := ["internal/bytealg.IndexByteString", "internal/bytealg.IndexString", "internal/abi.NoEscape", "internal/bytealg.MakeNoZero"], unfollowed := true, recurses := true, named := ["unicode/utf8.first", "unicode/utf8.acceptRanges", "internal/bytealg.MaxLen"], apart := false, laid := [("unicode/utf8.acceptRanges", laid_unicode_utf8_acceptRanges), ("unicode/utf8.first", laid_unicode_utf8_first)], narrowed := true }
def HistTurnsUptoSaid : Prop := histTurnsUptoRow.holds Tryz.pinned (OpenSpec.upto histTurnsSpec)

/-- 'nautiluslaw22.HistNames', WHERE WHAT IT READS IS OF BULK AT MOST 1048576: true; the input reads as it did. -/
def histNamesUptoRow : OpenClaim := { program := "yteabhojpkhaknaagreatdoor", sum := "1ce997370502832b692d99b77c74f3eb2e648a4804f9c440aabe61fd47099147", func := "nautilus/nautiluslaw22.HistNames", spec := "histNames", inPlace := ["internal/bytealg.IndexByteString", "internal/bytealg.IndexString", "internal/abi.NoEscape", "internal/bytealg.MakeNoZero"], unfollowed := true, recurses := true, named := ["unicode/utf8.first", "unicode/utf8.acceptRanges", "internal/bytealg.MaxLen"], apart := false, laid := [("unicode/utf8.acceptRanges", laid_unicode_utf8_acceptRanges), ("unicode/utf8.first", laid_unicode_utf8_first)], narrowed := true }
def HistNamesUptoSaid : Prop := histNamesUptoRow.holds Tryz.pinned (OpenSpec.upto histNamesSpec)

/-- 'nautiluslaw22.HistNone', WHERE WHAT IT READS IS OF BULK AT MOST 1048576: true; the input reads as it did. -/
def histNoneUptoRow : OpenClaim := { program := "yteabhojpkhaknaagreatdoor", sum := "1ce997370502832b692d99b77c74f3eb2e648a4804f9c440aabe61fd47099147", func := "nautilus/nautiluslaw22.HistNone", spec := "histNone", inPlace := ["internal/bytealg.IndexByteString", "internal/bytealg.IndexString", "internal/abi.NoEscape", "internal/bytealg.MakeNoZero"], unfollowed := true, recurses := true, named := ["unicode/utf8.first", "unicode/utf8.acceptRanges", "internal/bytealg.MaxLen"], apart := false, laid := [("unicode/utf8.acceptRanges", laid_unicode_utf8_acceptRanges), ("unicode/utf8.first", laid_unicode_utf8_first)], narrowed := true }
def HistNoneUptoSaid : Prop := histNoneUptoRow.holds Tryz.pinned (OpenSpec.upto histNoneSpec)

/-- 'nautiluslaw20.CleanChooses', WHERE WHAT IT READS IS OF BULK AT MOST 1048576: true; the input reads as it did. -/
def cleanChoosesUptoRow : OpenClaim := { program := "yteabhojpkhaknaagreatdoor", sum := "1ce997370502832b692d99b77c74f3eb2e648a4804f9c440aabe61fd47099147", func := "nautilus/nautiluslaw20.CleanChooses", spec := "cleanChooses", inPlace := ["internal/abi.NoEscape", "internal/bytealg.MakeNoZero", "internal/bytealg.IndexByteString", "internal/bytealg.IndexString"], unfollowed := true, recurses := true, named := ["unicode/utf8.first", "unicode/utf8.acceptRanges", "internal/bytealg.MaxLen"], apart := false, laid := [("unicode/utf8.acceptRanges", laid_unicode_utf8_acceptRanges), ("unicode/utf8.first", laid_unicode_utf8_first)], narrowed := true }
def CleanChoosesUptoSaid : Prop := cleanChoosesUptoRow.holds Tryz.pinned (OpenSpec.upto cleanChoosesSpec)

/-- 'nautiluslaw20.CleanSteps', WHERE WHAT IT READS IS OF BULK AT MOST 1048576: true; the input reads as it did. -/
def cleanStepsUptoRow : OpenClaim := { program := "yteabhojpkhaknaagreatdoor", sum := "1ce997370502832b692d99b77c74f3eb2e648a4804f9c440aabe61fd47099147", func := "nautilus/nautiluslaw20.CleanSteps", spec := "cleanSteps", inPlace := ["internal/abi.NoEscape", "internal/bytealg.MakeNoZero", "internal/bytealg.IndexByteString", "internal/bytealg.IndexString"], unfollowed := true, recurses := true, named := ["unicode/utf8.first", "unicode/utf8.acceptRanges", "internal/bytealg.MaxLen"], apart := false, laid := [("unicode/utf8.acceptRanges", laid_unicode_utf8_acceptRanges), ("unicode/utf8.first", laid_unicode_utf8_first)], narrowed := true }
def CleanStepsUptoSaid : Prop := cleanStepsUptoRow.holds Tryz.pinned (OpenSpec.upto cleanStepsSpec)

end Rows
end Go.Proofs.YteabhojpkhaknaaGreatDoor
