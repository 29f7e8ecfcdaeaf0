/-
  NARROWER THAN 'FOR EVERY INPUT', by the rows' own cells (each row's printed sentence says how): BracketBrackets: laid · BracketQuestions: laid · BracketOperates: laid · BracketLogic: laid · BracketChecks: laid.
  DERIVED. THE GIVEN ROWS OF THIS SEAT. 5 by the template 'for every input the law returns true; each argument reads behind the call as it read before'; 0 by the template 'total and deterministic' (their statements: YtbnldpccdppmiaaGreatDoorTotals.lean).
  GIVEN WITH THE SEED: the statements are not yours to turn. If you find one false, say at which input.
  Laid BY PROGRAM, IN A SANDBOX (cutbox-rows.mjs): the forced cells as the released guide's own fill.sh prints them over the translation fc481d8cfb98ac4b… (all of the seat's roots in one cut). By AI agents, Wed Nov 11 2026. No macro, syntax, notation, axiom, sorry.
-/
import Derived.Test.YtbnldpccdppmiaaGreatDoorChecked
import GoSem.PinnedTables
import GoSem.Claim
import GoSem.ClaimJoined
import GoSem.ClaimMapViews
import Derived.JoinedTies
import Derived.KernelRfl
namespace Go.Proofs.YtbnldpccdppmiaaGreatDoor
/- THE CELL 'sum', in the pinned program and in every row, IS THE sha256 OF THE DUMP (.gsa) THAT YtbnldpccdppmiaaGreatDoorProg.lean LOADS. Nothing in Lean hashes anything: it is a label: what it is worth is what the hold of that sum in a sandbox is worth. -/
noncomputable def Tryz.pinned : Pinned := { name := "ytbnldpccdppmiaagreatdoor", sum := "fc481d8cfb98ac4b7212bcb7ba0a156108310957382176e1227e0d8449e35166", checked := Tryz.checked }
namespace Rows
def none {H : Type} : Left H := { results := [], args := [] }

/- WHAT THE LISTED PACKAGE-LEVEL VARIABLES READ AS WHEN THE CALL BEGINS. Each datum BY PROGRAM (the guide's laid-datum.mjs) off the statement by which the dump's own 'gosem.cut.vars' lays the variable. In a bare row this is a premise. The card (YtbnldpccdppmiaaGreatDoorCards.lean) ties it to the program's text. -/
def laid_unicode_utf8_acceptRanges {H : Type} : DataW H := .agg [.agg [.lit (.int .u8 128), .lit (.int .u8 191)], .agg [.lit (.int .u8 160), .lit (.int .u8 191)], .agg [.lit (.int .u8 128), .lit (.int .u8 159)], .agg [.lit (.int .u8 144), .lit (.int .u8 191)], .agg [.lit (.int .u8 128), .lit (.int .u8 143)], .agg [.lit (.int .u8 0), .lit (.int .u8 0)], .agg [.lit (.int .u8 0), .lit (.int .u8 0)], .agg [.lit (.int .u8 0), .lit (.int .u8 0)], .agg [.lit (.int .u8 0), .lit (.int .u8 0)], .agg [.lit (.int .u8 0), .lit (.int .u8 0)], .agg [.lit (.int .u8 0), .lit (.int .u8 0)], .agg [.lit (.int .u8 0), .lit (.int .u8 0)], .agg [.lit (.int .u8 0), .lit (.int .u8 0)], .agg [.lit (.int .u8 0), .lit (.int .u8 0)], .agg [.lit (.int .u8 0), .lit (.int .u8 0)], .agg [.lit (.int .u8 0), .lit (.int .u8 0)]]
/-- One of Go's own tables, pinned by name: the form's constant. -/
def laid_unicode_utf8_first : DataW Unit := Go.Pinned.utf8First

/-- 'viatorlaw33.BracketBrackets': WHATEVER THE INPUT: true; the input reads as it did. -/
def bracketBracketsSpec : ChangeSpec := { name := "bracketBrackets", fn := fun _ => fun
  | [d1, d2, d3] => { results := [.lit (.bool true)], args := [d1, d2, d3] }
  | _ => none }
def bracketBracketsRow : OpenClaim := { program := "ytbnldpccdppmiaagreatdoor", sum := "fc481d8cfb98ac4b7212bcb7ba0a156108310957382176e1227e0d8449e35166", func := "viator/viatorlaw33.BracketBrackets", spec := "bracketBrackets", inPlace := ["internal/bytealg.IndexByteString", "internal/bytealg.IndexString", "math/bits.Add64", "internal/bytealg.abigen_runtime_cmpstring"], unfollowed := true, recurses := true, named := ["unicode/utf8.first", "unicode/utf8.acceptRanges", "internal/bytealg.MaxLen"], apart := false, laid := [("unicode/utf8.acceptRanges", laid_unicode_utf8_acceptRanges), ("unicode/utf8.first", laid_unicode_utf8_first)] }
def BracketBracketsSaid : Prop := bracketBracketsRow.holds Tryz.pinned (OpenSpec.ofChange bracketBracketsSpec)

/-- ITS FALSE NEIGHBOUR: 'it returns false'. Refute it at one input. -/
def bracketBracketsWrong : ChangeSpec := { name := "bracketBrackets", fn := fun _ => fun
  | [d1, d2, d3] => { results := [.lit (.bool false)], args := [d1, d2, d3] }
  | _ => none }
def BracketBracketsWrongFalsely : Prop := bracketBracketsRow.holds Tryz.pinned (OpenSpec.ofChange bracketBracketsWrong)

/-- 'viatorlaw33.BracketQuestions': WHATEVER THE INPUT: true; the input reads as it did. -/
def bracketQuestionsSpec : ChangeSpec := { name := "bracketQuestions", fn := fun _ => fun
  | [d1, d2, d3] => { results := [.lit (.bool true)], args := [d1, d2, d3] }
  | _ => none }
def bracketQuestionsRow : OpenClaim := { program := "ytbnldpccdppmiaagreatdoor", sum := "fc481d8cfb98ac4b7212bcb7ba0a156108310957382176e1227e0d8449e35166", func := "viator/viatorlaw33.BracketQuestions", spec := "bracketQuestions", inPlace := ["internal/bytealg.IndexByteString", "internal/bytealg.IndexString", "math/bits.Add64", "internal/bytealg.abigen_runtime_cmpstring"], unfollowed := true, recurses := true, named := ["unicode/utf8.first", "unicode/utf8.acceptRanges", "internal/bytealg.MaxLen"], apart := false, laid := [("unicode/utf8.acceptRanges", laid_unicode_utf8_acceptRanges), ("unicode/utf8.first", laid_unicode_utf8_first)] }
def BracketQuestionsSaid : Prop := bracketQuestionsRow.holds Tryz.pinned (OpenSpec.ofChange bracketQuestionsSpec)

/-- ITS FALSE NEIGHBOUR: 'it returns false'. Refute it at one input. -/
def bracketQuestionsWrong : ChangeSpec := { name := "bracketQuestions", fn := fun _ => fun
  | [d1, d2, d3] => { results := [.lit (.bool false)], args := [d1, d2, d3] }
  | _ => none }
def BracketQuestionsWrongFalsely : Prop := bracketQuestionsRow.holds Tryz.pinned (OpenSpec.ofChange bracketQuestionsWrong)

/-- 'viatorlaw33.BracketOperates': WHATEVER THE INPUT: true; the input reads as it did. -/
def bracketOperatesSpec : ChangeSpec := { name := "bracketOperates", fn := fun _ => fun
  | [d1, d2, d3] => { results := [.lit (.bool true)], args := [d1, d2, d3] }
  | _ => none }
def bracketOperatesRow : OpenClaim := { program := "ytbnldpccdppmiaagreatdoor", sum := "fc481d8cfb98ac4b7212bcb7ba0a156108310957382176e1227e0d8449e35166", func := "viator/viatorlaw33.BracketOperates", spec := "bracketOperates", inPlace := ["internal/bytealg.IndexByteString", "internal/bytealg.IndexString", "math/bits.Add64", "internal/bytealg.abigen_runtime_cmpstring"], unfollowed := true, recurses := true, named := ["unicode/utf8.first", "unicode/utf8.acceptRanges", "internal/bytealg.MaxLen"], apart := false, laid := [("unicode/utf8.acceptRanges", laid_unicode_utf8_acceptRanges), ("unicode/utf8.first", laid_unicode_utf8_first)] }
def BracketOperatesSaid : Prop := bracketOperatesRow.holds Tryz.pinned (OpenSpec.ofChange bracketOperatesSpec)

/-- ITS FALSE NEIGHBOUR: 'it returns false'. Refute it at one input. -/
def bracketOperatesWrong : ChangeSpec := { name := "bracketOperates", fn := fun _ => fun
  | [d1, d2, d3] => { results := [.lit (.bool false)], args := [d1, d2, d3] }
  | _ => none }
def BracketOperatesWrongFalsely : Prop := bracketOperatesRow.holds Tryz.pinned (OpenSpec.ofChange bracketOperatesWrong)

/-- 'viatorlaw33.BracketLogic': WHATEVER THE INPUT: true; the input reads as it did. -/
def bracketLogicSpec : ChangeSpec := { name := "bracketLogic", fn := fun _ => fun
  | [d1, d2, d3] => { results := [.lit (.bool true)], args := [d1, d2, d3] }
  | _ => none }
def bracketLogicRow : OpenClaim := { program := "ytbnldpccdppmiaagreatdoor", sum := "fc481d8cfb98ac4b7212bcb7ba0a156108310957382176e1227e0d8449e35166", func := "viator/viatorlaw33.BracketLogic", spec := "bracketLogic", inPlace := ["internal/bytealg.IndexByteString", "internal/bytealg.IndexString", "math/bits.Add64", "internal/bytealg.abigen_runtime_cmpstring"], unfollowed := true, recurses := true, named := ["unicode/utf8.first", "unicode/utf8.acceptRanges", "internal/bytealg.MaxLen"], apart := false, laid := [("unicode/utf8.acceptRanges", laid_unicode_utf8_acceptRanges), ("unicode/utf8.first", laid_unicode_utf8_first)] }
def BracketLogicSaid : Prop := bracketLogicRow.holds Tryz.pinned (OpenSpec.ofChange bracketLogicSpec)

/-- ITS FALSE NEIGHBOUR: 'it returns false'. Refute it at one input. -/
def bracketLogicWrong : ChangeSpec := { name := "bracketLogic", fn := fun _ => fun
  | [d1, d2, d3] => { results := [.lit (.bool false)], args := [d1, d2, d3] }
  | _ => none }
def BracketLogicWrongFalsely : Prop := bracketLogicRow.holds Tryz.pinned (OpenSpec.ofChange bracketLogicWrong)

/-- 'viatorlaw33.BracketChecks': WHATEVER THE INPUT: true; the input reads as it did. -/
def bracketChecksSpec : ChangeSpec := { name := "bracketChecks", fn := fun _ => fun
  | [d1, d2] => { results := [.lit (.bool true)], args := [d1, d2] }
  | _ => none }
def bracketChecksRow : OpenClaim := { program := "ytbnldpccdppmiaagreatdoor", sum := "fc481d8cfb98ac4b7212bcb7ba0a156108310957382176e1227e0d8449e35166", func := "viator/viatorlaw33.BracketChecks", spec := "bracketChecks", inPlace := ["internal/bytealg.IndexByteString", "internal/bytealg.IndexString", "math/bits.Add64", "internal/bytealg.abigen_runtime_cmpstring", "internal/abi.NoEscape", "internal/bytealg.MakeNoZero"], unfollowed := true, recurses := true, named := ["unicode/utf8.first", "unicode/utf8.acceptRanges", "internal/bytealg.MaxLen"], apart := false, laid := [("unicode/utf8.acceptRanges", laid_unicode_utf8_acceptRanges), ("unicode/utf8.first", laid_unicode_utf8_first)] }
def BracketChecksSaid : Prop := bracketChecksRow.holds Tryz.pinned (OpenSpec.ofChange bracketChecksSpec)

/-- ITS FALSE NEIGHBOUR: 'it returns false'. Refute it at one input. -/
def bracketChecksWrong : ChangeSpec := { name := "bracketChecks", fn := fun _ => fun
  | [d1, d2] => { results := [.lit (.bool false)], args := [d1, d2] }
  | _ => none }
def BracketChecksWrongFalsely : Prop := bracketChecksRow.holds Tryz.pinned (OpenSpec.ofChange bracketChecksWrong)

/- THE SECOND FORM. 'bulk': how many values and letters a reading holds, each counted each time it is reached (what is shared counts as often as it is met; a slice's spare places count too). A statement '..UptoSaid' is the law's where the arguments, and the package variables that the reading takes, are together of bulk at most 1048576: NARROWER than '..Said'. Prove '..Said' where nothing that the law and all that it calls make is longer than what came in: it says more and counts as full. Else prove '..UptoSaid'. A law counts once. -/
mutual
def uptoBulk {H : Type} : DataW H → Nat
  | .lit (.string bytes) => bytes.length + 1
  | .lit _ => 1
  | .nil => 1
  | .ptr d => uptoBulk d + 1
  | .slice elems spare => uptoBulkAll elems + uptoBulkAll spare + 1
  | .agg parts => uptoBulkAll parts + 1
  | .iface _ d => uptoBulk d + 1
  | .map entries => uptoBulkEntries entries + 1
  | .held _ => 1
def uptoBulkAll {H : Type} : List (DataW H) → Nat
  | [] => 0
  | d :: r => uptoBulk d + uptoBulkAll r
def uptoBulkEntries {H : Type} : List (Lit × DataW H) → Nat
  | [] => 0
  | x :: r => uptoBulkEntry x + uptoBulkEntries r
def uptoBulkEntry {H : Type} : Lit × DataW H → Nat
  | (.string bytes, d) => bytes.length + uptoBulk d + 1
  | (_, d) => uptoBulk d + 1
 end
def uptoSmall : (H : Type) → List (DataW H) → Bool := fun _ ds => decide (uptoBulkAll ds ≤ 1048576)
def OpenSpec.upto (s : _root_.Go.ChangeSpec) : _root_.Go.OpenSpec := { _root_.Go.OpenSpec.ofChange s with cond := some uptoSmall }

/-- 'viatorlaw33.BracketBrackets', WHERE WHAT IT READS IS OF BULK AT MOST 1048576: true; the input reads as it did. -/
def bracketBracketsUptoRow : OpenClaim := { program := "ytbnldpccdppmiaagreatdoor", sum := "fc481d8cfb98ac4b7212bcb7ba0a156108310957382176e1227e0d8449e35166", func := "viator/viatorlaw33.BracketBrackets", spec := "bracketBrackets", inPlace := ["internal/bytealg.IndexByteString", "internal/bytealg.IndexString", "math/bits.Add64", "internal/bytealg.abigen_runtime_cmpstring"], unfollowed := true, recurses := true, named := ["unicode/utf8.first", "unicode/utf8.acceptRanges", "internal/bytealg.MaxLen"], apart := false, laid := [("unicode/utf8.acceptRanges", laid_unicode_utf8_acceptRanges), ("unicode/utf8.first", laid_unicode_utf8_first)], narrowed := true }
def BracketBracketsUptoSaid : Prop := bracketBracketsUptoRow.holds Tryz.pinned (OpenSpec.upto bracketBracketsSpec)

/-- 'viatorlaw33.BracketQuestions', WHERE WHAT IT READS IS OF BULK AT MOST 1048576: true; the input reads as it did. -/
def bracketQuestionsUptoRow : OpenClaim := { program := "ytbnldpccdppmiaagreatdoor", sum := "fc481d8cfb98ac4b7212bcb7ba0a156108310957382176e1227e0d8449e35166", func := "viator/viatorlaw33.BracketQuestions", spec := "bracketQuestions", inPlace := ["internal/bytealg.IndexByteString", "internal/bytealg.IndexString", "math/bits.Add64", "internal/bytealg.abigen_runtime_cmpstring"], unfollowed := true, recurses := true, named := ["unicode/utf8.first", "unicode/utf8.acceptRanges", "internal/bytealg.MaxLen"], apart := false, laid := [("unicode/utf8.acceptRanges", laid_unicode_utf8_acceptRanges), ("unicode/utf8.first", laid_unicode_utf8_first)], narrowed := true }
def BracketQuestionsUptoSaid : Prop := bracketQuestionsUptoRow.holds Tryz.pinned (OpenSpec.upto bracketQuestionsSpec)

/-- 'viatorlaw33.BracketOperates', WHERE WHAT IT READS IS OF BULK AT MOST 1048576: true; the input reads as it did. -/
def bracketOperatesUptoRow : OpenClaim := { program := "ytbnldpccdppmiaagreatdoor", sum := "fc481d8cfb98ac4b7212bcb7ba0a156108310957382176e1227e0d8449e35166", func := "viator/viatorlaw33.BracketOperates", spec := "bracketOperates", inPlace := ["internal/bytealg.IndexByteString", "internal/bytealg.IndexString", "math/bits.Add64", "internal/bytealg.abigen_runtime_cmpstring"], unfollowed := true, recurses := true, named := ["unicode/utf8.first", "unicode/utf8.acceptRanges", "internal/bytealg.MaxLen"], apart := false, laid := [("unicode/utf8.acceptRanges", laid_unicode_utf8_acceptRanges), ("unicode/utf8.first", laid_unicode_utf8_first)], narrowed := true }
def BracketOperatesUptoSaid : Prop := bracketOperatesUptoRow.holds Tryz.pinned (OpenSpec.upto bracketOperatesSpec)

/-- 'viatorlaw33.BracketLogic', WHERE WHAT IT READS IS OF BULK AT MOST 1048576: true; the input reads as it did. -/
def bracketLogicUptoRow : OpenClaim := { program := "ytbnldpccdppmiaagreatdoor", sum := "fc481d8cfb98ac4b7212bcb7ba0a156108310957382176e1227e0d8449e35166", func := "viator/viatorlaw33.BracketLogic", spec := "bracketLogic", inPlace := ["internal/bytealg.IndexByteString", "internal/bytealg.IndexString", "math/bits.Add64", "internal/bytealg.abigen_runtime_cmpstring"], unfollowed := true, recurses := true, named := ["unicode/utf8.first", "unicode/utf8.acceptRanges", "internal/bytealg.MaxLen"], apart := false, laid := [("unicode/utf8.acceptRanges", laid_unicode_utf8_acceptRanges), ("unicode/utf8.first", laid_unicode_utf8_first)], narrowed := true }
def BracketLogicUptoSaid : Prop := bracketLogicUptoRow.holds Tryz.pinned (OpenSpec.upto bracketLogicSpec)

/-- 'viatorlaw33.BracketChecks', WHERE WHAT IT READS IS OF BULK AT MOST 1048576: true; the input reads as it did. -/
def bracketChecksUptoRow : OpenClaim := { program := "ytbnldpccdppmiaagreatdoor", sum := "fc481d8cfb98ac4b7212bcb7ba0a156108310957382176e1227e0d8449e35166", func := "viator/viatorlaw33.BracketChecks", spec := "bracketChecks", inPlace := ["internal/bytealg.IndexByteString", "internal/bytealg.IndexString", "math/bits.Add64", "internal/bytealg.abigen_runtime_cmpstring", "internal/abi.NoEscape", "internal/bytealg.MakeNoZero"], unfollowed := true, recurses := true, named := ["unicode/utf8.first", "unicode/utf8.acceptRanges", "internal/bytealg.MaxLen"], apart := false, laid := [("unicode/utf8.acceptRanges", laid_unicode_utf8_acceptRanges), ("unicode/utf8.first", laid_unicode_utf8_first)], narrowed := true }
def BracketChecksUptoSaid : Prop := bracketChecksUptoRow.holds Tryz.pinned (OpenSpec.upto bracketChecksSpec)

end Rows
end Go.Proofs.YtbnldpccdppmiaaGreatDoor
