/-
  NARROWER THAN 'FOR EVERY INPUT', by the rows' own cells (each row's printed sentence says how): PiecesKinds: laid · PiecesOverlaps: laid · PiecesRules: laid · PiecesNormal: laid · PiecesChecks: laid · PiecesShifts: laid · PiecesRefines: laid · PiecesMaps: laid · PiecesMoments: laid · PiecesPatches: laid · PiecesRestricts: laid.
  DERIVED. THE GIVEN ROWS OF THIS SEAT. 11 by the template 'for every input the law returns true; each argument reads behind the call as it read before'; 0 by the template 'total and deterministic' (their statements: YtnkaneggnjallaaGreatDoorTotals.lean).
  GIVEN WITH THE SEED: the statements are not yours to turn. If you find one false, say at which input.
  Laid BY PROGRAM, IN A SANDBOX (cutbox-rows.mjs): the forced cells as the released guide's own fill.sh prints them over the translation 9f965dd177859e80… (all of the seat's roots in one cut). By AI agents, Wed Nov 11 2026. No macro, syntax, notation, axiom, sorry.
-/
import Derived.Test.YtnkaneggnjallaaGreatDoorChecked
import GoSem.PinnedTables
import GoSem.Claim
import GoSem.ClaimJoined
import GoSem.ClaimMapViews
import Derived.JoinedTies
import Derived.KernelRfl
namespace Go.Proofs.YtnkaneggnjallaaGreatDoor
/- THE CELL 'sum', in the pinned program and in every row, IS THE sha256 OF THE DUMP (.gsa) THAT YtnkaneggnjallaaGreatDoorProg.lean LOADS. Nothing in Lean hashes anything: it is a label: what it is worth is what the hold of that sum in a sandbox is worth. -/
noncomputable def Tryz.pinned : Pinned := { name := "ytnkaneggnjallaagreatdoor", sum := "9f965dd177859e801d7e2cbc66386e6a15350a0fcfa2f987b3db4ff03b915d5f", checked := Tryz.checked }
namespace Rows
def none {H : Type} : Left H := { results := [], args := [] }

/- WHAT THE LISTED PACKAGE-LEVEL VARIABLES READ AS WHEN THE CALL BEGINS. Each datum BY PROGRAM (the guide's laid-datum.mjs) off the statement by which the dump's own 'gosem.cut.vars' lays the variable. In a bare row this is a premise. The card (YtnkaneggnjallaaGreatDoorCards.lean) ties it to the program's text. -/
def laid_unicode_utf8_acceptRanges {H : Type} : DataW H := .agg [.agg [.lit (.int .u8 128), .lit (.int .u8 191)], .agg [.lit (.int .u8 160), .lit (.int .u8 191)], .agg [.lit (.int .u8 128), .lit (.int .u8 159)], .agg [.lit (.int .u8 144), .lit (.int .u8 191)], .agg [.lit (.int .u8 128), .lit (.int .u8 143)], .agg [.lit (.int .u8 0), .lit (.int .u8 0)], .agg [.lit (.int .u8 0), .lit (.int .u8 0)], .agg [.lit (.int .u8 0), .lit (.int .u8 0)], .agg [.lit (.int .u8 0), .lit (.int .u8 0)], .agg [.lit (.int .u8 0), .lit (.int .u8 0)], .agg [.lit (.int .u8 0), .lit (.int .u8 0)], .agg [.lit (.int .u8 0), .lit (.int .u8 0)], .agg [.lit (.int .u8 0), .lit (.int .u8 0)], .agg [.lit (.int .u8 0), .lit (.int .u8 0)], .agg [.lit (.int .u8 0), .lit (.int .u8 0)], .agg [.lit (.int .u8 0), .lit (.int .u8 0)]]
/-- One of Go's own tables, pinned by name: the form's constant. -/
def laid_unicode_utf8_first : DataW Unit := Go.Pinned.utf8First

/-- 'viatorlaw13.PiecesKinds': WHATEVER THE INPUT: true; the input reads as it did. -/
def piecesKindsSpec : ChangeSpec := { name := "piecesKinds", fn := fun _ => fun
  | [d1, d2] => { results := [.lit (.bool true)], args := [d1, d2] }
  | _ => none }
def piecesKindsRow : OpenClaim := { program := "ytnkaneggnjallaagreatdoor", sum := "9f965dd177859e801d7e2cbc66386e6a15350a0fcfa2f987b3db4ff03b915d5f", func := "viator/viatorlaw13.PiecesKinds", spec := "piecesKinds", inPlace := ["internal/bytealg.IndexByteString", "internal/bytealg.IndexString", "math/bits.Add64", "internal/bytealg.abigen_runtime_cmpstring"], unfollowed := true, recurses := true, named := ["unicode/utf8.first", "unicode/utf8.acceptRanges", "internal/bytealg.MaxLen"], apart := false, laid := [("unicode/utf8.acceptRanges", laid_unicode_utf8_acceptRanges), ("unicode/utf8.first", laid_unicode_utf8_first)] }
def PiecesKindsSaid : Prop := piecesKindsRow.holds Tryz.pinned (OpenSpec.ofChange piecesKindsSpec)

/-- ITS FALSE NEIGHBOUR: 'it returns false'. Refute it at one input. -/
def piecesKindsWrong : ChangeSpec := { name := "piecesKinds", fn := fun _ => fun
  | [d1, d2] => { results := [.lit (.bool false)], args := [d1, d2] }
  | _ => none }
def PiecesKindsWrongFalsely : Prop := piecesKindsRow.holds Tryz.pinned (OpenSpec.ofChange piecesKindsWrong)

/-- 'viatorlaw13.PiecesOverlaps': WHATEVER THE INPUT: true; the input reads as it did. -/
def piecesOverlapsSpec : ChangeSpec := { name := "piecesOverlaps", fn := fun _ => fun
  | [d] => { results := [.lit (.bool true)], args := [d] }
  | _ => none }
def piecesOverlapsRow : OpenClaim := { program := "ytnkaneggnjallaagreatdoor", sum := "9f965dd177859e801d7e2cbc66386e6a15350a0fcfa2f987b3db4ff03b915d5f", func := "viator/viatorlaw13.PiecesOverlaps", spec := "piecesOverlaps", inPlace := ["internal/bytealg.IndexByteString", "internal/bytealg.IndexString", "math/bits.Add64", "internal/bytealg.abigen_runtime_cmpstring"], unfollowed := true, recurses := true, named := ["unicode/utf8.first", "unicode/utf8.acceptRanges", "internal/bytealg.MaxLen"], apart := false, laid := [("unicode/utf8.acceptRanges", laid_unicode_utf8_acceptRanges), ("unicode/utf8.first", laid_unicode_utf8_first)] }
def PiecesOverlapsSaid : Prop := piecesOverlapsRow.holds Tryz.pinned (OpenSpec.ofChange piecesOverlapsSpec)

/-- ITS FALSE NEIGHBOUR: 'it returns false'. Refute it at one input. -/
def piecesOverlapsWrong : ChangeSpec := { name := "piecesOverlaps", fn := fun _ => fun
  | [d] => { results := [.lit (.bool false)], args := [d] }
  | _ => none }
def PiecesOverlapsWrongFalsely : Prop := piecesOverlapsRow.holds Tryz.pinned (OpenSpec.ofChange piecesOverlapsWrong)

/-- 'viatorlaw13.PiecesRules': WHATEVER THE INPUT: true; the input reads as it did. -/
def piecesRulesSpec : ChangeSpec := { name := "piecesRules", fn := fun _ => fun
  | [d1, d2, d3] => { results := [.lit (.bool true)], args := [d1, d2, d3] }
  | _ => none }
def piecesRulesRow : OpenClaim := { program := "ytnkaneggnjallaagreatdoor", sum := "9f965dd177859e801d7e2cbc66386e6a15350a0fcfa2f987b3db4ff03b915d5f", func := "viator/viatorlaw13.PiecesRules", spec := "piecesRules", inPlace := ["internal/bytealg.IndexByteString", "internal/bytealg.IndexString", "math/bits.Add64", "internal/bytealg.abigen_runtime_cmpstring"], unfollowed := true, recurses := true, named := ["unicode/utf8.first", "unicode/utf8.acceptRanges", "internal/bytealg.MaxLen"], apart := false, laid := [("unicode/utf8.acceptRanges", laid_unicode_utf8_acceptRanges), ("unicode/utf8.first", laid_unicode_utf8_first)] }
def PiecesRulesSaid : Prop := piecesRulesRow.holds Tryz.pinned (OpenSpec.ofChange piecesRulesSpec)

/-- ITS FALSE NEIGHBOUR: 'it returns false'. Refute it at one input. -/
def piecesRulesWrong : ChangeSpec := { name := "piecesRules", fn := fun _ => fun
  | [d1, d2, d3] => { results := [.lit (.bool false)], args := [d1, d2, d3] }
  | _ => none }
def PiecesRulesWrongFalsely : Prop := piecesRulesRow.holds Tryz.pinned (OpenSpec.ofChange piecesRulesWrong)

/-- 'viatorlaw13.PiecesNormal': WHATEVER THE INPUT: true; the input reads as it did. -/
def piecesNormalSpec : ChangeSpec := { name := "piecesNormal", fn := fun _ => fun
  | [d1, d2] => { results := [.lit (.bool true)], args := [d1, d2] }
  | _ => none }
def piecesNormalRow : OpenClaim := { program := "ytnkaneggnjallaagreatdoor", sum := "9f965dd177859e801d7e2cbc66386e6a15350a0fcfa2f987b3db4ff03b915d5f", func := "viator/viatorlaw13.PiecesNormal", spec := "piecesNormal", inPlace := ["internal/bytealg.IndexByteString", "internal/bytealg.IndexString", "math/bits.Add64", "internal/bytealg.abigen_runtime_cmpstring", "internal/abi.NoEscape", "internal/bytealg.MakeNoZero"], unfollowed := true, recurses := true, named := ["unicode/utf8.first", "unicode/utf8.acceptRanges", "internal/bytealg.MaxLen"], apart := false, laid := [("unicode/utf8.acceptRanges", laid_unicode_utf8_acceptRanges), ("unicode/utf8.first", laid_unicode_utf8_first)] }
def PiecesNormalSaid : Prop := piecesNormalRow.holds Tryz.pinned (OpenSpec.ofChange piecesNormalSpec)

/-- ITS FALSE NEIGHBOUR: 'it returns false'. Refute it at one input. -/
def piecesNormalWrong : ChangeSpec := { name := "piecesNormal", fn := fun _ => fun
  | [d1, d2] => { results := [.lit (.bool false)], args := [d1, d2] }
  | _ => none }
def PiecesNormalWrongFalsely : Prop := piecesNormalRow.holds Tryz.pinned (OpenSpec.ofChange piecesNormalWrong)

/-- 'viatorlaw13.PiecesChecks': WHATEVER THE INPUT: true; the input reads as it did. -/
def piecesChecksSpec : ChangeSpec := { name := "piecesChecks", fn := fun _ => fun
  | [d1, d2, d3] => { results := [.lit (.bool true)], args := [d1, d2, d3] }
  | _ => none }
def piecesChecksRow : OpenClaim := { program := "ytnkaneggnjallaagreatdoor", sum := "9f965dd177859e801d7e2cbc66386e6a15350a0fcfa2f987b3db4ff03b915d5f", func := "viator/viatorlaw13.PiecesChecks", spec := "piecesChecks", inPlace := ["internal/bytealg.IndexByteString", "internal/bytealg.IndexString", "math/bits.Add64", "internal/bytealg.abigen_runtime_cmpstring", "internal/abi.NoEscape", "internal/bytealg.MakeNoZero"], unfollowed := true, recurses := true, named := ["unicode/utf8.first", "unicode/utf8.acceptRanges", "internal/bytealg.MaxLen"], apart := false, laid := [("unicode/utf8.acceptRanges", laid_unicode_utf8_acceptRanges), ("unicode/utf8.first", laid_unicode_utf8_first)] }
def PiecesChecksSaid : Prop := piecesChecksRow.holds Tryz.pinned (OpenSpec.ofChange piecesChecksSpec)

/-- ITS FALSE NEIGHBOUR: 'it returns false'. Refute it at one input. -/
def piecesChecksWrong : ChangeSpec := { name := "piecesChecks", fn := fun _ => fun
  | [d1, d2, d3] => { results := [.lit (.bool false)], args := [d1, d2, d3] }
  | _ => none }
def PiecesChecksWrongFalsely : Prop := piecesChecksRow.holds Tryz.pinned (OpenSpec.ofChange piecesChecksWrong)

/-- 'viatorlaw13.PiecesShifts': WHATEVER THE INPUT: true; the input reads as it did. -/
def piecesShiftsSpec : ChangeSpec := { name := "piecesShifts", fn := fun _ => fun
  | [d1, d2] => { results := [.lit (.bool true)], args := [d1, d2] }
  | _ => none }
def piecesShiftsRow : OpenClaim := { program := "ytnkaneggnjallaagreatdoor", sum := "9f965dd177859e801d7e2cbc66386e6a15350a0fcfa2f987b3db4ff03b915d5f", func := "viator/viatorlaw13.PiecesShifts", spec := "piecesShifts", inPlace := ["internal/bytealg.IndexByteString", "internal/bytealg.IndexString", "math/bits.Add64", "internal/bytealg.abigen_runtime_cmpstring", "internal/abi.NoEscape", "internal/bytealg.MakeNoZero"], unfollowed := true, recurses := true, named := ["unicode/utf8.first", "unicode/utf8.acceptRanges", "internal/bytealg.MaxLen"], apart := false, laid := [("unicode/utf8.acceptRanges", laid_unicode_utf8_acceptRanges), ("unicode/utf8.first", laid_unicode_utf8_first)] }
def PiecesShiftsSaid : Prop := piecesShiftsRow.holds Tryz.pinned (OpenSpec.ofChange piecesShiftsSpec)

/-- ITS FALSE NEIGHBOUR: 'it returns false'. Refute it at one input. -/
def piecesShiftsWrong : ChangeSpec := { name := "piecesShifts", fn := fun _ => fun
  | [d1, d2] => { results := [.lit (.bool false)], args := [d1, d2] }
  | _ => none }
def PiecesShiftsWrongFalsely : Prop := piecesShiftsRow.holds Tryz.pinned (OpenSpec.ofChange piecesShiftsWrong)

/-- 'viatorlaw13.PiecesRefines': WHATEVER THE INPUT: true; the input reads as it did. -/
def piecesRefinesSpec : ChangeSpec := { name := "piecesRefines", fn := fun _ => fun
  | [d1, d2] => { results := [.lit (.bool true)], args := [d1, d2] }
  | _ => none }
def piecesRefinesRow : OpenClaim := { program := "ytnkaneggnjallaagreatdoor", sum := "9f965dd177859e801d7e2cbc66386e6a15350a0fcfa2f987b3db4ff03b915d5f", func := "viator/viatorlaw13.PiecesRefines", spec := "piecesRefines", inPlace := ["internal/bytealg.IndexByteString", "internal/bytealg.IndexString", "math/bits.Add64", "internal/bytealg.abigen_runtime_cmpstring"], unfollowed := true, recurses := true, named := ["unicode/utf8.first", "unicode/utf8.acceptRanges", "internal/bytealg.MaxLen"], apart := false, laid := [("unicode/utf8.acceptRanges", laid_unicode_utf8_acceptRanges), ("unicode/utf8.first", laid_unicode_utf8_first)] }
def PiecesRefinesSaid : Prop := piecesRefinesRow.holds Tryz.pinned (OpenSpec.ofChange piecesRefinesSpec)

/-- ITS FALSE NEIGHBOUR: 'it returns false'. Refute it at one input. -/
def piecesRefinesWrong : ChangeSpec := { name := "piecesRefines", fn := fun _ => fun
  | [d1, d2] => { results := [.lit (.bool false)], args := [d1, d2] }
  | _ => none }
def PiecesRefinesWrongFalsely : Prop := piecesRefinesRow.holds Tryz.pinned (OpenSpec.ofChange piecesRefinesWrong)

/-- 'viatorlaw13.PiecesMaps': WHATEVER THE INPUT: true; the input reads as it did. -/
def piecesMapsSpec : ChangeSpec := { name := "piecesMaps", fn := fun _ => fun
  | [d1, d2] => { results := [.lit (.bool true)], args := [d1, d2] }
  | _ => none }
def piecesMapsRow : OpenClaim := { program := "ytnkaneggnjallaagreatdoor", sum := "9f965dd177859e801d7e2cbc66386e6a15350a0fcfa2f987b3db4ff03b915d5f", func := "viator/viatorlaw13.PiecesMaps", spec := "piecesMaps", inPlace := ["internal/bytealg.IndexByteString", "internal/bytealg.IndexString", "math/bits.Add64", "internal/bytealg.abigen_runtime_cmpstring", "internal/abi.NoEscape", "internal/bytealg.MakeNoZero"], unfollowed := true, recurses := true, named := ["unicode/utf8.first", "unicode/utf8.acceptRanges", "internal/bytealg.MaxLen"], apart := false, laid := [("unicode/utf8.acceptRanges", laid_unicode_utf8_acceptRanges), ("unicode/utf8.first", laid_unicode_utf8_first)] }
def PiecesMapsSaid : Prop := piecesMapsRow.holds Tryz.pinned (OpenSpec.ofChange piecesMapsSpec)

/-- ITS FALSE NEIGHBOUR: 'it returns false'. Refute it at one input. -/
def piecesMapsWrong : ChangeSpec := { name := "piecesMaps", fn := fun _ => fun
  | [d1, d2] => { results := [.lit (.bool false)], args := [d1, d2] }
  | _ => none }
def PiecesMapsWrongFalsely : Prop := piecesMapsRow.holds Tryz.pinned (OpenSpec.ofChange piecesMapsWrong)

/-- 'viatorlaw13.PiecesMoments': WHATEVER THE INPUT: true; the input reads as it did. -/
def piecesMomentsSpec : ChangeSpec := { name := "piecesMoments", fn := fun _ => fun
  | [d] => { results := [.lit (.bool true)], args := [d] }
  | _ => none }
def piecesMomentsRow : OpenClaim := { program := "ytnkaneggnjallaagreatdoor", sum := "9f965dd177859e801d7e2cbc66386e6a15350a0fcfa2f987b3db4ff03b915d5f", func := "viator/viatorlaw13.PiecesMoments", spec := "piecesMoments", inPlace := ["internal/bytealg.IndexByteString", "internal/bytealg.IndexString", "math/bits.Add64", "internal/bytealg.abigen_runtime_cmpstring", "internal/abi.NoEscape", "internal/bytealg.MakeNoZero"], unfollowed := true, recurses := true, named := ["unicode/utf8.first", "unicode/utf8.acceptRanges", "internal/bytealg.MaxLen"], apart := false, laid := [("unicode/utf8.acceptRanges", laid_unicode_utf8_acceptRanges), ("unicode/utf8.first", laid_unicode_utf8_first)] }
def PiecesMomentsSaid : Prop := piecesMomentsRow.holds Tryz.pinned (OpenSpec.ofChange piecesMomentsSpec)

/-- ITS FALSE NEIGHBOUR: 'it returns false'. Refute it at one input. -/
def piecesMomentsWrong : ChangeSpec := { name := "piecesMoments", fn := fun _ => fun
  | [d] => { results := [.lit (.bool false)], args := [d] }
  | _ => none }
def PiecesMomentsWrongFalsely : Prop := piecesMomentsRow.holds Tryz.pinned (OpenSpec.ofChange piecesMomentsWrong)

/-- 'viatorlaw13.PiecesPatches': WHATEVER THE INPUT: true; the input reads as it did. -/
def piecesPatchesSpec : ChangeSpec := { name := "piecesPatches", fn := fun _ => fun
  | [d1, d2] => { results := [.lit (.bool true)], args := [d1, d2] }
  | _ => none }
def piecesPatchesRow : OpenClaim := { program := "ytnkaneggnjallaagreatdoor", sum := "9f965dd177859e801d7e2cbc66386e6a15350a0fcfa2f987b3db4ff03b915d5f", func := "viator/viatorlaw13.PiecesPatches", spec := "piecesPatches", inPlace := ["internal/bytealg.IndexByteString", "internal/bytealg.IndexString", "math/bits.Add64", "internal/bytealg.abigen_runtime_cmpstring", "internal/abi.NoEscape", "internal/bytealg.MakeNoZero"], unfollowed := true, recurses := true, named := ["unicode/utf8.first", "unicode/utf8.acceptRanges", "internal/bytealg.MaxLen"], apart := false, laid := [("unicode/utf8.acceptRanges", laid_unicode_utf8_acceptRanges), ("unicode/utf8.first", laid_unicode_utf8_first)] }
def PiecesPatchesSaid : Prop := piecesPatchesRow.holds Tryz.pinned (OpenSpec.ofChange piecesPatchesSpec)

/-- ITS FALSE NEIGHBOUR: 'it returns false'. Refute it at one input. -/
def piecesPatchesWrong : ChangeSpec := { name := "piecesPatches", fn := fun _ => fun
  | [d1, d2] => { results := [.lit (.bool false)], args := [d1, d2] }
  | _ => none }
def PiecesPatchesWrongFalsely : Prop := piecesPatchesRow.holds Tryz.pinned (OpenSpec.ofChange piecesPatchesWrong)

/-- 'viatorlaw13.PiecesRestricts': WHATEVER THE INPUT: true; the input reads as it did. -/
def piecesRestrictsSpec : ChangeSpec := { name := "piecesRestricts", fn := fun _ => fun
  | [d1, d2] => { results := [.lit (.bool true)], args := [d1, d2] }
  | _ => none }
def piecesRestrictsRow : OpenClaim := { program := "ytnkaneggnjallaagreatdoor", sum := "9f965dd177859e801d7e2cbc66386e6a15350a0fcfa2f987b3db4ff03b915d5f", func := "viator/viatorlaw13.PiecesRestricts", spec := "piecesRestricts", inPlace := ["internal/bytealg.IndexByteString", "internal/bytealg.IndexString", "math/bits.Add64", "internal/bytealg.abigen_runtime_cmpstring", "internal/abi.NoEscape", "internal/bytealg.MakeNoZero"], unfollowed := true, recurses := true, named := ["unicode/utf8.first", "unicode/utf8.acceptRanges", "internal/bytealg.MaxLen"], apart := false, laid := [("unicode/utf8.acceptRanges", laid_unicode_utf8_acceptRanges), ("unicode/utf8.first", laid_unicode_utf8_first)] }
def PiecesRestrictsSaid : Prop := piecesRestrictsRow.holds Tryz.pinned (OpenSpec.ofChange piecesRestrictsSpec)

/-- ITS FALSE NEIGHBOUR: 'it returns false'. Refute it at one input. -/
def piecesRestrictsWrong : ChangeSpec := { name := "piecesRestricts", fn := fun _ => fun
  | [d1, d2] => { results := [.lit (.bool false)], args := [d1, d2] }
  | _ => none }
def PiecesRestrictsWrongFalsely : Prop := piecesRestrictsRow.holds Tryz.pinned (OpenSpec.ofChange piecesRestrictsWrong)

/- THE SECOND FORM. 'bulk': how many values and letters a reading holds, each counted each time it is reached (what is shared counts as often as it is met; a slice's spare places count too). A statement '..UptoSaid' is the law's where the arguments, and the package variables that the reading takes, are together of bulk at most 1048576: NARROWER than '..Said'. Prove '..Said' where nothing that the law and all that it calls make is longer than what came in: it says more and counts as full. Else prove '..UptoSaid'. A law counts once. -/
mutual
def uptoBulk {H : Type} : DataW H → Nat
  | .lit (.string bytes) => bytes.length + 1
  | .lit _ => 1
  | .nil => 1
  | .ptr d => uptoBulk d + 1
  | .slice elems spare => uptoBulkAll elems + uptoBulkAll spare + 1
  | .agg parts => uptoBulkAll parts + 1
  | .iface _ d => uptoBulk d + 1
  | .map entries => uptoBulkEntries entries + 1
  | .held _ => 1
def uptoBulkAll {H : Type} : List (DataW H) → Nat
  | [] => 0
  | d :: r => uptoBulk d + uptoBulkAll r
def uptoBulkEntries {H : Type} : List (Lit × DataW H) → Nat
  | [] => 0
  | x :: r => uptoBulkEntry x + uptoBulkEntries r
def uptoBulkEntry {H : Type} : Lit × DataW H → Nat
  | (.string bytes, d) => bytes.length + uptoBulk d + 1
  | (_, d) => uptoBulk d + 1
 end
def uptoSmall : (H : Type) → List (DataW H) → Bool := fun _ ds => decide (uptoBulkAll ds ≤ 1048576)
def OpenSpec.upto (s : _root_.Go.ChangeSpec) : _root_.Go.OpenSpec := { _root_.Go.OpenSpec.ofChange s with cond := some uptoSmall }

/-- 'viatorlaw13.PiecesKinds', WHERE WHAT IT READS IS OF BULK AT MOST 1048576: true; the input reads as it did. -/
def piecesKindsUptoRow : OpenClaim := { program := "ytnkaneggnjallaagreatdoor", sum := "9f965dd177859e801d7e2cbc66386e6a15350a0fcfa2f987b3db4ff03b915d5f", func := "viator/viatorlaw13.PiecesKinds", spec := "piecesKinds", inPlace := ["internal/bytealg.IndexByteString", "internal/bytealg.IndexString", "math/bits.Add64", "internal/bytealg.abigen_runtime_cmpstring"], unfollowed := true, recurses := true, named := ["unicode/utf8.first", "unicode/utf8.acceptRanges", "internal/bytealg.MaxLen"], apart := false, laid := [("unicode/utf8.acceptRanges", laid_unicode_utf8_acceptRanges), ("unicode/utf8.first", laid_unicode_utf8_first)], narrowed := true }
def PiecesKindsUptoSaid : Prop := piecesKindsUptoRow.holds Tryz.pinned (OpenSpec.upto piecesKindsSpec)

/-- 'viatorlaw13.PiecesOverlaps', WHERE WHAT IT READS IS OF BULK AT MOST 1048576: true; the input reads as it did. -/
def piecesOverlapsUptoRow : OpenClaim := { program := "ytnkaneggnjallaagreatdoor", sum := "9f965dd177859e801d7e2cbc66386e6a15350a0fcfa2f987b3db4ff03b915d5f", func := "viator/viatorlaw13.PiecesOverlaps", spec := "piecesOverlaps", inPlace := ["internal/bytealg.IndexByteString", "internal/bytealg.IndexString", "math/bits.Add64", "internal/bytealg.abigen_runtime_cmpstring"], unfollowed := true, recurses := true, named := ["unicode/utf8.first", "unicode/utf8.acceptRanges", "internal/bytealg.MaxLen"], apart := false, laid := [("unicode/utf8.acceptRanges", laid_unicode_utf8_acceptRanges), ("unicode/utf8.first", laid_unicode_utf8_first)], narrowed := true }
def PiecesOverlapsUptoSaid : Prop := piecesOverlapsUptoRow.holds Tryz.pinned (OpenSpec.upto piecesOverlapsSpec)

/-- 'viatorlaw13.PiecesRules', WHERE WHAT IT READS IS OF BULK AT MOST 1048576: true; the input reads as it did. -/
def piecesRulesUptoRow : OpenClaim := { program := "ytnkaneggnjallaagreatdoor", sum := "9f965dd177859e801d7e2cbc66386e6a15350a0fcfa2f987b3db4ff03b915d5f", func := "viator/viatorlaw13.PiecesRules", spec := "piecesRules", inPlace := ["internal/bytealg.IndexByteString", "internal/bytealg.IndexString", "math/bits.Add64", "internal/bytealg.abigen_runtime_cmpstring"], unfollowed := true, recurses := true, named := ["unicode/utf8.first", "unicode/utf8.acceptRanges", "internal/bytealg.MaxLen"], apart := false, laid := [("unicode/utf8.acceptRanges", laid_unicode_utf8_acceptRanges), ("unicode/utf8.first", laid_unicode_utf8_first)], narrowed := true }
def PiecesRulesUptoSaid : Prop := piecesRulesUptoRow.holds Tryz.pinned (OpenSpec.upto piecesRulesSpec)

/-- 'viatorlaw13.PiecesNormal', WHERE WHAT IT READS IS OF BULK AT MOST 1048576: true; the input reads as it did. -/
def piecesNormalUptoRow : OpenClaim := { program := "ytnkaneggnjallaagreatdoor", sum := "9f965dd177859e801d7e2cbc66386e6a15350a0fcfa2f987b3db4ff03b915d5f", func := "viator/viatorlaw13.PiecesNormal", spec := "piecesNormal", inPlace := ["internal/bytealg.IndexByteString", "internal/bytealg.IndexString", "math/bits.Add64", "internal/bytealg.abigen_runtime_cmpstring", "internal/abi.NoEscape", "internal/bytealg.MakeNoZero"], unfollowed := true, recurses := true, named := ["unicode/utf8.first", "unicode/utf8.acceptRanges", "internal/bytealg.MaxLen"], apart := false, laid := [("unicode/utf8.acceptRanges", laid_unicode_utf8_acceptRanges), ("unicode/utf8.first", laid_unicode_utf8_first)], narrowed := true }
def PiecesNormalUptoSaid : Prop := piecesNormalUptoRow.holds Tryz.pinned (OpenSpec.upto piecesNormalSpec)

/-- 'viatorlaw13.PiecesChecks', WHERE WHAT IT READS IS OF BULK AT MOST 1048576: true; the input reads as it did. -/
def piecesChecksUptoRow : OpenClaim := { program := "ytnkaneggnjallaagreatdoor", sum := "9f965dd177859e801d7e2cbc66386e6a15350a0fcfa2f987b3db4ff03b915d5f", func := "viator/viatorlaw13.PiecesChecks", spec := "piecesChecks", inPlace := ["internal/bytealg.IndexByteString", "internal/bytealg.IndexString", "math/bits.Add64", "internal/bytealg.abigen_runtime_cmpstring", "internal/abi.NoEscape", "internal/bytealg.MakeNoZero"], unfollowed := true, recurses := true, named := ["unicode/utf8.first", "unicode/utf8.acceptRanges", "internal/bytealg.MaxLen"], apart := false, laid := [("unicode/utf8.acceptRanges", laid_unicode_utf8_acceptRanges), ("unicode/utf8.first", laid_unicode_utf8_first)], narrowed := true }
def PiecesChecksUptoSaid : Prop := piecesChecksUptoRow.holds Tryz.pinned (OpenSpec.upto piecesChecksSpec)

/-- 'viatorlaw13.PiecesShifts', WHERE WHAT IT READS IS OF BULK AT MOST 1048576: true; the input reads as it did. -/
def piecesShiftsUptoRow : OpenClaim := { program := "ytnkaneggnjallaagreatdoor", sum := "9f965dd177859e801d7e2cbc66386e6a15350a0fcfa2f987b3db4ff03b915d5f", func := "viator/viatorlaw13.PiecesShifts", spec := "piecesShifts", inPlace := ["internal/bytealg.IndexByteString", "internal/bytealg.IndexString", "math/bits.Add64", "internal/bytealg.abigen_runtime_cmpstring", "internal/abi.NoEscape", "internal/bytealg.MakeNoZero"], unfollowed := true, recurses := true, named := ["unicode/utf8.first", "unicode/utf8.acceptRanges", "internal/bytealg.MaxLen"], apart := false, laid := [("unicode/utf8.acceptRanges", laid_unicode_utf8_acceptRanges), ("unicode/utf8.first", laid_unicode_utf8_first)], narrowed := true }
def PiecesShiftsUptoSaid : Prop := piecesShiftsUptoRow.holds Tryz.pinned (OpenSpec.upto piecesShiftsSpec)

/-- 'viatorlaw13.PiecesRefines', WHERE WHAT IT READS IS OF BULK AT MOST 1048576: true; the input reads as it did. -/
def piecesRefinesUptoRow : OpenClaim := { program := "ytnkaneggnjallaagreatdoor", sum := "9f965dd177859e801d7e2cbc66386e6a15350a0fcfa2f987b3db4ff03b915d5f", func := "viator/viatorlaw13.PiecesRefines", spec := "piecesRefines", inPlace := ["internal/bytealg.IndexByteString", "internal/bytealg.IndexString", "math/bits.Add64", "internal/bytealg.abigen_runtime_cmpstring"], unfollowed := true, recurses := true, named := ["unicode/utf8.first", "unicode/utf8.acceptRanges", "internal/bytealg.MaxLen"], apart := false, laid := [("unicode/utf8.acceptRanges", laid_unicode_utf8_acceptRanges), ("unicode/utf8.first", laid_unicode_utf8_first)], narrowed := true }
def PiecesRefinesUptoSaid : Prop := piecesRefinesUptoRow.holds Tryz.pinned (OpenSpec.upto piecesRefinesSpec)

/-- 'viatorlaw13.PiecesMaps', WHERE WHAT IT READS IS OF BULK AT MOST 1048576: true; the input reads as it did. -/
def piecesMapsUptoRow : OpenClaim := { program := "ytnkaneggnjallaagreatdoor", sum := "9f965dd177859e801d7e2cbc66386e6a15350a0fcfa2f987b3db4ff03b915d5f", func := "viator/viatorlaw13.PiecesMaps", spec := "piecesMaps", inPlace := ["internal/bytealg.IndexByteString", "internal/bytealg.IndexString", "math/bits.Add64", "internal/bytealg.abigen_runtime_cmpstring", "internal/abi.NoEscape", "internal/bytealg.MakeNoZero"], unfollowed := true, recurses := true, named := ["unicode/utf8.first", "unicode/utf8.acceptRanges", "internal/bytealg.MaxLen"], apart := false, laid := [("unicode/utf8.acceptRanges", laid_unicode_utf8_acceptRanges), ("unicode/utf8.first", laid_unicode_utf8_first)], narrowed := true }
def PiecesMapsUptoSaid : Prop := piecesMapsUptoRow.holds Tryz.pinned (OpenSpec.upto piecesMapsSpec)

/-- 'viatorlaw13.PiecesMoments', WHERE WHAT IT READS IS OF BULK AT MOST 1048576: true; the input reads as it did. -/
def piecesMomentsUptoRow : OpenClaim := { program := "ytnkaneggnjallaagreatdoor", sum := "9f965dd177859e801d7e2cbc66386e6a15350a0fcfa2f987b3db4ff03b915d5f", func := "viator/viatorlaw13.PiecesMoments", spec := "piecesMoments", inPlace := ["internal/bytealg.IndexByteString", "internal/bytealg.IndexString", "math/bits.Add64", "internal/bytealg.abigen_runtime_cmpstring", "internal/abi.NoEscape", "internal/bytealg.MakeNoZero"], unfollowed := true, recurses := true, named := ["unicode/utf8.first", "unicode/utf8.acceptRanges", "internal/bytealg.MaxLen"], apart := false, laid := [("unicode/utf8.acceptRanges", laid_unicode_utf8_acceptRanges), ("unicode/utf8.first", laid_unicode_utf8_first)], narrowed := true }
def PiecesMomentsUptoSaid : Prop := piecesMomentsUptoRow.holds Tryz.pinned (OpenSpec.upto piecesMomentsSpec)

/-- 'viatorlaw13.PiecesPatches', WHERE WHAT IT READS IS OF BULK AT MOST 1048576: true; the input reads as it did. -/
def piecesPatchesUptoRow : OpenClaim := { program := "ytnkaneggnjallaagreatdoor", sum := "9f965dd177859e801d7e2cbc66386e6a15350a0fcfa2f987b3db4ff03b915d5f", func := "viator/viatorlaw13.PiecesPatches", spec := "piecesPatches", inPlace := ["internal/bytealg.IndexByteString", "internal/bytealg.IndexString", "math/bits.Add64", "internal/bytealg.abigen_runtime_cmpstring", "internal/abi.NoEscape", "internal/bytealg.MakeNoZero"], unfollowed := true, recurses := true, named := ["unicode/utf8.first", "unicode/utf8.acceptRanges", "internal/bytealg.MaxLen"], apart := false, laid := [("unicode/utf8.acceptRanges", laid_unicode_utf8_acceptRanges), ("unicode/utf8.first", laid_unicode_utf8_first)], narrowed := true }
def PiecesPatchesUptoSaid : Prop := piecesPatchesUptoRow.holds Tryz.pinned (OpenSpec.upto piecesPatchesSpec)

/-- 'viatorlaw13.PiecesRestricts', WHERE WHAT IT READS IS OF BULK AT MOST 1048576: true; the input reads as it did. -/
def piecesRestrictsUptoRow : OpenClaim := { program := "ytnkaneggnjallaagreatdoor", sum := "9f965dd177859e801d7e2cbc66386e6a15350a0fcfa2f987b3db4ff03b915d5f", func := "viator/viatorlaw13.PiecesRestricts", spec := "piecesRestricts", inPlace := ["internal/bytealg.IndexByteString", "internal/bytealg.IndexString", "math/bits.Add64", "internal/bytealg.abigen_runtime_cmpstring", "internal/abi.NoEscape", "internal/bytealg.MakeNoZero"], unfollowed := true, recurses := true, named := ["unicode/utf8.first", "unicode/utf8.acceptRanges", "internal/bytealg.MaxLen"], apart := false, laid := [("unicode/utf8.acceptRanges", laid_unicode_utf8_acceptRanges), ("unicode/utf8.first", laid_unicode_utf8_first)], narrowed := true }
def PiecesRestrictsUptoSaid : Prop := piecesRestrictsUptoRow.holds Tryz.pinned (OpenSpec.upto piecesRestrictsSpec)

end Rows
end Go.Proofs.YtnkaneggnjallaaGreatDoor
