/-
  NARROWER THAN 'FOR EVERY INPUT', by the rows' own cells (each row's printed sentence says how): MovingpointLong: laid · MovingpointSamples: laid · PiecesMaps: laid · MovingpointChecks: laid · MovingpointMeets: laid · PiecesMoments: laid · MovingpointMoves: laid · MovingpointNumbers: laid · PiecesPatches: laid · PiecesRestricts: laid · MovingpointRestricts: laid.
  DERIVED. THE GIVEN ROWS OF THIS SEAT. 11 by the template 'for every input the law returns true; each argument reads behind the call as it read before'; 0 by the template 'total and deterministic' (their statements: YtbenbmdkhcfcfaaGreatDoorTotals.lean).
  GIVEN WITH THE SEED: the statements are not yours to turn. If you find one false, say at which input.
  Laid BY PROGRAM, IN A SANDBOX (cutbox-rows.mjs): the forced cells as the released guide's own fill.sh prints them over the translation beb334265c2fffb1… (all of the seat's roots in one cut). By AI agents, Wed Nov 11 2026. No macro, syntax, notation, axiom, sorry.
-/
import Derived.Test.YtbenbmdkhcfcfaaGreatDoorChecked
import GoSem.PinnedTables
import GoSem.Claim
import GoSem.ClaimJoined
import GoSem.ClaimMapViews
import Derived.JoinedTies
import Derived.KernelRfl
namespace Go.Proofs.YtbenbmdkhcfcfaaGreatDoor
/- THE CELL 'sum', in the pinned program and in every row, IS THE sha256 OF THE DUMP (.gsa) THAT YtbenbmdkhcfcfaaGreatDoorProg.lean LOADS. Nothing in Lean hashes anything: it is a label: what it is worth is what the hold of that sum in a sandbox is worth. -/
noncomputable def Tryz.pinned : Pinned := { name := "ytbenbmdkhcfcfaagreatdoor", sum := "beb334265c2fffb1353ac1e9769ace24d63984ac4f7e3f7da90f7a64de36a64a", checked := Tryz.checked }
namespace Rows
def none {H : Type} : Left H := { results := [], args := [] }

/- WHAT THE LISTED PACKAGE-LEVEL VARIABLES READ AS WHEN THE CALL BEGINS. Each datum BY PROGRAM (the guide's laid-datum.mjs) off the statement by which the dump's own 'gosem.cut.vars' lays the variable. In a bare row this is a premise. The card (YtbenbmdkhcfcfaaGreatDoorCards.lean) ties it to the program's text. -/
def laid_unicode_utf8_acceptRanges {H : Type} : DataW H := .agg [.agg [.lit (.int .u8 128), .lit (.int .u8 191)], .agg [.lit (.int .u8 160), .lit (.int .u8 191)], .agg [.lit (.int .u8 128), .lit (.int .u8 159)], .agg [.lit (.int .u8 144), .lit (.int .u8 191)], .agg [.lit (.int .u8 128), .lit (.int .u8 143)], .agg [.lit (.int .u8 0), .lit (.int .u8 0)], .agg [.lit (.int .u8 0), .lit (.int .u8 0)], .agg [.lit (.int .u8 0), .lit (.int .u8 0)], .agg [.lit (.int .u8 0), .lit (.int .u8 0)], .agg [.lit (.int .u8 0), .lit (.int .u8 0)], .agg [.lit (.int .u8 0), .lit (.int .u8 0)], .agg [.lit (.int .u8 0), .lit (.int .u8 0)], .agg [.lit (.int .u8 0), .lit (.int .u8 0)], .agg [.lit (.int .u8 0), .lit (.int .u8 0)], .agg [.lit (.int .u8 0), .lit (.int .u8 0)], .agg [.lit (.int .u8 0), .lit (.int .u8 0)]]
/-- One of Go's own tables, pinned by name: the form's constant. -/
def laid_unicode_utf8_first : DataW Unit := Go.Pinned.utf8First

/-- 'viatorlaw15.MovingpointLong': WHATEVER THE INPUT: true; the input reads as it did. -/
def movingpointLongSpec : ChangeSpec := { name := "movingpointLong", fn := fun _ => fun
  | [d1, d2] => { results := [.lit (.bool true)], args := [d1, d2] }
  | _ => none }
def movingpointLongRow : OpenClaim := { program := "ytbenbmdkhcfcfaagreatdoor", sum := "beb334265c2fffb1353ac1e9769ace24d63984ac4f7e3f7da90f7a64de36a64a", func := "viator/viatorlaw15.MovingpointLong", spec := "movingpointLong", inPlace := ["internal/bytealg.abigen_runtime_cmpstring", "internal/bytealg.IndexByteString", "internal/bytealg.IndexString", "math/bits.Add64", "internal/abi.NoEscape", "internal/bytealg.MakeNoZero"], unfollowed := true, recurses := true, named := ["unicode/utf8.first", "unicode/utf8.acceptRanges", "internal/bytealg.MaxLen"], apart := false, laid := [("unicode/utf8.acceptRanges", laid_unicode_utf8_acceptRanges), ("unicode/utf8.first", laid_unicode_utf8_first)] }
def MovingpointLongSaid : Prop := movingpointLongRow.holds Tryz.pinned (OpenSpec.ofChange movingpointLongSpec)

/-- ITS FALSE NEIGHBOUR: 'it returns false'. Refute it at one input. -/
def movingpointLongWrong : ChangeSpec := { name := "movingpointLong", fn := fun _ => fun
  | [d1, d2] => { results := [.lit (.bool false)], args := [d1, d2] }
  | _ => none }
def MovingpointLongWrongFalsely : Prop := movingpointLongRow.holds Tryz.pinned (OpenSpec.ofChange movingpointLongWrong)

/-- 'viatorlaw15.MovingpointSamples': WHATEVER THE INPUT: true; the input reads as it did. -/
def movingpointSamplesSpec : ChangeSpec := { name := "movingpointSamples", fn := fun _ => fun
  | [d1, d2] => { results := [.lit (.bool true)], args := [d1, d2] }
  | _ => none }
def movingpointSamplesRow : OpenClaim := { program := "ytbenbmdkhcfcfaagreatdoor", sum := "beb334265c2fffb1353ac1e9769ace24d63984ac4f7e3f7da90f7a64de36a64a", func := "viator/viatorlaw15.MovingpointSamples", spec := "movingpointSamples", inPlace := ["internal/bytealg.abigen_runtime_cmpstring", "internal/bytealg.IndexByteString", "internal/bytealg.IndexString", "math/bits.Add64", "internal/abi.NoEscape", "internal/bytealg.MakeNoZero"], unfollowed := true, recurses := true, named := ["unicode/utf8.first", "unicode/utf8.acceptRanges", "internal/bytealg.MaxLen"], apart := false, laid := [("unicode/utf8.acceptRanges", laid_unicode_utf8_acceptRanges), ("unicode/utf8.first", laid_unicode_utf8_first)] }
def MovingpointSamplesSaid : Prop := movingpointSamplesRow.holds Tryz.pinned (OpenSpec.ofChange movingpointSamplesSpec)

/-- ITS FALSE NEIGHBOUR: 'it returns false'. Refute it at one input. -/
def movingpointSamplesWrong : ChangeSpec := { name := "movingpointSamples", fn := fun _ => fun
  | [d1, d2] => { results := [.lit (.bool false)], args := [d1, d2] }
  | _ => none }
def MovingpointSamplesWrongFalsely : Prop := movingpointSamplesRow.holds Tryz.pinned (OpenSpec.ofChange movingpointSamplesWrong)

/-- 'viatorlaw13.PiecesMaps': WHATEVER THE INPUT: true; the input reads as it did. -/
def piecesMapsSpec : ChangeSpec := { name := "piecesMaps", fn := fun _ => fun
  | [d1, d2] => { results := [.lit (.bool true)], args := [d1, d2] }
  | _ => none }
def piecesMapsRow : OpenClaim := { program := "ytbenbmdkhcfcfaagreatdoor", sum := "beb334265c2fffb1353ac1e9769ace24d63984ac4f7e3f7da90f7a64de36a64a", func := "viator/viatorlaw13.PiecesMaps", spec := "piecesMaps", inPlace := ["internal/bytealg.IndexByteString", "internal/bytealg.IndexString", "math/bits.Add64", "internal/bytealg.abigen_runtime_cmpstring", "internal/abi.NoEscape", "internal/bytealg.MakeNoZero"], unfollowed := true, recurses := true, named := ["unicode/utf8.first", "unicode/utf8.acceptRanges", "internal/bytealg.MaxLen"], apart := false, laid := [("unicode/utf8.acceptRanges", laid_unicode_utf8_acceptRanges), ("unicode/utf8.first", laid_unicode_utf8_first)] }
def PiecesMapsSaid : Prop := piecesMapsRow.holds Tryz.pinned (OpenSpec.ofChange piecesMapsSpec)

/-- ITS FALSE NEIGHBOUR: 'it returns false'. Refute it at one input. -/
def piecesMapsWrong : ChangeSpec := { name := "piecesMaps", fn := fun _ => fun
  | [d1, d2] => { results := [.lit (.bool false)], args := [d1, d2] }
  | _ => none }
def PiecesMapsWrongFalsely : Prop := piecesMapsRow.holds Tryz.pinned (OpenSpec.ofChange piecesMapsWrong)

/-- 'viatorlaw15.MovingpointChecks': WHATEVER THE INPUT: true; the input reads as it did. -/
def movingpointChecksSpec : ChangeSpec := { name := "movingpointChecks", fn := fun _ => fun
  | [d] => { results := [.lit (.bool true)], args := [d] }
  | _ => none }
def movingpointChecksRow : OpenClaim := { program := "ytbenbmdkhcfcfaagreatdoor", sum := "beb334265c2fffb1353ac1e9769ace24d63984ac4f7e3f7da90f7a64de36a64a", func := "viator/viatorlaw15.MovingpointChecks", spec := "movingpointChecks", inPlace := ["internal/bytealg.abigen_runtime_cmpstring", "internal/bytealg.IndexByteString", "internal/bytealg.IndexString", "math/bits.Add64", "internal/abi.NoEscape", "internal/bytealg.MakeNoZero"], unfollowed := true, recurses := true, named := ["unicode/utf8.first", "unicode/utf8.acceptRanges", "internal/bytealg.MaxLen"], apart := false, laid := [("unicode/utf8.acceptRanges", laid_unicode_utf8_acceptRanges), ("unicode/utf8.first", laid_unicode_utf8_first)] }
def MovingpointChecksSaid : Prop := movingpointChecksRow.holds Tryz.pinned (OpenSpec.ofChange movingpointChecksSpec)

/-- ITS FALSE NEIGHBOUR: 'it returns false'. Refute it at one input. -/
def movingpointChecksWrong : ChangeSpec := { name := "movingpointChecks", fn := fun _ => fun
  | [d] => { results := [.lit (.bool false)], args := [d] }
  | _ => none }
def MovingpointChecksWrongFalsely : Prop := movingpointChecksRow.holds Tryz.pinned (OpenSpec.ofChange movingpointChecksWrong)

/-- 'viatorlaw15.MovingpointMeets': WHATEVER THE INPUT: true; the input reads as it did. -/
def movingpointMeetsSpec : ChangeSpec := { name := "movingpointMeets", fn := fun _ => fun
  | [d1, d2] => { results := [.lit (.bool true)], args := [d1, d2] }
  | _ => none }
def movingpointMeetsRow : OpenClaim := { program := "ytbenbmdkhcfcfaagreatdoor", sum := "beb334265c2fffb1353ac1e9769ace24d63984ac4f7e3f7da90f7a64de36a64a", func := "viator/viatorlaw15.MovingpointMeets", spec := "movingpointMeets", inPlace := ["internal/bytealg.abigen_runtime_cmpstring", "internal/bytealg.IndexByteString", "internal/bytealg.IndexString", "math/bits.Add64", "internal/abi.NoEscape", "internal/bytealg.MakeNoZero"], unfollowed := true, recurses := true, named := ["unicode/utf8.first", "unicode/utf8.acceptRanges", "internal/bytealg.MaxLen"], apart := false, laid := [("unicode/utf8.acceptRanges", laid_unicode_utf8_acceptRanges), ("unicode/utf8.first", laid_unicode_utf8_first)] }
def MovingpointMeetsSaid : Prop := movingpointMeetsRow.holds Tryz.pinned (OpenSpec.ofChange movingpointMeetsSpec)

/-- ITS FALSE NEIGHBOUR: 'it returns false'. Refute it at one input. -/
def movingpointMeetsWrong : ChangeSpec := { name := "movingpointMeets", fn := fun _ => fun
  | [d1, d2] => { results := [.lit (.bool false)], args := [d1, d2] }
  | _ => none }
def MovingpointMeetsWrongFalsely : Prop := movingpointMeetsRow.holds Tryz.pinned (OpenSpec.ofChange movingpointMeetsWrong)

/-- 'viatorlaw13.PiecesMoments': WHATEVER THE INPUT: true; the input reads as it did. -/
def piecesMomentsSpec : ChangeSpec := { name := "piecesMoments", fn := fun _ => fun
  | [d] => { results := [.lit (.bool true)], args := [d] }
  | _ => none }
def piecesMomentsRow : OpenClaim := { program := "ytbenbmdkhcfcfaagreatdoor", sum := "beb334265c2fffb1353ac1e9769ace24d63984ac4f7e3f7da90f7a64de36a64a", func := "viator/viatorlaw13.PiecesMoments", spec := "piecesMoments", inPlace := ["internal/bytealg.IndexByteString", "internal/bytealg.IndexString", "math/bits.Add64", "internal/bytealg.abigen_runtime_cmpstring", "internal/abi.NoEscape", "internal/bytealg.MakeNoZero"], unfollowed := true, recurses := true, named := ["unicode/utf8.first", "unicode/utf8.acceptRanges", "internal/bytealg.MaxLen"], apart := false, laid := [("unicode/utf8.acceptRanges", laid_unicode_utf8_acceptRanges), ("unicode/utf8.first", laid_unicode_utf8_first)] }
def PiecesMomentsSaid : Prop := piecesMomentsRow.holds Tryz.pinned (OpenSpec.ofChange piecesMomentsSpec)

/-- ITS FALSE NEIGHBOUR: 'it returns false'. Refute it at one input. -/
def piecesMomentsWrong : ChangeSpec := { name := "piecesMoments", fn := fun _ => fun
  | [d] => { results := [.lit (.bool false)], args := [d] }
  | _ => none }
def PiecesMomentsWrongFalsely : Prop := piecesMomentsRow.holds Tryz.pinned (OpenSpec.ofChange piecesMomentsWrong)

/-- 'viatorlaw15.MovingpointMoves': WHATEVER THE INPUT: true; the input reads as it did. -/
def movingpointMovesSpec : ChangeSpec := { name := "movingpointMoves", fn := fun _ => fun
  | [d1, d2, d3] => { results := [.lit (.bool true)], args := [d1, d2, d3] }
  | _ => none }
def movingpointMovesRow : OpenClaim := { program := "ytbenbmdkhcfcfaagreatdoor", sum := "beb334265c2fffb1353ac1e9769ace24d63984ac4f7e3f7da90f7a64de36a64a", func := "viator/viatorlaw15.MovingpointMoves", spec := "movingpointMoves", inPlace := ["internal/bytealg.abigen_runtime_cmpstring", "internal/bytealg.IndexByteString", "internal/bytealg.IndexString", "math/bits.Add64", "internal/abi.NoEscape", "internal/bytealg.MakeNoZero"], unfollowed := true, recurses := true, named := ["unicode/utf8.first", "unicode/utf8.acceptRanges", "internal/bytealg.MaxLen"], apart := false, laid := [("unicode/utf8.acceptRanges", laid_unicode_utf8_acceptRanges), ("unicode/utf8.first", laid_unicode_utf8_first)] }
def MovingpointMovesSaid : Prop := movingpointMovesRow.holds Tryz.pinned (OpenSpec.ofChange movingpointMovesSpec)

/-- ITS FALSE NEIGHBOUR: 'it returns false'. Refute it at one input. -/
def movingpointMovesWrong : ChangeSpec := { name := "movingpointMoves", fn := fun _ => fun
  | [d1, d2, d3] => { results := [.lit (.bool false)], args := [d1, d2, d3] }
  | _ => none }
def MovingpointMovesWrongFalsely : Prop := movingpointMovesRow.holds Tryz.pinned (OpenSpec.ofChange movingpointMovesWrong)

/-- 'viatorlaw15.MovingpointNumbers': WHATEVER THE INPUT: true; the input reads as it did. -/
def movingpointNumbersSpec : ChangeSpec := { name := "movingpointNumbers", fn := fun _ => fun
  | [d1, d2] => { results := [.lit (.bool true)], args := [d1, d2] }
  | _ => none }
def movingpointNumbersRow : OpenClaim := { program := "ytbenbmdkhcfcfaagreatdoor", sum := "beb334265c2fffb1353ac1e9769ace24d63984ac4f7e3f7da90f7a64de36a64a", func := "viator/viatorlaw15.MovingpointNumbers", spec := "movingpointNumbers", inPlace := ["internal/bytealg.abigen_runtime_cmpstring", "internal/bytealg.IndexByteString", "internal/bytealg.IndexString", "math/bits.Add64", "internal/abi.NoEscape", "internal/bytealg.MakeNoZero"], unfollowed := true, recurses := true, named := ["unicode/utf8.first", "unicode/utf8.acceptRanges", "internal/bytealg.MaxLen"], apart := false, laid := [("unicode/utf8.acceptRanges", laid_unicode_utf8_acceptRanges), ("unicode/utf8.first", laid_unicode_utf8_first)] }
def MovingpointNumbersSaid : Prop := movingpointNumbersRow.holds Tryz.pinned (OpenSpec.ofChange movingpointNumbersSpec)

/-- ITS FALSE NEIGHBOUR: 'it returns false'. Refute it at one input. -/
def movingpointNumbersWrong : ChangeSpec := { name := "movingpointNumbers", fn := fun _ => fun
  | [d1, d2] => { results := [.lit (.bool false)], args := [d1, d2] }
  | _ => none }
def MovingpointNumbersWrongFalsely : Prop := movingpointNumbersRow.holds Tryz.pinned (OpenSpec.ofChange movingpointNumbersWrong)

/-- 'viatorlaw13.PiecesPatches': WHATEVER THE INPUT: true; the input reads as it did. -/
def piecesPatchesSpec : ChangeSpec := { name := "piecesPatches", fn := fun _ => fun
  | [d1, d2] => { results := [.lit (.bool true)], args := [d1, d2] }
  | _ => none }
def piecesPatchesRow : OpenClaim := { program := "ytbenbmdkhcfcfaagreatdoor", sum := "beb334265c2fffb1353ac1e9769ace24d63984ac4f7e3f7da90f7a64de36a64a", func := "viator/viatorlaw13.PiecesPatches", spec := "piecesPatches", inPlace := ["internal/bytealg.IndexByteString", "internal/bytealg.IndexString", "math/bits.Add64", "internal/bytealg.abigen_runtime_cmpstring", "internal/abi.NoEscape", "internal/bytealg.MakeNoZero"], unfollowed := true, recurses := true, named := ["unicode/utf8.first", "unicode/utf8.acceptRanges", "internal/bytealg.MaxLen"], apart := false, laid := [("unicode/utf8.acceptRanges", laid_unicode_utf8_acceptRanges), ("unicode/utf8.first", laid_unicode_utf8_first)] }
def PiecesPatchesSaid : Prop := piecesPatchesRow.holds Tryz.pinned (OpenSpec.ofChange piecesPatchesSpec)

/-- ITS FALSE NEIGHBOUR: 'it returns false'. Refute it at one input. -/
def piecesPatchesWrong : ChangeSpec := { name := "piecesPatches", fn := fun _ => fun
  | [d1, d2] => { results := [.lit (.bool false)], args := [d1, d2] }
  | _ => none }
def PiecesPatchesWrongFalsely : Prop := piecesPatchesRow.holds Tryz.pinned (OpenSpec.ofChange piecesPatchesWrong)

/-- 'viatorlaw13.PiecesRestricts': WHATEVER THE INPUT: true; the input reads as it did. -/
def piecesRestrictsSpec : ChangeSpec := { name := "piecesRestricts", fn := fun _ => fun
  | [d1, d2] => { results := [.lit (.bool true)], args := [d1, d2] }
  | _ => none }
def piecesRestrictsRow : OpenClaim := { program := "ytbenbmdkhcfcfaagreatdoor", sum := "beb334265c2fffb1353ac1e9769ace24d63984ac4f7e3f7da90f7a64de36a64a", func := "viator/viatorlaw13.PiecesRestricts", spec := "piecesRestricts", inPlace := ["internal/bytealg.IndexByteString", "internal/bytealg.IndexString", "math/bits.Add64", "internal/bytealg.abigen_runtime_cmpstring", "internal/abi.NoEscape", "internal/bytealg.MakeNoZero"], unfollowed := true, recurses := true, named := ["unicode/utf8.first", "unicode/utf8.acceptRanges", "internal/bytealg.MaxLen"], apart := false, laid := [("unicode/utf8.acceptRanges", laid_unicode_utf8_acceptRanges), ("unicode/utf8.first", laid_unicode_utf8_first)] }
def PiecesRestrictsSaid : Prop := piecesRestrictsRow.holds Tryz.pinned (OpenSpec.ofChange piecesRestrictsSpec)

/-- ITS FALSE NEIGHBOUR: 'it returns false'. Refute it at one input. -/
def piecesRestrictsWrong : ChangeSpec := { name := "piecesRestricts", fn := fun _ => fun
  | [d1, d2] => { results := [.lit (.bool false)], args := [d1, d2] }
  | _ => none }
def PiecesRestrictsWrongFalsely : Prop := piecesRestrictsRow.holds Tryz.pinned (OpenSpec.ofChange piecesRestrictsWrong)

/-- 'viatorlaw15.MovingpointRestricts': WHATEVER THE INPUT: true; the input reads as it did. -/
def movingpointRestrictsSpec : ChangeSpec := { name := "movingpointRestricts", fn := fun _ => fun
  | [d1, d2, d3] => { results := [.lit (.bool true)], args := [d1, d2, d3] }
  | _ => none }
def movingpointRestrictsRow : OpenClaim := { program := "ytbenbmdkhcfcfaagreatdoor", sum := "beb334265c2fffb1353ac1e9769ace24d63984ac4f7e3f7da90f7a64de36a64a", func := "viator/viatorlaw15.MovingpointRestricts", spec := "movingpointRestricts", inPlace := ["internal/bytealg.abigen_runtime_cmpstring", "internal/bytealg.IndexByteString", "internal/bytealg.IndexString", "math/bits.Add64", "internal/abi.NoEscape", "internal/bytealg.MakeNoZero"], unfollowed := true, recurses := true, named := ["unicode/utf8.first", "unicode/utf8.acceptRanges", "internal/bytealg.MaxLen"], apart := false, laid := [("unicode/utf8.acceptRanges", laid_unicode_utf8_acceptRanges), ("unicode/utf8.first", laid_unicode_utf8_first)] }
def MovingpointRestrictsSaid : Prop := movingpointRestrictsRow.holds Tryz.pinned (OpenSpec.ofChange movingpointRestrictsSpec)

/-- ITS FALSE NEIGHBOUR: 'it returns false'. Refute it at one input. -/
def movingpointRestrictsWrong : ChangeSpec := { name := "movingpointRestricts", fn := fun _ => fun
  | [d1, d2, d3] => { results := [.lit (.bool false)], args := [d1, d2, d3] }
  | _ => none }
def MovingpointRestrictsWrongFalsely : Prop := movingpointRestrictsRow.holds Tryz.pinned (OpenSpec.ofChange movingpointRestrictsWrong)

/- THE SECOND FORM. 'bulk': how many values and letters a reading holds, each counted each time it is reached (what is shared counts as often as it is met; a slice's spare places count too). A statement '..UptoSaid' is the law's where the arguments, and the package variables that the reading takes, are together of bulk at most 1048576: NARROWER than '..Said'. Prove '..Said' where nothing that the law and all that it calls make is longer than what came in: it says more and counts as full. Else prove '..UptoSaid'. A law counts once. -/
mutual
def uptoBulk {H : Type} : DataW H → Nat
  | .lit (.string bytes) => bytes.length + 1
  | .lit _ => 1
  | .nil => 1
  | .ptr d => uptoBulk d + 1
  | .slice elems spare => uptoBulkAll elems + uptoBulkAll spare + 1
  | .agg parts => uptoBulkAll parts + 1
  | .iface _ d => uptoBulk d + 1
  | .map entries => uptoBulkEntries entries + 1
  | .held _ => 1
def uptoBulkAll {H : Type} : List (DataW H) → Nat
  | [] => 0
  | d :: r => uptoBulk d + uptoBulkAll r
def uptoBulkEntries {H : Type} : List (Lit × DataW H) → Nat
  | [] => 0
  | x :: r => uptoBulkEntry x + uptoBulkEntries r
def uptoBulkEntry {H : Type} : Lit × DataW H → Nat
  | (.string bytes, d) => bytes.length + uptoBulk d + 1
  | (_, d) => uptoBulk d + 1
 end
def uptoSmall : (H : Type) → List (DataW H) → Bool := fun _ ds => decide (uptoBulkAll ds ≤ 1048576)
def OpenSpec.upto (s : _root_.Go.ChangeSpec) : _root_.Go.OpenSpec := { _root_.Go.OpenSpec.ofChange s with cond := some uptoSmall }

/-- 'viatorlaw15.MovingpointLong', WHERE WHAT IT READS IS OF BULK AT MOST 1048576: true; the input reads as it did. -/
def movingpointLongUptoRow : OpenClaim := { program := "ytbenbmdkhcfcfaagreatdoor", sum := "beb334265c2fffb1353ac1e9769ace24d63984ac4f7e3f7da90f7a64de36a64a", func := "viator/viatorlaw15.MovingpointLong", spec := "movingpointLong", inPlace := ["internal/bytealg.abigen_runtime_cmpstring", "internal/bytealg.IndexByteString", "internal/bytealg.IndexString", "math/bits.Add64", "internal/abi.NoEscape", "internal/bytealg.MakeNoZero"], unfollowed := true, recurses := true, named := ["unicode/utf8.first", "unicode/utf8.acceptRanges", "internal/bytealg.MaxLen"], apart := false, laid := [("unicode/utf8.acceptRanges", laid_unicode_utf8_acceptRanges), ("unicode/utf8.first", laid_unicode_utf8_first)], narrowed := true }
def MovingpointLongUptoSaid : Prop := movingpointLongUptoRow.holds Tryz.pinned (OpenSpec.upto movingpointLongSpec)

/-- 'viatorlaw15.MovingpointSamples', WHERE WHAT IT READS IS OF BULK AT MOST 1048576: true; the input reads as it did. -/
def movingpointSamplesUptoRow : OpenClaim := { program := "ytbenbmdkhcfcfaagreatdoor", sum := "beb334265c2fffb1353ac1e9769ace24d63984ac4f7e3f7da90f7a64de36a64a", func := "viator/viatorlaw15.MovingpointSamples", spec := "movingpointSamples", inPlace := ["internal/bytealg.abigen_runtime_cmpstring", "internal/bytealg.IndexByteString", "internal/bytealg.IndexString", "math/bits.Add64", "internal/abi.NoEscape", "internal/bytealg.MakeNoZero"], unfollowed := true, recurses := true, named := ["unicode/utf8.first", "unicode/utf8.acceptRanges", "internal/bytealg.MaxLen"], apart := false, laid := [("unicode/utf8.acceptRanges", laid_unicode_utf8_acceptRanges), ("unicode/utf8.first", laid_unicode_utf8_first)], narrowed := true }
def MovingpointSamplesUptoSaid : Prop := movingpointSamplesUptoRow.holds Tryz.pinned (OpenSpec.upto movingpointSamplesSpec)

/-- 'viatorlaw13.PiecesMaps', WHERE WHAT IT READS IS OF BULK AT MOST 1048576: true; the input reads as it did. -/
def piecesMapsUptoRow : OpenClaim := { program := "ytbenbmdkhcfcfaagreatdoor", sum := "beb334265c2fffb1353ac1e9769ace24d63984ac4f7e3f7da90f7a64de36a64a", func := "viator/viatorlaw13.PiecesMaps", spec := "piecesMaps", inPlace := ["internal/bytealg.IndexByteString", "internal/bytealg.IndexString", "math/bits.Add64", "internal/bytealg.abigen_runtime_cmpstring", "internal/abi.NoEscape", "internal/bytealg.MakeNoZero"], unfollowed := true, recurses := true, named := ["unicode/utf8.first", "unicode/utf8.acceptRanges", "internal/bytealg.MaxLen"], apart := false, laid := [("unicode/utf8.acceptRanges", laid_unicode_utf8_acceptRanges), ("unicode/utf8.first", laid_unicode_utf8_first)], narrowed := true }
def PiecesMapsUptoSaid : Prop := piecesMapsUptoRow.holds Tryz.pinned (OpenSpec.upto piecesMapsSpec)

/-- 'viatorlaw15.MovingpointChecks', WHERE WHAT IT READS IS OF BULK AT MOST 1048576: true; the input reads as it did. -/
def movingpointChecksUptoRow : OpenClaim := { program := "ytbenbmdkhcfcfaagreatdoor", sum := "beb334265c2fffb1353ac1e9769ace24d63984ac4f7e3f7da90f7a64de36a64a", func := "viator/viatorlaw15.MovingpointChecks", spec := "movingpointChecks", inPlace := ["internal/bytealg.abigen_runtime_cmpstring", "internal/bytealg.IndexByteString", "internal/bytealg.IndexString", "math/bits.Add64", "internal/abi.NoEscape", "internal/bytealg.MakeNoZero"], unfollowed := true, recurses := true, named := ["unicode/utf8.first", "unicode/utf8.acceptRanges", "internal/bytealg.MaxLen"], apart := false, laid := [("unicode/utf8.acceptRanges", laid_unicode_utf8_acceptRanges), ("unicode/utf8.first", laid_unicode_utf8_first)], narrowed := true }
def MovingpointChecksUptoSaid : Prop := movingpointChecksUptoRow.holds Tryz.pinned (OpenSpec.upto movingpointChecksSpec)

/-- 'viatorlaw15.MovingpointMeets', WHERE WHAT IT READS IS OF BULK AT MOST 1048576: true; the input reads as it did. -/
def movingpointMeetsUptoRow : OpenClaim := { program := "ytbenbmdkhcfcfaagreatdoor", sum := "beb334265c2fffb1353ac1e9769ace24d63984ac4f7e3f7da90f7a64de36a64a", func := "viator/viatorlaw15.MovingpointMeets", spec := "movingpointMeets", inPlace := ["internal/bytealg.abigen_runtime_cmpstring", "internal/bytealg.IndexByteString", "internal/bytealg.IndexString", "math/bits.Add64", "internal/abi.NoEscape", "internal/bytealg.MakeNoZero"], unfollowed := true, recurses := true, named := ["unicode/utf8.first", "unicode/utf8.acceptRanges", "internal/bytealg.MaxLen"], apart := false, laid := [("unicode/utf8.acceptRanges", laid_unicode_utf8_acceptRanges), ("unicode/utf8.first", laid_unicode_utf8_first)], narrowed := true }
def MovingpointMeetsUptoSaid : Prop := movingpointMeetsUptoRow.holds Tryz.pinned (OpenSpec.upto movingpointMeetsSpec)

/-- 'viatorlaw13.PiecesMoments', WHERE WHAT IT READS IS OF BULK AT MOST 1048576: true; the input reads as it did. -/
def piecesMomentsUptoRow : OpenClaim := { program := "ytbenbmdkhcfcfaagreatdoor", sum := "beb334265c2fffb1353ac1e9769ace24d63984ac4f7e3f7da90f7a64de36a64a", func := "viator/viatorlaw13.PiecesMoments", spec := "piecesMoments", inPlace := ["internal/bytealg.IndexByteString", "internal/bytealg.IndexString", "math/bits.Add64", "internal/bytealg.abigen_runtime_cmpstring", "internal/abi.NoEscape", "internal/bytealg.MakeNoZero"], unfollowed := true, recurses := true, named := ["unicode/utf8.first", "unicode/utf8.acceptRanges", "internal/bytealg.MaxLen"], apart := false, laid := [("unicode/utf8.acceptRanges", laid_unicode_utf8_acceptRanges), ("unicode/utf8.first", laid_unicode_utf8_first)], narrowed := true }
def PiecesMomentsUptoSaid : Prop := piecesMomentsUptoRow.holds Tryz.pinned (OpenSpec.upto piecesMomentsSpec)

/-- 'viatorlaw15.MovingpointMoves', WHERE WHAT IT READS IS OF BULK AT MOST 1048576: true; the input reads as it did. -/
def movingpointMovesUptoRow : OpenClaim := { program := "ytbenbmdkhcfcfaagreatdoor", sum := "beb334265c2fffb1353ac1e9769ace24d63984ac4f7e3f7da90f7a64de36a64a", func := "viator/viatorlaw15.MovingpointMoves", spec := "movingpointMoves", inPlace := ["internal/bytealg.abigen_runtime_cmpstring", "internal/bytealg.IndexByteString", "internal/bytealg.IndexString", "math/bits.Add64", "internal/abi.NoEscape", "internal/bytealg.MakeNoZero"], unfollowed := true, recurses := true, named := ["unicode/utf8.first", "unicode/utf8.acceptRanges", "internal/bytealg.MaxLen"], apart := false, laid := [("unicode/utf8.acceptRanges", laid_unicode_utf8_acceptRanges), ("unicode/utf8.first", laid_unicode_utf8_first)], narrowed := true }
def MovingpointMovesUptoSaid : Prop := movingpointMovesUptoRow.holds Tryz.pinned (OpenSpec.upto movingpointMovesSpec)

/-- 'viatorlaw15.MovingpointNumbers', WHERE WHAT IT READS IS OF BULK AT MOST 1048576: true; the input reads as it did. -/
def movingpointNumbersUptoRow : OpenClaim := { program := "ytbenbmdkhcfcfaagreatdoor", sum := "beb334265c2fffb1353ac1e9769ace24d63984ac4f7e3f7da90f7a64de36a64a", func := "viator/viatorlaw15.MovingpointNumbers", spec := "movingpointNumbers", inPlace := ["internal/bytealg.abigen_runtime_cmpstring", "internal/bytealg.IndexByteString", "internal/bytealg.IndexString", "math/bits.Add64", "internal/abi.NoEscape", "internal/bytealg.MakeNoZero"], unfollowed := true, recurses := true, named := ["unicode/utf8.first", "unicode/utf8.acceptRanges", "internal/bytealg.MaxLen"], apart := false, laid := [("unicode/utf8.acceptRanges", laid_unicode_utf8_acceptRanges), ("unicode/utf8.first", laid_unicode_utf8_first)], narrowed := true }
def MovingpointNumbersUptoSaid : Prop := movingpointNumbersUptoRow.holds Tryz.pinned (OpenSpec.upto movingpointNumbersSpec)

/-- 'viatorlaw13.PiecesPatches', WHERE WHAT IT READS IS OF BULK AT MOST 1048576: true; the input reads as it did. -/
def piecesPatchesUptoRow : OpenClaim := { program := "ytbenbmdkhcfcfaagreatdoor", sum := "beb334265c2fffb1353ac1e9769ace24d63984ac4f7e3f7da90f7a64de36a64a", func := "viator/viatorlaw13.PiecesPatches", spec := "piecesPatches", inPlace := ["internal/bytealg.IndexByteString", "internal/bytealg.IndexString", "math/bits.Add64", "internal/bytealg.abigen_runtime_cmpstring", "internal/abi.NoEscape", "internal/bytealg.MakeNoZero"], unfollowed := true, recurses := true, named := ["unicode/utf8.first", "unicode/utf8.acceptRanges", "internal/bytealg.MaxLen"], apart := false, laid := [("unicode/utf8.acceptRanges", laid_unicode_utf8_acceptRanges), ("unicode/utf8.first", laid_unicode_utf8_first)], narrowed := true }
def PiecesPatchesUptoSaid : Prop := piecesPatchesUptoRow.holds Tryz.pinned (OpenSpec.upto piecesPatchesSpec)

/-- 'viatorlaw13.PiecesRestricts', WHERE WHAT IT READS IS OF BULK AT MOST 1048576: true; the input reads as it did. -/
def piecesRestrictsUptoRow : OpenClaim := { program := "ytbenbmdkhcfcfaagreatdoor", sum := "beb334265c2fffb1353ac1e9769ace24d63984ac4f7e3f7da90f7a64de36a64a", func := "viator/viatorlaw13.PiecesRestricts", spec := "piecesRestricts", inPlace := ["internal/bytealg.IndexByteString", "internal/bytealg.IndexString", "math/bits.Add64", "internal/bytealg.abigen_runtime_cmpstring", "internal/abi.NoEscape", "internal/bytealg.MakeNoZero"], unfollowed := true, recurses := true, named := ["unicode/utf8.first", "unicode/utf8.acceptRanges", "internal/bytealg.MaxLen"], apart := false, laid := [("unicode/utf8.acceptRanges", laid_unicode_utf8_acceptRanges), ("unicode/utf8.first", laid_unicode_utf8_first)], narrowed := true }
def PiecesRestrictsUptoSaid : Prop := piecesRestrictsUptoRow.holds Tryz.pinned (OpenSpec.upto piecesRestrictsSpec)

/-- 'viatorlaw15.MovingpointRestricts', WHERE WHAT IT READS IS OF BULK AT MOST 1048576: true; the input reads as it did. -/
def movingpointRestrictsUptoRow : OpenClaim := { program := "ytbenbmdkhcfcfaagreatdoor", sum := "beb334265c2fffb1353ac1e9769ace24d63984ac4f7e3f7da90f7a64de36a64a", func := "viator/viatorlaw15.MovingpointRestricts", spec := "movingpointRestricts", inPlace := ["internal/bytealg.abigen_runtime_cmpstring", "internal/bytealg.IndexByteString", "internal/bytealg.IndexString", "math/bits.Add64", "internal/abi.NoEscape", "internal/bytealg.MakeNoZero"], unfollowed := true, recurses := true, named := ["unicode/utf8.first", "unicode/utf8.acceptRanges", "internal/bytealg.MaxLen"], apart := false, laid := [("unicode/utf8.acceptRanges", laid_unicode_utf8_acceptRanges), ("unicode/utf8.first", laid_unicode_utf8_first)], narrowed := true }
def MovingpointRestrictsUptoSaid : Prop := movingpointRestrictsUptoRow.holds Tryz.pinned (OpenSpec.upto movingpointRestrictsSpec)

end Rows
end Go.Proofs.YtbenbmdkhcfcfaaGreatDoor
