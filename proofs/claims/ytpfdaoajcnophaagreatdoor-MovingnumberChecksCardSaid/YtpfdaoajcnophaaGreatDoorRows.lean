/-
  NARROWER THAN 'FOR EVERY INPUT', by the rows' own cells (each row's printed sentence says how): MovingpointBoxes: laid · MovingpointAt: laid · MovingnumberRanges: laid · MovingnumberDerives: laid · MovingnumberCompares: laid · MovingnumberExtremes: laid · MovingnumberChecks: laid · MovingnumberValues: laid · MovingnumberAdds: laid · MovingnumberMultiplies: laid · MovingnumberRestricts: laid · MovingpointPasses: laid.
  DERIVED. THE GIVEN ROWS OF THIS SEAT. 12 by the template 'for every input the law returns true; each argument reads behind the call as it read before'; 0 by the template 'total and deterministic' (their statements: YtpfdaoajcnophaaGreatDoorTotals.lean).
  GIVEN WITH THE SEED: the statements are not yours to turn. If you find one false, say at which input.
  Laid BY PROGRAM, IN A SANDBOX (cutbox-rows.mjs): the forced cells as the released guide's own fill.sh prints them over the translation 13e33d71ae99c26c… (all of the seat's roots in one cut). By AI agents, Wed Nov 11 2026. No macro, syntax, notation, axiom, sorry.
-/
import Derived.Test.YtpfdaoajcnophaaGreatDoorChecked
import GoSem.PinnedTables
import GoSem.Claim
import GoSem.ClaimJoined
import GoSem.ClaimMapViews
import Derived.JoinedTies
import Derived.KernelRfl
namespace Go.Proofs.YtpfdaoajcnophaaGreatDoor
/- THE CELL 'sum', in the pinned program and in every row, IS THE sha256 OF THE DUMP (.gsa) THAT YtpfdaoajcnophaaGreatDoorProg.lean LOADS. Nothing in Lean hashes anything: it is a label: what it is worth is what the hold of that sum in a sandbox is worth. -/
noncomputable def Tryz.pinned : Pinned := { name := "ytpfdaoajcnophaagreatdoor", sum := "13e33d71ae99c26c331a796acec1d75a94c23e5bbaa0734458cda08f56f4d6dc", checked := Tryz.checked }
namespace Rows
def none {H : Type} : Left H := { results := [], args := [] }

/- WHAT THE LISTED PACKAGE-LEVEL VARIABLES READ AS WHEN THE CALL BEGINS. Each datum BY PROGRAM (the guide's laid-datum.mjs) off the statement by which the dump's own 'gosem.cut.vars' lays the variable. In a bare row this is a premise. The card (YtpfdaoajcnophaaGreatDoorCards.lean) ties it to the program's text. -/
def laid_unicode_utf8_acceptRanges {H : Type} : DataW H := .agg [.agg [.lit (.int .u8 128), .lit (.int .u8 191)], .agg [.lit (.int .u8 160), .lit (.int .u8 191)], .agg [.lit (.int .u8 128), .lit (.int .u8 159)], .agg [.lit (.int .u8 144), .lit (.int .u8 191)], .agg [.lit (.int .u8 128), .lit (.int .u8 143)], .agg [.lit (.int .u8 0), .lit (.int .u8 0)], .agg [.lit (.int .u8 0), .lit (.int .u8 0)], .agg [.lit (.int .u8 0), .lit (.int .u8 0)], .agg [.lit (.int .u8 0), .lit (.int .u8 0)], .agg [.lit (.int .u8 0), .lit (.int .u8 0)], .agg [.lit (.int .u8 0), .lit (.int .u8 0)], .agg [.lit (.int .u8 0), .lit (.int .u8 0)], .agg [.lit (.int .u8 0), .lit (.int .u8 0)], .agg [.lit (.int .u8 0), .lit (.int .u8 0)], .agg [.lit (.int .u8 0), .lit (.int .u8 0)], .agg [.lit (.int .u8 0), .lit (.int .u8 0)]]
/-- One of Go's own tables, pinned by name: the form's constant. -/
def laid_unicode_utf8_first : DataW Unit := Go.Pinned.utf8First

/-- 'viatorlaw15.MovingpointBoxes': WHATEVER THE INPUT: true; the input reads as it did. -/
def movingpointBoxesSpec : ChangeSpec := { name := "movingpointBoxes", fn := fun _ => fun
  | [d1, d2, d3] => { results := [.lit (.bool true)], args := [d1, d2, d3] }
  | _ => none }
def movingpointBoxesRow : OpenClaim := { program := "ytpfdaoajcnophaagreatdoor", sum := "13e33d71ae99c26c331a796acec1d75a94c23e5bbaa0734458cda08f56f4d6dc", func := "viator/viatorlaw15.MovingpointBoxes", spec := "movingpointBoxes", inPlace := ["internal/bytealg.abigen_runtime_cmpstring", "internal/bytealg.IndexByteString", "internal/bytealg.IndexString", "math/bits.Add64", "internal/abi.NoEscape", "internal/bytealg.MakeNoZero"], unfollowed := true, recurses := true, named := ["unicode/utf8.first", "unicode/utf8.acceptRanges", "internal/bytealg.MaxLen"], apart := false, laid := [("unicode/utf8.acceptRanges", laid_unicode_utf8_acceptRanges), ("unicode/utf8.first", laid_unicode_utf8_first)] }
def MovingpointBoxesSaid : Prop := movingpointBoxesRow.holds Tryz.pinned (OpenSpec.ofChange movingpointBoxesSpec)

/-- ITS FALSE NEIGHBOUR: 'it returns false'. Refute it at one input. -/
def movingpointBoxesWrong : ChangeSpec := { name := "movingpointBoxes", fn := fun _ => fun
  | [d1, d2, d3] => { results := [.lit (.bool false)], args := [d1, d2, d3] }
  | _ => none }
def MovingpointBoxesWrongFalsely : Prop := movingpointBoxesRow.holds Tryz.pinned (OpenSpec.ofChange movingpointBoxesWrong)

/-- 'viatorlaw15.MovingpointAt': WHATEVER THE INPUT: true; the input reads as it did. -/
def movingpointAtSpec : ChangeSpec := { name := "movingpointAt", fn := fun _ => fun
  | [d1, d2, d3] => { results := [.lit (.bool true)], args := [d1, d2, d3] }
  | _ => none }
def movingpointAtRow : OpenClaim := { program := "ytpfdaoajcnophaagreatdoor", sum := "13e33d71ae99c26c331a796acec1d75a94c23e5bbaa0734458cda08f56f4d6dc", func := "viator/viatorlaw15.MovingpointAt", spec := "movingpointAt", inPlace := ["internal/bytealg.abigen_runtime_cmpstring", "internal/bytealg.IndexByteString", "internal/bytealg.IndexString", "math/bits.Add64", "internal/abi.NoEscape", "internal/bytealg.MakeNoZero"], unfollowed := true, recurses := true, named := ["unicode/utf8.first", "unicode/utf8.acceptRanges", "internal/bytealg.MaxLen"], apart := false, laid := [("unicode/utf8.acceptRanges", laid_unicode_utf8_acceptRanges), ("unicode/utf8.first", laid_unicode_utf8_first)] }
def MovingpointAtSaid : Prop := movingpointAtRow.holds Tryz.pinned (OpenSpec.ofChange movingpointAtSpec)

/-- ITS FALSE NEIGHBOUR: 'it returns false'. Refute it at one input. -/
def movingpointAtWrong : ChangeSpec := { name := "movingpointAt", fn := fun _ => fun
  | [d1, d2, d3] => { results := [.lit (.bool false)], args := [d1, d2, d3] }
  | _ => none }
def MovingpointAtWrongFalsely : Prop := movingpointAtRow.holds Tryz.pinned (OpenSpec.ofChange movingpointAtWrong)

/-- 'viatorlaw14.MovingnumberRanges': WHATEVER THE INPUT: true; the input reads as it did. -/
def movingnumberRangesSpec : ChangeSpec := { name := "movingnumberRanges", fn := fun _ => fun
  | [d1, d2, d3] => { results := [.lit (.bool true)], args := [d1, d2, d3] }
  | _ => none }
def movingnumberRangesRow : OpenClaim := { program := "ytpfdaoajcnophaagreatdoor", sum := "13e33d71ae99c26c331a796acec1d75a94c23e5bbaa0734458cda08f56f4d6dc", func := "viator/viatorlaw14.MovingnumberRanges", spec := "movingnumberRanges", inPlace := ["internal/bytealg.IndexByteString", "internal/bytealg.IndexString", "math/bits.Add64", "internal/bytealg.abigen_runtime_cmpstring", "internal/abi.NoEscape", "internal/bytealg.MakeNoZero"], unfollowed := true, recurses := true, named := ["unicode/utf8.first", "unicode/utf8.acceptRanges", "internal/bytealg.MaxLen"], apart := false, laid := [("unicode/utf8.acceptRanges", laid_unicode_utf8_acceptRanges), ("unicode/utf8.first", laid_unicode_utf8_first)] }
def MovingnumberRangesSaid : Prop := movingnumberRangesRow.holds Tryz.pinned (OpenSpec.ofChange movingnumberRangesSpec)

/-- ITS FALSE NEIGHBOUR: 'it returns false'. Refute it at one input. -/
def movingnumberRangesWrong : ChangeSpec := { name := "movingnumberRanges", fn := fun _ => fun
  | [d1, d2, d3] => { results := [.lit (.bool false)], args := [d1, d2, d3] }
  | _ => none }
def MovingnumberRangesWrongFalsely : Prop := movingnumberRangesRow.holds Tryz.pinned (OpenSpec.ofChange movingnumberRangesWrong)

/-- 'viatorlaw14.MovingnumberDerives': WHATEVER THE INPUT: true; the input reads as it did. -/
def movingnumberDerivesSpec : ChangeSpec := { name := "movingnumberDerives", fn := fun _ => fun
  | [d1, d2, d3] => { results := [.lit (.bool true)], args := [d1, d2, d3] }
  | _ => none }
def movingnumberDerivesRow : OpenClaim := { program := "ytpfdaoajcnophaagreatdoor", sum := "13e33d71ae99c26c331a796acec1d75a94c23e5bbaa0734458cda08f56f4d6dc", func := "viator/viatorlaw14.MovingnumberDerives", spec := "movingnumberDerives", inPlace := ["internal/bytealg.IndexByteString", "internal/bytealg.IndexString", "math/bits.Add64", "internal/bytealg.abigen_runtime_cmpstring", "internal/abi.NoEscape", "internal/bytealg.MakeNoZero"], unfollowed := true, recurses := true, named := ["unicode/utf8.first", "unicode/utf8.acceptRanges", "internal/bytealg.MaxLen"], apart := false, laid := [("unicode/utf8.acceptRanges", laid_unicode_utf8_acceptRanges), ("unicode/utf8.first", laid_unicode_utf8_first)] }
def MovingnumberDerivesSaid : Prop := movingnumberDerivesRow.holds Tryz.pinned (OpenSpec.ofChange movingnumberDerivesSpec)

/-- ITS FALSE NEIGHBOUR: 'it returns false'. Refute it at one input. -/
def movingnumberDerivesWrong : ChangeSpec := { name := "movingnumberDerives", fn := fun _ => fun
  | [d1, d2, d3] => { results := [.lit (.bool false)], args := [d1, d2, d3] }
  | _ => none }
def MovingnumberDerivesWrongFalsely : Prop := movingnumberDerivesRow.holds Tryz.pinned (OpenSpec.ofChange movingnumberDerivesWrong)

/-- 'viatorlaw14.MovingnumberCompares': WHATEVER THE INPUT: true; the input reads as it did. -/
def movingnumberComparesSpec : ChangeSpec := { name := "movingnumberCompares", fn := fun _ => fun
  | [d1, d2] => { results := [.lit (.bool true)], args := [d1, d2] }
  | _ => none }
def movingnumberComparesRow : OpenClaim := { program := "ytpfdaoajcnophaagreatdoor", sum := "13e33d71ae99c26c331a796acec1d75a94c23e5bbaa0734458cda08f56f4d6dc", func := "viator/viatorlaw14.MovingnumberCompares", spec := "movingnumberCompares", inPlace := ["internal/bytealg.IndexByteString", "internal/bytealg.IndexString", "math/bits.Add64", "internal/bytealg.abigen_runtime_cmpstring", "internal/abi.NoEscape", "internal/bytealg.MakeNoZero"], unfollowed := true, recurses := true, named := ["unicode/utf8.first", "unicode/utf8.acceptRanges", "internal/bytealg.MaxLen"], apart := false, laid := [("unicode/utf8.acceptRanges", laid_unicode_utf8_acceptRanges), ("unicode/utf8.first", laid_unicode_utf8_first)] }
def MovingnumberComparesSaid : Prop := movingnumberComparesRow.holds Tryz.pinned (OpenSpec.ofChange movingnumberComparesSpec)

/-- ITS FALSE NEIGHBOUR: 'it returns false'. Refute it at one input. -/
def movingnumberComparesWrong : ChangeSpec := { name := "movingnumberCompares", fn := fun _ => fun
  | [d1, d2] => { results := [.lit (.bool false)], args := [d1, d2] }
  | _ => none }
def MovingnumberComparesWrongFalsely : Prop := movingnumberComparesRow.holds Tryz.pinned (OpenSpec.ofChange movingnumberComparesWrong)

/-- 'viatorlaw14.MovingnumberExtremes': WHATEVER THE INPUT: true; the input reads as it did. -/
def movingnumberExtremesSpec : ChangeSpec := { name := "movingnumberExtremes", fn := fun _ => fun
  | [d1, d2] => { results := [.lit (.bool true)], args := [d1, d2] }
  | _ => none }
def movingnumberExtremesRow : OpenClaim := { program := "ytpfdaoajcnophaagreatdoor", sum := "13e33d71ae99c26c331a796acec1d75a94c23e5bbaa0734458cda08f56f4d6dc", func := "viator/viatorlaw14.MovingnumberExtremes", spec := "movingnumberExtremes", inPlace := ["internal/bytealg.IndexByteString", "internal/bytealg.IndexString", "math/bits.Add64", "internal/bytealg.abigen_runtime_cmpstring", "internal/abi.NoEscape", "internal/bytealg.MakeNoZero"], unfollowed := true, recurses := true, named := ["unicode/utf8.first", "unicode/utf8.acceptRanges", "internal/bytealg.MaxLen"], apart := false, laid := [("unicode/utf8.acceptRanges", laid_unicode_utf8_acceptRanges), ("unicode/utf8.first", laid_unicode_utf8_first)] }
def MovingnumberExtremesSaid : Prop := movingnumberExtremesRow.holds Tryz.pinned (OpenSpec.ofChange movingnumberExtremesSpec)

/-- ITS FALSE NEIGHBOUR: 'it returns false'. Refute it at one input. -/
def movingnumberExtremesWrong : ChangeSpec := { name := "movingnumberExtremes", fn := fun _ => fun
  | [d1, d2] => { results := [.lit (.bool false)], args := [d1, d2] }
  | _ => none }
def MovingnumberExtremesWrongFalsely : Prop := movingnumberExtremesRow.holds Tryz.pinned (OpenSpec.ofChange movingnumberExtremesWrong)

/-- 'viatorlaw14.MovingnumberChecks': WHATEVER THE INPUT: true; the input reads as it did. -/
def movingnumberChecksSpec : ChangeSpec := { name := "movingnumberChecks", fn := fun _ => fun
  | [d1, d2] => { results := [.lit (.bool true)], args := [d1, d2] }
  | _ => none }
def movingnumberChecksRow : OpenClaim := { program := "ytpfdaoajcnophaagreatdoor", sum := "13e33d71ae99c26c331a796acec1d75a94c23e5bbaa0734458cda08f56f4d6dc", func := "viator/viatorlaw14.MovingnumberChecks", spec := "movingnumberChecks", inPlace := ["internal/bytealg.IndexByteString", "internal/bytealg.IndexString", "math/bits.Add64", "internal/bytealg.abigen_runtime_cmpstring", "internal/abi.NoEscape", "internal/bytealg.MakeNoZero"], unfollowed := true, recurses := true, named := ["unicode/utf8.first", "unicode/utf8.acceptRanges", "internal/bytealg.MaxLen"], apart := false, laid := [("unicode/utf8.acceptRanges", laid_unicode_utf8_acceptRanges), ("unicode/utf8.first", laid_unicode_utf8_first)] }
def MovingnumberChecksSaid : Prop := movingnumberChecksRow.holds Tryz.pinned (OpenSpec.ofChange movingnumberChecksSpec)

/-- ITS FALSE NEIGHBOUR: 'it returns false'. Refute it at one input. -/
def movingnumberChecksWrong : ChangeSpec := { name := "movingnumberChecks", fn := fun _ => fun
  | [d1, d2] => { results := [.lit (.bool false)], args := [d1, d2] }
  | _ => none }
def MovingnumberChecksWrongFalsely : Prop := movingnumberChecksRow.holds Tryz.pinned (OpenSpec.ofChange movingnumberChecksWrong)

/-- 'viatorlaw14.MovingnumberValues': WHATEVER THE INPUT: true; the input reads as it did. -/
def movingnumberValuesSpec : ChangeSpec := { name := "movingnumberValues", fn := fun _ => fun
  | [d1, d2] => { results := [.lit (.bool true)], args := [d1, d2] }
  | _ => none }
def movingnumberValuesRow : OpenClaim := { program := "ytpfdaoajcnophaagreatdoor", sum := "13e33d71ae99c26c331a796acec1d75a94c23e5bbaa0734458cda08f56f4d6dc", func := "viator/viatorlaw14.MovingnumberValues", spec := "movingnumberValues", inPlace := ["internal/bytealg.IndexByteString", "internal/bytealg.IndexString", "math/bits.Add64", "internal/bytealg.abigen_runtime_cmpstring", "internal/abi.NoEscape", "internal/bytealg.MakeNoZero"], unfollowed := true, recurses := true, named := ["unicode/utf8.first", "unicode/utf8.acceptRanges", "internal/bytealg.MaxLen"], apart := false, laid := [("unicode/utf8.acceptRanges", laid_unicode_utf8_acceptRanges), ("unicode/utf8.first", laid_unicode_utf8_first)] }
def MovingnumberValuesSaid : Prop := movingnumberValuesRow.holds Tryz.pinned (OpenSpec.ofChange movingnumberValuesSpec)

/-- ITS FALSE NEIGHBOUR: 'it returns false'. Refute it at one input. -/
def movingnumberValuesWrong : ChangeSpec := { name := "movingnumberValues", fn := fun _ => fun
  | [d1, d2] => { results := [.lit (.bool false)], args := [d1, d2] }
  | _ => none }
def MovingnumberValuesWrongFalsely : Prop := movingnumberValuesRow.holds Tryz.pinned (OpenSpec.ofChange movingnumberValuesWrong)

/-- 'viatorlaw14.MovingnumberAdds': WHATEVER THE INPUT: true; the input reads as it did. -/
def movingnumberAddsSpec : ChangeSpec := { name := "movingnumberAdds", fn := fun _ => fun
  | [d1, d2, d3] => { results := [.lit (.bool true)], args := [d1, d2, d3] }
  | _ => none }
def movingnumberAddsRow : OpenClaim := { program := "ytpfdaoajcnophaagreatdoor", sum := "13e33d71ae99c26c331a796acec1d75a94c23e5bbaa0734458cda08f56f4d6dc", func := "viator/viatorlaw14.MovingnumberAdds", spec := "movingnumberAdds", inPlace := ["internal/bytealg.IndexByteString", "internal/bytealg.IndexString", "math/bits.Add64", "internal/bytealg.abigen_runtime_cmpstring", "internal/abi.NoEscape", "internal/bytealg.MakeNoZero"], unfollowed := true, recurses := true, named := ["unicode/utf8.first", "unicode/utf8.acceptRanges", "internal/bytealg.MaxLen"], apart := false, laid := [("unicode/utf8.acceptRanges", laid_unicode_utf8_acceptRanges), ("unicode/utf8.first", laid_unicode_utf8_first)] }
def MovingnumberAddsSaid : Prop := movingnumberAddsRow.holds Tryz.pinned (OpenSpec.ofChange movingnumberAddsSpec)

/-- ITS FALSE NEIGHBOUR: 'it returns false'. Refute it at one input. -/
def movingnumberAddsWrong : ChangeSpec := { name := "movingnumberAdds", fn := fun _ => fun
  | [d1, d2, d3] => { results := [.lit (.bool false)], args := [d1, d2, d3] }
  | _ => none }
def MovingnumberAddsWrongFalsely : Prop := movingnumberAddsRow.holds Tryz.pinned (OpenSpec.ofChange movingnumberAddsWrong)

/-- 'viatorlaw14.MovingnumberMultiplies': WHATEVER THE INPUT: true; the input reads as it did. -/
def movingnumberMultipliesSpec : ChangeSpec := { name := "movingnumberMultiplies", fn := fun _ => fun
  | [d1, d2] => { results := [.lit (.bool true)], args := [d1, d2] }
  | _ => none }
def movingnumberMultipliesRow : OpenClaim := { program := "ytpfdaoajcnophaagreatdoor", sum := "13e33d71ae99c26c331a796acec1d75a94c23e5bbaa0734458cda08f56f4d6dc", func := "viator/viatorlaw14.MovingnumberMultiplies", spec := "movingnumberMultiplies", inPlace := ["internal/bytealg.IndexByteString", "internal/bytealg.IndexString", "math/bits.Add64", "internal/bytealg.abigen_runtime_cmpstring", "internal/abi.NoEscape", "internal/bytealg.MakeNoZero"], unfollowed := true, recurses := true, named := ["unicode/utf8.first", "unicode/utf8.acceptRanges", "internal/bytealg.MaxLen"], apart := false, laid := [("unicode/utf8.acceptRanges", laid_unicode_utf8_acceptRanges), ("unicode/utf8.first", laid_unicode_utf8_first)] }
def MovingnumberMultipliesSaid : Prop := movingnumberMultipliesRow.holds Tryz.pinned (OpenSpec.ofChange movingnumberMultipliesSpec)

/-- ITS FALSE NEIGHBOUR: 'it returns false'. Refute it at one input. -/
def movingnumberMultipliesWrong : ChangeSpec := { name := "movingnumberMultiplies", fn := fun _ => fun
  | [d1, d2] => { results := [.lit (.bool false)], args := [d1, d2] }
  | _ => none }
def MovingnumberMultipliesWrongFalsely : Prop := movingnumberMultipliesRow.holds Tryz.pinned (OpenSpec.ofChange movingnumberMultipliesWrong)

/-- 'viatorlaw14.MovingnumberRestricts': WHATEVER THE INPUT: true; the input reads as it did. -/
def movingnumberRestrictsSpec : ChangeSpec := { name := "movingnumberRestricts", fn := fun _ => fun
  | [d1, d2, d3] => { results := [.lit (.bool true)], args := [d1, d2, d3] }
  | _ => none }
def movingnumberRestrictsRow : OpenClaim := { program := "ytpfdaoajcnophaagreatdoor", sum := "13e33d71ae99c26c331a796acec1d75a94c23e5bbaa0734458cda08f56f4d6dc", func := "viator/viatorlaw14.MovingnumberRestricts", spec := "movingnumberRestricts", inPlace := ["internal/bytealg.IndexByteString", "internal/bytealg.IndexString", "math/bits.Add64", "internal/bytealg.abigen_runtime_cmpstring", "internal/abi.NoEscape", "internal/bytealg.MakeNoZero"], unfollowed := true, recurses := true, named := ["unicode/utf8.first", "unicode/utf8.acceptRanges", "internal/bytealg.MaxLen"], apart := false, laid := [("unicode/utf8.acceptRanges", laid_unicode_utf8_acceptRanges), ("unicode/utf8.first", laid_unicode_utf8_first)] }
def MovingnumberRestrictsSaid : Prop := movingnumberRestrictsRow.holds Tryz.pinned (OpenSpec.ofChange movingnumberRestrictsSpec)

/-- ITS FALSE NEIGHBOUR: 'it returns false'. Refute it at one input. -/
def movingnumberRestrictsWrong : ChangeSpec := { name := "movingnumberRestricts", fn := fun _ => fun
  | [d1, d2, d3] => { results := [.lit (.bool false)], args := [d1, d2, d3] }
  | _ => none }
def MovingnumberRestrictsWrongFalsely : Prop := movingnumberRestrictsRow.holds Tryz.pinned (OpenSpec.ofChange movingnumberRestrictsWrong)

/-- 'viatorlaw15.MovingpointPasses': WHATEVER THE INPUT: true; the input reads as it did. -/
def movingpointPassesSpec : ChangeSpec := { name := "movingpointPasses", fn := fun _ => fun
  | [d1, d2, d3] => { results := [.lit (.bool true)], args := [d1, d2, d3] }
  | _ => none }
def movingpointPassesRow : OpenClaim := { program := "ytpfdaoajcnophaagreatdoor", sum := "13e33d71ae99c26c331a796acec1d75a94c23e5bbaa0734458cda08f56f4d6dc", func := "viator/viatorlaw15.MovingpointPasses", spec := "movingpointPasses", inPlace := ["internal/bytealg.abigen_runtime_cmpstring", "internal/bytealg.IndexByteString", "internal/bytealg.IndexString", "math/bits.Add64", "internal/abi.NoEscape", "internal/bytealg.MakeNoZero"], unfollowed := true, recurses := true, named := ["unicode/utf8.first", "unicode/utf8.acceptRanges", "internal/bytealg.MaxLen"], apart := false, laid := [("unicode/utf8.acceptRanges", laid_unicode_utf8_acceptRanges), ("unicode/utf8.first", laid_unicode_utf8_first)] }
def MovingpointPassesSaid : Prop := movingpointPassesRow.holds Tryz.pinned (OpenSpec.ofChange movingpointPassesSpec)

/-- ITS FALSE NEIGHBOUR: 'it returns false'. Refute it at one input. -/
def movingpointPassesWrong : ChangeSpec := { name := "movingpointPasses", fn := fun _ => fun
  | [d1, d2, d3] => { results := [.lit (.bool false)], args := [d1, d2, d3] }
  | _ => none }
def MovingpointPassesWrongFalsely : Prop := movingpointPassesRow.holds Tryz.pinned (OpenSpec.ofChange movingpointPassesWrong)

/- THE SECOND FORM. 'bulk': how many values and letters a reading holds, each counted each time it is reached (what is shared counts as often as it is met; a slice's spare places count too). A statement '..UptoSaid' is the law's where the arguments, and the package variables that the reading takes, are together of bulk at most 1048576: NARROWER than '..Said'. Prove '..Said' where nothing that the law and all that it calls make is longer than what came in: it says more and counts as full. Else prove '..UptoSaid'. A law counts once. -/
mutual
def uptoBulk {H : Type} : DataW H → Nat
  | .lit (.string bytes) => bytes.length + 1
  | .lit _ => 1
  | .nil => 1
  | .ptr d => uptoBulk d + 1
  | .slice elems spare => uptoBulkAll elems + uptoBulkAll spare + 1
  | .agg parts => uptoBulkAll parts + 1
  | .iface _ d => uptoBulk d + 1
  | .map entries => uptoBulkEntries entries + 1
  | .held _ => 1
def uptoBulkAll {H : Type} : List (DataW H) → Nat
  | [] => 0
  | d :: r => uptoBulk d + uptoBulkAll r
def uptoBulkEntries {H : Type} : List (Lit × DataW H) → Nat
  | [] => 0
  | x :: r => uptoBulkEntry x + uptoBulkEntries r
def uptoBulkEntry {H : Type} : Lit × DataW H → Nat
  | (.string bytes, d) => bytes.length + uptoBulk d + 1
  | (_, d) => uptoBulk d + 1
 end
def uptoSmall : (H : Type) → List (DataW H) → Bool := fun _ ds => decide (uptoBulkAll ds ≤ 1048576)
def OpenSpec.upto (s : _root_.Go.ChangeSpec) : _root_.Go.OpenSpec := { _root_.Go.OpenSpec.ofChange s with cond := some uptoSmall }

/-- 'viatorlaw15.MovingpointBoxes', WHERE WHAT IT READS IS OF BULK AT MOST 1048576: true; the input reads as it did. -/
def movingpointBoxesUptoRow : OpenClaim := { program := "ytpfdaoajcnophaagreatdoor", sum := "13e33d71ae99c26c331a796acec1d75a94c23e5bbaa0734458cda08f56f4d6dc", func := "viator/viatorlaw15.MovingpointBoxes", spec := "movingpointBoxes", inPlace := ["internal/bytealg.abigen_runtime_cmpstring", "internal/bytealg.IndexByteString", "internal/bytealg.IndexString", "math/bits.Add64", "internal/abi.NoEscape", "internal/bytealg.MakeNoZero"], unfollowed := true, recurses := true, named := ["unicode/utf8.first", "unicode/utf8.acceptRanges", "internal/bytealg.MaxLen"], apart := false, laid := [("unicode/utf8.acceptRanges", laid_unicode_utf8_acceptRanges), ("unicode/utf8.first", laid_unicode_utf8_first)], narrowed := true }
def MovingpointBoxesUptoSaid : Prop := movingpointBoxesUptoRow.holds Tryz.pinned (OpenSpec.upto movingpointBoxesSpec)

/-- 'viatorlaw15.MovingpointAt', WHERE WHAT IT READS IS OF BULK AT MOST 1048576: true; the input reads as it did. -/
def movingpointAtUptoRow : OpenClaim := { program := "ytpfdaoajcnophaagreatdoor", sum := "13e33d71ae99c26c331a796acec1d75a94c23e5bbaa0734458cda08f56f4d6dc", func := "viator/viatorlaw15.MovingpointAt", spec := "movingpointAt", inPlace := ["internal/bytealg.abigen_runtime_cmpstring", "internal/bytealg.IndexByteString", "internal/bytealg.IndexString", "math/bits.Add64", "internal/abi.NoEscape", "internal/bytealg.MakeNoZero"], unfollowed := true, recurses := true, named := ["unicode/utf8.first", "unicode/utf8.acceptRanges", "internal/bytealg.MaxLen"], apart := false, laid := [("unicode/utf8.acceptRanges", laid_unicode_utf8_acceptRanges), ("unicode/utf8.first", laid_unicode_utf8_first)], narrowed := true }
def MovingpointAtUptoSaid : Prop := movingpointAtUptoRow.holds Tryz.pinned (OpenSpec.upto movingpointAtSpec)

/-- 'viatorlaw14.MovingnumberRanges', WHERE WHAT IT READS IS OF BULK AT MOST 1048576: true; the input reads as it did. -/
def movingnumberRangesUptoRow : OpenClaim := { program := "ytpfdaoajcnophaagreatdoor", sum := "13e33d71ae99c26c331a796acec1d75a94c23e5bbaa0734458cda08f56f4d6dc", func := "viator/viatorlaw14.MovingnumberRanges", spec := "movingnumberRanges", inPlace := ["internal/bytealg.IndexByteString", "internal/bytealg.IndexString", "math/bits.Add64", "internal/bytealg.abigen_runtime_cmpstring", "internal/abi.NoEscape", "internal/bytealg.MakeNoZero"], unfollowed := true, recurses := true, named := ["unicode/utf8.first", "unicode/utf8.acceptRanges", "internal/bytealg.MaxLen"], apart := false, laid := [("unicode/utf8.acceptRanges", laid_unicode_utf8_acceptRanges), ("unicode/utf8.first", laid_unicode_utf8_first)], narrowed := true }
def MovingnumberRangesUptoSaid : Prop := movingnumberRangesUptoRow.holds Tryz.pinned (OpenSpec.upto movingnumberRangesSpec)

/-- 'viatorlaw14.MovingnumberDerives', WHERE WHAT IT READS IS OF BULK AT MOST 1048576: true; the input reads as it did. -/
def movingnumberDerivesUptoRow : OpenClaim := { program := "ytpfdaoajcnophaagreatdoor", sum := "13e33d71ae99c26c331a796acec1d75a94c23e5bbaa0734458cda08f56f4d6dc", func := "viator/viatorlaw14.MovingnumberDerives", spec := "movingnumberDerives", inPlace := ["internal/bytealg.IndexByteString", "internal/bytealg.IndexString", "math/bits.Add64", "internal/bytealg.abigen_runtime_cmpstring", "internal/abi.NoEscape", "internal/bytealg.MakeNoZero"], unfollowed := true, recurses := true, named := ["unicode/utf8.first", "unicode/utf8.acceptRanges", "internal/bytealg.MaxLen"], apart := false, laid := [("unicode/utf8.acceptRanges", laid_unicode_utf8_acceptRanges), ("unicode/utf8.first", laid_unicode_utf8_first)], narrowed := true }
def MovingnumberDerivesUptoSaid : Prop := movingnumberDerivesUptoRow.holds Tryz.pinned (OpenSpec.upto movingnumberDerivesSpec)

/-- 'viatorlaw14.MovingnumberCompares', WHERE WHAT IT READS IS OF BULK AT MOST 1048576: true; the input reads as it did. -/
def movingnumberComparesUptoRow : OpenClaim := { program := "ytpfdaoajcnophaagreatdoor", sum := "13e33d71ae99c26c331a796acec1d75a94c23e5bbaa0734458cda08f56f4d6dc", func := "viator/viatorlaw14.MovingnumberCompares", spec := "movingnumberCompares", inPlace := ["internal/bytealg.IndexByteString", "internal/bytealg.IndexString", "math/bits.Add64", "internal/bytealg.abigen_runtime_cmpstring", "internal/abi.NoEscape", "internal/bytealg.MakeNoZero"], unfollowed := true, recurses := true, named := ["unicode/utf8.first", "unicode/utf8.acceptRanges", "internal/bytealg.MaxLen"], apart := false, laid := [("unicode/utf8.acceptRanges", laid_unicode_utf8_acceptRanges), ("unicode/utf8.first", laid_unicode_utf8_first)], narrowed := true }
def MovingnumberComparesUptoSaid : Prop := movingnumberComparesUptoRow.holds Tryz.pinned (OpenSpec.upto movingnumberComparesSpec)

/-- 'viatorlaw14.MovingnumberExtremes', WHERE WHAT IT READS IS OF BULK AT MOST 1048576: true; the input reads as it did. -/
def movingnumberExtremesUptoRow : OpenClaim := { program := "ytpfdaoajcnophaagreatdoor", sum := "13e33d71ae99c26c331a796acec1d75a94c23e5bbaa0734458cda08f56f4d6dc", func := "viator/viatorlaw14.MovingnumberExtremes", spec := "movingnumberExtremes", inPlace := ["internal/bytealg.IndexByteString", "internal/bytealg.IndexString", "math/bits.Add64", "internal/bytealg.abigen_runtime_cmpstring", "internal/abi.NoEscape", "internal/bytealg.MakeNoZero"], unfollowed := true, recurses := true, named := ["unicode/utf8.first", "unicode/utf8.acceptRanges", "internal/bytealg.MaxLen"], apart := false, laid := [("unicode/utf8.acceptRanges", laid_unicode_utf8_acceptRanges), ("unicode/utf8.first", laid_unicode_utf8_first)], narrowed := true }
def MovingnumberExtremesUptoSaid : Prop := movingnumberExtremesUptoRow.holds Tryz.pinned (OpenSpec.upto movingnumberExtremesSpec)

/-- 'viatorlaw14.MovingnumberChecks', WHERE WHAT IT READS IS OF BULK AT MOST 1048576: true; the input reads as it did. -/
def movingnumberChecksUptoRow : OpenClaim := { program := "ytpfdaoajcnophaagreatdoor", sum := "13e33d71ae99c26c331a796acec1d75a94c23e5bbaa0734458cda08f56f4d6dc", func := "viator/viatorlaw14.MovingnumberChecks", spec := "movingnumberChecks", inPlace := ["internal/bytealg.IndexByteString", "internal/bytealg.IndexString", "math/bits.Add64", "internal/bytealg.abigen_runtime_cmpstring", "internal/abi.NoEscape", "internal/bytealg.MakeNoZero"], unfollowed := true, recurses := true, named := ["unicode/utf8.first", "unicode/utf8.acceptRanges", "internal/bytealg.MaxLen"], apart := false, laid := [("unicode/utf8.acceptRanges", laid_unicode_utf8_acceptRanges), ("unicode/utf8.first", laid_unicode_utf8_first)], narrowed := true }
def MovingnumberChecksUptoSaid : Prop := movingnumberChecksUptoRow.holds Tryz.pinned (OpenSpec.upto movingnumberChecksSpec)

/-- 'viatorlaw14.MovingnumberValues', WHERE WHAT IT READS IS OF BULK AT MOST 1048576: true; the input reads as it did. -/
def movingnumberValuesUptoRow : OpenClaim := { program := "ytpfdaoajcnophaagreatdoor", sum := "13e33d71ae99c26c331a796acec1d75a94c23e5bbaa0734458cda08f56f4d6dc", func := "viator/viatorlaw14.MovingnumberValues", spec := "movingnumberValues", inPlace := ["internal/bytealg.IndexByteString", "internal/bytealg.IndexString", "math/bits.Add64", "internal/bytealg.abigen_runtime_cmpstring", "internal/abi.NoEscape", "internal/bytealg.MakeNoZero"], unfollowed := true, recurses := true, named := ["unicode/utf8.first", "unicode/utf8.acceptRanges", "internal/bytealg.MaxLen"], apart := false, laid := [("unicode/utf8.acceptRanges", laid_unicode_utf8_acceptRanges), ("unicode/utf8.first", laid_unicode_utf8_first)], narrowed := true }
def MovingnumberValuesUptoSaid : Prop := movingnumberValuesUptoRow.holds Tryz.pinned (OpenSpec.upto movingnumberValuesSpec)

/-- 'viatorlaw14.MovingnumberAdds', WHERE WHAT IT READS IS OF BULK AT MOST 1048576: true; the input reads as it did. -/
def movingnumberAddsUptoRow : OpenClaim := { program := "ytpfdaoajcnophaagreatdoor", sum := "13e33d71ae99c26c331a796acec1d75a94c23e5bbaa0734458cda08f56f4d6dc", func := "viator/viatorlaw14.MovingnumberAdds", spec := "movingnumberAdds", inPlace := ["internal/bytealg.IndexByteString", "internal/bytealg.IndexString", "math/bits.Add64", "internal/bytealg.abigen_runtime_cmpstring", "internal/abi.NoEscape", "internal/bytealg.MakeNoZero"], unfollowed := true, recurses := true, named := ["unicode/utf8.first", "unicode/utf8.acceptRanges", "internal/bytealg.MaxLen"], apart := false, laid := [("unicode/utf8.acceptRanges", laid_unicode_utf8_acceptRanges), ("unicode/utf8.first", laid_unicode_utf8_first)], narrowed := true }
def MovingnumberAddsUptoSaid : Prop := movingnumberAddsUptoRow.holds Tryz.pinned (OpenSpec.upto movingnumberAddsSpec)

/-- 'viatorlaw14.MovingnumberMultiplies', WHERE WHAT IT READS IS OF BULK AT MOST 1048576: true; the input reads as it did. -/
def movingnumberMultipliesUptoRow : OpenClaim := { program := "ytpfdaoajcnophaagreatdoor", sum := "13e33d71ae99c26c331a796acec1d75a94c23e5bbaa0734458cda08f56f4d6dc", func := "viator/viatorlaw14.MovingnumberMultiplies", spec := "movingnumberMultiplies", inPlace := ["internal/bytealg.IndexByteString", "internal/bytealg.IndexString", "math/bits.Add64", "internal/bytealg.abigen_runtime_cmpstring", "internal/abi.NoEscape", "internal/bytealg.MakeNoZero"], unfollowed := true, recurses := true, named := ["unicode/utf8.first", "unicode/utf8.acceptRanges", "internal/bytealg.MaxLen"], apart := false, laid := [("unicode/utf8.acceptRanges", laid_unicode_utf8_acceptRanges), ("unicode/utf8.first", laid_unicode_utf8_first)], narrowed := true }
def MovingnumberMultipliesUptoSaid : Prop := movingnumberMultipliesUptoRow.holds Tryz.pinned (OpenSpec.upto movingnumberMultipliesSpec)

/-- 'viatorlaw14.MovingnumberRestricts', WHERE WHAT IT READS IS OF BULK AT MOST 1048576: true; the input reads as it did. -/
def movingnumberRestrictsUptoRow : OpenClaim := { program := "ytpfdaoajcnophaagreatdoor", sum := "13e33d71ae99c26c331a796acec1d75a94c23e5bbaa0734458cda08f56f4d6dc", func := "viator/viatorlaw14.MovingnumberRestricts", spec := "movingnumberRestricts", inPlace := ["internal/bytealg.IndexByteString", "internal/bytealg.IndexString", "math/bits.Add64", "internal/bytealg.abigen_runtime_cmpstring", "internal/abi.NoEscape", "internal/bytealg.MakeNoZero"], unfollowed := true, recurses := true, named := ["unicode/utf8.first", "unicode/utf8.acceptRanges", "internal/bytealg.MaxLen"], apart := false, laid := [("unicode/utf8.acceptRanges", laid_unicode_utf8_acceptRanges), ("unicode/utf8.first", laid_unicode_utf8_first)], narrowed := true }
def MovingnumberRestrictsUptoSaid : Prop := movingnumberRestrictsUptoRow.holds Tryz.pinned (OpenSpec.upto movingnumberRestrictsSpec)

/-- 'viatorlaw15.MovingpointPasses', WHERE WHAT IT READS IS OF BULK AT MOST 1048576: true; the input reads as it did. -/
def movingpointPassesUptoRow : OpenClaim := { program := "ytpfdaoajcnophaagreatdoor", sum := "13e33d71ae99c26c331a796acec1d75a94c23e5bbaa0734458cda08f56f4d6dc", func := "viator/viatorlaw15.MovingpointPasses", spec := "movingpointPasses", inPlace := ["internal/bytealg.abigen_runtime_cmpstring", "internal/bytealg.IndexByteString", "internal/bytealg.IndexString", "math/bits.Add64", "internal/abi.NoEscape", "internal/bytealg.MakeNoZero"], unfollowed := true, recurses := true, named := ["unicode/utf8.first", "unicode/utf8.acceptRanges", "internal/bytealg.MaxLen"], apart := false, laid := [("unicode/utf8.acceptRanges", laid_unicode_utf8_acceptRanges), ("unicode/utf8.first", laid_unicode_utf8_first)], narrowed := true }
def MovingpointPassesUptoSaid : Prop := movingpointPassesUptoRow.holds Tryz.pinned (OpenSpec.upto movingpointPassesSpec)

end Rows
end Go.Proofs.YtpfdaoajcnophaaGreatDoor
