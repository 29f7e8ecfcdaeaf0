/-
  DERIVED. GIVEN WITH THE SEED: THE CARDS: each row of YtnkaneggnjallaaGreatDoorRows.lean that lists a variable, with what it lists TIED to the program's text (the seventh form; the later family's looks); each row that meets fmt, with fmt's text TOLD by the authors' own Lean function (tested against real Go, not proved from fmt's source: count such statements apart). THE CARD IS WHAT COUNTS. Prove the row's statement (the work); the ties are given (YtnkaneggnjallaaGreatDoorTie.lean); close each card by the builder's one call (the guide's Derived/Test/ToyasCard.lean, 'card_holds'). Laid BY PROGRAM, IN A SANDBOX (cutbox-door.mjs). By AI agents, Wed Nov 11 2026. No macro, syntax, notation, axiom, sorry.
-/
import Derived.Test.YtnkaneggnjallaaGreatDoorRows
import GoSem.ClaimSeven
namespace Go.Proofs.YtnkaneggnjallaaGreatDoor
namespace Rows

/-- THE TIED CARD OF 'viatorlaw13.PiecesKinds'. -/
def piecesKindsCard : Claim7 := { stood := { row := piecesKindsRow, standIns := [], harness := (true, "33578ef64ab2565cd661984a31f19ee3af636f7b7fab39c6240bd839fee7ec05"), looks := false }, kinds := [], alts := [], laidByText := true, laidKinds := [.data, .pinned], laidTests := true, laidLooks := .later }
def PiecesKindsCardSaid : Prop := Claim7.holds Tryz.pinned (.plain (OpenSpec.ofChange piecesKindsSpec)) piecesKindsCard

/-- THE TIED CARD OF 'viatorlaw13.PiecesOverlaps'. -/
def piecesOverlapsCard : Claim7 := { stood := { row := piecesOverlapsRow, standIns := [], harness := (true, "33578ef64ab2565cd661984a31f19ee3af636f7b7fab39c6240bd839fee7ec05"), looks := false }, kinds := [], alts := [], laidByText := true, laidKinds := [.data, .pinned], laidTests := true, laidLooks := .later }
def PiecesOverlapsCardSaid : Prop := Claim7.holds Tryz.pinned (.plain (OpenSpec.ofChange piecesOverlapsSpec)) piecesOverlapsCard

/-- THE TIED CARD OF 'viatorlaw13.PiecesRules'. -/
def piecesRulesCard : Claim7 := { stood := { row := piecesRulesRow, standIns := [], harness := (true, "33578ef64ab2565cd661984a31f19ee3af636f7b7fab39c6240bd839fee7ec05"), looks := false }, kinds := [], alts := [], laidByText := true, laidKinds := [.data, .pinned], laidTests := true, laidLooks := .later }
def PiecesRulesCardSaid : Prop := Claim7.holds Tryz.pinned (.plain (OpenSpec.ofChange piecesRulesSpec)) piecesRulesCard

/-- THE TIED CARD OF 'viatorlaw13.PiecesNormal'. -/
def piecesNormalCard : Claim7 := { stood := { row := piecesNormalRow, standIns := [], harness := (true, "33578ef64ab2565cd661984a31f19ee3af636f7b7fab39c6240bd839fee7ec05"), looks := false }, kinds := [], alts := [], laidByText := true, laidKinds := [.data, .pinned], laidTests := true, laidLooks := .later }
def PiecesNormalCardSaid : Prop := Claim7.holds Tryz.pinned (.plain (OpenSpec.ofChange piecesNormalSpec)) piecesNormalCard

/-- THE TIED CARD OF 'viatorlaw13.PiecesChecks'. -/
def piecesChecksCard : Claim7 := { stood := { row := piecesChecksRow, standIns := [], harness := (true, "33578ef64ab2565cd661984a31f19ee3af636f7b7fab39c6240bd839fee7ec05"), looks := false }, kinds := [], alts := [], laidByText := true, laidKinds := [.data, .pinned], laidTests := true, laidLooks := .later }
def PiecesChecksCardSaid : Prop := Claim7.holds Tryz.pinned (.plain (OpenSpec.ofChange piecesChecksSpec)) piecesChecksCard

/-- THE TIED CARD OF 'viatorlaw13.PiecesShifts'. -/
def piecesShiftsCard : Claim7 := { stood := { row := piecesShiftsRow, standIns := [], harness := (true, "33578ef64ab2565cd661984a31f19ee3af636f7b7fab39c6240bd839fee7ec05"), looks := false }, kinds := [], alts := [], laidByText := true, laidKinds := [.data, .pinned], laidTests := true, laidLooks := .later }
def PiecesShiftsCardSaid : Prop := Claim7.holds Tryz.pinned (.plain (OpenSpec.ofChange piecesShiftsSpec)) piecesShiftsCard

/-- THE TIED CARD OF 'viatorlaw13.PiecesRefines'. -/
def piecesRefinesCard : Claim7 := { stood := { row := piecesRefinesRow, standIns := [], harness := (true, "33578ef64ab2565cd661984a31f19ee3af636f7b7fab39c6240bd839fee7ec05"), looks := false }, kinds := [], alts := [], laidByText := true, laidKinds := [.data, .pinned], laidTests := true, laidLooks := .later }
def PiecesRefinesCardSaid : Prop := Claim7.holds Tryz.pinned (.plain (OpenSpec.ofChange piecesRefinesSpec)) piecesRefinesCard

/-- THE TIED CARD OF 'viatorlaw13.PiecesMaps'. -/
def piecesMapsCard : Claim7 := { stood := { row := piecesMapsRow, standIns := [], harness := (true, "33578ef64ab2565cd661984a31f19ee3af636f7b7fab39c6240bd839fee7ec05"), looks := false }, kinds := [], alts := [], laidByText := true, laidKinds := [.data, .pinned], laidTests := true, laidLooks := .later }
def PiecesMapsCardSaid : Prop := Claim7.holds Tryz.pinned (.plain (OpenSpec.ofChange piecesMapsSpec)) piecesMapsCard

/-- THE TIED CARD OF 'viatorlaw13.PiecesMoments'. -/
def piecesMomentsCard : Claim7 := { stood := { row := piecesMomentsRow, standIns := [], harness := (true, "33578ef64ab2565cd661984a31f19ee3af636f7b7fab39c6240bd839fee7ec05"), looks := false }, kinds := [], alts := [], laidByText := true, laidKinds := [.data, .pinned], laidTests := true, laidLooks := .later }
def PiecesMomentsCardSaid : Prop := Claim7.holds Tryz.pinned (.plain (OpenSpec.ofChange piecesMomentsSpec)) piecesMomentsCard

/-- THE TIED CARD OF 'viatorlaw13.PiecesPatches'. -/
def piecesPatchesCard : Claim7 := { stood := { row := piecesPatchesRow, standIns := [], harness := (true, "33578ef64ab2565cd661984a31f19ee3af636f7b7fab39c6240bd839fee7ec05"), looks := false }, kinds := [], alts := [], laidByText := true, laidKinds := [.data, .pinned], laidTests := true, laidLooks := .later }
def PiecesPatchesCardSaid : Prop := Claim7.holds Tryz.pinned (.plain (OpenSpec.ofChange piecesPatchesSpec)) piecesPatchesCard

/-- THE TIED CARD OF 'viatorlaw13.PiecesRestricts'. -/
def piecesRestrictsCard : Claim7 := { stood := { row := piecesRestrictsRow, standIns := [], harness := (true, "33578ef64ab2565cd661984a31f19ee3af636f7b7fab39c6240bd839fee7ec05"), looks := false }, kinds := [], alts := [], laidByText := true, laidKinds := [.data, .pinned], laidTests := true, laidLooks := .later }
def PiecesRestrictsCardSaid : Prop := Claim7.holds Tryz.pinned (.plain (OpenSpec.ofChange piecesRestrictsSpec)) piecesRestrictsCard

/-- THE SECOND FORM's CARD OF 'viatorlaw13.PiecesKinds'. -/
def piecesKindsUptoCard : Claim7 := { stood := { row := piecesKindsUptoRow, standIns := [], harness := (true, "33578ef64ab2565cd661984a31f19ee3af636f7b7fab39c6240bd839fee7ec05"), looks := false }, kinds := [], alts := [], laidByText := true, laidKinds := [.data, .pinned], laidTests := true, laidLooks := .later }
def PiecesKindsUptoCardSaid : Prop := Claim7.holds Tryz.pinned (.plain (OpenSpec.upto piecesKindsSpec)) piecesKindsUptoCard

/-- THE SECOND FORM's CARD OF 'viatorlaw13.PiecesOverlaps'. -/
def piecesOverlapsUptoCard : Claim7 := { stood := { row := piecesOverlapsUptoRow, standIns := [], harness := (true, "33578ef64ab2565cd661984a31f19ee3af636f7b7fab39c6240bd839fee7ec05"), looks := false }, kinds := [], alts := [], laidByText := true, laidKinds := [.data, .pinned], laidTests := true, laidLooks := .later }
def PiecesOverlapsUptoCardSaid : Prop := Claim7.holds Tryz.pinned (.plain (OpenSpec.upto piecesOverlapsSpec)) piecesOverlapsUptoCard

/-- THE SECOND FORM's CARD OF 'viatorlaw13.PiecesRules'. -/
def piecesRulesUptoCard : Claim7 := { stood := { row := piecesRulesUptoRow, standIns := [], harness := (true, "33578ef64ab2565cd661984a31f19ee3af636f7b7fab39c6240bd839fee7ec05"), looks := false }, kinds := [], alts := [], laidByText := true, laidKinds := [.data, .pinned], laidTests := true, laidLooks := .later }
def PiecesRulesUptoCardSaid : Prop := Claim7.holds Tryz.pinned (.plain (OpenSpec.upto piecesRulesSpec)) piecesRulesUptoCard

/-- THE SECOND FORM's CARD OF 'viatorlaw13.PiecesNormal'. -/
def piecesNormalUptoCard : Claim7 := { stood := { row := piecesNormalUptoRow, standIns := [], harness := (true, "33578ef64ab2565cd661984a31f19ee3af636f7b7fab39c6240bd839fee7ec05"), looks := false }, kinds := [], alts := [], laidByText := true, laidKinds := [.data, .pinned], laidTests := true, laidLooks := .later }
def PiecesNormalUptoCardSaid : Prop := Claim7.holds Tryz.pinned (.plain (OpenSpec.upto piecesNormalSpec)) piecesNormalUptoCard

/-- THE SECOND FORM's CARD OF 'viatorlaw13.PiecesChecks'. -/
def piecesChecksUptoCard : Claim7 := { stood := { row := piecesChecksUptoRow, standIns := [], harness := (true, "33578ef64ab2565cd661984a31f19ee3af636f7b7fab39c6240bd839fee7ec05"), looks := false }, kinds := [], alts := [], laidByText := true, laidKinds := [.data, .pinned], laidTests := true, laidLooks := .later }
def PiecesChecksUptoCardSaid : Prop := Claim7.holds Tryz.pinned (.plain (OpenSpec.upto piecesChecksSpec)) piecesChecksUptoCard

/-- THE SECOND FORM's CARD OF 'viatorlaw13.PiecesShifts'. -/
def piecesShiftsUptoCard : Claim7 := { stood := { row := piecesShiftsUptoRow, standIns := [], harness := (true, "33578ef64ab2565cd661984a31f19ee3af636f7b7fab39c6240bd839fee7ec05"), looks := false }, kinds := [], alts := [], laidByText := true, laidKinds := [.data, .pinned], laidTests := true, laidLooks := .later }
def PiecesShiftsUptoCardSaid : Prop := Claim7.holds Tryz.pinned (.plain (OpenSpec.upto piecesShiftsSpec)) piecesShiftsUptoCard

/-- THE SECOND FORM's CARD OF 'viatorlaw13.PiecesRefines'. -/
def piecesRefinesUptoCard : Claim7 := { stood := { row := piecesRefinesUptoRow, standIns := [], harness := (true, "33578ef64ab2565cd661984a31f19ee3af636f7b7fab39c6240bd839fee7ec05"), looks := false }, kinds := [], alts := [], laidByText := true, laidKinds := [.data, .pinned], laidTests := true, laidLooks := .later }
def PiecesRefinesUptoCardSaid : Prop := Claim7.holds Tryz.pinned (.plain (OpenSpec.upto piecesRefinesSpec)) piecesRefinesUptoCard

/-- THE SECOND FORM's CARD OF 'viatorlaw13.PiecesMaps'. -/
def piecesMapsUptoCard : Claim7 := { stood := { row := piecesMapsUptoRow, standIns := [], harness := (true, "33578ef64ab2565cd661984a31f19ee3af636f7b7fab39c6240bd839fee7ec05"), looks := false }, kinds := [], alts := [], laidByText := true, laidKinds := [.data, .pinned], laidTests := true, laidLooks := .later }
def PiecesMapsUptoCardSaid : Prop := Claim7.holds Tryz.pinned (.plain (OpenSpec.upto piecesMapsSpec)) piecesMapsUptoCard

/-- THE SECOND FORM's CARD OF 'viatorlaw13.PiecesMoments'. -/
def piecesMomentsUptoCard : Claim7 := { stood := { row := piecesMomentsUptoRow, standIns := [], harness := (true, "33578ef64ab2565cd661984a31f19ee3af636f7b7fab39c6240bd839fee7ec05"), looks := false }, kinds := [], alts := [], laidByText := true, laidKinds := [.data, .pinned], laidTests := true, laidLooks := .later }
def PiecesMomentsUptoCardSaid : Prop := Claim7.holds Tryz.pinned (.plain (OpenSpec.upto piecesMomentsSpec)) piecesMomentsUptoCard

/-- THE SECOND FORM's CARD OF 'viatorlaw13.PiecesPatches'. -/
def piecesPatchesUptoCard : Claim7 := { stood := { row := piecesPatchesUptoRow, standIns := [], harness := (true, "33578ef64ab2565cd661984a31f19ee3af636f7b7fab39c6240bd839fee7ec05"), looks := false }, kinds := [], alts := [], laidByText := true, laidKinds := [.data, .pinned], laidTests := true, laidLooks := .later }
def PiecesPatchesUptoCardSaid : Prop := Claim7.holds Tryz.pinned (.plain (OpenSpec.upto piecesPatchesSpec)) piecesPatchesUptoCard

/-- THE SECOND FORM's CARD OF 'viatorlaw13.PiecesRestricts'. -/
def piecesRestrictsUptoCard : Claim7 := { stood := { row := piecesRestrictsUptoRow, standIns := [], harness := (true, "33578ef64ab2565cd661984a31f19ee3af636f7b7fab39c6240bd839fee7ec05"), looks := false }, kinds := [], alts := [], laidByText := true, laidKinds := [.data, .pinned], laidTests := true, laidLooks := .later }
def PiecesRestrictsUptoCardSaid : Prop := Claim7.holds Tryz.pinned (.plain (OpenSpec.upto piecesRestrictsSpec)) piecesRestrictsUptoCard
end Rows
end Go.Proofs.YtnkaneggnjallaaGreatDoor
