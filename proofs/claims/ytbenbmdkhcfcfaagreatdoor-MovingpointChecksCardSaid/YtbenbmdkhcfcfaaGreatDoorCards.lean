/-
  DERIVED. GIVEN WITH THE SEED: THE CARDS: each row of YtbenbmdkhcfcfaaGreatDoorRows.lean that lists a variable, with what it lists TIED to the program's text (the seventh form; the later family's looks); each row that meets fmt, with fmt's text TOLD by the authors' own Lean function (tested against real Go, not proved from fmt's source: count such statements apart). THE CARD IS WHAT COUNTS. Prove the row's statement (the work); the ties are given (YtbenbmdkhcfcfaaGreatDoorTie.lean); close each card by the builder's one call (the guide's Derived/Test/ToyasCard.lean, 'card_holds'). Laid BY PROGRAM, IN A SANDBOX (cutbox-door.mjs). By AI agents, Wed Nov 11 2026. No macro, syntax, notation, axiom, sorry.
-/
import Derived.Test.YtbenbmdkhcfcfaaGreatDoorRows
import GoSem.ClaimSeven
namespace Go.Proofs.YtbenbmdkhcfcfaaGreatDoor
namespace Rows

/-- THE TIED CARD OF 'viatorlaw15.MovingpointLong'. -/
def movingpointLongCard : Claim7 := { stood := { row := movingpointLongRow, standIns := [], harness := (true, "6d1d5c2e1aebef60556676dd1fa69d1ad8f200cba7c7fb4d49c1db58e17c1697"), looks := false }, kinds := [], alts := [], laidByText := true, laidKinds := [.data, .pinned], laidTests := true, laidLooks := .later }
def MovingpointLongCardSaid : Prop := Claim7.holds Tryz.pinned (.plain (OpenSpec.ofChange movingpointLongSpec)) movingpointLongCard

/-- THE TIED CARD OF 'viatorlaw15.MovingpointSamples'. -/
def movingpointSamplesCard : Claim7 := { stood := { row := movingpointSamplesRow, standIns := [], harness := (true, "6d1d5c2e1aebef60556676dd1fa69d1ad8f200cba7c7fb4d49c1db58e17c1697"), looks := false }, kinds := [], alts := [], laidByText := true, laidKinds := [.data, .pinned], laidTests := true, laidLooks := .later }
def MovingpointSamplesCardSaid : Prop := Claim7.holds Tryz.pinned (.plain (OpenSpec.ofChange movingpointSamplesSpec)) movingpointSamplesCard

/-- THE TIED CARD OF 'viatorlaw13.PiecesMaps'. -/
def piecesMapsCard : Claim7 := { stood := { row := piecesMapsRow, standIns := [], harness := (true, "6d1d5c2e1aebef60556676dd1fa69d1ad8f200cba7c7fb4d49c1db58e17c1697"), looks := false }, kinds := [], alts := [], laidByText := true, laidKinds := [.data, .pinned], laidTests := true, laidLooks := .later }
def PiecesMapsCardSaid : Prop := Claim7.holds Tryz.pinned (.plain (OpenSpec.ofChange piecesMapsSpec)) piecesMapsCard

/-- THE TIED CARD OF 'viatorlaw15.MovingpointChecks'. -/
def movingpointChecksCard : Claim7 := { stood := { row := movingpointChecksRow, standIns := [], harness := (true, "6d1d5c2e1aebef60556676dd1fa69d1ad8f200cba7c7fb4d49c1db58e17c1697"), looks := false }, kinds := [], alts := [], laidByText := true, laidKinds := [.data, .pinned], laidTests := true, laidLooks := .later }
def MovingpointChecksCardSaid : Prop := Claim7.holds Tryz.pinned (.plain (OpenSpec.ofChange movingpointChecksSpec)) movingpointChecksCard

/-- THE TIED CARD OF 'viatorlaw15.MovingpointMeets'. -/
def movingpointMeetsCard : Claim7 := { stood := { row := movingpointMeetsRow, standIns := [], harness := (true, "6d1d5c2e1aebef60556676dd1fa69d1ad8f200cba7c7fb4d49c1db58e17c1697"), looks := false }, kinds := [], alts := [], laidByText := true, laidKinds := [.data, .pinned], laidTests := true, laidLooks := .later }
def MovingpointMeetsCardSaid : Prop := Claim7.holds Tryz.pinned (.plain (OpenSpec.ofChange movingpointMeetsSpec)) movingpointMeetsCard

/-- THE TIED CARD OF 'viatorlaw13.PiecesMoments'. -/
def piecesMomentsCard : Claim7 := { stood := { row := piecesMomentsRow, standIns := [], harness := (true, "6d1d5c2e1aebef60556676dd1fa69d1ad8f200cba7c7fb4d49c1db58e17c1697"), looks := false }, kinds := [], alts := [], laidByText := true, laidKinds := [.data, .pinned], laidTests := true, laidLooks := .later }
def PiecesMomentsCardSaid : Prop := Claim7.holds Tryz.pinned (.plain (OpenSpec.ofChange piecesMomentsSpec)) piecesMomentsCard

/-- THE TIED CARD OF 'viatorlaw15.MovingpointMoves'. -/
def movingpointMovesCard : Claim7 := { stood := { row := movingpointMovesRow, standIns := [], harness := (true, "6d1d5c2e1aebef60556676dd1fa69d1ad8f200cba7c7fb4d49c1db58e17c1697"), looks := false }, kinds := [], alts := [], laidByText := true, laidKinds := [.data, .pinned], laidTests := true, laidLooks := .later }
def MovingpointMovesCardSaid : Prop := Claim7.holds Tryz.pinned (.plain (OpenSpec.ofChange movingpointMovesSpec)) movingpointMovesCard

/-- THE TIED CARD OF 'viatorlaw15.MovingpointNumbers'. -/
def movingpointNumbersCard : Claim7 := { stood := { row := movingpointNumbersRow, standIns := [], harness := (true, "6d1d5c2e1aebef60556676dd1fa69d1ad8f200cba7c7fb4d49c1db58e17c1697"), looks := false }, kinds := [], alts := [], laidByText := true, laidKinds := [.data, .pinned], laidTests := true, laidLooks := .later }
def MovingpointNumbersCardSaid : Prop := Claim7.holds Tryz.pinned (.plain (OpenSpec.ofChange movingpointNumbersSpec)) movingpointNumbersCard

/-- THE TIED CARD OF 'viatorlaw13.PiecesPatches'. -/
def piecesPatchesCard : Claim7 := { stood := { row := piecesPatchesRow, standIns := [], harness := (true, "6d1d5c2e1aebef60556676dd1fa69d1ad8f200cba7c7fb4d49c1db58e17c1697"), looks := false }, kinds := [], alts := [], laidByText := true, laidKinds := [.data, .pinned], laidTests := true, laidLooks := .later }
def PiecesPatchesCardSaid : Prop := Claim7.holds Tryz.pinned (.plain (OpenSpec.ofChange piecesPatchesSpec)) piecesPatchesCard

/-- THE TIED CARD OF 'viatorlaw13.PiecesRestricts'. -/
def piecesRestrictsCard : Claim7 := { stood := { row := piecesRestrictsRow, standIns := [], harness := (true, "6d1d5c2e1aebef60556676dd1fa69d1ad8f200cba7c7fb4d49c1db58e17c1697"), looks := false }, kinds := [], alts := [], laidByText := true, laidKinds := [.data, .pinned], laidTests := true, laidLooks := .later }
def PiecesRestrictsCardSaid : Prop := Claim7.holds Tryz.pinned (.plain (OpenSpec.ofChange piecesRestrictsSpec)) piecesRestrictsCard

/-- THE TIED CARD OF 'viatorlaw15.MovingpointRestricts'. -/
def movingpointRestrictsCard : Claim7 := { stood := { row := movingpointRestrictsRow, standIns := [], harness := (true, "6d1d5c2e1aebef60556676dd1fa69d1ad8f200cba7c7fb4d49c1db58e17c1697"), looks := false }, kinds := [], alts := [], laidByText := true, laidKinds := [.data, .pinned], laidTests := true, laidLooks := .later }
def MovingpointRestrictsCardSaid : Prop := Claim7.holds Tryz.pinned (.plain (OpenSpec.ofChange movingpointRestrictsSpec)) movingpointRestrictsCard

/-- THE SECOND FORM's CARD OF 'viatorlaw15.MovingpointLong'. -/
def movingpointLongUptoCard : Claim7 := { stood := { row := movingpointLongUptoRow, standIns := [], harness := (true, "6d1d5c2e1aebef60556676dd1fa69d1ad8f200cba7c7fb4d49c1db58e17c1697"), looks := false }, kinds := [], alts := [], laidByText := true, laidKinds := [.data, .pinned], laidTests := true, laidLooks := .later }
def MovingpointLongUptoCardSaid : Prop := Claim7.holds Tryz.pinned (.plain (OpenSpec.upto movingpointLongSpec)) movingpointLongUptoCard

/-- THE SECOND FORM's CARD OF 'viatorlaw15.MovingpointSamples'. -/
def movingpointSamplesUptoCard : Claim7 := { stood := { row := movingpointSamplesUptoRow, standIns := [], harness := (true, "6d1d5c2e1aebef60556676dd1fa69d1ad8f200cba7c7fb4d49c1db58e17c1697"), looks := false }, kinds := [], alts := [], laidByText := true, laidKinds := [.data, .pinned], laidTests := true, laidLooks := .later }
def MovingpointSamplesUptoCardSaid : Prop := Claim7.holds Tryz.pinned (.plain (OpenSpec.upto movingpointSamplesSpec)) movingpointSamplesUptoCard

/-- THE SECOND FORM's CARD OF 'viatorlaw13.PiecesMaps'. -/
def piecesMapsUptoCard : Claim7 := { stood := { row := piecesMapsUptoRow, standIns := [], harness := (true, "6d1d5c2e1aebef60556676dd1fa69d1ad8f200cba7c7fb4d49c1db58e17c1697"), looks := false }, kinds := [], alts := [], laidByText := true, laidKinds := [.data, .pinned], laidTests := true, laidLooks := .later }
def PiecesMapsUptoCardSaid : Prop := Claim7.holds Tryz.pinned (.plain (OpenSpec.upto piecesMapsSpec)) piecesMapsUptoCard

/-- THE SECOND FORM's CARD OF 'viatorlaw15.MovingpointChecks'. -/
def movingpointChecksUptoCard : Claim7 := { stood := { row := movingpointChecksUptoRow, standIns := [], harness := (true, "6d1d5c2e1aebef60556676dd1fa69d1ad8f200cba7c7fb4d49c1db58e17c1697"), looks := false }, kinds := [], alts := [], laidByText := true, laidKinds := [.data, .pinned], laidTests := true, laidLooks := .later }
def MovingpointChecksUptoCardSaid : Prop := Claim7.holds Tryz.pinned (.plain (OpenSpec.upto movingpointChecksSpec)) movingpointChecksUptoCard

/-- THE SECOND FORM's CARD OF 'viatorlaw15.MovingpointMeets'. -/
def movingpointMeetsUptoCard : Claim7 := { stood := { row := movingpointMeetsUptoRow, standIns := [], harness := (true, "6d1d5c2e1aebef60556676dd1fa69d1ad8f200cba7c7fb4d49c1db58e17c1697"), looks := false }, kinds := [], alts := [], laidByText := true, laidKinds := [.data, .pinned], laidTests := true, laidLooks := .later }
def MovingpointMeetsUptoCardSaid : Prop := Claim7.holds Tryz.pinned (.plain (OpenSpec.upto movingpointMeetsSpec)) movingpointMeetsUptoCard

/-- THE SECOND FORM's CARD OF 'viatorlaw13.PiecesMoments'. -/
def piecesMomentsUptoCard : Claim7 := { stood := { row := piecesMomentsUptoRow, standIns := [], harness := (true, "6d1d5c2e1aebef60556676dd1fa69d1ad8f200cba7c7fb4d49c1db58e17c1697"), looks := false }, kinds := [], alts := [], laidByText := true, laidKinds := [.data, .pinned], laidTests := true, laidLooks := .later }
def PiecesMomentsUptoCardSaid : Prop := Claim7.holds Tryz.pinned (.plain (OpenSpec.upto piecesMomentsSpec)) piecesMomentsUptoCard

/-- THE SECOND FORM's CARD OF 'viatorlaw15.MovingpointMoves'. -/
def movingpointMovesUptoCard : Claim7 := { stood := { row := movingpointMovesUptoRow, standIns := [], harness := (true, "6d1d5c2e1aebef60556676dd1fa69d1ad8f200cba7c7fb4d49c1db58e17c1697"), looks := false }, kinds := [], alts := [], laidByText := true, laidKinds := [.data, .pinned], laidTests := true, laidLooks := .later }
def MovingpointMovesUptoCardSaid : Prop := Claim7.holds Tryz.pinned (.plain (OpenSpec.upto movingpointMovesSpec)) movingpointMovesUptoCard

/-- THE SECOND FORM's CARD OF 'viatorlaw15.MovingpointNumbers'. -/
def movingpointNumbersUptoCard : Claim7 := { stood := { row := movingpointNumbersUptoRow, standIns := [], harness := (true, "6d1d5c2e1aebef60556676dd1fa69d1ad8f200cba7c7fb4d49c1db58e17c1697"), looks := false }, kinds := [], alts := [], laidByText := true, laidKinds := [.data, .pinned], laidTests := true, laidLooks := .later }
def MovingpointNumbersUptoCardSaid : Prop := Claim7.holds Tryz.pinned (.plain (OpenSpec.upto movingpointNumbersSpec)) movingpointNumbersUptoCard

/-- THE SECOND FORM's CARD OF 'viatorlaw13.PiecesPatches'. -/
def piecesPatchesUptoCard : Claim7 := { stood := { row := piecesPatchesUptoRow, standIns := [], harness := (true, "6d1d5c2e1aebef60556676dd1fa69d1ad8f200cba7c7fb4d49c1db58e17c1697"), looks := false }, kinds := [], alts := [], laidByText := true, laidKinds := [.data, .pinned], laidTests := true, laidLooks := .later }
def PiecesPatchesUptoCardSaid : Prop := Claim7.holds Tryz.pinned (.plain (OpenSpec.upto piecesPatchesSpec)) piecesPatchesUptoCard

/-- THE SECOND FORM's CARD OF 'viatorlaw13.PiecesRestricts'. -/
def piecesRestrictsUptoCard : Claim7 := { stood := { row := piecesRestrictsUptoRow, standIns := [], harness := (true, "6d1d5c2e1aebef60556676dd1fa69d1ad8f200cba7c7fb4d49c1db58e17c1697"), looks := false }, kinds := [], alts := [], laidByText := true, laidKinds := [.data, .pinned], laidTests := true, laidLooks := .later }
def PiecesRestrictsUptoCardSaid : Prop := Claim7.holds Tryz.pinned (.plain (OpenSpec.upto piecesRestrictsSpec)) piecesRestrictsUptoCard

/-- THE SECOND FORM's CARD OF 'viatorlaw15.MovingpointRestricts'. -/
def movingpointRestrictsUptoCard : Claim7 := { stood := { row := movingpointRestrictsUptoRow, standIns := [], harness := (true, "6d1d5c2e1aebef60556676dd1fa69d1ad8f200cba7c7fb4d49c1db58e17c1697"), looks := false }, kinds := [], alts := [], laidByText := true, laidKinds := [.data, .pinned], laidTests := true, laidLooks := .later }
def MovingpointRestrictsUptoCardSaid : Prop := Claim7.holds Tryz.pinned (.plain (OpenSpec.upto movingpointRestrictsSpec)) movingpointRestrictsUptoCard
end Rows
end Go.Proofs.YtbenbmdkhcfcfaaGreatDoor
