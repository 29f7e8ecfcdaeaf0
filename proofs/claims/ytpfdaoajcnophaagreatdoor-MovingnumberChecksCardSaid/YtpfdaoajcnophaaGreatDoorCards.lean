/-
  DERIVED. GIVEN WITH THE SEED: THE CARDS: each row of YtpfdaoajcnophaaGreatDoorRows.lean that lists a variable, with what it lists TIED to the program's text (the seventh form; the later family's looks); each row that meets fmt, with fmt's text TOLD by the authors' own Lean function (tested against real Go, not proved from fmt's source: count such statements apart). THE CARD IS WHAT COUNTS. Prove the row's statement (the work); the ties are given (YtpfdaoajcnophaaGreatDoorTie.lean); close each card by the builder's one call (the guide's Derived/Test/ToyasCard.lean, 'card_holds'). Laid BY PROGRAM, IN A SANDBOX (cutbox-door.mjs). By AI agents, Wed Nov 11 2026. No macro, syntax, notation, axiom, sorry.
-/
import Derived.Test.YtpfdaoajcnophaaGreatDoorRows
import GoSem.ClaimSeven
namespace Go.Proofs.YtpfdaoajcnophaaGreatDoor
namespace Rows

/-- THE TIED CARD OF 'viatorlaw15.MovingpointBoxes'. -/
def movingpointBoxesCard : Claim7 := { stood := { row := movingpointBoxesRow, standIns := [], harness := (true, "0cacc08c6f766385aa4a6b472f928f3d4c10893910f373cbe7fb0d17310d34d0"), looks := false }, kinds := [], alts := [], laidByText := true, laidKinds := [.data, .pinned], laidTests := true, laidLooks := .later }
def MovingpointBoxesCardSaid : Prop := Claim7.holds Tryz.pinned (.plain (OpenSpec.ofChange movingpointBoxesSpec)) movingpointBoxesCard

/-- THE TIED CARD OF 'viatorlaw15.MovingpointAt'. -/
def movingpointAtCard : Claim7 := { stood := { row := movingpointAtRow, standIns := [], harness := (true, "0cacc08c6f766385aa4a6b472f928f3d4c10893910f373cbe7fb0d17310d34d0"), looks := false }, kinds := [], alts := [], laidByText := true, laidKinds := [.data, .pinned], laidTests := true, laidLooks := .later }
def MovingpointAtCardSaid : Prop := Claim7.holds Tryz.pinned (.plain (OpenSpec.ofChange movingpointAtSpec)) movingpointAtCard

/-- THE TIED CARD OF 'viatorlaw14.MovingnumberRanges'. -/
def movingnumberRangesCard : Claim7 := { stood := { row := movingnumberRangesRow, standIns := [], harness := (true, "0cacc08c6f766385aa4a6b472f928f3d4c10893910f373cbe7fb0d17310d34d0"), looks := false }, kinds := [], alts := [], laidByText := true, laidKinds := [.data, .pinned], laidTests := true, laidLooks := .later }
def MovingnumberRangesCardSaid : Prop := Claim7.holds Tryz.pinned (.plain (OpenSpec.ofChange movingnumberRangesSpec)) movingnumberRangesCard

/-- THE TIED CARD OF 'viatorlaw14.MovingnumberDerives'. -/
def movingnumberDerivesCard : Claim7 := { stood := { row := movingnumberDerivesRow, standIns := [], harness := (true, "0cacc08c6f766385aa4a6b472f928f3d4c10893910f373cbe7fb0d17310d34d0"), looks := false }, kinds := [], alts := [], laidByText := true, laidKinds := [.data, .pinned], laidTests := true, laidLooks := .later }
def MovingnumberDerivesCardSaid : Prop := Claim7.holds Tryz.pinned (.plain (OpenSpec.ofChange movingnumberDerivesSpec)) movingnumberDerivesCard

/-- THE TIED CARD OF 'viatorlaw14.MovingnumberCompares'. -/
def movingnumberComparesCard : Claim7 := { stood := { row := movingnumberComparesRow, standIns := [], harness := (true, "0cacc08c6f766385aa4a6b472f928f3d4c10893910f373cbe7fb0d17310d34d0"), looks := false }, kinds := [], alts := [], laidByText := true, laidKinds := [.data, .pinned], laidTests := true, laidLooks := .later }
def MovingnumberComparesCardSaid : Prop := Claim7.holds Tryz.pinned (.plain (OpenSpec.ofChange movingnumberComparesSpec)) movingnumberComparesCard

/-- THE TIED CARD OF 'viatorlaw14.MovingnumberExtremes'. -/
def movingnumberExtremesCard : Claim7 := { stood := { row := movingnumberExtremesRow, standIns := [], harness := (true, "0cacc08c6f766385aa4a6b472f928f3d4c10893910f373cbe7fb0d17310d34d0"), looks := false }, kinds := [], alts := [], laidByText := true, laidKinds := [.data, .pinned], laidTests := true, laidLooks := .later }
def MovingnumberExtremesCardSaid : Prop := Claim7.holds Tryz.pinned (.plain (OpenSpec.ofChange movingnumberExtremesSpec)) movingnumberExtremesCard

/-- THE TIED CARD OF 'viatorlaw14.MovingnumberChecks'. -/
def movingnumberChecksCard : Claim7 := { stood := { row := movingnumberChecksRow, standIns := [], harness := (true, "0cacc08c6f766385aa4a6b472f928f3d4c10893910f373cbe7fb0d17310d34d0"), looks := false }, kinds := [], alts := [], laidByText := true, laidKinds := [.data, .pinned], laidTests := true, laidLooks := .later }
def MovingnumberChecksCardSaid : Prop := Claim7.holds Tryz.pinned (.plain (OpenSpec.ofChange movingnumberChecksSpec)) movingnumberChecksCard

/-- THE TIED CARD OF 'viatorlaw14.MovingnumberValues'. -/
def movingnumberValuesCard : Claim7 := { stood := { row := movingnumberValuesRow, standIns := [], harness := (true, "0cacc08c6f766385aa4a6b472f928f3d4c10893910f373cbe7fb0d17310d34d0"), looks := false }, kinds := [], alts := [], laidByText := true, laidKinds := [.data, .pinned], laidTests := true, laidLooks := .later }
def MovingnumberValuesCardSaid : Prop := Claim7.holds Tryz.pinned (.plain (OpenSpec.ofChange movingnumberValuesSpec)) movingnumberValuesCard

/-- THE TIED CARD OF 'viatorlaw14.MovingnumberAdds'. -/
def movingnumberAddsCard : Claim7 := { stood := { row := movingnumberAddsRow, standIns := [], harness := (true, "0cacc08c6f766385aa4a6b472f928f3d4c10893910f373cbe7fb0d17310d34d0"), looks := false }, kinds := [], alts := [], laidByText := true, laidKinds := [.data, .pinned], laidTests := true, laidLooks := .later }
def MovingnumberAddsCardSaid : Prop := Claim7.holds Tryz.pinned (.plain (OpenSpec.ofChange movingnumberAddsSpec)) movingnumberAddsCard

/-- THE TIED CARD OF 'viatorlaw14.MovingnumberMultiplies'. -/
def movingnumberMultipliesCard : Claim7 := { stood := { row := movingnumberMultipliesRow, standIns := [], harness := (true, "0cacc08c6f766385aa4a6b472f928f3d4c10893910f373cbe7fb0d17310d34d0"), looks := false }, kinds := [], alts := [], laidByText := true, laidKinds := [.data, .pinned], laidTests := true, laidLooks := .later }
def MovingnumberMultipliesCardSaid : Prop := Claim7.holds Tryz.pinned (.plain (OpenSpec.ofChange movingnumberMultipliesSpec)) movingnumberMultipliesCard

/-- THE TIED CARD OF 'viatorlaw14.MovingnumberRestricts'. -/
def movingnumberRestrictsCard : Claim7 := { stood := { row := movingnumberRestrictsRow, standIns := [], harness := (true, "0cacc08c6f766385aa4a6b472f928f3d4c10893910f373cbe7fb0d17310d34d0"), looks := false }, kinds := [], alts := [], laidByText := true, laidKinds := [.data, .pinned], laidTests := true, laidLooks := .later }
def MovingnumberRestrictsCardSaid : Prop := Claim7.holds Tryz.pinned (.plain (OpenSpec.ofChange movingnumberRestrictsSpec)) movingnumberRestrictsCard

/-- THE TIED CARD OF 'viatorlaw15.MovingpointPasses'. -/
def movingpointPassesCard : Claim7 := { stood := { row := movingpointPassesRow, standIns := [], harness := (true, "0cacc08c6f766385aa4a6b472f928f3d4c10893910f373cbe7fb0d17310d34d0"), looks := false }, kinds := [], alts := [], laidByText := true, laidKinds := [.data, .pinned], laidTests := true, laidLooks := .later }
def MovingpointPassesCardSaid : Prop := Claim7.holds Tryz.pinned (.plain (OpenSpec.ofChange movingpointPassesSpec)) movingpointPassesCard

/-- THE SECOND FORM's CARD OF 'viatorlaw15.MovingpointBoxes'. -/
def movingpointBoxesUptoCard : Claim7 := { stood := { row := movingpointBoxesUptoRow, standIns := [], harness := (true, "0cacc08c6f766385aa4a6b472f928f3d4c10893910f373cbe7fb0d17310d34d0"), looks := false }, kinds := [], alts := [], laidByText := true, laidKinds := [.data, .pinned], laidTests := true, laidLooks := .later }
def MovingpointBoxesUptoCardSaid : Prop := Claim7.holds Tryz.pinned (.plain (OpenSpec.upto movingpointBoxesSpec)) movingpointBoxesUptoCard

/-- THE SECOND FORM's CARD OF 'viatorlaw15.MovingpointAt'. -/
def movingpointAtUptoCard : Claim7 := { stood := { row := movingpointAtUptoRow, standIns := [], harness := (true, "0cacc08c6f766385aa4a6b472f928f3d4c10893910f373cbe7fb0d17310d34d0"), looks := false }, kinds := [], alts := [], laidByText := true, laidKinds := [.data, .pinned], laidTests := true, laidLooks := .later }
def MovingpointAtUptoCardSaid : Prop := Claim7.holds Tryz.pinned (.plain (OpenSpec.upto movingpointAtSpec)) movingpointAtUptoCard

/-- THE SECOND FORM's CARD OF 'viatorlaw14.MovingnumberRanges'. -/
def movingnumberRangesUptoCard : Claim7 := { stood := { row := movingnumberRangesUptoRow, standIns := [], harness := (true, "0cacc08c6f766385aa4a6b472f928f3d4c10893910f373cbe7fb0d17310d34d0"), looks := false }, kinds := [], alts := [], laidByText := true, laidKinds := [.data, .pinned], laidTests := true, laidLooks := .later }
def MovingnumberRangesUptoCardSaid : Prop := Claim7.holds Tryz.pinned (.plain (OpenSpec.upto movingnumberRangesSpec)) movingnumberRangesUptoCard

/-- THE SECOND FORM's CARD OF 'viatorlaw14.MovingnumberDerives'. -/
def movingnumberDerivesUptoCard : Claim7 := { stood := { row := movingnumberDerivesUptoRow, standIns := [], harness := (true, "0cacc08c6f766385aa4a6b472f928f3d4c10893910f373cbe7fb0d17310d34d0"), looks := false }, kinds := [], alts := [], laidByText := true, laidKinds := [.data, .pinned], laidTests := true, laidLooks := .later }
def MovingnumberDerivesUptoCardSaid : Prop := Claim7.holds Tryz.pinned (.plain (OpenSpec.upto movingnumberDerivesSpec)) movingnumberDerivesUptoCard

/-- THE SECOND FORM's CARD OF 'viatorlaw14.MovingnumberCompares'. -/
def movingnumberComparesUptoCard : Claim7 := { stood := { row := movingnumberComparesUptoRow, standIns := [], harness := (true, "0cacc08c6f766385aa4a6b472f928f3d4c10893910f373cbe7fb0d17310d34d0"), looks := false }, kinds := [], alts := [], laidByText := true, laidKinds := [.data, .pinned], laidTests := true, laidLooks := .later }
def MovingnumberComparesUptoCardSaid : Prop := Claim7.holds Tryz.pinned (.plain (OpenSpec.upto movingnumberComparesSpec)) movingnumberComparesUptoCard

/-- THE SECOND FORM's CARD OF 'viatorlaw14.MovingnumberExtremes'. -/
def movingnumberExtremesUptoCard : Claim7 := { stood := { row := movingnumberExtremesUptoRow, standIns := [], harness := (true, "0cacc08c6f766385aa4a6b472f928f3d4c10893910f373cbe7fb0d17310d34d0"), looks := false }, kinds := [], alts := [], laidByText := true, laidKinds := [.data, .pinned], laidTests := true, laidLooks := .later }
def MovingnumberExtremesUptoCardSaid : Prop := Claim7.holds Tryz.pinned (.plain (OpenSpec.upto movingnumberExtremesSpec)) movingnumberExtremesUptoCard

/-- THE SECOND FORM's CARD OF 'viatorlaw14.MovingnumberChecks'. -/
def movingnumberChecksUptoCard : Claim7 := { stood := { row := movingnumberChecksUptoRow, standIns := [], harness := (true, "0cacc08c6f766385aa4a6b472f928f3d4c10893910f373cbe7fb0d17310d34d0"), looks := false }, kinds := [], alts := [], laidByText := true, laidKinds := [.data, .pinned], laidTests := true, laidLooks := .later }
def MovingnumberChecksUptoCardSaid : Prop := Claim7.holds Tryz.pinned (.plain (OpenSpec.upto movingnumberChecksSpec)) movingnumberChecksUptoCard

/-- THE SECOND FORM's CARD OF 'viatorlaw14.MovingnumberValues'. -/
def movingnumberValuesUptoCard : Claim7 := { stood := { row := movingnumberValuesUptoRow, standIns := [], harness := (true, "0cacc08c6f766385aa4a6b472f928f3d4c10893910f373cbe7fb0d17310d34d0"), looks := false }, kinds := [], alts := [], laidByText := true, laidKinds := [.data, .pinned], laidTests := true, laidLooks := .later }
def MovingnumberValuesUptoCardSaid : Prop := Claim7.holds Tryz.pinned (.plain (OpenSpec.upto movingnumberValuesSpec)) movingnumberValuesUptoCard

/-- THE SECOND FORM's CARD OF 'viatorlaw14.MovingnumberAdds'. -/
def movingnumberAddsUptoCard : Claim7 := { stood := { row := movingnumberAddsUptoRow, standIns := [], harness := (true, "0cacc08c6f766385aa4a6b472f928f3d4c10893910f373cbe7fb0d17310d34d0"), looks := false }, kinds := [], alts := [], laidByText := true, laidKinds := [.data, .pinned], laidTests := true, laidLooks := .later }
def MovingnumberAddsUptoCardSaid : Prop := Claim7.holds Tryz.pinned (.plain (OpenSpec.upto movingnumberAddsSpec)) movingnumberAddsUptoCard

/-- THE SECOND FORM's CARD OF 'viatorlaw14.MovingnumberMultiplies'. -/
def movingnumberMultipliesUptoCard : Claim7 := { stood := { row := movingnumberMultipliesUptoRow, standIns := [], harness := (true, "0cacc08c6f766385aa4a6b472f928f3d4c10893910f373cbe7fb0d17310d34d0"), looks := false }, kinds := [], alts := [], laidByText := true, laidKinds := [.data, .pinned], laidTests := true, laidLooks := .later }
def MovingnumberMultipliesUptoCardSaid : Prop := Claim7.holds Tryz.pinned (.plain (OpenSpec.upto movingnumberMultipliesSpec)) movingnumberMultipliesUptoCard

/-- THE SECOND FORM's CARD OF 'viatorlaw14.MovingnumberRestricts'. -/
def movingnumberRestrictsUptoCard : Claim7 := { stood := { row := movingnumberRestrictsUptoRow, standIns := [], harness := (true, "0cacc08c6f766385aa4a6b472f928f3d4c10893910f373cbe7fb0d17310d34d0"), looks := false }, kinds := [], alts := [], laidByText := true, laidKinds := [.data, .pinned], laidTests := true, laidLooks := .later }
def MovingnumberRestrictsUptoCardSaid : Prop := Claim7.holds Tryz.pinned (.plain (OpenSpec.upto movingnumberRestrictsSpec)) movingnumberRestrictsUptoCard

/-- THE SECOND FORM's CARD OF 'viatorlaw15.MovingpointPasses'. -/
def movingpointPassesUptoCard : Claim7 := { stood := { row := movingpointPassesUptoRow, standIns := [], harness := (true, "0cacc08c6f766385aa4a6b472f928f3d4c10893910f373cbe7fb0d17310d34d0"), looks := false }, kinds := [], alts := [], laidByText := true, laidKinds := [.data, .pinned], laidTests := true, laidLooks := .later }
def MovingpointPassesUptoCardSaid : Prop := Claim7.holds Tryz.pinned (.plain (OpenSpec.upto movingpointPassesSpec)) movingpointPassesUptoCard
end Rows
end Go.Proofs.YtpfdaoajcnophaaGreatDoor
