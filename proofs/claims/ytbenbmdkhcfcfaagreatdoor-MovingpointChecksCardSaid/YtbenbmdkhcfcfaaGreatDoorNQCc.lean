/- A part of the proof of movingpointChecks. -/
import Derived.Test.YtbenbmdkhcfcfaaGreatDoorNQCa
import Derived.Test.YtbenbmdkhcfcfaaGreatDoorNQCg
import Derived.Test.YtbenbmdkhcfcfaaGreatDoorNQCb
set_option linter.unusedVariables false
set_option linter.unusedSimpArgs false
namespace Go.Proofs.YtbenbmdkhcfcfaaGreatDoor
open Go Go.ChangeShapes Go.WideShapes Go.ChangeAt Go.RowKit Go.Sx
set_option maxRecDepth 100000
theorem ij : Rows.MovingpointChecksSaid :=
  OpenClaim.holds_of_wide 6 Tryz.f6 rfl rfl rfl rfl rfl rfl rfl ⟨rfl, rfl, rfl, rfl, rfl⟩ rfl rfl rfl rfl rfl named6 Tryz.func6 joined6 inst6 wrap6
    (fun os started H enc _ => gU os started H enc)
end Go.Proofs.YtbenbmdkhcfcfaaGreatDoor
