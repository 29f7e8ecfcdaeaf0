/- A part of the proof of movingpointRestricts. -/
import Derived.Test.YtbenbmdkhcfcfaaGreatDoorNQRa
import Derived.Test.YtbenbmdkhcfcfaaGreatDoorNQRg
import Derived.Test.YtbenbmdkhcfcfaaGreatDoorNQRb
set_option linter.unusedVariables false
set_option linter.unusedSimpArgs false
namespace Go.Proofs.YtbenbmdkhcfcfaaGreatDoor
open Go Go.ChangeShapes Go.WideShapes Go.ChangeAt Go.RowKit Go.Sx
set_option maxRecDepth 100000
theorem iH : Rows.MovingpointRestrictsSaid :=
  OpenClaim.holds_of_wide 13 Tryz.f13 rfl rfl rfl rfl rfl rfl rfl ⟨rfl, rfl, rfl, rfl, rfl⟩ rfl rfl rfl rfl rfl named13 Tryz.func13 joined13 inst13 wrap13
    (fun os started H enc _ => iA os started H enc)
end Go.Proofs.YtbenbmdkhcfcfaaGreatDoor
