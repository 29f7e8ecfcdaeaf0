/- A part of the proof of movingpointMeets. -/
import Derived.Test.YtbenbmdkhcfcfaaGreatDoorNQMa
import Derived.Test.YtbenbmdkhcfcfaaGreatDoorNQMg
import Derived.Test.YtbenbmdkhcfcfaaGreatDoorNQMb
set_option linter.unusedVariables false
set_option linter.unusedSimpArgs false
namespace Go.Proofs.YtbenbmdkhcfcfaaGreatDoor
open Go Go.ChangeShapes Go.WideShapes Go.ChangeAt Go.RowKit Go.Sx
set_option maxRecDepth 100000
theorem je : Rows.MovingpointMeetsSaid :=
  OpenClaim.holds_of_wide 7 Tryz.f7 rfl rfl rfl rfl rfl rfl rfl ⟨rfl, rfl, rfl, rfl, rfl⟩ rfl rfl rfl rfl rfl named7 Tryz.func7 joined7 inst7 wrap7
    (fun os started H enc _ => iU os started H enc)
end Go.Proofs.YtbenbmdkhcfcfaaGreatDoor
