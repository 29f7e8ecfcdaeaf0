/- A part of the proof of movingpointAt. -/
import Derived.Test.YtpfdaoajcnophaaGreatDoorNQAa
import Derived.Test.YtpfdaoajcnophaaGreatDoorNQAg
import Derived.Test.YtpfdaoajcnophaaGreatDoorNQAb
set_option linter.unusedVariables false
set_option linter.unusedSimpArgs false
namespace Go.Proofs.YtpfdaoajcnophaaGreatDoor
open Go Go.ChangeShapes Go.WideShapes Go.ChangeAt Go.RowKit Go.Sx
set_option maxRecDepth 100000
theorem lz : Rows.MovingpointAtSaid :=
  OpenClaim.holds_of_wide 4 Tryz.f4 rfl rfl rfl rfl rfl rfl rfl ⟨rfl, rfl, rfl, rfl, rfl⟩ rfl rfl rfl rfl rfl named4 Tryz.func4 joined4 inst4 wrap4
    (fun os started H enc _ => kY os started H enc)
end Go.Proofs.YtpfdaoajcnophaaGreatDoor
