/- A part of the proof of movingpointBoxes. -/
import Derived.Test.YtpfdaoajcnophaaGreatDoorNQBa
import Derived.Test.YtpfdaoajcnophaaGreatDoorNQBg
import Derived.Test.YtpfdaoajcnophaaGreatDoorNQBb
set_option linter.unusedVariables false
set_option linter.unusedSimpArgs false
namespace Go.Proofs.YtpfdaoajcnophaaGreatDoor
open Go Go.ChangeShapes Go.WideShapes Go.ChangeAt Go.RowKit Go.Sx
set_option maxRecDepth 100000
theorem kG:Rows.MovingpointBoxesSaid :=
 OpenClaim.holds_of_wide 3 Tryz.f3 rfl rfl rfl rfl rfl rfl rfl ⟨rfl,rfl,rfl,rfl,rfl⟩ rfl rfl rfl rfl rfl named3 Tryz.func3 joined3 inst3 wrap3
  (fun os started H enc _=>ks os started H enc)
end Go.Proofs.YtpfdaoajcnophaaGreatDoor
