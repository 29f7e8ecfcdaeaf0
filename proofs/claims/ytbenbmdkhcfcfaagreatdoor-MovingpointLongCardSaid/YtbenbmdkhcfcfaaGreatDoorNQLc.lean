/- A part of the proof of movingpointLong. -/
import Derived.Test.YtbenbmdkhcfcfaaGreatDoorNQLa
import Derived.Test.YtbenbmdkhcfcfaaGreatDoorNQLg
import Derived.Test.YtbenbmdkhcfcfaaGreatDoorNQLb
set_option linter.unusedVariables false
set_option linter.unusedSimpArgs false
namespace Go.Proofs.YtbenbmdkhcfcfaaGreatDoor
open Go Go.ChangeShapes Go.WideShapes Go.ChangeAt Go.RowKit Go.Sx
set_option maxRecDepth 100000
theorem jm : Rows.MovingpointLongSaid :=
  OpenClaim.holds_of_wide 3 Tryz.f3 rfl rfl rfl rfl rfl rfl rfl ⟨rfl, rfl, rfl, rfl, rfl⟩ rfl rfl rfl rfl rfl named3 Tryz.func3 joined3 inst3 wrap3
    (fun os started H enc _ => je os started H enc)
end Go.Proofs.YtbenbmdkhcfcfaaGreatDoor
