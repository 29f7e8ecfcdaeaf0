/- A part of the proof of movingpointMoves. -/
import Derived.Test.YtbenbmdkhcfcfaaGreatDoorNQVa
import Derived.Test.YtbenbmdkhcfcfaaGreatDoorNQVg
import Derived.Test.YtbenbmdkhcfcfaaGreatDoorNQVb
set_option linter.unusedVariables false
set_option linter.unusedSimpArgs false
namespace Go.Proofs.YtbenbmdkhcfcfaaGreatDoor
open Go Go.ChangeShapes Go.WideShapes Go.ChangeAt Go.RowKit Go.Sx
set_option maxRecDepth 100000
theorem jL : Rows.MovingpointMovesSaid :=
  OpenClaim.holds_of_wide 9 Tryz.f9 rfl rfl rfl rfl rfl rfl rfl ⟨rfl, rfl, rfl, rfl, rfl⟩ rfl rfl rfl rfl rfl named9 Tryz.func9 joined9 inst9 wrap9
    (fun os started H enc _ => ju os started H enc)
end Go.Proofs.YtbenbmdkhcfcfaaGreatDoor
