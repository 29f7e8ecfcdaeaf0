/- A part of the proof of movingpointNumbers. -/
import Derived.Test.YtbenbmdkhcfcfaaGreatDoorNQNa
import Derived.Test.YtbenbmdkhcfcfaaGreatDoorNQNg
import Derived.Test.YtbenbmdkhcfcfaaGreatDoorNQNb
set_option linter.unusedVariables false
set_option linter.unusedSimpArgs false
namespace Go.Proofs.YtbenbmdkhcfcfaaGreatDoor
open Go Go.ChangeShapes Go.WideShapes Go.ChangeAt Go.RowKit Go.Sx
set_option maxRecDepth 100000
theorem ks : Rows.MovingpointNumbersSaid :=
  OpenClaim.holds_of_wide 10 Tryz.f10 rfl rfl rfl rfl rfl rfl rfl ⟨rfl, rfl, rfl, rfl, rfl⟩ rfl rfl rfl rfl rfl named10 Tryz.func10 joined10 inst10 wrap10
    (fun os started H enc _ => j1 os started H enc)
end Go.Proofs.YtbenbmdkhcfcfaaGreatDoor
