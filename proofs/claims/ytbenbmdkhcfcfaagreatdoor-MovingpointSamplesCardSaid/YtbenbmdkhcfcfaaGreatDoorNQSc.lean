/- A part of the proof of movingpointSamples. -/
import Derived.Test.YtbenbmdkhcfcfaaGreatDoorNQSa
import Derived.Test.YtbenbmdkhcfcfaaGreatDoorNQSg
import Derived.Test.YtbenbmdkhcfcfaaGreatDoorNQSb
set_option linter.unusedVariables false
set_option linter.unusedSimpArgs false
namespace Go.Proofs.YtbenbmdkhcfcfaaGreatDoor
open Go Go.ChangeShapes Go.WideShapes Go.ChangeAt Go.RowKit Go.Sx
set_option maxRecDepth 100000
theorem gI : Rows.MovingpointSamplesSaid :=
  OpenClaim.holds_of_wide 4 Tryz.f4 rfl rfl rfl rfl rfl rfl rfl ⟨rfl, rfl, rfl, rfl, rfl⟩ rfl rfl rfl rfl rfl named4 Tryz.func4 joined4 inst4 wrap4
    (fun os started H enc _ => gu os started H enc)
end Go.Proofs.YtbenbmdkhcfcfaaGreatDoor
