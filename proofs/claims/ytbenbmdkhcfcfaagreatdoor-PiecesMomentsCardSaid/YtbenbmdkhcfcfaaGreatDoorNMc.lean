/- A part of the proof of piecesMoments. -/
import Derived.Test.YtbenbmdkhcfcfaaGreatDoorNMa
import Derived.Test.YtbenbmdkhcfcfaaGreatDoorNMg
import Derived.Test.YtbenbmdkhcfcfaaGreatDoorNMb
set_option linter.unusedVariables false
set_option linter.unusedSimpArgs false
namespace Go.Proofs.YtbenbmdkhcfcfaaGreatDoor
open Go Go.ChangeShapes Go.WideShapes Go.ChangeAt Go.RowKit Go.Sx
set_option maxRecDepth 100000
theorem lg : Rows.PiecesMomentsSaid :=
 OpenClaim.holds_of_wide 8 Tryz.f8 rfl rfl rfl rfl rfl rfl rfl ⟨rfl, rfl, rfl, rfl, rfl⟩ rfl rfl rfl rfl rfl named8 Tryz.func8 joined8 inst8 wrap8
  (fun os started H enc _ => kY os started H enc)
end Go.Proofs.YtbenbmdkhcfcfaaGreatDoor
