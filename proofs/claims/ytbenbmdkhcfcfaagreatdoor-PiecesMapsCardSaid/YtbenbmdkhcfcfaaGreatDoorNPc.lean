/- Part of piecesMaps. -/
import Derived.Test.YtbenbmdkhcfcfaaGreatDoorNPa
import Derived.Test.YtbenbmdkhcfcfaaGreatDoorNPg
import Derived.Test.YtbenbmdkhcfcfaaGreatDoorNPb
set_option linter.unusedVariables false
set_option linter.unusedSimpArgs false
namespace Go.Proofs.YtbenbmdkhcfcfaaGreatDoor
open Go Go.ChangeShapes Go.WideShapes Go.ChangeAt Go.RowKit Go.Sx
set_option maxRecDepth 100000
theorem pb : Rows.PiecesMapsSaid :=
 OpenClaim.holds_of_wide 5 Tryz.f5 rfl rfl rfl rfl rfl rfl rfl ⟨rfl, rfl, rfl, rfl, rfl⟩ rfl rfl rfl rfl rfl named5 Tryz.func5 joined5 inst5 wrap5
  (fun os started H enc _ => ow os started H enc)
end Go.Proofs.YtbenbmdkhcfcfaaGreatDoor
