import Derived.Test.YtbenbmdkhcfcfaaGreatDoorNVa
import Derived.Test.YtbenbmdkhcfcfaaGreatDoorNVg
import Derived.Test.YtbenbmdkhcfcfaaGreatDoorNVb
set_option linter.unusedVariables false
set_option linter.unusedSimpArgs false
namespace Go.Proofs.YtbenbmdkhcfcfaaGreatDoor
open Go Go.ChangeShapes Go.WideShapes Go.ChangeAt Go.RowKit Go.Sx
set_option maxRecDepth 100000
theorem nk:Rows.PiecesPatchesSaid :=
 OpenClaim.holds_of_wide 11 Tryz.f11 rfl rfl rfl rfl rfl rfl rfl ⟨rfl,rfl,rfl,rfl,rfl⟩ rfl rfl rfl rfl rfl named11 Tryz.func11 joined11 inst11 wrap11
  (fun os started H enc _=>mZ os started H enc)
end Go.Proofs.YtbenbmdkhcfcfaaGreatDoor
