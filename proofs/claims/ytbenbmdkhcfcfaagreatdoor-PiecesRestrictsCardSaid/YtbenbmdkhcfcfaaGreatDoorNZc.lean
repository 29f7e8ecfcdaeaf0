import Derived.Test.YtbenbmdkhcfcfaaGreatDoorNZa
import Derived.Test.YtbenbmdkhcfcfaaGreatDoorNZg
import Derived.Test.YtbenbmdkhcfcfaaGreatDoorNZb
set_option linter.unusedVariables false
set_option linter.unusedSimpArgs false
namespace Go.Proofs.YtbenbmdkhcfcfaaGreatDoor
open Go Go.ChangeShapes Go.WideShapes Go.ChangeAt Go.RowKit Go.Sx
set_option maxRecDepth 100000
theorem mm:Rows.PiecesRestrictsSaid :=
 OpenClaim.holds_of_wide 12 Tryz.f12 rfl rfl rfl rfl rfl rfl rfl ⟨rfl,rfl,rfl,rfl,rfl⟩ rfl rfl rfl rfl rfl named12 Tryz.func12 joined12 inst12 wrap12
  (fun os started H enc _=>l5 os started H enc)
end Go.Proofs.YtbenbmdkhcfcfaaGreatDoor
