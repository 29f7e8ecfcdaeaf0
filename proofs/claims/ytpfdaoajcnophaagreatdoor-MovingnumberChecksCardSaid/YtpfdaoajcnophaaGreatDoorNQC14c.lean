/- A part of the proof of movingnumberChecks. -/
import Derived.Test.YtpfdaoajcnophaaGreatDoorNQC14a
import Derived.Test.YtpfdaoajcnophaaGreatDoorNQC14g
import Derived.Test.YtpfdaoajcnophaaGreatDoorNQC14b
set_option linter.unusedVariables false
set_option linter.unusedSimpArgs false
namespace Go.Proofs.YtpfdaoajcnophaaGreatDoor
open Go Go.ChangeShapes Go.WideShapes Go.ChangeAt Go.RowKit Go.Sx
set_option maxRecDepth 100000
theorem kQ:Rows.MovingnumberChecksSaid :=
 OpenClaim.holds_of_wide 9 Tryz.f9 rfl rfl rfl rfl rfl rfl rfl ⟨rfl,rfl,rfl,rfl,rfl⟩ rfl rfl rfl rfl rfl named9 Tryz.func9 joined9 inst9 wrap9
  (fun os started H enc _=>ki os started H enc)
end Go.Proofs.YtpfdaoajcnophaaGreatDoor
