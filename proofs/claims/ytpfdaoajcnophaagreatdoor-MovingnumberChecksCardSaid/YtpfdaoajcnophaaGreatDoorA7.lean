/- A part of the proof of movingnumberChecks. -/
import Derived.Test.YtpfdaoajcnophaaGreatDoorA5
import Derived.Test.YtpfdaoajcnophaaGreatDoorExtK
set_option linter.unusedVariables false
set_option linter.unusedSimpArgs false
namespace Go.Proofs.YtpfdaoajcnophaaGreatDoor
open Go Go.ChangeShapes Go.WideShapes Go.ChangeAt Go.RowKit Go.Sx
set_option maxRecDepth 100000
theorem main_is : Tryz.pinned.checked.prog.mainIs = some (true, "0cacc08c6f766385aa4a6b472f928f3d4c10893910f373cbe7fb0d17310d34d0".toList) := by kernel_rfl
theorem looks_no:false=Tryz.pinned.checked.prog.looks []:=by kernel_rfl
end Go.Proofs.YtpfdaoajcnophaaGreatDoor
