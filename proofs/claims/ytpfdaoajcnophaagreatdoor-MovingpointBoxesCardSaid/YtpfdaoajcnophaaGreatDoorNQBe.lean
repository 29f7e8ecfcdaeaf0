/- A part of the proof of movingpointBoxes. -/
import Derived.Test.YtpfdaoajcnophaaGreatDoorK6
set_option linter.unusedVariables false
set_option linter.unusedSimpArgs false
namespace Go.Proofs.YtpfdaoajcnophaaGreatDoor
open Go Go.ChangeShapes Go.WideShapes Go.ChangeAt Go.RowKit Go.Sx
set_option maxRecDepth 100000
theorem goes3:false=Rows.movingpointBoxesRow.goesBy Tryz.pinned.checked.prog:=by kernel_rfl
end Go.Proofs.YtpfdaoajcnophaaGreatDoor
