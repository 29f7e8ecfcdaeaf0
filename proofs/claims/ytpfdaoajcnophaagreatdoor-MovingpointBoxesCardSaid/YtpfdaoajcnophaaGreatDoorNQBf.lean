/- A part of the proof of movingpointBoxes. -/
import Derived.Test.YtpfdaoajcnophaaGreatDoorK6
set_option linter.unusedVariables false
set_option linter.unusedSimpArgs false
namespace Go.Proofs.YtpfdaoajcnophaaGreatDoor
open Go Go.ChangeShapes Go.WideShapes Go.ChangeAt Go.RowKit Go.Sx
set_option maxRecDepth 100000
theorem wf3:Rows.movingpointBoxesRow.wfByText (OpenSpec.ofChange Rows.movingpointBoxesSpec)=true:=by kernel_rfl
theorem fn3 {f:FuncId} (hf:Tryz.pinned.checked.prog.funcNamed Rows.movingpointBoxesRow.func=some f):f=3:=Option.some.inj ((show Tryz.prog.funcNamed Rows.movingpointBoxesRow.func=some 3 by kernel_rfl).symm.trans hf) |>.symm
end Go.Proofs.YtpfdaoajcnophaaGreatDoor
