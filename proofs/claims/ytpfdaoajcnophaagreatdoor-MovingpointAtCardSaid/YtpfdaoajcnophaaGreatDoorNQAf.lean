/- A part of the proof of movingpointAt. -/
import Derived.Test.YtpfdaoajcnophaaGreatDoorA7
set_option linter.unusedVariables false
set_option linter.unusedSimpArgs false
namespace Go.Proofs.YtpfdaoajcnophaaGreatDoor
open Go Go.ChangeShapes Go.WideShapes Go.ChangeAt Go.RowKit Go.Sx
set_option maxRecDepth 100000
theorem wf4 : Rows.movingpointAtRow.wfByText (OpenSpec.ofChange Rows.movingpointAtSpec) = true := by kernel_rfl
theorem fn4 {f : FuncId} (hf : Tryz.pinned.checked.prog.funcNamed Rows.movingpointAtRow.func = some f) : f = 4 := Option.some.inj ((show Tryz.prog.funcNamed Rows.movingpointAtRow.func = some 4 by kernel_rfl).symm.trans hf) |>.symm
end Go.Proofs.YtpfdaoajcnophaaGreatDoor
