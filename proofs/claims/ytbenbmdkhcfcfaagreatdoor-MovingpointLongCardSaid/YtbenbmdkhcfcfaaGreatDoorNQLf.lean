/- A part of the proof of movingpointLong. -/
import Derived.Test.YtbenbmdkhcfcfaaGreatDoorA6
set_option linter.unusedVariables false
set_option linter.unusedSimpArgs false
namespace Go.Proofs.YtbenbmdkhcfcfaaGreatDoor
open Go Go.ChangeShapes Go.WideShapes Go.ChangeAt Go.RowKit Go.Sx
set_option maxRecDepth 100000
theorem wf3 : Rows.movingpointLongRow.wfByText (OpenSpec.ofChange Rows.movingpointLongSpec) = true := by kernel_rfl
theorem fn3 {f : FuncId} (hf : Tryz.pinned.checked.prog.funcNamed Rows.movingpointLongRow.func = some f) : f = 3 := Option.some.inj ((show Tryz.prog.funcNamed Rows.movingpointLongRow.func = some 3 by kernel_rfl).symm.trans hf) |>.symm
end Go.Proofs.YtbenbmdkhcfcfaaGreatDoor
