/- A part of the proof of movingpointMeets. -/
import Derived.Test.YtbenbmdkhcfcfaaGreatDoorA6
set_option linter.unusedVariables false
set_option linter.unusedSimpArgs false
namespace Go.Proofs.YtbenbmdkhcfcfaaGreatDoor
open Go Go.ChangeShapes Go.WideShapes Go.ChangeAt Go.RowKit Go.Sx
set_option maxRecDepth 100000
theorem wf7 : Rows.movingpointMeetsRow.wfByText (OpenSpec.ofChange Rows.movingpointMeetsSpec) = true := by kernel_rfl
theorem fn7 {f : FuncId} (hf : Tryz.pinned.checked.prog.funcNamed Rows.movingpointMeetsRow.func = some f) : f = 7 := Option.some.inj ((show Tryz.prog.funcNamed Rows.movingpointMeetsRow.func = some 7 by kernel_rfl).symm.trans hf) |>.symm
end Go.Proofs.YtbenbmdkhcfcfaaGreatDoor
