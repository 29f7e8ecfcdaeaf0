/- A part of the proof of movingpointChecks. -/
import Derived.Test.YtbenbmdkhcfcfaaGreatDoorH1
import Derived.Test.YtbenbmdkhcfcfaaGreatDoorExtC
set_option linter.unusedVariables false
set_option linter.unusedSimpArgs false
namespace Go.Proofs.YtbenbmdkhcfcfaaGreatDoor
open Go Go.ChangeShapes Go.WideShapes Go.ChangeAt Go.RowKit Go.Sx
set_option maxRecDepth 100000
theorem wf6 : Rows.movingpointChecksRow.wfByText (OpenSpec.ofChange Rows.movingpointChecksSpec) = true := by kernel_rfl
theorem fn6 {f : FuncId} (hf : Tryz.pinned.checked.prog.funcNamed Rows.movingpointChecksRow.func = some f) : f = 6 := Option.some.inj ((show Tryz.prog.funcNamed Rows.movingpointChecksRow.func = some 6 by kernel_rfl).symm.trans hf) |>.symm
end Go.Proofs.YtbenbmdkhcfcfaaGreatDoor
