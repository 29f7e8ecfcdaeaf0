/- A part of the proof of movingpointRestricts. -/
import Derived.Test.YtbenbmdkhcfcfaaGreatDoorK6
set_option linter.unusedVariables false
set_option linter.unusedSimpArgs false
namespace Go.Proofs.YtbenbmdkhcfcfaaGreatDoor
open Go Go.ChangeShapes Go.WideShapes Go.ChangeAt Go.RowKit Go.Sx
set_option maxRecDepth 100000
theorem wf13 : Rows.movingpointRestrictsRow.wfByText (OpenSpec.ofChange Rows.movingpointRestrictsSpec) = true := by kernel_rfl
theorem fn13 {f : FuncId} (hf : Tryz.pinned.checked.prog.funcNamed Rows.movingpointRestrictsRow.func = some f) : f = 13 := Option.some.inj ((show Tryz.prog.funcNamed Rows.movingpointRestrictsRow.func = some 13 by kernel_rfl).symm.trans hf) |>.symm
end Go.Proofs.YtbenbmdkhcfcfaaGreatDoor
