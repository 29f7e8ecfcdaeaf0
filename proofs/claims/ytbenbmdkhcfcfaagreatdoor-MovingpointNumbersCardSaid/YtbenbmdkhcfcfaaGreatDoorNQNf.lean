/- A part of the proof of movingpointNumbers. -/
import Derived.Test.YtbenbmdkhcfcfaaGreatDoorF7
set_option linter.unusedVariables false
set_option linter.unusedSimpArgs false
namespace Go.Proofs.YtbenbmdkhcfcfaaGreatDoor
open Go Go.ChangeShapes Go.WideShapes Go.ChangeAt Go.RowKit Go.Sx
set_option maxRecDepth 100000
theorem wf10 : Rows.movingpointNumbersRow.wfByText (OpenSpec.ofChange Rows.movingpointNumbersSpec) = true := by kernel_rfl
theorem fn10 {f : FuncId} (hf : Tryz.pinned.checked.prog.funcNamed Rows.movingpointNumbersRow.func = some f) : f = 10 := Option.some.inj ((show Tryz.prog.funcNamed Rows.movingpointNumbersRow.func = some 10 by kernel_rfl).symm.trans hf) |>.symm
end Go.Proofs.YtbenbmdkhcfcfaaGreatDoor
