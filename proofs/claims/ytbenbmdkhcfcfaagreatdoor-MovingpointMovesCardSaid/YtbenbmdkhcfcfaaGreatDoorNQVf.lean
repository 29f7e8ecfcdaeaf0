/- A part of the proof of movingpointMoves. -/
import Derived.Test.YtbenbmdkhcfcfaaGreatDoorP6
set_option linter.unusedVariables false
set_option linter.unusedSimpArgs false
namespace Go.Proofs.YtbenbmdkhcfcfaaGreatDoor
open Go Go.ChangeShapes Go.WideShapes Go.ChangeAt Go.RowKit Go.Sx
set_option maxRecDepth 100000
theorem wf9 : Rows.movingpointMovesRow.wfByText (OpenSpec.ofChange Rows.movingpointMovesSpec) = true := by kernel_rfl
theorem fn9 {f : FuncId} (hf : Tryz.pinned.checked.prog.funcNamed Rows.movingpointMovesRow.func = some f) : f = 9 := Option.some.inj ((show Tryz.prog.funcNamed Rows.movingpointMovesRow.func = some 9 by kernel_rfl).symm.trans hf) |>.symm
end Go.Proofs.YtbenbmdkhcfcfaaGreatDoor
