/- A part of the proof that the law PiecesNormal answers true at every input and leaves its arguments as they were. -/
import Derived.Test.YtnkaneggnjallaaGreatDoorLift
set_option linter.unusedVariables false
set_option linter.unusedSimpArgs false
namespace Go.Proofs.YtnkaneggnjallaaGreatDoor
open Go Go.ChangeShapes Go.WideShapes Go.ChangeAt Go.RowKit Go.Sx
set_option maxRecDepth 100000
theorem wf6 : Rows.piecesNormalRow.wfByText (OpenSpec.ofChange Rows.piecesNormalSpec) = true := by kernel_rfl
theorem fn6 {f : FuncId} (hf : Tryz.pinned.checked.prog.funcNamed Rows.piecesNormalRow.func = some f) : f = 6 := Option.some.inj ((show Tryz.prog.funcNamed Rows.piecesNormalRow.func = some 6 by kernel_rfl).symm.trans hf) |>.symm
end Go.Proofs.YtnkaneggnjallaaGreatDoor
