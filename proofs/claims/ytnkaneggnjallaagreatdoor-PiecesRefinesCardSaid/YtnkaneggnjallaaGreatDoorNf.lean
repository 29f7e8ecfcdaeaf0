/- A part of the proof that the law PiecesRefines answers true at every input and leaves its arguments as they were. -/
import Derived.Test.YtnkaneggnjallaaGreatDoorLift
set_option linter.unusedVariables false
set_option linter.unusedSimpArgs false
namespace Go.Proofs.YtnkaneggnjallaaGreatDoor
open Go Go.ChangeShapes Go.WideShapes Go.ChangeAt Go.RowKit Go.Sx
set_option maxRecDepth 100000
theorem wf9 : Rows.piecesRefinesRow.wfByText (OpenSpec.ofChange Rows.piecesRefinesSpec) = true := by kernel_rfl
theorem fn9 {f : FuncId} (hf : Tryz.pinned.checked.prog.funcNamed Rows.piecesRefinesRow.func = some f) : f = 9 := Option.some.inj ((show Tryz.prog.funcNamed Rows.piecesRefinesRow.func = some 9 by kernel_rfl).symm.trans hf) |>.symm
end Go.Proofs.YtnkaneggnjallaaGreatDoor
