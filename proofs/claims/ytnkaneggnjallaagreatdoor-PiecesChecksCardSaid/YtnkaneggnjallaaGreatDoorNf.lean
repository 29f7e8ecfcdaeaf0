/- A part of the proof that the law PiecesChecks answers true at every input and leaves its arguments as they were. -/
import Derived.Test.YtnkaneggnjallaaGreatDoorLift
set_option linter.unusedVariables false
set_option linter.unusedSimpArgs false
namespace Go.Proofs.YtnkaneggnjallaaGreatDoor
open Go Go.ChangeShapes Go.WideShapes Go.ChangeAt Go.RowKit Go.Sx
set_option maxRecDepth 100000
theorem wf7 : Rows.piecesChecksRow.wfByText (OpenSpec.ofChange Rows.piecesChecksSpec) = true := by kernel_rfl
theorem fn7 {f : FuncId} (hf : Tryz.pinned.checked.prog.funcNamed Rows.piecesChecksRow.func = some f) : f = 7 := Option.some.inj ((show Tryz.prog.funcNamed Rows.piecesChecksRow.func = some 7 by kernel_rfl).symm.trans hf) |>.symm
end Go.Proofs.YtnkaneggnjallaaGreatDoor
