/- A part of the proof that the law PiecesShifts answers true at every input and leaves its arguments as they were. -/
import Derived.Test.YtnkaneggnjallaaGreatDoorLift
set_option linter.unusedVariables false
set_option linter.unusedSimpArgs false
namespace Go.Proofs.YtnkaneggnjallaaGreatDoor
open Go Go.ChangeShapes Go.WideShapes Go.ChangeAt Go.RowKit Go.Sx
set_option maxRecDepth 100000
theorem wf8 : Rows.piecesShiftsRow.wfByText (OpenSpec.ofChange Rows.piecesShiftsSpec) = true := by kernel_rfl
theorem fn8 {f : FuncId} (hf : Tryz.pinned.checked.prog.funcNamed Rows.piecesShiftsRow.func = some f) : f = 8 := Option.some.inj ((show Tryz.prog.funcNamed Rows.piecesShiftsRow.func = some 8 by kernel_rfl).symm.trans hf) |>.symm
end Go.Proofs.YtnkaneggnjallaaGreatDoor
