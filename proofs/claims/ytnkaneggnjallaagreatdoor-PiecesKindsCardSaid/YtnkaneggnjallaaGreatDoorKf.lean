/- A part of the proof that the law PiecesKinds answers true at every input and leaves its arguments as they were. -/
import Derived.Test.YtnkaneggnjallaaGreatDoorLift
set_option linter.unusedVariables false
set_option linter.unusedSimpArgs false
namespace Go.Proofs.YtnkaneggnjallaaGreatDoor
open Go Go.ChangeShapes Go.WideShapes Go.ChangeAt Go.RowKit Go.Sx
set_option maxRecDepth 100000
theorem wf3 : Rows.piecesKindsRow.wfByText (OpenSpec.ofChange Rows.piecesKindsSpec) = true := by kernel_rfl
theorem fn3 {f : FuncId} (hf : Tryz.pinned.checked.prog.funcNamed Rows.piecesKindsRow.func = some f) : f = 3 := Option.some.inj ((show Tryz.prog.funcNamed Rows.piecesKindsRow.func = some 3 by kernel_rfl).symm.trans hf) |>.symm
end Go.Proofs.YtnkaneggnjallaaGreatDoor
