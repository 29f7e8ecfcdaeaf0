/- A part of the proof that the law PiecesOverlaps answers true at every input and leaves its arguments as they were. -/
import Derived.Test.YtnkaneggnjallaaGreatDoorLift
set_option linter.unusedVariables false
set_option linter.unusedSimpArgs false
namespace Go.Proofs.YtnkaneggnjallaaGreatDoor
open Go Go.ChangeShapes Go.WideShapes Go.ChangeAt Go.RowKit Go.Sx
set_option maxRecDepth 100000
theorem wf4 : Rows.piecesOverlapsRow.wfByText (OpenSpec.ofChange Rows.piecesOverlapsSpec) = true := by kernel_rfl
theorem fn4 {f : FuncId} (hf : Tryz.pinned.checked.prog.funcNamed Rows.piecesOverlapsRow.func = some f) : f = 4 := Option.some.inj ((show Tryz.prog.funcNamed Rows.piecesOverlapsRow.func = some 4 by kernel_rfl).symm.trans hf) |>.symm
end Go.Proofs.YtnkaneggnjallaaGreatDoor
