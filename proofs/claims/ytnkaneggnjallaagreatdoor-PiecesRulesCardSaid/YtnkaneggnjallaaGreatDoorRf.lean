/- A part of the proof that the law PiecesRules answers true at every input and leaves its arguments as they were. -/
import Derived.Test.YtnkaneggnjallaaGreatDoorLift
set_option linter.unusedVariables false
set_option linter.unusedSimpArgs false
namespace Go.Proofs.YtnkaneggnjallaaGreatDoor
open Go Go.ChangeShapes Go.WideShapes Go.ChangeAt Go.RowKit Go.Sx
set_option maxRecDepth 100000
theorem wf5 : Rows.piecesRulesRow.wfByText (OpenSpec.ofChange Rows.piecesRulesSpec) = true := by kernel_rfl
theorem fn5 {f : FuncId} (hf : Tryz.pinned.checked.prog.funcNamed Rows.piecesRulesRow.func = some f) : f = 5 := Option.some.inj ((show Tryz.prog.funcNamed Rows.piecesRulesRow.func = some 5 by kernel_rfl).symm.trans hf) |>.symm
end Go.Proofs.YtnkaneggnjallaaGreatDoor
