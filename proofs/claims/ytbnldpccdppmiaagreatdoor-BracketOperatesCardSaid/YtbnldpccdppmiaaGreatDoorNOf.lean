/- A part of the proof that the law BracketOperates/Brackets/Logic answers true at every input and leaves its arguments as they were. -/
import Derived.Test.YtbnldpccdppmiaaGreatDoorLift
set_option linter.unusedVariables false
set_option linter.unusedSimpArgs false
namespace Go.Proofs.YtbnldpccdppmiaaGreatDoor
open Go Go.ChangeShapes Go.WideShapes Go.ChangeAt Go.RowKit Go.Sx
set_option maxRecDepth 100000
theorem wf5 : Rows.bracketOperatesRow.wfByText (OpenSpec.ofChange Rows.bracketOperatesSpec) = true := by kernel_rfl
theorem fn5 {f : FuncId} (hf : Tryz.pinned.checked.prog.funcNamed Rows.bracketOperatesRow.func = some f) : f = 5 := Option.some.inj ((show Tryz.prog.funcNamed Rows.bracketOperatesRow.func = some 5 by kernel_rfl).symm.trans hf) |>.symm
end Go.Proofs.YtbnldpccdppmiaaGreatDoor
