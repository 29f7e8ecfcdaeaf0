/- A part of the proof that the law BracketQuestions/Checks answers true at every input and leaves its arguments as they were. -/
import Derived.Test.YtbnldpccdppmiaaGreatDoorLift
set_option linter.unusedVariables false
set_option linter.unusedSimpArgs false
namespace Go.Proofs.YtbnldpccdppmiaaGreatDoor
open Go Go.ChangeShapes Go.WideShapes Go.ChangeAt Go.RowKit Go.Sx
set_option maxRecDepth 100000
theorem wf7 : Rows.bracketChecksRow.wfByText (OpenSpec.ofChange Rows.bracketChecksSpec) = true := by kernel_rfl
theorem fn7 {f : FuncId} (hf : Tryz.pinned.checked.prog.funcNamed Rows.bracketChecksRow.func = some f) : f = 7 := Option.some.inj ((show Tryz.prog.funcNamed Rows.bracketChecksRow.func = some 7 by kernel_rfl).symm.trans hf) |>.symm
end Go.Proofs.YtbnldpccdppmiaaGreatDoor
