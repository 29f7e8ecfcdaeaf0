/- A part of the proof that the law BracketQuestions/Checks answers true at every input and leaves its arguments as they were. -/
import Derived.Test.YtbnldpccdppmiaaGreatDoorLift
set_option linter.unusedVariables false
set_option linter.unusedSimpArgs false
namespace Go.Proofs.YtbnldpccdppmiaaGreatDoor
open Go Go.ChangeShapes Go.WideShapes Go.ChangeAt Go.RowKit Go.Sx
set_option maxRecDepth 100000
theorem wf4 : Rows.bracketQuestionsRow.wfByText (OpenSpec.ofChange Rows.bracketQuestionsSpec) = true := by kernel_rfl
theorem fn4 {f : FuncId} (hf : Tryz.pinned.checked.prog.funcNamed Rows.bracketQuestionsRow.func = some f) : f = 4 := Option.some.inj ((show Tryz.prog.funcNamed Rows.bracketQuestionsRow.func = some 4 by kernel_rfl).symm.trans hf) |>.symm
end Go.Proofs.YtbnldpccdppmiaaGreatDoor
