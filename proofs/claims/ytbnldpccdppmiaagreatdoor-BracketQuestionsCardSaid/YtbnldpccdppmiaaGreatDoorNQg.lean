/- A part of the proof that the law BracketQuestions/Checks answers true at every input and leaves its arguments as they were. -/
import Derived.Test.YtbnldpccdppmiaaGreatDoorLift
set_option linter.unusedVariables false
set_option linter.unusedSimpArgs false
namespace Go.Proofs.YtbnldpccdppmiaaGreatDoor
open Go Go.ChangeShapes Go.WideShapes Go.ChangeAt Go.RowKit Go.Sx
set_option maxRecDepth 100000
theorem inst4 : Tryz.f4.isInstance Tryz.checked.prog Rows.bracketQuestionsRow.origin Rows.bracketQuestionsRow.targs := (of_decide_eq_true (by kernel_rfl))
theorem wrap4 : Tryz.f4.isWrapper Tryz.checked.prog Rows.bracketQuestionsRow.wrapper Rows.bracketQuestionsRow.mainSum := by unfold Func.isWrapper; first | (rw [if_pos (by decide +kernel)]; kernel_rfl) | (rw [if_neg (by decide +kernel)]; exact ⟨rfl, rfl⟩)
theorem named4 : Tryz.prog.funcNamed Rows.bracketQuestionsRow.func = some 4 := by kernel_rfl
end Go.Proofs.YtbnldpccdppmiaaGreatDoor
