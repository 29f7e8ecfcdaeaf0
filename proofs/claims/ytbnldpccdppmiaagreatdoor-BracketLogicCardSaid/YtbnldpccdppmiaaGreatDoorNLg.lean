/- A part of the proof that the law BracketOperates/Brackets/Logic answers true at every input and leaves its arguments as they were. -/
import Derived.Test.YtbnldpccdppmiaaGreatDoorLift
set_option linter.unusedVariables false
set_option linter.unusedSimpArgs false
namespace Go.Proofs.YtbnldpccdppmiaaGreatDoor
open Go Go.ChangeShapes Go.WideShapes Go.ChangeAt Go.RowKit Go.Sx
set_option maxRecDepth 100000
theorem inst6 : Tryz.f6.isInstance Tryz.checked.prog Rows.bracketLogicRow.origin Rows.bracketLogicRow.targs := (of_decide_eq_true (by kernel_rfl))
theorem wrap6 : Tryz.f6.isWrapper Tryz.checked.prog Rows.bracketLogicRow.wrapper Rows.bracketLogicRow.mainSum := by unfold Func.isWrapper; first | (rw [if_pos (by decide +kernel)]; kernel_rfl) | (rw [if_neg (by decide +kernel)]; exact ⟨rfl, rfl⟩)
theorem named6 : Tryz.prog.funcNamed Rows.bracketLogicRow.func = some 6 := by kernel_rfl
end Go.Proofs.YtbnldpccdppmiaaGreatDoor
