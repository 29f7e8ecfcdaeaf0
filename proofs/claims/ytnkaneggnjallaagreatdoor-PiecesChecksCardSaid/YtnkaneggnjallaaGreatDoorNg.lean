/- A part of the proof that the law PiecesChecks answers true at every input and leaves its arguments as they were. -/
import Derived.Test.YtnkaneggnjallaaGreatDoorLift
set_option linter.unusedVariables false
set_option linter.unusedSimpArgs false
namespace Go.Proofs.YtnkaneggnjallaaGreatDoor
open Go Go.ChangeShapes Go.WideShapes Go.ChangeAt Go.RowKit Go.Sx
set_option maxRecDepth 100000
theorem inst7 : Tryz.f7.isInstance Tryz.checked.prog Rows.piecesChecksRow.origin Rows.piecesChecksRow.targs := (of_decide_eq_true (by kernel_rfl))
theorem wrap7 : Tryz.f7.isWrapper Tryz.checked.prog Rows.piecesChecksRow.wrapper Rows.piecesChecksRow.mainSum := by unfold Func.isWrapper; first | (rw [if_pos (by decide +kernel)]; kernel_rfl) | (rw [if_neg (by decide +kernel)]; exact ⟨rfl, rfl⟩)
theorem named7 : Tryz.prog.funcNamed Rows.piecesChecksRow.func = some 7 := by kernel_rfl
end Go.Proofs.YtnkaneggnjallaaGreatDoor
