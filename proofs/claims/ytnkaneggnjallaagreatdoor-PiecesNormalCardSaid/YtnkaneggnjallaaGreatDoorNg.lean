/- A part of the proof that the law PiecesNormal answers true at every input and leaves its arguments as they were. -/
import Derived.Test.YtnkaneggnjallaaGreatDoorLift
set_option linter.unusedVariables false
set_option linter.unusedSimpArgs false
namespace Go.Proofs.YtnkaneggnjallaaGreatDoor
open Go Go.ChangeShapes Go.WideShapes Go.ChangeAt Go.RowKit Go.Sx
set_option maxRecDepth 100000
theorem inst6 : Tryz.f6.isInstance Tryz.checked.prog Rows.piecesNormalRow.origin Rows.piecesNormalRow.targs := (of_decide_eq_true (by kernel_rfl))
theorem wrap6 : Tryz.f6.isWrapper Tryz.checked.prog Rows.piecesNormalRow.wrapper Rows.piecesNormalRow.mainSum := by unfold Func.isWrapper; first | (rw [if_pos (by decide +kernel)]; kernel_rfl) | (rw [if_neg (by decide +kernel)]; exact ⟨rfl, rfl⟩)
theorem named6 : Tryz.prog.funcNamed Rows.piecesNormalRow.func = some 6 := by kernel_rfl
end Go.Proofs.YtnkaneggnjallaaGreatDoor
