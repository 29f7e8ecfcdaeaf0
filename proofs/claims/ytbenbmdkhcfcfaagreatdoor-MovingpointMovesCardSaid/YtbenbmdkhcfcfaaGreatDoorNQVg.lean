/- A part of the proof of movingpointMoves. -/
import Derived.Test.YtbenbmdkhcfcfaaGreatDoorP6
set_option linter.unusedVariables false
set_option linter.unusedSimpArgs false
namespace Go.Proofs.YtbenbmdkhcfcfaaGreatDoor
open Go Go.ChangeShapes Go.WideShapes Go.ChangeAt Go.RowKit Go.Sx
set_option maxRecDepth 100000
theorem inst9 : Tryz.f9.isInstance Tryz.checked.prog Rows.movingpointMovesRow.origin Rows.movingpointMovesRow.targs := (of_decide_eq_true (by kernel_rfl))
theorem wrap9 : Tryz.f9.isWrapper Tryz.checked.prog Rows.movingpointMovesRow.wrapper Rows.movingpointMovesRow.mainSum := by unfold Func.isWrapper; first | (rw [if_pos (by decide +kernel)]; kernel_rfl) | (rw [if_neg (by decide +kernel)]; exact ⟨rfl, rfl⟩)
theorem named9 : Tryz.prog.funcNamed Rows.movingpointMovesRow.func = some 9 := by kernel_rfl
end Go.Proofs.YtbenbmdkhcfcfaaGreatDoor
