/- A part of the proof that the law PiecesRefines answers true at every input and leaves its arguments as they were. -/
import Derived.Test.YtnkaneggnjallaaGreatDoorLift
set_option linter.unusedVariables false
set_option linter.unusedSimpArgs false
namespace Go.Proofs.YtnkaneggnjallaaGreatDoor
open Go Go.ChangeShapes Go.WideShapes Go.ChangeAt Go.RowKit Go.Sx
set_option maxRecDepth 100000
theorem inst9 : Tryz.f9.isInstance Tryz.checked.prog Rows.piecesRefinesRow.origin Rows.piecesRefinesRow.targs := (of_decide_eq_true (by kernel_rfl))
theorem wrap9 : Tryz.f9.isWrapper Tryz.checked.prog Rows.piecesRefinesRow.wrapper Rows.piecesRefinesRow.mainSum := by unfold Func.isWrapper; first | (rw [if_pos (by decide +kernel)]; kernel_rfl) | (rw [if_neg (by decide +kernel)]; exact ⟨rfl, rfl⟩)
theorem named9 : Tryz.prog.funcNamed Rows.piecesRefinesRow.func = some 9 := by kernel_rfl
end Go.Proofs.YtnkaneggnjallaaGreatDoor
