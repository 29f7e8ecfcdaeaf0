/- A part of the proof of piecesMoments. -/
import Derived.Test.YtbenbmdkhcfcfaaGreatDoorLift
set_option linter.unusedVariables false
set_option linter.unusedSimpArgs false
namespace Go.Proofs.YtbenbmdkhcfcfaaGreatDoor
open Go Go.ChangeShapes Go.WideShapes Go.ChangeAt Go.RowKit Go.Sx
set_option maxRecDepth 100000
theorem inst8 : Tryz.f8.isInstance Tryz.checked.prog Rows.piecesMomentsRow.origin Rows.piecesMomentsRow.targs := (of_decide_eq_true (by kernel_rfl))
theorem wrap8 : Tryz.f8.isWrapper Tryz.checked.prog Rows.piecesMomentsRow.wrapper Rows.piecesMomentsRow.mainSum := by unfold Func.isWrapper; first | (rw [if_pos (by decide +kernel)]; kernel_rfl) | (rw [if_neg (by decide +kernel)]; exact ⟨rfl, rfl⟩)
theorem named8 : Tryz.prog.funcNamed Rows.piecesMomentsRow.func = some 8 := by kernel_rfl
end Go.Proofs.YtbenbmdkhcfcfaaGreatDoor
