/- A part of the proof of movingpointAt. -/
import Derived.Test.YtpfdaoajcnophaaGreatDoorA7
set_option linter.unusedVariables false
set_option linter.unusedSimpArgs false
namespace Go.Proofs.YtpfdaoajcnophaaGreatDoor
open Go Go.ChangeShapes Go.WideShapes Go.ChangeAt Go.RowKit Go.Sx
set_option maxRecDepth 100000
theorem inst4 : Tryz.f4.isInstance Tryz.checked.prog Rows.movingpointAtRow.origin Rows.movingpointAtRow.targs := (of_decide_eq_true (by kernel_rfl))
theorem wrap4 : Tryz.f4.isWrapper Tryz.checked.prog Rows.movingpointAtRow.wrapper Rows.movingpointAtRow.mainSum := by unfold Func.isWrapper; first | (rw [if_pos (by decide +kernel)]; kernel_rfl) | (rw [if_neg (by decide +kernel)]; exact ⟨rfl, rfl⟩)
theorem named4 : Tryz.prog.funcNamed Rows.movingpointAtRow.func = some 4 := by kernel_rfl
end Go.Proofs.YtpfdaoajcnophaaGreatDoor
