/- A part of the proof of movingpointBoxes. -/
import Derived.Test.YtpfdaoajcnophaaGreatDoorK6
set_option linter.unusedVariables false
set_option linter.unusedSimpArgs false
namespace Go.Proofs.YtpfdaoajcnophaaGreatDoor
open Go Go.ChangeShapes Go.WideShapes Go.ChangeAt Go.RowKit Go.Sx
set_option maxRecDepth 100000
theorem inst3:Tryz.f3.isInstance Tryz.checked.prog Rows.movingpointBoxesRow.origin Rows.movingpointBoxesRow.targs:=(of_decide_eq_true (by kernel_rfl))
theorem wrap3:Tryz.f3.isWrapper Tryz.checked.prog Rows.movingpointBoxesRow.wrapper Rows.movingpointBoxesRow.mainSum:=by unfold Func.isWrapper; first | (rw [if_pos (by decide +kernel)]; kernel_rfl) | (rw [if_neg (by decide +kernel)]; exact ⟨rfl,rfl⟩)
theorem named3:Tryz.prog.funcNamed Rows.movingpointBoxesRow.func=some 3:=by kernel_rfl
end Go.Proofs.YtpfdaoajcnophaaGreatDoor
