/- A part of the proof of movingnumberChecks. -/
import Derived.Test.YtpfdaoajcnophaaGreatDoorA5
import Derived.Test.YtpfdaoajcnophaaGreatDoorExtK
set_option linter.unusedVariables false
set_option linter.unusedSimpArgs false
namespace Go.Proofs.YtpfdaoajcnophaaGreatDoor
open Go Go.ChangeShapes Go.WideShapes Go.ChangeAt Go.RowKit Go.Sx
set_option maxRecDepth 100000
theorem inst9:Tryz.f9.isInstance Tryz.checked.prog Rows.movingnumberChecksRow.origin Rows.movingnumberChecksRow.targs:=(of_decide_eq_true (by kernel_rfl))
theorem wrap9:Tryz.f9.isWrapper Tryz.checked.prog Rows.movingnumberChecksRow.wrapper Rows.movingnumberChecksRow.mainSum:=by unfold Func.isWrapper; first | (rw [if_pos (by decide +kernel)]; kernel_rfl) | (rw [if_neg (by decide +kernel)]; exact ⟨rfl,rfl⟩)
theorem named9:Tryz.prog.funcNamed Rows.movingnumberChecksRow.func=some 9:=by kernel_rfl
end Go.Proofs.YtpfdaoajcnophaaGreatDoor
