/- A part of the proof of movingpointMeets. -/
import Derived.Test.YtbenbmdkhcfcfaaGreatDoorA6
set_option linter.unusedVariables false
set_option linter.unusedSimpArgs false
namespace Go.Proofs.YtbenbmdkhcfcfaaGreatDoor
open Go Go.ChangeShapes Go.WideShapes Go.ChangeAt Go.RowKit Go.Sx
set_option maxRecDepth 100000
theorem inst7 : Tryz.f7.isInstance Tryz.checked.prog Rows.movingpointMeetsRow.origin Rows.movingpointMeetsRow.targs := (of_decide_eq_true (by kernel_rfl))
theorem wrap7 : Tryz.f7.isWrapper Tryz.checked.prog Rows.movingpointMeetsRow.wrapper Rows.movingpointMeetsRow.mainSum := by unfold Func.isWrapper; first | (rw [if_pos (by decide +kernel)]; kernel_rfl) | (rw [if_neg (by decide +kernel)]; exact ⟨rfl, rfl⟩)
theorem named7 : Tryz.prog.funcNamed Rows.movingpointMeetsRow.func = some 7 := by kernel_rfl
end Go.Proofs.YtbenbmdkhcfcfaaGreatDoor
