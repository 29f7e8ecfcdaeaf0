/- A part of the proof of movingpointRestricts. -/
import Derived.Test.YtbenbmdkhcfcfaaGreatDoorK6
set_option linter.unusedVariables false
set_option linter.unusedSimpArgs false
namespace Go.Proofs.YtbenbmdkhcfcfaaGreatDoor
open Go Go.ChangeShapes Go.WideShapes Go.ChangeAt Go.RowKit Go.Sx
set_option maxRecDepth 100000
theorem inst13 : Tryz.f13.isInstance Tryz.checked.prog Rows.movingpointRestrictsRow.origin Rows.movingpointRestrictsRow.targs := (of_decide_eq_true (by kernel_rfl))
theorem wrap13 : Tryz.f13.isWrapper Tryz.checked.prog Rows.movingpointRestrictsRow.wrapper Rows.movingpointRestrictsRow.mainSum := by unfold Func.isWrapper; first | (rw [if_pos (by decide +kernel)]; kernel_rfl) | (rw [if_neg (by decide +kernel)]; exact ⟨rfl, rfl⟩)
theorem named13 : Tryz.prog.funcNamed Rows.movingpointRestrictsRow.func = some 13 := by kernel_rfl
end Go.Proofs.YtbenbmdkhcfcfaaGreatDoor
