/- A part of the proof of movingpointLong. -/
import Derived.Test.YtbenbmdkhcfcfaaGreatDoorA6
set_option linter.unusedVariables false
set_option linter.unusedSimpArgs false
namespace Go.Proofs.YtbenbmdkhcfcfaaGreatDoor
open Go Go.ChangeShapes Go.WideShapes Go.ChangeAt Go.RowKit Go.Sx
set_option maxRecDepth 100000
theorem inst3 : Tryz.f3.isInstance Tryz.checked.prog Rows.movingpointLongRow.origin Rows.movingpointLongRow.targs := (of_decide_eq_true (by kernel_rfl))
theorem wrap3 : Tryz.f3.isWrapper Tryz.checked.prog Rows.movingpointLongRow.wrapper Rows.movingpointLongRow.mainSum := by unfold Func.isWrapper; first | (rw [if_pos (by decide +kernel)]; kernel_rfl) | (rw [if_neg (by decide +kernel)]; exact ⟨rfl, rfl⟩)
theorem named3 : Tryz.prog.funcNamed Rows.movingpointLongRow.func = some 3 := by kernel_rfl
end Go.Proofs.YtbenbmdkhcfcfaaGreatDoor
