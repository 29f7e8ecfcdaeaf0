/- A part of the proof of movingpointChecks. -/
import Derived.Test.YtbenbmdkhcfcfaaGreatDoorH1
import Derived.Test.YtbenbmdkhcfcfaaGreatDoorExtC
set_option linter.unusedVariables false
set_option linter.unusedSimpArgs false
namespace Go.Proofs.YtbenbmdkhcfcfaaGreatDoor
open Go Go.ChangeShapes Go.WideShapes Go.ChangeAt Go.RowKit Go.Sx
set_option maxRecDepth 100000
theorem inst6 : Tryz.f6.isInstance Tryz.checked.prog Rows.movingpointChecksRow.origin Rows.movingpointChecksRow.targs := (of_decide_eq_true (by kernel_rfl))
theorem wrap6 : Tryz.f6.isWrapper Tryz.checked.prog Rows.movingpointChecksRow.wrapper Rows.movingpointChecksRow.mainSum := by unfold Func.isWrapper; first | (rw [if_pos (by decide +kernel)]; kernel_rfl) | (rw [if_neg (by decide +kernel)]; exact ⟨rfl, rfl⟩)
theorem named6 : Tryz.prog.funcNamed Rows.movingpointChecksRow.func = some 6 := by kernel_rfl
end Go.Proofs.YtbenbmdkhcfcfaaGreatDoor
