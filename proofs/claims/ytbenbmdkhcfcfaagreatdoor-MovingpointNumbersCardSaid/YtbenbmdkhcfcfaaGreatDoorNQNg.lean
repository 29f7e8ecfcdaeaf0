/- A part of the proof of movingpointNumbers. -/
import Derived.Test.YtbenbmdkhcfcfaaGreatDoorF7
set_option linter.unusedVariables false
set_option linter.unusedSimpArgs false
namespace Go.Proofs.YtbenbmdkhcfcfaaGreatDoor
open Go Go.ChangeShapes Go.WideShapes Go.ChangeAt Go.RowKit Go.Sx
set_option maxRecDepth 100000
theorem inst10 : Tryz.f10.isInstance Tryz.checked.prog Rows.movingpointNumbersRow.origin Rows.movingpointNumbersRow.targs := (of_decide_eq_true (by kernel_rfl))
theorem wrap10 : Tryz.f10.isWrapper Tryz.checked.prog Rows.movingpointNumbersRow.wrapper Rows.movingpointNumbersRow.mainSum := by unfold Func.isWrapper; first | (rw [if_pos (by decide +kernel)]; kernel_rfl) | (rw [if_neg (by decide +kernel)]; exact ⟨rfl, rfl⟩)
theorem named10 : Tryz.prog.funcNamed Rows.movingpointNumbersRow.func = some 10 := by kernel_rfl
end Go.Proofs.YtbenbmdkhcfcfaaGreatDoor
