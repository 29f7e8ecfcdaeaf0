/- A part of the proof of movingpointSamples. -/
import Derived.Test.YtbenbmdkhcfcfaaGreatDoorU7
set_option linter.unusedVariables false
set_option linter.unusedSimpArgs false
namespace Go.Proofs.YtbenbmdkhcfcfaaGreatDoor
open Go Go.ChangeShapes Go.WideShapes Go.ChangeAt Go.RowKit Go.Sx
set_option maxRecDepth 100000
theorem inst4 : Tryz.f4.isInstance Tryz.checked.prog Rows.movingpointSamplesRow.origin Rows.movingpointSamplesRow.targs := (of_decide_eq_true (by kernel_rfl))
theorem wrap4 : Tryz.f4.isWrapper Tryz.checked.prog Rows.movingpointSamplesRow.wrapper Rows.movingpointSamplesRow.mainSum := by unfold Func.isWrapper; first | (rw [if_pos (by decide +kernel)]; kernel_rfl) | (rw [if_neg (by decide +kernel)]; exact ⟨rfl, rfl⟩)
theorem named4 : Tryz.prog.funcNamed Rows.movingpointSamplesRow.func = some 4 := by kernel_rfl
end Go.Proofs.YtbenbmdkhcfcfaaGreatDoor
