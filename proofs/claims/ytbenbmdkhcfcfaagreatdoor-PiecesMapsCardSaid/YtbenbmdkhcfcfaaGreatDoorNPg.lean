/- A part of the proof of piecesMaps. -/
import Derived.Test.YtbenbmdkhcfcfaaGreatDoorLift
set_option linter.unusedVariables false
set_option linter.unusedSimpArgs false
namespace Go.Proofs.YtbenbmdkhcfcfaaGreatDoor
open Go Go.ChangeShapes Go.WideShapes Go.ChangeAt Go.RowKit Go.Sx
set_option maxRecDepth 100000
theorem inst5 : Tryz.f5.isInstance Tryz.checked.prog Rows.piecesMapsRow.origin Rows.piecesMapsRow.targs := (of_decide_eq_true (by kernel_rfl))
theorem wrap5 : Tryz.f5.isWrapper Tryz.checked.prog Rows.piecesMapsRow.wrapper Rows.piecesMapsRow.mainSum := by unfold Func.isWrapper; first | (rw [if_pos (by decide +kernel)]; kernel_rfl) | (rw [if_neg (by decide +kernel)]; exact ⟨rfl, rfl⟩)
theorem named5 : Tryz.prog.funcNamed Rows.piecesMapsRow.func = some 5 := by kernel_rfl
end Go.Proofs.YtbenbmdkhcfcfaaGreatDoor
