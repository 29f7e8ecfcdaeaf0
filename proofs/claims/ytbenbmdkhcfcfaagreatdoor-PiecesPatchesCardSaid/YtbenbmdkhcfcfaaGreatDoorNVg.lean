import Derived.Test.YtbenbmdkhcfcfaaGreatDoorLift
set_option linter.unusedVariables false
set_option linter.unusedSimpArgs false
namespace Go.Proofs.YtbenbmdkhcfcfaaGreatDoor
open Go Go.ChangeShapes Go.WideShapes Go.ChangeAt Go.RowKit Go.Sx
set_option maxRecDepth 100000
theorem inst11:Tryz.f11.isInstance Tryz.checked.prog Rows.piecesPatchesRow.origin Rows.piecesPatchesRow.targs:=(of_decide_eq_true (by kernel_rfl))
theorem wrap11:Tryz.f11.isWrapper Tryz.checked.prog Rows.piecesPatchesRow.wrapper Rows.piecesPatchesRow.mainSum:=by unfold Func.isWrapper; first | (rw [if_pos (by decide +kernel)]; kernel_rfl) | (rw [if_neg (by decide +kernel)]; exact ⟨rfl,rfl⟩)
theorem named11:Tryz.prog.funcNamed Rows.piecesPatchesRow.func=some 11:=by kernel_rfl
end Go.Proofs.YtbenbmdkhcfcfaaGreatDoor
