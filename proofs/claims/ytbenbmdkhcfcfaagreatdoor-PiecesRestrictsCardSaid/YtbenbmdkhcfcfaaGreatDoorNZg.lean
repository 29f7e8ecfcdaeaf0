import Derived.Test.YtbenbmdkhcfcfaaGreatDoorLift
set_option linter.unusedVariables false
set_option linter.unusedSimpArgs false
namespace Go.Proofs.YtbenbmdkhcfcfaaGreatDoor
open Go Go.ChangeShapes Go.WideShapes Go.ChangeAt Go.RowKit Go.Sx
set_option maxRecDepth 100000
theorem inst12:Tryz.f12.isInstance Tryz.checked.prog Rows.piecesRestrictsRow.origin Rows.piecesRestrictsRow.targs:=(of_decide_eq_true (by kernel_rfl))
theorem wrap12:Tryz.f12.isWrapper Tryz.checked.prog Rows.piecesRestrictsRow.wrapper Rows.piecesRestrictsRow.mainSum:=by unfold Func.isWrapper; first | (rw [if_pos (by decide +kernel)]; kernel_rfl) | (rw [if_neg (by decide +kernel)]; exact ⟨rfl,rfl⟩)
theorem named12:Tryz.prog.funcNamed Rows.piecesRestrictsRow.func=some 12:=by kernel_rfl
end Go.Proofs.YtbenbmdkhcfcfaaGreatDoor
