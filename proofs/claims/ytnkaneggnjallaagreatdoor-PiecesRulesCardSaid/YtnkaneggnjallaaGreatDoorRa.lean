/- A part of the proof that the law PiecesRules answers true at every input and leaves its arguments as they were. -/
import Derived.Test.YtnkaneggnjallaaGreatDoorLift
set_option linter.unusedVariables false
set_option linter.unusedSimpArgs false
namespace Go.Proofs.YtnkaneggnjallaaGreatDoor
open Go Go.ChangeShapes Go.WideShapes Go.ChangeAt Go.RowKit Go.Sx
set_option maxRecDepth 100000
theorem joined5 : joinedFacts Tryz.checked.prog 5 Tryz.f5 Rows.piecesRulesSpec Rows.piecesRulesRow = true := by kernel_rfl
theorem inst5 : Tryz.f5.isInstance Tryz.checked.prog Rows.piecesRulesRow.origin Rows.piecesRulesRow.targs := (of_decide_eq_true (by kernel_rfl))
theorem wrap5 : Tryz.f5.isWrapper Tryz.checked.prog Rows.piecesRulesRow.wrapper Rows.piecesRulesRow.mainSum := by unfold Func.isWrapper; first | (rw [if_pos (by decide +kernel)]; kernel_rfl) | (rw [if_neg (by decide +kernel)]; exact ⟨rfl, rfl⟩)
theorem named5 : Tryz.prog.funcNamed Rows.piecesRulesRow.func = some 5 := by kernel_rfl
end Go.Proofs.YtnkaneggnjallaaGreatDoor
