/- A part of the proof of movingpointBoxes. -/
import Derived.Test.YtpfdaoajcnophaaGreatDoorK6
set_option linter.unusedVariables false
set_option linter.unusedSimpArgs false
namespace Go.Proofs.YtpfdaoajcnophaaGreatDoor
open Go Go.ChangeShapes Go.WideShapes Go.ChangeAt Go.RowKit Go.Sx
set_option maxRecDepth 100000
set_option maxHeartbeats 0
theorem and2 {a b:Bool} (h:a=true) (k:b=true):(a && b)=true:=by rw [h,k]; rfl
theorem joined3:joinedFacts Tryz.checked.prog 3 Tryz.f3 Rows.movingpointBoxesSpec Rows.movingpointBoxesRow=true:=by
 unfold joinedFacts
 repeat' (with_reducible refine and2 ?_ ?_)
 all_goals as_aux_lemma=>kernel_rfl
end Go.Proofs.YtpfdaoajcnophaaGreatDoor
