/- A part of the proof of movingnumberChecks. -/
import Derived.Test.YtpfdaoajcnophaaGreatDoorA5
import Derived.Test.YtpfdaoajcnophaaGreatDoorExtK
set_option linter.unusedVariables false
set_option linter.unusedSimpArgs false
namespace Go.Proofs.YtpfdaoajcnophaaGreatDoor
open Go Go.ChangeShapes Go.WideShapes Go.ChangeAt Go.RowKit Go.Sx
set_option maxRecDepth 100000
set_option maxHeartbeats 0
theorem and2 {a b:Bool} (h:a=true) (k:b=true):(a && b)=true:=by rw [h,k]; rfl
theorem joined9:joinedFacts Tryz.checked.prog 9 Tryz.f9 Rows.movingnumberChecksSpec Rows.movingnumberChecksRow=true:=by
 unfold joinedFacts
 repeat' (with_reducible refine and2 ?_ ?_)
 all_goals as_aux_lemma=>kernel_rfl
end Go.Proofs.YtpfdaoajcnophaaGreatDoor
