/- A part of the proof that the law BracketQuestions/Checks answers true at every input and leaves its arguments as they were. -/
import Derived.Test.YtbnldpccdppmiaaGreatDoorB3
set_option linter.unusedVariables false
set_option linter.unusedSimpArgs false
namespace Go.Sx
open Go Go.RowKit Go.Proofs
section
variable {a b c d e f : List Iv}
theorem in_I (ca : Cn a) (cb : Cn b) (x : Nat) : inP (af a b) x ↔ inP a x ∧ inP b x := (mr ca.wv cb.wv).2 x
theorem in_U (ca : Cn a) (cb : Cn b) (x : Nat) : inP (bm a b) x ↔ inP a x ∨ inP b x := (ki ca.wv cb.wv).2 x
end
end Go.Sx
