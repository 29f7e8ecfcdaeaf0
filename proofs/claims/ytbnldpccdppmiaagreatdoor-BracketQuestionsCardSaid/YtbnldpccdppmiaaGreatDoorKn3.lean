/- A part of the proof that the law BracketQuestions/Checks answers true at every input and leaves its arguments as they were. -/
import Derived.Test.YtbnldpccdppmiaaGreatDoorKn2
set_option linter.unusedVariables false
set_option linter.unusedSimpArgs false
namespace Go.Sx
open Go Go.RowKit Go.Proofs
section
variable {a a0 a1 a2 b b0 b1 b2 l m : List Iv}
theorem inL (ca : Cn a) (cb : Cn b) : ∀ x, inP (af a b) x → inP a x := fun x h => ((in_I ca cb x).1 h).1
theorem ln (c1 : Cn a1) (c2 : Cn a2) (cl : Cn l) : ∀ x, inP a1 x → inP (bm a1 (af a2 l)) x := fun x h => (in_U c1 (c2.inter cl) x).2 (.inl h)
theorem lp (c1 : Cn a1) (c2 : Cn a2) (cl : Cn l) (h1 : ∀ x, inP a1 x → inP a2 x) : ∀ x, inP (bm a1 (af a2 l)) x → inP a2 x := fun x h => ((in_U c1 (c2.inter cl) x).1 h).elim (h1 x) fun h => ((in_I c2 cl x).1 h).1
variable {t s : List Iv}
end
end Go.Sx
