/- A part of the proof that the law BracketOperates/Brackets/Logic answers true at every input and leaves its arguments as they were. -/
import Derived.Test.YtbnldpccdppmiaaGreatDoorB3
set_option linter.unusedVariables false
set_option linter.unusedSimpArgs false
namespace Go.Sx
open Go Go.RowKit Go.Proofs
section
variable {a b c d e f : List Iv}
theorem ji (h : a = b) : ax a b = true := by rw [equal_is]; exact decide_eq_true h
theorem iD (h1 : a = b) (h2 : c = d) (h3 : e = f) : ((ax a b && ax c d) && ax e f) = true := by
  rw [ji h1, ji h2, ji h3]; rfl
theorem iE (h1 : a = b) (h2 : ∀ x, inP d x → inP c x) (h3 : ∀ x, inP f x → inP e x) (cc : Cn c) (cd : Cn d) (ce : Cn e) (cf : Cn f) : ((ax a b && aE c d) && aE e f) = true := by
  rw [ji h1, (kQ cc.wv cd.wv).2 h2, (kQ ce.wv cf.wv).2 h3]; rfl
theorem kn (ca : Cn a) (cb : Cn b) (x : Nat) : inP (ab a b) x ↔ inP a x ∧ inP b x := (lO ca.wv cb.wv).2 x
theorem in_U (ca : Cn a) (cb : Cn b) (x : Nat) : inP (am a b) x ↔ inP a x ∨ inP b x := (j6 ca.wv cb.wv).2 x
theorem in_M (ca : Cn a) (cb : Cn b) (x : Nat) : inP (an a b) x ↔ inP a x ∧ ¬ inP b x := (ki ca.wv cb.wv).2 x
theorem kM (ca : Cn a) : ab a a = a := Cn.ext (ca.inter ca) ca fun x => by rw [kn ca ca]; exact and_self_iff
theorem kN (ca : Cn a) (cb : Cn b) : ab a b = ab b a := Cn.ext (ca.inter cb) (cb.inter ca) fun x => by rw [kn ca cb, kn cb ca]; exact and_comm
end
end Go.Sx
