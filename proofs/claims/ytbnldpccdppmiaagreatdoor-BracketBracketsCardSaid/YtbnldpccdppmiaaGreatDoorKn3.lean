/- A part of the proof that the law BracketOperates/Brackets/Logic answers true at every input and leaves its arguments as they were. -/
import Derived.Test.YtbnldpccdppmiaaGreatDoorKn2
set_option linter.unusedVariables false
set_option linter.unusedSimpArgs false
namespace Go.Sx
open Go Go.RowKit Go.Proofs
section
variable {a a0 a1 a2 b b0 b1 b2 l m : List Iv}
theorem inL (ca : Cn a) (cb : Cn b) : ∀ x, inP (ab a b) x → inP a x := fun x h => ((kn ca cb x).1 h).1
theorem gJ (c1 : Cn a1) (c2 : Cn a2) (cl : Cn l) : ∀ x, inP a1 x → inP (am a1 (ab a2 l)) x := fun x h => (in_U c1 (c2.inter cl) x).2 (.inl h)
theorem gK (c1 : Cn a1) (c2 : Cn a2) (cl : Cn l) (h1 : ∀ x, inP a1 x → inP a2 x) : ∀ x, inP (am a1 (ab a2 l)) x → inP a2 x := fun x h => ((in_U c1 (c2.inter cl) x).1 h).elim (h1 x) fun h => ((kn c2 cl x).1 h).1
theorem lg0 (c1 : Cn a1) (c2 : Cn a2) (cl : Cn l) (h1 : ∀ x, inP a1 x → inP a2 x) :
    ((ax a0 a0 && aE (am a1 (ab a2 l)) a1) && aE a2 (am a1 (ab a2 l))) = true :=
  iE rfl (gJ c1 c2 cl) (gK c1 c2 cl h1) (c1.union (c2.inter cl)) c1 c2 (c1.union (c2.inter cl))
theorem lgx (c1 : Cn a1) : ((ax a0 a0 && aE a1 a1) && aE a1 a1) = true := iE rfl (fun _ => id) (fun _ => id) c1 c1 c1 c1
variable {t s : List Iv}
theorem lg1 (c0 : Cn a0) (c1 : Cn a1) (c2 : Cn a2) (ct : Cn t) (h1 : ∀ x, inP a1 x → inP t x) (h2 : ∀ x, inP t x → inP a2 x) :
    ((ax a0 a0 && aE (an a0 t) (an a0 a2)) && aE (an a0 a1) (an a0 t)) = true :=
  iE rfl (fun x h => (in_M c0 ct x).2 ⟨((in_M c0 c2 x).1 h).1, fun h3 => ((in_M c0 c2 x).1 h).2 (h2 x h3)⟩) (fun x h => (in_M c0 c1 x).2 ⟨((in_M c0 ct x).1 h).1, fun h3 => ((in_M c0 ct x).1 h).2 (h1 x h3)⟩)
    (c0.minus ct) (c0.minus c2) (c0.minus c1) (c0.minus ct)
theorem lg2 (c0 : Cn a0) (c1 : Cn a1) (c2 : Cn a2) (ct : Cn t) (d0 : Cn b0) (d1 : Cn b1) (d2 : Cn b2) (cs : Cn s) (h1 : ∀ x, inP a1 x → inP t x) (h2 : ∀ x, inP t x → inP a2 x) (h3 : ∀ x, inP a2 x → inP a0 x)
    (k1 : ∀ x, inP b1 x → inP s x) (k2 : ∀ x, inP s x → inP b2 x) (k3 : ∀ x, inP b2 x → inP b0 x) :
    ((ax (ab a0 b0) (ab a0 b0) && aE (ab (ab a0 b0) (ab t s)) (ab a1 b1)) && aE (ab a2 b2) (ab (ab a0 b0) (ab t s))) = true :=
  iE rfl (fun x h => by
    rw [kn (c0.inter d0) (ct.inter cs), kn c0 d0, kn ct cs]
    obtain ⟨h4, h5⟩ := (kn c1 d1 x).1 h
    exact ⟨⟨h3 x (h2 x (h1 x h4)), k3 x (k2 x (k1 x h5))⟩, h1 x h4, k1 x h5⟩) (fun x h => by
    rw [kn (c0.inter d0) (ct.inter cs), kn c0 d0, kn ct cs] at h
    rw [kn c2 d2]
    exact ⟨h2 x h.2.1, k2 x h.2.2⟩) ((c0.inter d0).inter (ct.inter cs)) (c1.inter d1) (c2.inter d2) ((c0.inter d0).inter (ct.inter cs))
theorem lg3 (c0 : Cn a0) (c1 : Cn a1) (c2 : Cn a2) (ct : Cn t) (d0 : Cn b0) (d1 : Cn b1) (d2 : Cn b2) (cs : Cn s) (h1 : ∀ x, inP a1 x → inP t x) (h2 : ∀ x, inP t x → inP a2 x)
    (k1 : ∀ x, inP b1 x → inP s x) (k2 : ∀ x, inP s x → inP b2 x) :
    ((ax (ab (ab a0 b0) (ab a0 b0)) (ab a0 b0) && aE (ab (ab a0 b0) (am t s)) (ab (am a1 b1) (ab a0 b0))) && aE (ab (am a2 b2) (ab a0 b0)) (ab (ab a0 b0) (am t s))) = true :=
  iE (kM (c0.inter d0)) (fun x h => by
    rw [kn (c0.inter d0) (ct.union cs), in_U ct cs]
    rw [kn (c1.union d1) (c0.inter d0), in_U c1 d1] at h
    exact ⟨h.2, h.1.imp (h1 x) (k1 x)⟩) (fun x h => by
    rw [kn (c0.inter d0) (ct.union cs), in_U ct cs] at h
    rw [kn (c2.union d2) (c0.inter d0), in_U c2 d2]
    exact ⟨h.2.imp (h2 x) (k2 x), h.1⟩) ((c0.inter d0).inter (ct.union cs)) ((c1.union d1).inter (c0.inter d0)) ((c2.union d2).inter (c0.inter d0)) ((c0.inter d0).inter (ct.union cs))
theorem lg4 (c1 : Cn a1) (c2 : Cn a2) (ct : Cn t) (cl : Cn l) (h1 : ∀ x, inP a1 x → inP t x) (h2 : ∀ x, inP t x → inP a2 x) :
    ((ax (ab a0 l) (ab a0 l) && aE (ab t l) (ab a1 l)) && aE (ab a2 l) (ab t l)) = true :=
  iE rfl (fun x h => (kn ct cl x).2 ⟨h1 x ((kn c1 cl x).1 h).1, ((kn c1 cl x).1 h).2⟩) (fun x h => (kn c2 cl x).2 ⟨h2 x ((kn ct cl x).1 h).1, ((kn ct cl x).1 h).2⟩) (ct.inter cl) (c1.inter cl) (c2.inter cl) (ct.inter cl)
theorem minus2 (c0 : Cn a0) (c1 : Cn a1) (h : ∀ x, inP a1 x → inP a0 x) : an a0 (an a0 a1) = a1 := Cn.ext (c0.minus (c0.minus c1)) c1 fun x => by
  rw [in_M c0 (c0.minus c1), in_M c0 c1]
  exact ⟨fun h1 => Classical.byContradiction fun h2 => h1.2 ⟨h1.1, h2⟩, fun h1 => ⟨h x h1, fun h2 => h2.2 h1⟩⟩
theorem inLL (ca : Cn a) (cb : Cn b) (cl : Cn l) : ∀ x, inP (ab (ab a b) l) x → inP a x := fun x h => inL ca cb x (inL (ca.inter cb) cl x h)
end
end Go.Sx
