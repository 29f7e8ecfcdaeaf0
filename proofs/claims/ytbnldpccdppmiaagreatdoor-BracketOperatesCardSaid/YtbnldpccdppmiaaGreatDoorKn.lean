/- A part of the proof that the law BracketOperates/Brackets/Logic answers true at every input and leaves its arguments as they were. -/
import Derived.Test.YtbnldpccdppmiaaGreatDoorP8
import Derived.Test.YtbnldpccdppmiaaGreatDoorA8
set_option linter.unusedVariables false
set_option linter.unusedSimpArgs false
namespace Go.Sx
open Go Go.RowKit Go.Proofs
theorem oz {a : List Iv} (h : Cn a) : a.length ≤ 200 := Nat.le_trans h.len (by decide)
theorem bH (a : List Iv) (av : Value) (b : List Iv) (bv : Value) (ca : Cn a) (cb : Cn b) (w0 : World) (hav : View w0 av a) (hbv : View w0 bv b) : Calls Tryz.prog 11 #[av, bv] w0 (RetR w0 66 (ab a b) True) :=
  RetR.top (iR a av b bv (oz ca) (oz cb) ca.wv cb.wv ca.sz cb.sz w0 hav hbv)
theorem e9 (a : List Iv) (av : Value) (b : List Iv) (bv : Value) (ca : Cn a) (cb : Cn b) (w0 : World) (hav : View w0 av a) (hbv : View w0 bv b) : Calls Tryz.prog 48 #[av, bv] w0 (RetR w0 66 (am a b) True) :=
  RetR.top (fS a av b bv (oz ca) (oz cb) ca.wv cb.wv ca.sz cb.sz w0 hav hbv)
theorem fT (a : List Iv) (av : Value) (b : List Iv) (bv : Value) (ca : Cn a) (cb : Cn b) (w0 : World) (hav : View w0 av a) (hbv : View w0 bv b) : Calls Tryz.prog 34 #[av, bv] w0 (RetR w0 66 (an a b) True) :=
  RetR.top (et a av b bv (oz ca) (oz cb) ca.wv cb.wv ca.sz cb.sz w0 hav hbv)
theorem rest_is (a b : List Iv) : dG a b = an a b := by unfold dG; rfl
theorem kH (a : List Iv) (av : Value) (b : List Iv) (bv : Value) (ca : Cn a) (cb : Cn b) (w0 : World) (hav : View w0 av a) (hbv : View w0 bv b) : Calls Tryz.prog 57 #[av, bv] w0 (RetR w0 66 (an a b) True) :=
  RetR.cast (RetR.top (iQ a av b bv (oz ca) (oz cb) ca.wv cb.wv ca.sz cb.sz w0 hav hbv)) (rest_is a b)
theorem gh (a : List Iv) (av : Value) (b : List Iv) (bv : Value) (ca : Cn a) (cb : Cn b) (w0 : World) (hav : View w0 av a) (hbv : View w0 bv b) : Calls Tryz.prog 41 #[av, bv] w0 (RetP w0 (.bool (aE a b)) True) :=
  jT a av b bv (oz ca) (oz cb) ca.wv cb.wv ca.sz cb.sz w0 hav hbv
theorem ee (a : List Iv) (av : Value) (b : List Iv) (bv : Value) (ca : Cn a) (cb : Cn b) (w0 : World) (hav : View w0 av a) (hbv : View w0 bv b) : Calls Tryz.prog 32 #[av, bv] w0 (RetP w0 (.bool (ax a b)) True) :=
  kf a av b bv ca.sz cb.sz w0 hav hbv
theorem clone_is (a : List Iv) : bR a = a := by unfold bR; rfl
theorem fU (a : List Iv) (av : Value) (ca : Cn a) (w0 : World) (hav : View w0 av a) : Calls Tryz.prog 49 #[av] w0 (RetR w0 66 a True) :=
  RetR.cast (RetR.top (gp a av (Nat.le_trans ca.len (by decide)) ca.sz w0 hav)) (clone_is a)
theorem times_is (l : List Stp) : aa l = cX ((aI l).map fun u => u.iv) := by
  have h1 := fB (R := List Iv) (f := fun (o : List Iv) (u : U Qd) => o ++ [u.iv]) (aI l) (B := fun s => bQ l s.1 s.2) (fun o i hi => by
    show bQ l o i = _
    unfold bQ
    rw [decide_eq_true (by omega : ((i : Nat) : Int) < (((aI l).length : Nat) : Int))]; rfl) (fun o => by
    show bQ l o _ = _
    unfold bQ
    rw [decide_eq_false (by omega : ¬ (((aI l).length : Nat) : Int) < (((aI l).length : Nat) : Int))]; rfl) (aI l) [] [] ((aI l).length - 0 + 1) rfl (by omega)
  rw [fA (fun u : U Qd => [u.iv])] at h1
  unfold aa
  refine (fp h1).trans ?_
  show eA l _ _ = _
  unfold eA
  rw [List.nil_append, ← List.map_eq_flatMap]
theorem ah (l : List Stp) : Cn (aa l) := by rw [times_is]; exact (ng (bld_wv l)).1
theorem dW (l : List Stp) (lv : Value) (w0 : World) (hlv : View w0 lv l) : Calls Tryz.prog 10 #[lv] w0 (RetR w0 66 (aa l) True) :=
  RetR.top (iF l lv w0 hlv)
end Go.Sx
