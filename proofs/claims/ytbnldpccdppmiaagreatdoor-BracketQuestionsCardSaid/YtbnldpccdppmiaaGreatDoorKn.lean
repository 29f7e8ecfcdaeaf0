/- A part of the proof that the law BracketQuestions/Checks answers true at every input and leaves its arguments as they were. -/
import Derived.Test.YtbnldpccdppmiaaGreatDoorP8
import Derived.Test.YtbnldpccdppmiaaGreatDoorA8
set_option linter.unusedVariables false
set_option linter.unusedSimpArgs false
namespace Go.Sx
open Go Go.RowKit Go.Proofs
theorem l200 {a : List Iv} (h : Cn a) : a.length ≤ 200 := Nat.le_trans h.len (by decide)
theorem ji (a : List Iv) (av : Value) (b : List Iv) (bv : Value) (ca : Cn a) (cb : Cn b) (w0 : World) (hav : View w0 av a) (hbv : View w0 bv b) : Calls Tryz.prog 11 #[av, bv] w0 (RetR w0 66 (af a b) True) :=
  RetR.top (jf a av b bv (l200 ca) (l200 cb) ca.wv cb.wv ca.sz cb.sz w0 hav hbv)
theorem mH (a : List Iv) (av : Value) (b : List Iv) (bv : Value) (ca : Cn a) (cb : Cn b) (w0 : World) (hav : View w0 av a) (hbv : View w0 bv b) : Calls Tryz.prog 48 #[av, bv] w0 (RetR w0 66 (bm a b) True) :=
  RetR.top (gy a av b bv (l200 ca) (l200 cb) ca.wv cb.wv ca.sz cb.sz w0 hav hbv)
theorem jh (a : List Iv) (av : Value) (b : List Iv) (bv : Value) (ca : Cn a) (cb : Cn b) (w0 : World) (hav : View w0 av a) (hbv : View w0 bv b) : Calls Tryz.prog 34 #[av, bv] w0 (RetR w0 66 (aU a b) True) :=
  RetR.top (gA a av b bv (l200 ca) (l200 cb) ca.wv cb.wv ca.sz cb.sz w0 hav hbv)
theorem jl (a : List Iv) (av : Value) (b : List Iv) (bv : Value) (ca : Cn a) (cb : Cn b) (w0 : World) (hav : View w0 av a) (hbv : View w0 bv b) : Calls Tryz.prog 32 #[av, bv] w0 (RetP w0 (.bool (aX a b)) True) :=
  kt a av b bv ca.sz cb.sz w0 hav hbv
theorem clone_is (a : List Iv) : cn a = a := by unfold cn; rfl
theorem m4 (a : List Iv) (av : Value) (ca : Cn a) (w0 : World) (hav : View w0 av a) : Calls Tryz.prog 49 #[av] w0 (RetR w0 66 a True) :=
  RetR.cast (RetR.top (gX a av (Nat.le_trans ca.len (by decide)) ca.sz w0 hav)) (clone_is a)
theorem times_is (l : List Stp) : aa l = dA ((aN l).map fun u => u.iv) := by
  have h1 := fo (R := List Iv) (f := fun (o : List Iv) (u : U Qd) => o ++ [u.iv]) (aN l) (B := fun s => cm l s.1 s.2) (fun o i hi => by
    show cm l o i = _
    unfold cm
    rw [decide_eq_true (by omega : ((i : Nat) : Int) < (((aN l).length : Nat) : Int))]; rfl) (fun o => by
    show cm l o _ = _
    unfold cm
    rw [decide_eq_false (by omega : ¬ (((aN l).length : Nat) : Int) < (((aN l).length : Nat) : Int))]; rfl) (aN l) [] [] ((aN l).length - 0 + 1) rfl (by omega)
  rw [fm (fun u : U Qd => [u.iv])] at h1
  unfold aa
  refine (fe h1).trans ?_
  show eS l _ _ = _
  unfold eS
  rw [List.nil_append, ← List.map_eq_flatMap]
theorem aD (l : List Stp) : Cn (aa l) := by rw [times_is]; exact (oa (bld_wv l)).1
theorem fb (l : List Stp) (lv : Value) (w0 : World) (hlv : View w0 lv l) : Calls Tryz.prog 10 #[lv] w0 (RetR w0 66 (aa l) True) :=
  RetR.top (i7 l lv w0 hlv)
end Go.Sx
