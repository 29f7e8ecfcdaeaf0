/- A part of the proof of piecesMoments. -/
import Derived.Test.YtbenbmdkhcfcfaaGreatDoorKf8
import Derived.Test.YtbenbmdkhcfcfaaGreatDoorM3
set_option linter.unusedVariables false
set_option linter.unusedSimpArgs false
namespace Go.Sx
theorem pP (l : List Stp) : cq l = true := by
 unfold cq
 rw [knw, mo_e, mo_chk]
 show fin (bR (fun s => bO l s) (((aC (am l)).length - 0) + 1) 0) (fun s => ey l s) (fun r => r) = true
 refine (eV (mO (n := (aC (am l)).length) (r := false) (bad := fun _ => false) (fun i hi => ?_) ?_ ((aC (am l)).length - 0 + 1) 0 (Nat.zero_le _) (by omega) (fun _ _ _ => rfl))).trans ?_
 ·show bO l i = .go (i + 1)
  unfold bO
  obtain ⟨h1, h2⟩ := mo_ag l hi
  rw [decide_eq_true (by omega : ((i : Nat) : Int) < (((aC (am l)).length : Nat) : Int)), h1, h2, bne_self_eq_false]
  rfl
 ·show bO l (aC (am l)).length = _
  unfold bO
  rw [decide_eq_false (by omega : ¬ (((aC (am l)).length : Nat) : Int) < (((aC (am l)).length : Nat) : Int))]; rfl
 ·show ey l _ = true
  unfold ey
  have he : gm (au (am l)).1 = bn (au (am l)).1 := (mo_ends l).symm
  rw [he, bne_self_eq_false, cond_false]
  refine (eV (mO (n := (bn (au (am l)).1).length) (r := false) (bad := fun _ => false) (fun i hi => ?_) ?_ ((bn (au (am l)).1).length - 0 + 1) 0 (Nat.zero_le _) (by omega) (fun _ _ _ => rfl))).trans ?_
  ·show bU l _ i = .go (i + 1)
   unfold bU
   rw [he, decide_eq_true (by omega : ((i : Nat) : Int) < (((bn (au (am l)).1).length : Nat) : Int)), decide_eq_true rfl]
   rfl
  ·show bU l _ (bn (au (am l)).1).length = _
   unfold bU
   rw [decide_eq_false (by omega : ¬ (((bn (au (am l)).1).length : Nat) : Int) < (((bn (au (am l)).1).length : Nat) : Int))]; rfl
  ·rfl
end Go.Sx
