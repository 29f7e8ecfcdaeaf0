/- A part of the proof that the law PiecesOverlaps answers true at every input and leaves its arguments as they were. -/
import Derived.Test.YtnkaneggnjallaaGreatDoorProg
import Derived.Test.YtnkaneggnjallaaGreatDoorM2
import Derived.Test.YtnkaneggnjallaaGreatDoorM3
set_option linter.unusedVariables false
set_option linter.unusedSimpArgs false
namespace Go.Sx
theorem take_gt2 {β : Type} [Inhabited β] {A : List β} {i : Nat} (h : i < A.length) : A.take (i + 1) = A.take i ++ [gt A i] := by
  rw [jh h, List.take_append_getElem]
theorem jD (a b : Int) : aZ a b = true ↔ a = b := by
  unfold aZ
  simp
theorem kY (l : List (U Int)) : bT l l = true := kX (fun f => (jD f f).2 rfl) l
theorem m8 (l : List Loo) : (ba (l.map aP) = true → ay (l.map aP) = ([], 11)) ∧
    (ba (l.map aP) = false → ay (l.map aP) = (br (l.map aP), 0)) := by
  have hW : ∀ x ∈ l.map aP, Wv x.iv := fun x hx => by obtain ⟨y, _, rfl⟩ := List.mem_map.1 hx; exact loose_ok y
  by_cases hD : (l.map aP).Pairwise fun a b => Dj a.iv b.iv
  · have h := (j9 hW).1 hD
    rw [h]
    exact ⟨fun e => (by cases e), fun _ => ld (fun a b => (jD a b).1) (List.Perm.refl _) hW hD⟩
  · have h := (j9 hW).2 hD
    rw [h]
    exact ⟨fun _ => ky hW hD, fun e => (by cases e)⟩
end Go.Sx
