/- A part of the proof that the law PiecesNormal answers true at every input and leaves its arguments as they were. -/
import Derived.Test.YtnkaneggnjallaaGreatDoorQ2
import Derived.Test.YtnkaneggnjallaaGreatDoorF
set_option linter.unusedVariables false
set_option linter.unusedSimpArgs false
namespace Go.Sx
theorem knw : en = true := by decide +kernel
end Go.Sx
namespace Go.Sx
theorem bPs_len (s : Stp) (f : Qd) (t : GR) (b : Bool) : (bPs s f t b).length ≤ 1 := by
  unfold bPs bPt
  cases b <;> cases ((((s.piece % 4) : Nat) : Int) == ((2 : Nat) : Int)) <;> cases ((((s.point % 4) : Nat) : Int) == ((1 : Nat) : Int)) <;> cases ((((s.point % 4) : Nat) : Int) == ((2 : Nat) : Int)) <;> cases ((((s.point % 4) : Nat) : Int) == ((3 : Nat) : Int)) <;> simp
theorem bGp_len (s : Stp) (t t' : GR) (b : Bool) : (bGp s t t' b).length ≤ 1 := by
  unfold bGp
  cases ((((s.piece % 4) : Nat) : Int) != ((0 : Nat) : Int)) <;> simp
theorem bld_len (l : List Stp) : (ah l).length ≤ 16 := by
  have h := l7 (R := List (U Qd)) (Q := fun _ => False) (B := fun s => aY l s.1 s.2.1 s.2.2.1 s.2.2.2.1 s.2.2.2.2.1 s.2.2.2.2.2) (I := fun s => s.1.length ≤ 2 * s.2.2.2.2.1 ∧ s.2.2.2.2.1 ≤ 8)
    (fun ⟨out, a, root, taken, i, before⟩ hs => by
      have h1 : out.length ≤ 2 * i ∧ i ≤ 8 := hs
      show nxP _ _ (aY l out a root taken i before)
      rw [lI]
      cases hc : ((decide (((i : Nat) : Int) < ((l.length : Nat) : Int))) && (decide (((i : Nat) : Int) < 8))) with
      | false => exact h1
      | true =>
        rw [Bool.and_eq_true, decide_eq_true_eq, decide_eq_true_eq] at hc
        rw [cond_true]
        refine ⟨?_, ?_⟩
        · show (out ++ (_ ++ _)).length ≤ 2 * (i + 1)
          rw [List.length_append, List.length_append]
          have := bPs_len (gt l i) before (ad ((a : Nat) : Int) root) taken
          have := bGp_len (gt l i) (ad ((a : Nat) : Int) root) (ad (((a + 3) + ((gt l i).length % 3) : Nat) : Int) ((gt l i).root)) taken
          omega
        · show i + 1 ≤ 8; omega) ((8 - 0) + 1) ([], 0, false, false, 0, default) ⟨by decide, by decide⟩
  have e : ∃ s : (List (U Qd)) × Nat × Bool × Bool × Nat × Qd, (s.1.length ≤ 2 * s.2.2.2.2.1 ∧ s.2.2.2.2.1 ≤ 8) ∧ ah l = s.1 := by
    unfold ah
    revert h
    generalize bV _ _ _ = X
    intro h
    match X, h with
    | .inl s, h => exact ⟨s, h, rfl⟩
  obtain ⟨s, hs, e⟩ := e
  rw [e]; omega
theorem nv (l : List Stp) (b : Nat) : cq l b = true := by
  unfold cq
  rw [knw, fO]
  dsimp only
  rw [mr, oL l (bld_len l), lF, jc (fun f => (e7 f f).2 rfl) _]
  rfl
end Go.Sx
