/- A part of the proof that the law PiecesShifts answers true at every input and leaves its arguments as they were. -/
import Derived.Test.YtnkaneggnjallaaGreatDoorMk
import Derived.Test.YtnkaneggnjallaaGreatDoorF
set_option linter.unusedVariables false
set_option linter.unusedSimpArgs false
namespace Go.Sx
theorem bPs_len (s : Stp) (f : Qd) (t : GR) (b : Bool) : (bPs s f t b).length ≤ 1 := by
  unfold bPs bPt
  cases b <;> cases ((((s.piece % 4) : Nat) : Int) == ((2 : Nat) : Int)) <;> cases ((((s.point % 4) : Nat) : Int) == ((1 : Nat) : Int)) <;> cases ((((s.point % 4) : Nat) : Int) == ((2 : Nat) : Int)) <;> cases ((((s.point % 4) : Nat) : Int) == ((3 : Nat) : Int)) <;> simp
theorem bGp_len (s : Stp) (t t' : GR) (b : Bool) : (bGp s t t' b).length ≤ 1 := by
  unfold bGp
  cases ((((s.piece % 4) : Nat) : Int) != ((0 : Nat) : Int)) <;> simp
theorem bld_len (l : List Stp) : (aw l).length ≤ 16 := by
  have h := mP (R := List (U Qd)) (Q := fun _ => False) (B := fun s => bb l s.1 s.2.1 s.2.2.1 s.2.2.2.1 s.2.2.2.2.1 s.2.2.2.2.2) (I := fun s => s.1.length ≤ 2 * s.2.2.2.2.1 ∧ s.2.2.2.2.1 ≤ 8)
    (fun ⟨out, a, root, taken, i, before⟩ hs => by
      have h1 : out.length ≤ 2 * i ∧ i ≤ 8 := hs
      show nxP _ _ (bb l out a root taken i before)
      rw [mu]
      cases hc : ((decide (((i : Nat) : Int) < ((l.length : Nat) : Int))) && (decide (((i : Nat) : Int) < 8))) with
      | false => exact h1
      | true =>
        rw [Bool.and_eq_true, decide_eq_true_eq, decide_eq_true_eq] at hc
        rw [cond_true]
        refine ⟨?_, ?_⟩
        · show (out ++ (_ ++ _)).length ≤ 2 * (i + 1)
          rw [List.length_append, List.length_append]
          have := bPs_len (gt l i) before (ad ((a : Nat) : Int) root) taken
          have := bGp_len (gt l i) (ad ((a : Nat) : Int) root) (ad (((a + 3) + ((gt l i).length % 3) : Nat) : Int) ((gt l i).root)) taken
          omega
        · show i + 1 ≤ 8; omega) ((8 - 0) + 1) ([], 0, false, false, 0, default) ⟨by decide, by decide⟩
  have e : ∃ s : (List (U Qd)) × Nat × Bool × Bool × Nat × Qd, (s.1.length ≤ 2 * s.2.2.2.2.1 ∧ s.2.2.2.2.1 ≤ 8) ∧ aw l = s.1 := by
    unfold aw
    revert h
    generalize b9 _ _ _ = X
    intro h
    match X, h with
    | .inl s, h => exact ⟨s, h, rfl⟩
  obtain ⟨s, hs, e⟩ := e
  rw [e]; omega
end Go.Sx
namespace Go.Sx
theorem ob (l : List Stp) (k : Int) : cd l k = true := by
  have hh := (pR k).1
  have hx : a8 (ay (aw l)) ((ak k 2).1) ((ak k 2).1) = (bn l).map (sU (hb k)) := ke l k
  have hu : ay (aw l) = bn l := rfl
  have hn : bn l = ay (aw l) := rfl
  have hl16 := bld_len l
  have hlu := bn_len l
  have hC : ck ((bn l).map (sU (hb k))) = 0 := by
    unfold bn
    exact oc hh (by omega) (la l).1 (la l).2
  have hB : ∀ i, i < ((bn l).map (sU (hb k))).length → bJ l k i = bif (((!(decide (((gt ((bn l).map (sU (hb k))) i).iv).lo = (aH (((gt (bn l) i).iv).lo) (hb k))))) || (!(decide (((gt ((bn l).map (sU (hb k))) i).iv).hi = (aH (((gt (bn l) i).iv).hi) (hb k)))))) || (!(decide ((gt ((bn l).map (sU (hb k))) i).f = (bK ((gt (bn l) i).f) (hb k)))))) then .ret false else .go (i + 1) := fun i hi => by
    unfold bJ
    rw [hx, decide_eq_true (by omega : ((i : Nat) : Int) < ((((bn l).map (sU (hb k))).length : Nat) : Int)), cond_true]
    rfl
  have hO : bJ l k ((bn l).map (sU (hb k))).length = .out ((bn l).map (sU (hb k))).length := by
    unfold bJ
    rw [hx, decide_eq_false (by omega : ¬ ((((bn l).map (sU (hb k))).length : Nat) : Int) < ((((bn l).map (sU (hb k))).length : Nat) : Int)), cond_false]
  have hL := kv (n := ((bn l).map (sU (hb k))).length) hB hO (((bn l).map (sU (hb k))).length - 0 + 1) 0 (Nat.zero_le _) (by omega) fun i _ hi => by
    rw [List.length_map] at hi
    rw [ib _ hi]
    show ((!(decide (sR (hb k) (gt (bn l) i).iv.lo = sR (hb k) (gt (bn l) i).iv.lo)) || !(decide (sR (hb k) (gt (bn l) i).iv.hi = sR (hb k) (gt (bn l) i).iv.hi))) || !(decide (sD (hb k) (gt (bn l) i).f = sD (hb k) (gt (bn l) i).f))) = false
    rw [decide_eq_true rfl, decide_eq_true rfl, decide_eq_true rfl]; rfl
  unfold cd
  rw [knw, show (ak k 2).2 = 0 from (pR k).2.2, hx, hu, hC, List.length_map]
  rw [List.length_map] at hL
  rw [show ((!true : Bool)) = false from rfl, cond_false, show (((0 : Int)) != 0) = false from rfl, cond_false, show (((((bn l).length : Nat) : Int)) != ((((bn l).length : Nat) : Int))) = false by simp, Bool.false_or, cond_false]
  refine (eQ hL).trans ?_
  unfold fe
  rw [hx, hu]
  show ca (bY ((bn l).map (sU (hb k))) (az (hb k)) (hb k)) (bn l) = true
  rw [back_is, l5 (fun f => (fE f f).2 rfl)]
end Go.Sx
