/- A part of the proof that the law PiecesChecks answers true at every input and leaves its arguments as they were. -/
import Derived.Test.YtnkaneggnjallaaGreatDoorQ2
import Derived.Test.YtnkaneggnjallaaGreatDoorN2
import Derived.Test.YtnkaneggnjallaaGreatDoorF
import Derived.Test.YtnkaneggnjallaaGreatDoorN3
set_option linter.unusedVariables false
set_option linter.unusedSimpArgs false
namespace Go.Sx
theorem knw : eA = true := by decide +kernel
end Go.Sx
namespace Go.Sx
theorem bPs_len (s : Stp) (f : Qd) (t : GR) (b : Bool) : (bPs s f t b).length ≤ 1 := by
  unfold bPs bPt
  cases b <;> cases ((((s.piece % 4) : Nat) : Int) == ((2 : Nat) : Int)) <;> cases ((((s.point % 4) : Nat) : Int) == ((1 : Nat) : Int)) <;> cases ((((s.point % 4) : Nat) : Int) == ((2 : Nat) : Int)) <;> cases ((((s.point % 4) : Nat) : Int) == ((3 : Nat) : Int)) <;> simp
theorem bGp_len (s : Stp) (t t' : GR) (b : Bool) : (bGp s t t' b).length ≤ 1 := by
  unfold bGp
  cases ((((s.piece % 4) : Nat) : Int) != ((0 : Nat) : Int)) <;> simp
theorem qW (l : List Stp) : (ab l).length ≤ 16 := by
  have h := kA (R := List (U Qd)) (Q := fun _ => False) (B := fun s => aU l s.1 s.2.1 s.2.2.1 s.2.2.2.1 s.2.2.2.2.1 s.2.2.2.2.2) (I := fun s => s.1.length ≤ 2 * s.2.2.2.2.1 ∧ s.2.2.2.2.1 ≤ 8)
    (fun ⟨out, a, root, taken, i, before⟩ hs => by
      have h1 : out.length ≤ 2 * i ∧ i ≤ 8 := hs
      show nxP _ _ (aU l out a root taken i before)
      rw [kg]
      cases hc : ((decide (((i : Nat) : Int) < ((l.length : Nat) : Int))) && (decide (((i : Nat) : Int) < 8))) with
      | false => exact h1
      | true =>
        rw [Bool.and_eq_true, decide_eq_true_eq, decide_eq_true_eq] at hc
        rw [cond_true]
        refine ⟨?_, ?_⟩
        · show (out ++ (_ ++ _)).length ≤ 2 * (i + 1)
          rw [List.length_append, List.length_append]
          have := bPs_len (gt l i) before (af ((a : Nat) : Int) root) taken
          have := bGp_len (gt l i) (af ((a : Nat) : Int) root) (af (((a + 3) + ((gt l i).length % 3) : Nat) : Int) ((gt l i).root)) taken
          omega
        · show i + 1 ≤ 8; omega) ((8 - 0) + 1) ([], 0, false, false, 0, default) ⟨by decide, by decide⟩
  have e : ∃ s : (List (U Qd)) × Nat × Bool × Bool × Nat × Qd, (s.1.length ≤ 2 * s.2.2.2.2.1 ∧ s.2.2.2.2.1 ≤ 8) ∧ ab l = s.1 := by
    unfold ab
    revert h
    generalize bS _ _ _ = X
    intro h
    match X, h with
    | .inl s, h => exact ⟨s, h, rfl⟩
  obtain ⟨s, hs, e⟩ := e
  rw [e]; omega
end Go.Sx
namespace Go.Sx
theorem flip_bad {i : Iv} {a b : Bool} (h : Tv i) (hk : Ki i.hi) : aR ⟨i.lo, ls i.hi, a, b⟩ ≠ 0 := by
  have hf : qt i.hi = true := by
    obtain ⟨n, r, hn, e⟩ := h.2
    rw [e]
    by_cases h1 : n < 15
    · exact List.all_eq_true.1 flip_a _ (fU r (Nat.zero_le n) (by omega))
    · by_cases h2 : n < 30
      · exact List.all_eq_true.1 flip_b _ (fU r (by omega) (by omega))
      · exact List.all_eq_true.1 flip_c _ (fU r (by omega) (by omega))
  unfold qt at hf
  have h24 : (tk i.hi == 24) = false := by
    rw [beq_eq_false_iff_ne]
    rcases hk with h | h <;> omega
  rw [h24, Bool.false_or, Bool.or_eq_true] at hf
  unfold aR
  have t0 : dB (Iv.lo ⟨i.lo, ls i.hi, a, b⟩) = 0 := jx h.1
  rw [t0]
  cases hc : dB (Iv.hi ⟨i.lo, ls i.hi, a, b⟩) != 0 with
  | true => rw [Bool.or_true, cond_true]; decide
  | false =>
    have hc : (dB (ls i.hi) != 0) = false := hc
    rcases hf with e | e
    · rw [e] at hc; cases hc
    · have hl : i.lo ∈ jJ 0 45 := by
        obtain ⟨n, r, hn, e⟩ := h.1
        rw [e]; exact fU r (Nat.zero_le n) (by omega)
      have e := eq_of_beq (List.all_eq_true.1 e _ hl)
      have hp : bR (co ⟨i.lo, ls i.hi, a, b⟩) (cE ⟨i.lo, ls i.hi, a, b⟩) = 1 := by
        unfold bR co cE
        show (bif ((aA i.lo (ls i.hi)) != 0) then (aA i.lo (ls i.hi)) else bif (a == !b) then 0 else bif !b then (-1) else 1) = 1
        rw [e]; rfl
      rw [hp]; decide
theorem kF {N : List (U Qd)} {k : Nat} {y : U Qd} (h : ∀ x ∈ N, Tv x.iv) (hy : Tv y.iv) : ∀ x ∈ N.set k y, Tv x.iv := fun x hx => by
  rcases List.mem_or_eq_of_mem_set hx with hx | rfl
  · exact h x hx
  · exact hy
theorem qI {c a b : Bool} (h1 : c = true → a = true) (h2 : c = false → b = true) : (bif c then a else b) = true := by
  cases c
  · exact h2 rfl
  · exact h1 rfl
theorem nO (l : List Stp) (kind which : Nat) : bi l kind which = true := by
  unfold bi
  rw [knw, Bool.not_true, cond_false]
  have hl : (aa (ab l)).length ≤ 16 := Nat.le_trans (oP l) (qW l)
  have hT : ∀ x ∈ aa (ab l), Tv x.iv := fun x hx => ((pu l).1.wv x hx).1
  have hK := bn_ki l
  have hC := bn_check l (qW l)
  generalize aa (ab l) = N at *
  cases hz : ((((N.length : Nat) : Int)) == (((0 : Nat) : Int))) with
  | true => rw [cond_true, hC]; rfl
  | false =>
    rw [cond_false]
    have h0 : 0 < N.length := by have := ne_of_beq_false hz; omega
    have hk : which % N.length < N.length := Nat.mod_lt _ h0
    generalize which % N.length = k at *
    have hg : Tv (gt N k).iv := by rw [fv hk]; exact hT _ (List.getElem_mem _)
    have hg0 : Tv (gt N 0).iv := by rw [fv h0]; exact hT _ (List.getElem_mem _)
    have hgk : Ki (gt N k).iv.hi := by rw [fv hk]; exact hK _ (List.getElem_mem _)
    have go : ∀ u : List (U Qd), u.length ≤ 17 → (∀ x ∈ u, Tv x.iv) → (aN u == de u) = true := fun u h1 h2 => by
      rw [nc (by omega) (fun _ => h2)]; exact beq_self_eq_true _
    repeat' (refine qI (fun _ => ?_) (fun _ => ?_))
    · exact go _ (by simp only [List.length_set]; omega) (kF (kF hT ⟨hg.2, hg.2⟩) ⟨hg.2, hg.1⟩)
    · exact go _ (by simp only [List.length_set]; omega) (kF hT hg)
    · exact go _ (by simp only [List.length_append, List.length_cons, List.length_nil]; omega) (fun x hx => by
        rcases List.mem_append.1 hx with hx | hx
        · exact hT x hx
        · rw [List.mem_singleton.1 hx]; exact hg)
    · exact go _ (by simp only [List.length_set]; omega) (kF (kF hT hg) hg0)
    · exact go _ (by simp only [List.length_set]; omega) (kF hT ⟨hg.1, hg.2⟩)
    · exact go _ (by simp only [List.length_set]; omega) (kF hT hg)
    · rw [nc (by simp only [List.length_set]; omega) (fun hc => ?_)]
      · exact beq_self_eq_true _
      · exact absurd (hc _ (List.mem_set hk _)) (flip_bad (a := (gt N k).iv.openLo) (b := (gt N k).iv.openHi) hg hgk)
    · exact go _ (by omega) hT
end Go.Sx
