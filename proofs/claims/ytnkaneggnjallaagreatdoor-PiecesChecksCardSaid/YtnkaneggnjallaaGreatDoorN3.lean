/- A part of the proof that the law PiecesChecks answers true at every input and leaves its arguments as they were. -/
import Derived.Test.YtnkaneggnjallaaGreatDoorN2
import Derived.Test.YtnkaneggnjallaaGreatDoorY
set_option linter.unusedVariables false
set_option linter.unusedSimpArgs false
namespace Go.Sx
theorem cvt {i : Iv} (h : Tv i) (hc : aR i = 0) : Wv i := by
  unfold aR at hc
  rw [jx h.1, jx h.2] at hc
  have hc : bR (co i) (cE i) < 0 := by
    by_cases e : bR (co i) (cE i) ≥ 0
    · rw [decide_eq_true e] at hc; exact absurd hc (by decide)
    · omega
  unfold bR co cE at hc
  have hc : (bif ((aA i.lo i.hi) != 0) then (aA i.lo i.hi) else bif (i.openLo == !i.openHi) then 0 else bif !i.openHi then (-1) else 1) < 0 := hc
  rw [h.1.cmp h.2] at hc
  rcases Nat.lt_trichotomy (tk i.lo) (tk i.hi) with e | e | e
  · exact ⟨h, by omega, by omega⟩
  · refine ⟨h, by omega, fun _ => ?_⟩
    rw [e, eN] at hc
    revert hc
    cases i.openLo <;> cases i.openHi <;> decide
  · rw [gu e, show ((1 : Int) != 0) = true from rfl, cond_true] at hc; omega
theorem ord_same (c : Int) (a b : Bool) : ((decide (c > 0)) || (((c == 0) && (!a)) && (!b))) = !((decide (c < 0)) || ((c == 0) && (a || b))) := by
  rcases Int.lt_trichotomy c 0 with h | h | h
  · rw [decide_eq_false (by omega), decide_eq_true h, beq_eq_false_iff_ne.2 (by omega)]; rfl
  · subst h; cases a <;> cases b <;> rfl
  · rw [decide_eq_true (by omega), decide_eq_false (by omega), beq_eq_false_iff_ne.2 (by omega)]; rfl
theorem o7 (u : List (U Qd)) (i : Nat) : dT u i = bf u i := by
  unfold dT bf bX bm
  rw [ord_same]
  by_cases h : i = 0
  · subst h
    rw [show ((((0 : Nat) : Int)) == (((0 : Nat) : Int))) = true from rfl, cond_true, show (decide (((0 : Nat) : Int) > 0)) = false from rfl, Bool.false_and, cond_false]
  · rw [beq_eq_false_iff_ne.2 (by omega : ((i : Nat) : Int) ≠ ((0 : Nat) : Int)), cond_false, decide_eq_true (by omega : ((i : Nat) : Int) > 0), Bool.true_and]
theorem out_go {R : Type} {B : Nat → Nx Nat R} {n : Nat} (h : ∀ i, i < n → B i = .go (i + 1) ∨ ∃ r, B i = .ret r) :
    ∀ (k a : Nat) {s : Nat}, n - a < k → bS B k a = .inl s → ∀ i, a ≤ i → i < n → B i = .go (i + 1)
  | 0, a, s, hk, hx, i, h1, h2 => by omega
  | k + 1, a, s, hk, hx, i, h1, h2 => by
    rcases h a (by omega) with e | ⟨r, e⟩
    · by_cases h3 : i = a
      · subst h3; exact e
      · rw [eY k e] at hx
        exact out_go h k (a + 1) (by omega) hx i (by omega) h2
    · rw [mR k e] at hx; cases hx
theorem mo {R S : Type} {b : Bool} {r : R} {x : Nx S R} {s : S} (h : (bif b then .ret r else x) = Nx.go s) : b = false ∧ x = Nx.go s := by
  cases b
  · exact ⟨rfl, h⟩
  · cases h
theorem passed {u : List (U Qd)} {i : Nat} (hi : i < u.length) (h : bf u i = .go (i + 1)) : aR (gt u i).iv = 0 ∧ (0 < i → bm (gt u (i - 1)).iv (gt u i).iv = true) := by
  unfold bf at h
  rw [decide_eq_true (by omega : ((i : Nat) : Int) < ((u.length : Nat) : Int)), cond_true] at h
  obtain ⟨h1, h⟩ := mo h
  obtain ⟨h2, h⟩ := mo h
  obtain ⟨h3, h⟩ := mo h
  refine ⟨by simpa using h1, fun h0 => ?_⟩
  rw [decide_eq_true (by omega : ((i : Nat) : Int) > 0), Bool.true_and] at h3
  simpa using h3
theorem gt_ext {a b : List (U Qd)} (hl : a.length = b.length) (h : ∀ i, i < a.length → gt a i = gt b i) : a = b := by
  refine List.ext_getElem hl fun i h1 h2 => ?_
  rw [← fv h1, ← fv h2]; exact h i h1
theorem qx (a b : List (U Qd)) : cY a b = decide (a = b) := by
  by_cases e : a = b
  · rw [decide_eq_true e, e, lK]
  · rw [decide_eq_false e]
    unfold cY eqUQ
    by_cases hl : a.length = b.length
    · rw [show ((((a.length : Nat) : Int)) != (((b.length : Nat) : Int))) = false by simp [hl], cond_false]
      obtain ⟨i, h1, h2⟩ : ∃ i, i < a.length ∧ gt a i ≠ gt b i := by
        apply Classical.byContradiction; intro hn
        exact e (gt_ext hl fun i h1 => Classical.byContradiction fun h2 => hn ⟨i, h1, h2⟩)
      refine (je (lS (n := a.length) (r := false) (bad := fun i => !(ce (gt a i) (gt b i))) (fun i hi => by
        unfold iA
        rw [decide_eq_true (by omega : ((i : Nat) : Int) < ((a.length : Nat) : Int)), cond_true]) _ 0 (by omega) ⟨i, Nat.zero_le _, h1, ?_⟩)).trans rfl
      show (!(ce (gt a i) (gt b i))) = true
      rw [Bool.not_eq_true', ← Bool.not_eq_true]
      intro h; apply h2
      unfold ce at h
      rw [Bool.and_eq_true, decide_eq_true_eq, eS] at h
      cases hx : gt a i; cases hy : gt b i
      rw [hx, hy] at h; obtain ⟨e1, e2⟩ := h
      simp only at e1 e2
      rw [e1, e2]
    · rw [show ((((a.length : Nat) : Int)) != (((b.length : Nat) : Int))) = true by simp; omega, cond_true]
theorem pM (a b : List (U Qd)) : b9 a b = decide (a = b) := by
  by_cases e : a = b
  · rw [decide_eq_true e, e, ln (fun f => (eS f f).2 rfl)]
  · rw [decide_eq_false e]
    unfold b9
    by_cases hl : a.length = b.length
    · rw [show ((((a.length : Nat) : Int)) != (((b.length : Nat) : Int))) = false by simp [hl], cond_false]
      obtain ⟨i, h1, h2⟩ : ∃ i, i < a.length ∧ gt a i ≠ gt b i := by
        apply Classical.byContradiction; intro hn
        exact e (gt_ext hl fun i h1 => Classical.byContradiction fun h2 => hn ⟨i, h1, h2⟩)
      refine (je (lS (n := a.length) (r := false) (bad := fun i => (!(decide ((gt a i).iv = (gt b i).iv))) || (!(aS ((gt a i).f) ((gt b i).f)))) (fun i hi => by
        unfold bW
        rw [decide_eq_true (by omega : ((i : Nat) : Int) < ((a.length : Nat) : Int)), cond_true]) _ 0 (by omega) ⟨i, Nat.zero_le _, h1, ?_⟩)).trans rfl
      show ((!(decide ((gt a i).iv = (gt b i).iv))) || (!(aS ((gt a i).f) ((gt b i).f)))) = true
      rw [← Bool.not_and, Bool.not_eq_true', ← Bool.not_eq_true]
      intro h; apply h2
      rw [Bool.and_eq_true, decide_eq_true_eq, eS] at h
      cases hx : gt a i; cases hy : gt b i
      rw [hx, hy] at h; obtain ⟨e1, e2⟩ := h
      simp only at e1 e2
      rw [e1, e2]
    · rw [show ((((a.length : Nat) : Int)) != (((b.length : Nat) : Int))) = true by simp; omega, cond_true]
theorem nc {u : List (U Qd)} (hl : u.length ≤ 256) (hT : (∀ x ∈ u, aR x.iv = 0) → ∀ x ∈ u, Tv x.iv) : aN u = de u := by
  unfold aN de
  rw [decide_eq_false (by omega : ¬ ((u.length : Nat) : Int) > 256), cond_false, show (fun s => dT u s) = (fun s => bf u s) from funext (o7 u)]
  cases hx : bS (fun s => bf u s) ((u.length - 0) + 1) 0 with
  | inr r => rfl
  | inl s =>
    have hp := out_go (n := u.length) (fun i hi => by
      have hb : (decide (((i : Nat) : Int) < ((u.length : Nat) : Int))) = true := decide_eq_true (by omega)
      unfold bf
      rw [hb, cond_true]
      cases (aR ((gt u i).iv)) != 0
      · cases (bX ((gt u i).f)) != 0
        · cases ((decide (((i : Nat) : Int) > 0)) && (!(bm ((gt u (i - 1)).iv) ((gt u i).iv))))
          · exact .inl rfl
          · exact .inr ⟨_, rfl⟩
        · exact .inr ⟨_, rfl⟩
      · exact .inr ⟨_, rfl⟩) _ 0 (by omega) hx
    have hC : ∀ x ∈ u, aR x.iv = 0 := fun x hx => by
      obtain ⟨i, hi, rfl⟩ := List.getElem_of_mem hx
      have := (passed hi (hp i (Nat.zero_le _) hi)).1
      rwa [fv hi] at this
    have hW : ∀ x ∈ u, Wv x.iv := fun x hx => cvt (hT hC x hx) (hC x hx)
    have hn : ∀ i, 0 < i → i < u.length → bm (gt u (i - 1)).iv (gt u i).iv = true := fun i h0 hi => (passed hi (hp i (Nat.zero_le _) hi)).2 h0
    have hs : u.Pairwise fun a b => Dj a.iv b.iv := (oL hW hn).imp fun h => .inl h
    show ey u s = jr u s
    unfold ey jr
    rw [ji (fun a b => (eS a b).1) (List.Perm.refl u) hW hs, qx, pM]
    rw [show decide (u = aa u) = decide (aa u = u) from decide_eq_decide.2 ⟨Eq.symm, Eq.symm⟩]
    rfl
end Go.Sx
namespace Go.Sx
section
variable {α : Type} [Inhabited α] {eqf : α → α → Bool} {same : α → α → GR → Bool} {red : α → GR → α}
theorem oN {A : List (At α)} : ∀ k, k ≤ A.length → ∀ u ∈ dG (dh eqf same red A) [] k, ∃ i, i < A.length ∧ (u.iv.hi = (gt A i).frm ∨ u.iv.hi = (gt A i).til)
  | 0, _, u, hu => by cases hu
  | k + 1, hk, u, hu => by
    have ih : ∀ u ∈ dG (dh eqf same red A) [] k, ∃ i, i < A.length ∧ (u.iv.hi = (gt A i).frm ∨ u.iv.hi = (gt A i).til) := oN k (by omega)
    have hu : u ∈ dh eqf same red A (dG (dh eqf same red A) [] k) k := hu
    generalize dG (dh eqf same red A) [] k = out at *
    have hset : ∀ (y : U α), (y.iv.hi = (lst out).iv.hi ∨ y.iv.hi = (gt A k).til) → u ∈ out.set (out.length - 1) y → ∃ i, i < A.length ∧ (u.iv.hi = (gt A i).frm ∨ u.iv.hi = (gt A i).til) := fun y e hu => by
      by_cases h0 : 0 < out.length
      · rcases kz hu with hu | hu
        · exact ih u hu
        · rw [hu]
          rcases e with e | e
          · rw [e]; exact ih _ (gD h0)
          · exact ⟨k, by omega, .inr e⟩
      · rw [List.eq_nil_of_length_eq_zero (by omega : out.length = 0)] at hu; cases hu
    cases hh : (gt A k).has with
    | false =>
      unfold dh at hu
      rw [hh] at hu; exact ih u hu
    | true =>
      have happ : ∀ (y : U α), (y.iv.hi = (gt A k).frm ∨ y.iv.hi = (gt A k).til) → u ∈ out ++ [y] → ∃ i, i < A.length ∧ (u.iv.hi = (gt A i).frm ∨ u.iv.hi = (gt A i).til) := fun y e hu => by
        rcases List.mem_append.1 hu with hu | hu
        · exact ih u hu
        · rw [List.mem_singleton.1 hu]; exact ⟨k, by omega, e⟩
      unfold dh at hu
      rw [hh, Bool.not_true, cond_false] at hu
      cases hg : (gt A k).gap with
      | true =>
        rw [hg, cond_true] at hu
        revert hu
        generalize (((((decide (((k : Nat) : Int) ≥ 2)) && (gt A (k - 2)).has) && (gt A (k - 1)).has) && (same ((gt A (k - 2)).f) ((gt A (k - 1)).f) ((gt A k).frm))) && (eqf ((gt A (k - 2)).f) ((gt A k).f))) = c
        intro hu
        cases c
        · exact happ _ (.inr rfl) hu
        · rw [cond_true] at hu; exact hset ⟨⟨(lst out).iv.lo, (gt A k).til, (lst out).iv.openLo, true⟩, (lst out).f⟩ (.inr rfl) hu
      | false =>
        rw [hg, cond_false] at hu
        revert hu
        generalize (((decide (((k : Nat) : Int) > 0)) && (gt A (k - 1)).has) && (same ((gt A (k - 1)).f) ((gt A k).f) ((gt A k).frm))) = c
        generalize (((decide (((k + 1 : Nat) : Int) < ((A.length : Nat) : Int))) && (gt A (k + 1)).has) && (same ((gt A (k + 1)).f) ((gt A k).f) ((gt A k).frm))) = c2
        intro hu
        cases c
        · cases c2
          · exact happ _ (by first | exact .inl rfl | exact .inr rfl) hu
          · exact ih u hu
        · rw [cond_true] at hu; exact hset ⟨⟨(lst out).iv.lo, (lst out).iv.hi, (lst out).iv.openLo, false⟩, (lst out).f⟩ (.inl rfl) hu
end
def Ki (t : GR) : Prop := tk t = 0 ∨ 30 ≤ tk t
def BK (s : (List (U Qd)) × Nat × Bool × Bool × Nat × Qd) : Prop :=
  s.2.1 ≤ 5 * s.2.2.2.2.1 ∧ s.2.2.2.2.1 ≤ 8 ∧ ((s.2.1 = 0 ∧ s.2.2.1 = false) ∨ 3 ≤ s.2.1) ∧ ∀ x ∈ s.1, Ki x.iv.lo ∧ Ki x.iv.hi
theorem bk_inv (l : List Stp) (s : (List (U Qd)) × Nat × Bool × Bool × Nat × Qd) (h : BK s) :
    nxP BK (fun _ => False) (aU l s.1 s.2.1 s.2.2.1 s.2.2.2.1 s.2.2.2.2.1 s.2.2.2.2.2) := by
  obtain ⟨out, a, root, taken, i, before⟩ := s
  obtain ⟨h1, h2, h3, h4⟩ := h
  simp only at h1 h2 h3 h4
  rw [kg]
  cases hc : ((decide (((i : Nat) : Int) < ((l.length : Nat) : Int))) && (decide (((i : Nat) : Int) < 8))) with
  | false => exact ⟨h1, h2, h3, h4⟩
  | true =>
    rw [cond_true]
    rw [Bool.and_eq_true, decide_eq_true_eq, decide_eq_true_eq] at hc
    have hi : i < 8 := by omega
    have hm : (gt l i).length % 3 < 3 := Nat.mod_lt _ (by decide)
    have k1 : Ki (af ((a : Nat) : Int) root) := by
      unfold Ki; rw [tk_at a root (by omega)]
      rcases h3 with ⟨rfl, rfl⟩ | h3
      · exact .inl rfl
      · exact .inr (by omega)
    have k2 : Ki (af (((a + 3) + ((gt l i).length % 3) : Nat) : Int) ((gt l i).root)) := by
      unfold Ki; rw [tk_at ((a + 3) + ((gt l i).length % 3)) (gt l i).root (by omega)]
      exact .inr (by omega)
    refine ⟨?_, ?_, .inr ?_, fun x hx => ?_⟩
    · show (a + 3) + ((gt l i).length % 3) ≤ 5 * (i + 1); omega
    · show i + 1 ≤ 8; omega
    · show 3 ≤ (a + 3) + ((gt l i).length % 3); omega
    · rcases List.mem_append.1 hx with hx | hx
      · exact h4 x hx
      · rcases List.mem_append.1 hx with hx | hx
        · revert hx
          unfold bPs bPt
          cases taken <;> cases ((((gt l i).piece % 4 : Nat) : Int) == ((2 : Nat) : Int)) <;> cases ((((gt l i).point % 4 : Nat) : Int) == ((1 : Nat) : Int)) <;> cases ((((gt l i).point % 4 : Nat) : Int) == ((2 : Nat) : Int)) <;> cases ((((gt l i).point % 4 : Nat) : Int) == ((3 : Nat) : Int)) <;> intro hx <;>
            first
            | (cases hx; done)
            | (rw [List.mem_singleton.1 hx]; exact ⟨k1, k1⟩)
        · revert hx
          unfold bGp
          cases ((((gt l i).piece % 4 : Nat) : Int) != ((0 : Nat) : Int))
          · intro hx; cases hx
          · intro hx; rw [List.mem_singleton.1 hx]; exact ⟨k1, k2⟩
theorem oO (l : List Stp) : ∀ x ∈ ab l, Ki x.iv.lo ∧ Ki x.iv.hi := by
  have h := kA (R := List (U Qd)) (Q := fun _ => False) (B := fun s => aU l s.1 s.2.1 s.2.2.1 s.2.2.2.1 s.2.2.2.2.1 s.2.2.2.2.2) (I := BK) (bk_inv l) ((8 - 0) + 1) ([], 0, false, false, 0, default)
    ⟨by decide, by decide, .inl ⟨rfl, rfl⟩, fun x hx => (by cases hx)⟩
  have e : ∃ s, BK s ∧ ab l = s.1 := by
    unfold ab
    revert h
    generalize bS _ _ _ = X
    intro h
    match X, h with
    | .inl s, h => exact ⟨s, h, rfl⟩
  obtain ⟨s, hs, e⟩ := e
  rw [e]
  exact hs.2.2.2
theorem bn_ki (l : List Stp) : ∀ x ∈ aa (ab l), Ki x.iv.hi := fun x hx => by
  have hE := jM (l := (ab l).map (·.iv)) (fun i hi => by obtain ⟨x, hx, rfl⟩ := List.mem_map.1 hi; exact (oR l x hx).1.1)
  have hK : ∀ y ∈ gi ((ab l).map (·.iv)), Ki y := fun y hy => by
    obtain ⟨i, hi, e⟩ := (hE.2 y).1 hy
    obtain ⟨x, hx, rfl⟩ := List.mem_map.1 hi
    rcases e with e | e
    · rw [e]; exact (oO l x hx).1
    · rw [e]; exact (oO l x hx).2
  unfold aa at hx
  rw [gj, jL, i9] at hx
  obtain ⟨i, hi, hh⟩ := oN _ (Nat.le_refl _) x hx
  have hl : (eZ (default : Qd) (ab l) (gi ((ab l).map (·.iv)))).length = (ep (default : Qd) (gi ((ab l).map (·.iv)))).length := by unfold eZ; rw [List.length_map]
  have hb : gt (ep (default : Qd) (gi ((ab l).map (·.iv)))) i ∈ ep (default : Qd) (gi ((ab l).map (·.iv))) := by rw [fv (hl ▸ hi)]; exact List.getElem_mem _
  rw [iz hi, (en _ _).1, (en _ _).2.2] at hh
  rcases gh.1 hb with ⟨t, ht, e⟩ | ⟨t, t', ⟨p, s, hs⟩, e⟩
  · rw [e] at hh
    rcases hh with e | e
    · rw [e]; exact hK t ht
    · rw [e]; exact hK t ht
  · rw [e] at hh
    have m1 : t ∈ gi ((ab l).map (·.iv)) := by rw [hs]; simp
    have m2 : t' ∈ gi ((ab l).map (·.iv)) := by rw [hs]; simp
    rcases hh with e | e
    · rw [e]; exact hK t m1
    · rw [e]; exact hK t' m2
def ls (x : GR) : GR := ⟨⟨⟨!x.p.num.neg, x.p.num.mag⟩, x.p.den⟩, x.r, x.neg⟩
def qt (x : GR) : Bool := (tk x == 24) || ((dB (ls x)) != 0) || (jJ 0 45).all fun y => aA y (ls x) == 1
theorem flip_a : ((jJ 0 15).all qt) = true := by decide +kernel
theorem flip_b : ((jJ 15 15).all qt) = true := by decide +kernel
theorem flip_c : ((jJ 30 15).all qt) = true := by decide +kernel
end Go.Sx
