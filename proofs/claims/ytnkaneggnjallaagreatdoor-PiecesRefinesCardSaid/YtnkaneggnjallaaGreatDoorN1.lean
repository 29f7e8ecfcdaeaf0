/- A part of the proof that the law PiecesRefines answers true at every input and leaves its arguments as they were. -/
import Derived.Test.YtnkaneggnjallaaGreatDoorM3
set_option linter.unusedVariables false
set_option linter.unusedSimpArgs false
namespace Go.Sx
section
variable {α : Type} [Inhabited α] (eqf : α → α → Bool) (same : α → α → GR → Bool) (red : α → GR → α)
def Lk (x y : U α) : Prop :=
  x.iv.hi = y.iv.lo →
    (x.iv.lo = x.iv.hi → same y.f x.f y.iv.lo = false) ∧
    (x.iv.lo ≠ x.iv.hi → (x.iv.openHi = false → eqf x.f y.f = false) ∧ (x.iv.openHi = true → y.iv.openLo = false → same x.f y.f y.iv.lo = false))
structure NF (n : List (U α)) : Prop where
  wv : ∀ x ∈ n, Wv x.iv
  ord : n.Pairwise fun a b => lm a.iv < (lI b.iv : Int)
  lk : ∀ i, i + 1 < n.length → Lk eqf same (gt n i) (gt n (i + 1))
  inst : ∀ x ∈ n, x.iv.lo = x.iv.hi → red x.f x.iv.lo = x.f
variable {eqf same red} {L out : List (U α)} {x : Nat} {t t' : GR} {f : α}
omit [Inhabited α] in
theorem set_last {p : List (U α)} {y z : U α} : (p ++ [y]).set ((p ++ [y]).length - 1) z = p ++ [z] := by
  rw [List.length_append, List.length_singleton, Nat.add_sub_cancel, List.set_append_right _ _ (Nat.le_refl _), Nat.sub_self]; rfl
theorem mt {p : List (U α)} (h : 0 < p.length) : lst p ∈ p := by
  unfold lst
  rw [jI (by omega)]; exact List.getElem_mem _
omit [Inhabited α] in
end
end Go.Sx
namespace Go.Sx
section
variable {α : Type} [Inhabited α] {eqf : α → α → Bool} {same : α → α → GR → Bool} {red : α → GR → α} {A : List (At α)} {out : List (U α)} {i : Nat}
structure Ru (D : α → Prop) (same : α → α → GR → Bool) (red : α → GR → α) : Prop where
  refl : ∀ t, Tm t → ∀ f, D f → same f f t = true
  symm : ∀ t, Tm t → ∀ f g, D f → D g → same f g t = true → same g f t = true
  trans : ∀ t, Tm t → ∀ f g h, D f → D g → D h → same f g t = true → same g h t = true → same f h t = true
  redD : ∀ t, Tm t → ∀ f, D f → D (red f t)
  redS : ∀ t, Tm t → ∀ f, D f → same (red f t) f t = true
  redR : ∀ t, Tm t → ∀ f, D f → red (red f t) t = red f t
theorem NF.snoc (h : NF eqf same red out) {y : U α} (hy : Wv y.iv) (hl : 0 < out.length → lm (lst out).iv < (lI y.iv : Int) ∧ Lk eqf same (lst out) y) (hi : y.iv.lo = y.iv.hi → red y.f y.iv.lo = y.f) : NF eqf same red (out ++ [y]) := by
  refine ⟨fun x hx => ?_, ?_, fun j hj => ?_, fun x hx => ?_⟩
  · rcases List.mem_append.1 hx with hx | hx
    · exact h.wv x hx
    · rw [List.mem_singleton.1 hx]; exact hy
  · rw [List.pairwise_append]
    refine ⟨h.ord, List.pairwise_singleton _ _, fun a ha b hb => ?_⟩
    rw [List.mem_singleton.1 hb]
    have h0 : 0 < out.length := List.length_pos_of_mem ha
    obtain ⟨k1, _⟩ := hl h0
    obtain ⟨q, hq⟩ := List.getElem_of_mem ha
    obtain ⟨hq1, hq2⟩ := hq
    by_cases e : q = out.length - 1
    · have : a = lst out := by
        unfold lst
        rw [jI (by omega)]
        subst e
        exact hq2.symm
      rw [this]; exact k1
    · have := List.pairwise_iff_getElem.1 h.ord q (out.length - 1) hq1 (by omega) (by omega)
      rw [hq2] at this
      have e2 : out[out.length - 1]'(by omega) = lst out := by unfold lst; rw [jI (by omega)]
      rw [e2] at this
      have := (h.wv _ (mt h0)).le
      omega
  · rw [List.length_append, List.length_singleton] at hj
    by_cases e : j + 1 < out.length
    · rw [g9 (by omega), g9 e]; exact h.lk j e
    · have e1 : j + 1 = out.length := by omega
      rw [g9 (by omega), e1, mA]
      have := (hl (by omega)).2
      unfold lst at this
      rwa [show out.length - 1 = j by omega] at this
  · rcases List.mem_append.1 hx with hx | hx
    · exact h.inst x hx
    · rw [List.mem_singleton.1 hx]; exact hi
theorem NF.setl (h : NF eqf same red out) (h0 : 0 < out.length) {T : GR} {o : Bool} (hT : Tm T) (hlt : tk (lst out).iv.lo < tk T) : NF eqf same red (out.set (out.length - 1) ⟨⟨(lst out).iv.lo, T, (lst out).iv.openLo, o⟩, (lst out).f⟩) := by
  obtain ⟨q, z, rfl⟩ : ∃ q z, out = q ++ [z] := ⟨out.dropLast, out.getLast (by intro e; rw [e] at h0; simp at h0), (List.dropLast_concat_getLast _).symm⟩
  rw [nO] at hlt ⊢
  rw [set_last]
  have hz := h.wv z (by simp)
  have hq : NF eqf same red q := by
    have ho := h.ord
    rw [List.pairwise_append] at ho
    refine ⟨fun x hx => h.wv x (List.mem_append_left _ hx), ho.1, fun j hj => ?_, fun x hx => h.inst x (List.mem_append_left _ hx)⟩
    have := h.lk j (by simp; omega)
    rwa [g9 (by omega), g9 hj] at this
  refine hq.snoc ⟨⟨hz.1.1, hT⟩, Nat.le_of_lt hlt, fun e => ?_⟩ (fun hq0 => ?_) fun e => ?_
  · have e : tk z.iv.lo = tk T := e
    omega
  · have ho := h.ord
    rw [List.pairwise_append] at ho
    refine ⟨ho.2.2 _ (mt hq0) z (by simp), ?_⟩
    have := h.lk (q.length - 1) (by simp; omega)
    rw [g9 (by omega), show q.length - 1 + 1 = q.length by omega, mA] at this
    exact this
  · have e : z.iv.lo = T := e
    rw [e] at hlt; omega
theorem b_pt (hg : (gt A i).gap = false) (hp : (gt A i).til = (gt A i).frm) (hh : (gt A i).has = true) :
    (mgd same A i → dT eqf same red A out i = out.set (out.length - 1) ⟨⟨(lst out).iv.lo, (lst out).iv.hi, (lst out).iv.openLo, false⟩, (lst out).f⟩) ∧
    (¬ mgd same A i → lft same A i → dT eqf same red A out i = out) ∧
    (¬ mgd same A i → ¬ lft same A i → dT eqf same red A out i = out ++ [⟨⟨(gt A i).frm, (gt A i).frm, false, false⟩, red (gt A i).f (gt A i).frm⟩]) := by
  have hmb : ¬ mgd same A i → ((decide (((i : Nat) : Int) > 0) && (gt A (i - 1)).has) && same (gt A (i - 1)).f (gt A i).f (gt A i).frm) = false := fun m => by
    cases hq : ((decide (((i : Nat) : Int) > 0) && (gt A (i - 1)).has) && same (gt A (i - 1)).f (gt A i).f (gt A i).frm) with
    | false => rfl
    | true =>
      simp only [Bool.and_eq_true, decide_eq_true_eq] at hq
      exact absurd ⟨hh, by omega, hq.1.2, hq.2⟩ m
  refine ⟨fun ⟨_, m2, m3, m4⟩ => ?_, fun m l => ?_, fun m l => ?_⟩
  · unfold dT
    rw [hh, Bool.not_true, cond_false, hg, cond_false, decide_eq_true (by omega : ((i : Nat) : Int) > 0), m3, m4, Bool.and_self, Bool.and_self, cond_true]
    rfl
  · unfold dT
    rw [hh, Bool.not_true, cond_false, hg, cond_false, hmb m, cond_false, decide_eq_true (by have := l.1; omega : ((i + 1 : Nat) : Int) < ((A.length : Nat) : Int)), l.2.1, l.2.2]
    rfl
  · have hlb : (decide (((i + 1 : Nat) : Int) < ((A.length : Nat) : Int)) && (gt A (i + 1)).has && same (gt A (i + 1)).f (gt A i).f (gt A i).frm) = false := by
      cases hq : (decide (((i + 1 : Nat) : Int) < ((A.length : Nat) : Int)) && (gt A (i + 1)).has && same (gt A (i + 1)).f (gt A i).f (gt A i).frm) with
      | false => rfl
      | true =>
        simp only [Bool.and_eq_true, decide_eq_true_eq] at hq
        exact absurd ⟨by omega, hq.1.2, hq.2⟩ l
    unfold dT
    rw [hh, Bool.not_true, cond_false, hg, cond_false, hmb m, cond_false, hlb, hp]
    rfl
theorem b_gap (hg : (gt A (i + 1)).gap = true) (hf : (gt A (i + 1)).frm = (gt A i).frm) (hh : (gt A (i + 1)).has = true) :
    (mgd same A i → eqf (gt A (i - 1)).f (gt A (i + 1)).f = true → dT eqf same red A out (i + 1) = out.set (out.length - 1) ⟨⟨(lst out).iv.lo, (gt A (i + 1)).til, (lst out).iv.openLo, true⟩, (lst out).f⟩) ∧
    (mgd same A i → eqf (gt A (i - 1)).f (gt A (i + 1)).f = false → dT eqf same red A out (i + 1) = out ++ [⟨⟨(gt A i).frm, (gt A (i + 1)).til, true, true⟩, (gt A (i + 1)).f⟩]) ∧
    (¬ mgd same A i → dT eqf same red A out (i + 1) = out ++ [⟨⟨(gt A i).frm, (gt A (i + 1)).til, !((gt A i).has && same (gt A (i + 1)).f (gt A i).f (gt A i).frm), true⟩, (gt A (i + 1)).f⟩]) := by
  have hi2 : (decide (((i + 1 : Nat) : Int) ≥ 2)) = decide (0 < i) := decide_eq_decide.2 (by omega)
  refine ⟨fun ⟨m1, m2, m3, m4⟩ hq => ?_, fun ⟨m1, m2, m3, m4⟩ hq => ?_, fun m => ?_⟩
  · unfold dT
    rw [hh, Bool.not_true, cond_false, hg, cond_true, hi2, decide_eq_true m2, show i + 1 - 2 = i - 1 by omega, Nat.add_sub_cancel, m3, m1, hf, m4, hq]
    rfl
  · unfold dT
    rw [hh, Bool.not_true, cond_false, hg, cond_true, hi2, decide_eq_true m2, show i + 1 - 2 = i - 1 by omega, Nat.add_sub_cancel, m3, m1, hf, m4, hq]
    simp
  · have hmb : ((((decide (((i + 1 : Nat) : Int) ≥ 2)) && (gt A (i + 1 - 2)).has) && (gt A (i + 1 - 1)).has) && same (gt A (i + 1 - 2)).f (gt A (i + 1 - 1)).f (gt A (i + 1)).frm) = false := by
      cases hq : ((((decide (((i + 1 : Nat) : Int) ≥ 2)) && (gt A (i + 1 - 2)).has) && (gt A (i + 1 - 1)).has) && same (gt A (i + 1 - 2)).f (gt A (i + 1 - 1)).f (gt A (i + 1)).frm) with
      | false => rfl
      | true =>
        rw [hi2, show i + 1 - 2 = i - 1 by omega, Nat.add_sub_cancel, hf] at hq
        simp only [Bool.and_eq_true, decide_eq_true_eq] at hq
        exact absurd ⟨hq.1.2, hq.1.1.1, hq.1.1.2, hq.2⟩ m
    unfold dT
    rw [hh, Bool.not_true, cond_false, hg, cond_true, hmb, Bool.false_and, cond_false]
    cases hp : (gt A (i + 1 - 1)).has with
    | false => rw [show (gt A i).has = false from hp, hf]; simp
    | true =>
      rw [hp, Bool.and_true] at hmb
      rw [hmb, show (gt A i).has = true from hp, hf]; simp
omit [Inhabited α] in
theorem mq {y z : U α} (h : z ∈ out.set (out.length - 1) y) : z ∈ out ∨ z = y := List.mem_or_eq_of_mem_set h
theorem ml {D : α → Prop} (R : Ru D same red) (heq : ∀ a b, eqf a b = true → a = b) (hA : Turns tk A) (hT : ∀ i, i < A.length → Tm (gt A i).frm ∧ Tm (gt A i).til) (hD : ∀ i, i < A.length → (gt A i).has = true → D (gt A i).f) :
    ∀ i, i ≤ A.length → NF eqf same red (hQ (dT eqf same red A) [] i) ∧ ∀ x ∈ hQ (dT eqf same red A) [] i, D x.f
  | 0, _ => ⟨⟨fun _ h => (by cases h), List.Pairwise.nil, fun i h => absurd h (Nat.not_lt_zero _), fun _ h => (by cases h)⟩, fun _ h => by cases h⟩
  | i + 1, hi => by
    obtain ⟨hN, hDo⟩ := ml R heq hA hT hD i (by omega)
    obtain ⟨_, hE, hO⟩ := qm (same := same) (red := red) heq hA i (by omega)
    show NF eqf same red (dT eqf same red A (hQ (dT eqf same red A) [] i) i) ∧ ∀ x ∈ dT eqf same red A (hQ (dT eqf same red A) [] i) i, D x.f
    generalize hQ (dT eqf same red A) [] i = out at *
    have hlD : 0 < out.length → D (lst out).f := fun h0 => hDo _ (mt h0)
    cases hh : (gt A i).has with
    | false =>
      have : dT eqf same red A out i = out := by unfold dT; rw [hh]; rfl
      rw [this]; exact ⟨hN, hDo⟩
    | true =>
      have hDi := hD i hi hh
      rcases Nat.mod_two_eq_zero_or_one i with he | ho
      · 
        have hE := hE he
        have hg := hA.even hi he
        have hp := hA.pt i hi hg
        have hTi := (hT i hi).1
        obtain ⟨b1, b2, b3⟩ := b_pt (eqf := eqf) (same := same) (red := red) (out := out) hg hp hh
        by_cases m : mgd same A i
        · obtain ⟨m1, m2, m3, m4⟩ := m
          obtain ⟨a1, a2, a3, a4, a5⟩ := hE.1 ⟨m2, m3⟩
          rw [b1 ⟨m1, m2, m3, m4⟩]
          refine ⟨hN.setl a1 (by rw [a2]; exact (hT (i - 1) (by omega)).2) a4, fun x hx => ?_⟩
          rcases mq hx with hx | rfl
          · exact hDo x hx
          · exact hlD a1
        · by_cases l : lft same A i
          · rw [b2 m l]; exact ⟨hN, hDo⟩
          · rw [b3 m l]
            refine ⟨hN.snoc ⟨⟨hTi, hTi⟩, Nat.le_refl _, fun _ => ⟨rfl, rfl⟩⟩ (fun h0 => ?_) (fun _ => R.redR _ hTi _ hDi), fun x hx => ?_⟩
            · have hf2 : lI (⟨(gt A i).frm, (gt A i).frm, false, false⟩ : Iv) = 2 * tk (gt A i).frm := by unfold lI; simp
              by_cases c : 0 < i ∧ (gt A (i - 1)).has = true
              · obtain ⟨a1, a2, a3, a4, a5⟩ := hE.1 c
                have ea := hA.adj (i - 1) (by omega)
                rw [show i - 1 + 1 = i by omega] at ea
                rw [← ea] at a2
                refine ⟨?_, fun e => ⟨fun e2 => ?_, fun e2 => ⟨fun e3 => ?_, fun _ _ => ?_⟩⟩⟩
                · rw [hf2]; unfold lm; rw [a3, a2, cond_true]; omega
                · rw [e2] at a4; omega
                · rw [a3] at e3; cases e3
                · show same (lst out).f (red (gt A i).f (gt A i).frm) (gt A i).frm = false
                  cases hs : same (lst out).f (red (gt A i).f (gt A i).frm) (gt A i).frm with
                  | false => rfl
                  | true =>
                    have := R.trans _ hTi _ _ _ (hlD h0) (R.redD _ hTi _ hDi) hDi hs (R.redS _ hTi _ hDi)
                    rw [a5] at this
                    exact absurd ⟨hh, c.1, c.2, this⟩ m
              · rcases hE.2 c with h1 | ⟨h1, h2⟩
                · omega
                · have q1 := hA.lt (i - 1) (by omega) (hA.odd (by omega) (by omega))
                  have q2 := hA.adj (i - 1) (by omega)
                  rw [show i - 1 + 1 = i by omega] at q2
                  rw [← q2] at q1
                  have := lst_b (lst out).iv
                  refine ⟨by rw [hf2]; omega, fun e => ?_⟩
                  have e : (lst out).iv.hi = (gt A i).frm := e
                  rw [e] at h2; omega
            · rcases List.mem_append.1 hx with hx | hx
              · exact hDo x hx
              · rw [List.mem_singleton.1 hx]; exact R.redD _ hTi _ hDi
      · 
        obtain ⟨i, rfl⟩ : ∃ j, i = j + 1 := ⟨i - 1, by omega⟩
        have hO := hO ho
        rw [Nat.add_sub_cancel] at hO
        have hg := hA.odd (by omega : i + 1 < A.length) ho
        have hgp := hA.even (by omega : i < A.length) (by omega)
        have hpp := hA.pt i (by omega) hgp
        have ea := hA.adj i (by omega)
        rw [hpp] at ea
        have hlt := hA.lt (i + 1) (by omega) hg
        rw [ea] at hlt
        have hTi := (hT i (by omega)).1
        have hTt := (hT (i + 1) (by omega)).2
        have hwv : ∀ b : Bool, Wv (⟨(gt A i).frm, (gt A (i + 1)).til, b, true⟩ : Iv) := fun b => ⟨⟨hTi, hTt⟩, Nat.le_of_lt hlt, fun e => by have e : tk (gt A i).frm = tk (gt A (i + 1)).til := e; omega⟩
        have hni : (gt A i).frm = (gt A (i + 1)).til → red (gt A (i + 1)).f (gt A i).frm = (gt A (i + 1)).f := fun e => by rw [e] at hlt; omega
        obtain ⟨b1, b2, b3⟩ := b_gap (eqf := eqf) (same := same) (red := red) (out := out) hg ea hh
        have hmem : ∀ b : Bool, ∀ x ∈ out ++ [(⟨⟨(gt A i).frm, (gt A (i + 1)).til, b, true⟩, (gt A (i + 1)).f⟩ : U α)], D x.f := fun b x hx => by
          rcases List.mem_append.1 hx with hx | hx
          · exact hDo x hx
          · rw [List.mem_singleton.1 hx]; exact hDi
        have hlb := lst_b (lst out).iv
        by_cases m : mgd same A i
        · obtain ⟨a1, a2, a3, a4, a5⟩ := hO.1 m
          cases hq : eqf (gt A (i - 1)).f (gt A (i + 1)).f with
          | true =>
            rw [b1 m hq]
            refine ⟨hN.setl a1 hTt (by rw [a2] at a4; omega), fun x hx => ?_⟩
            rcases mq hx with hx | rfl
            · exact hDo x hx
            · exact hlD a1
          | false =>
            rw [b2 m hq]
            refine ⟨hN.snoc (hwv true) (fun h0 => ⟨?_, fun e => ⟨fun e2 => ?_, fun e2 => ⟨fun _ => ?_, fun e3 => ?_⟩⟩⟩) hni, hmem true⟩
            · unfold lm lI; rw [a3, a2]; simp <;> omega
            · rw [e2] at a4; omega
            · show eqf (lst out).f (gt A (i + 1)).f = false
              rw [a5]; exact hq
            · rw [a3] at e3; cases e3
        · rw [b3 m]
          by_cases c : (gt A i).has = false ∨ lft same A i
          · have hE := hO.2.1 m c
            have hle := hE.le hA (by omega : i < A.length)
            cases hpb : ((gt A i).has && same (gt A (i + 1)).f (gt A i).f (gt A i).frm) with
            | false =>
              refine ⟨hN.snoc (hwv _) (fun h0 => ?_) hni, hmem _⟩
              have hle : tk (lst out).iv.hi ≤ tk (gt A i).frm := hle.resolve_left (by omega)
              refine ⟨by unfold lI; simp only [Bool.not_false, cond_true]; omega, fun e => ⟨fun e2 => ?_, fun e2 => ⟨fun e3 => ?_, fun _ e3 => (by cases e3)⟩⟩⟩
              · by_cases c2 : 0 < i ∧ (gt A (i - 1)).has = true
                · have := (hE.1 c2).2.2.2.1
                  rw [e2] at this; omega
                · rcases hE.2 c2 with h1 | ⟨h1, h2⟩
                  · omega
                  · have q1 := hA.lt (i - 1) (by omega) (hA.odd (by omega) (by omega))
                    have q2 := hA.adj (i - 1) (by omega)
                    rw [show i - 1 + 1 = i by omega] at q2
                    rw [← q2] at q1
                    have e : (lst out).iv.hi = (gt A i).frm := e
                    rw [e] at h2; omega
              · by_cases c2 : 0 < i ∧ (gt A (i - 1)).has = true
                · rw [(hE.1 c2).2.2.1] at e3; cases e3
                · rcases hE.2 c2 with h1 | ⟨h1, h2⟩
                  · omega
                  · have q1 := hA.lt (i - 1) (by omega) (hA.odd (by omega) (by omega))
                    have q2 := hA.adj (i - 1) (by omega)
                    rw [show i - 1 + 1 = i by omega] at q2
                    rw [← q2] at q1
                    have e : (lst out).iv.hi = (gt A i).frm := e
                    rw [e] at h2; omega
            | true =>
              rw [Bool.and_eq_true] at hpb
              have hDp := hD i (by omega) hpb.1
              refine ⟨hN.snoc (hwv _) (fun h0 => ?_) hni, hmem _⟩
              have hf2 : lI (⟨(gt A i).frm, (gt A (i + 1)).til, !true, true⟩ : Iv) = 2 * tk (gt A i).frm := by unfold lI; simp
              by_cases c2 : 0 < i ∧ (gt A (i - 1)).has = true
              · obtain ⟨a1, a2, a3, a4, a5⟩ := hE.1 c2
                have q2 := hA.adj (i - 1) (by omega)
                rw [show i - 1 + 1 = i by omega] at q2
                rw [← q2] at a2
                refine ⟨by rw [hf2]; unfold lm; rw [a3, a2, cond_true]; omega, fun e => ⟨fun e2 => ?_, fun e2 => ⟨fun e3 => ?_, fun _ _ => ?_⟩⟩⟩
                · rw [e2] at a4; omega
                · rw [a3] at e3; cases e3
                · show same (lst out).f (gt A (i + 1)).f (gt A i).frm = false
                  cases hs : same (lst out).f (gt A (i + 1)).f (gt A i).frm with
                  | false => rfl
                  | true =>
                    have := R.trans _ hTi _ _ _ (hlD h0) hDi hDp hs hpb.2
                    rw [a5] at this
                    exact absurd ⟨hpb.1, c2.1, c2.2, this⟩ m
              · rcases hE.2 c2 with h1 | ⟨h1, h2⟩
                · omega
                · have q1 := hA.lt (i - 1) (by omega) (hA.odd (by omega) (by omega))
                  have q2 := hA.adj (i - 1) (by omega)
                  rw [show i - 1 + 1 = i by omega] at q2
                  rw [← q2] at q1
                  refine ⟨by rw [hf2]; omega, fun e => ?_⟩
                  have e : (lst out).iv.hi = (gt A i).frm := e
                  rw [e] at h2; omega
          · have hpi : (gt A i).has = true := by cases hx : (gt A i).has with
              | true => rfl
              | false => exact absurd (.inl hx) c
            have hnl : ¬ lft same A i := fun l => c (.inr l)
            have hDp := hD i (by omega) hpi
            obtain ⟨k1, k2, k3, k4, k5⟩ := hO.2.2 m hpi hnl
            have hsf : same (gt A (i + 1)).f (gt A i).f (gt A i).frm = false := by
              cases hs : same (gt A (i + 1)).f (gt A i).f (gt A i).frm with
              | false => rfl
              | true => exact absurd ⟨by omega, hh, hs⟩ hnl
            rw [hsf, Bool.and_false]
            refine ⟨hN.snoc (hwv _) (fun h0 => ⟨?_, fun e => ⟨fun _ => ?_, fun e2 => absurd (k2.trans k3.symm) e2⟩⟩) hni, hmem _⟩
            · unfold lm lI; rw [k4, k3]; simp <;> omega
            · show same (gt A (i + 1)).f (lst out).f (gt A i).frm = false
              cases hs : same (gt A (i + 1)).f (lst out).f (gt A i).frm with
              | false => rfl
              | true =>
                rw [k5] at hs
                have := R.trans _ hTi _ _ _ hDi (R.redD _ hTi _ hDp) hDp hs (R.redS _ hTi _ hDp)
                rw [this] at hsf; cases hsf
end
end Go.Sx
