/- A part of the proof that the law PiecesRefines answers true at every input and leaves its arguments as they were. -/
import Derived.Test.YtnkaneggnjallaaGreatDoorM2
import Derived.Test.YtnkaneggnjallaaGreatDoorGarith
set_option linter.unusedVariables false
set_option linter.unusedSimpArgs false
namespace Go.Sx
def nxP {S R : Type} (I : S → Prop) (Q : R → Prop) : Nx S R → Prop
  | .go s => I s
  | .out s => I s
  | .ret r => Q r
def smP {S R : Type} (I : S → Prop) (Q : R → Prop) : S ⊕ R → Prop
  | .inl s => I s
  | .inr r => Q r
theorem oA {S R : Type} {B : S → Nx S R} {I : S → Prop} {Q : R → Prop} (h : ∀ s, I s → nxP I Q (B s)) : ∀ (n : Nat) (s : S), I s → smP I Q (bQ B n s)
  | 0, s, hs => hs
  | n + 1, s, hs => by
    have h1 := h s hs
    unfold bQ
    revert h1
    cases B s with
    | go s' => exact fun h1 => oA h n s' h1
    | out s' => exact fun h1 => h1
    | ret r => exact fun h1 => h1
def Fs (f : Qd) : Prop := f = default ∨ (∃ s, f = ag s) ∨ ∃ c : Int, f = aA (aj (Int.tmod c 4))
def pUn (t : GR) (f : Qd) : U Qd := ⟨⟨t, t, false, false⟩, f⟩
def bPt (s : Stp) (before : Qd) (t : GR) : List (U Qd) :=
  bif ((((s.point % 4) : Nat) : Int) == ((1 : Nat) : Int)) then [pUn t (ag s)]
  else bif ((((s.point % 4) : Nat) : Int) == ((2 : Nat) : Int)) then [pUn t before]
  else bif ((((s.point % 4) : Nat) : Int) == ((3 : Nat) : Int)) then [pUn t (aA (aj (Int.tmod s.c0 4)))]
  else []
def bPs (s : Stp) (before : Qd) (t : GR) (taken : Bool) : List (U Qd) :=
  bif taken then [] else bif ((((s.piece % 4) : Nat) : Int) == ((2 : Nat) : Int)) then [] else bPt s before t
def bGp (s : Stp) (t t' : GR) (taken : Bool) : List (U Qd) :=
  bif ((((s.piece % 4) : Nat) : Int) != ((0 : Nat) : Int)) then [⟨⟨t, t', !(((((s.piece % 4) : Nat) : Int) == ((2 : Nat) : Int)) && !taken), !((((s.piece % 4) : Nat) : Int) == ((3 : Nat) : Int))⟩, ag s⟩] else []
theorem pv (l : List Stp) (out : List (U Qd)) (a : Nat) (root taken : Bool) (i : Nat) (before : Qd) :
    be l out a root taken i before =
      bif ((decide (((i : Nat) : Int) < ((l.length : Nat) : Int))) && (decide (((i : Nat) : Int) < 8))) then
        .go (out ++ (bPs (gt l i) before (ad ((a : Nat) : Int) root) taken ++ bGp (gt l i) (ad ((a : Nat) : Int) root) (ad (((a + 3) + ((gt l i).length % 3) : Nat) : Int) ((gt l i).root)) taken),
          ((a + 3) + ((gt l i).length % 3)), (gt l i).root, ((((gt l i).piece % 4 : Nat) : Int) == ((3 : Nat) : Int)), (i + 1), ag (gt l i))
      else .out (out, a, root, taken, i, before) := by
  unfold be
  congr 1
  generalize gt l i = s
  unfold bPs bGp bPt pUn
  cases e2 : ((((s.piece % 4) : Nat) : Int) == ((2 : Nat) : Int)) <;> cases taken <;>
    simp only [Bool.not_true, Bool.not_false, Bool.and_true, Bool.and_false, cond_true, cond_false, Bool.false_eq_true] <;>
    cases ((((s.piece % 4) : Nat) : Int) != ((0 : Nat) : Int)) <;> simp only [cond_true, cond_false, List.append_nil, List.nil_append] <;>
    cases ((((s.point % 4) : Nat) : Int) == ((1 : Nat) : Int)) <;> simp only [cond_true, cond_false, List.append_nil, List.nil_append, List.append_assoc] <;>
    cases ((((s.point % 4) : Nat) : Int) == ((2 : Nat) : Int)) <;> simp only [cond_true, cond_false, List.append_nil, List.nil_append, List.append_assoc] <;>
    cases ((((s.point % 4) : Nat) : Int) == ((3 : Nat) : Int)) <;> simp only [cond_true, cond_false, List.append_nil, List.nil_append, List.append_assoc]
theorem bUs_ok {taken p0 p2 p3 : Bool} {t t' : GR} {f : Qd} {P : List (U Qd)} (ht : Tm t) (ht' : Tm t') (hlt : tk t < tk t') (hf : Fs f)
    (hP : P = [] ∨ (taken = false ∧ p2 = false ∧ ∃ g, Fs g ∧ P = [pUn t g])) :
    (∀ x ∈ P ++ (bif p0 then [(⟨⟨t, t', !(p2 && !taken), !p3⟩, f⟩ : U Qd)] else []), Wv x.iv ∧ Fs x.f ∧ lm x.iv < 2 * tk t' + (bif p3 then 1 else 0) ∧ (2 * tk t + (bif taken then 1 else 0) : Int) ≤ lI x.iv) ∧
    (P ++ (bif p0 then [(⟨⟨t, t', !(p2 && !taken), !p3⟩, f⟩ : U Qd)] else [])).Pairwise fun a b => Dj a.iv b.iv := by
  have hg : ∀ x ∈ (bif p0 then [(⟨⟨t, t', !(p2 && !taken), !p3⟩, f⟩ : U Qd)] else []), x = ⟨⟨t, t', !(p2 && !taken), !p3⟩, f⟩ := by
    cases p0
    · intro x hx; cases hx
    · intro x hx; exact List.mem_singleton.1 hx
  have gok : Wv (⟨t, t', !(p2 && !taken), !p3⟩ : Iv) := ⟨⟨ht, ht'⟩, Nat.le_of_lt hlt, fun e => by have e : tk t = tk t' := e; omega⟩
  have g1 : lm (⟨t, t', !(p2 && !taken), !p3⟩ : Iv) < 2 * tk t' + (bif p3 then 1 else 0) := by
    unfold lm; cases p3 <;> simp <;> omega
  have g2 : (2 * tk t + (bif taken then 1 else 0) : Int) ≤ lI (⟨t, t', !(p2 && !taken), !p3⟩ : Iv) := by
    unfold lI; cases p2 <;> cases taken <;> simp <;> omega
  rcases hP with rfl | ⟨h1, h2, g, hgf, rfl⟩
  · rw [List.nil_append]
    refine ⟨fun x hx => by rw [hg x hx]; exact ⟨gok, hf, g1, g2⟩, ?_⟩
    cases p0
    · exact List.Pairwise.nil
    · exact List.pairwise_singleton _ _
  · subst h1 h2
    have hpw : Wv (pUn t g).iv := ⟨⟨ht, ht⟩, Nat.le_refl _, fun _ => ⟨rfl, rfl⟩⟩
    have pl : lm (pUn t g).iv = 2 * tk t := by unfold lm pUn; simp
    have pf : lI (pUn t g).iv = 2 * tk t := by unfold lI pUn; simp
    refine ⟨fun x hx => ?_, ?_⟩
    · rcases List.mem_append.1 hx with hx | hx
      · rw [List.mem_singleton.1 hx]
        refine ⟨hpw, hgf, ?_, ?_⟩
        · rw [pl]; cases p3 <;> simp <;> omega
        · rw [pf]; simp <;> omega
      · rw [hg x hx]; exact ⟨gok, hf, g1, g2⟩
    · rw [List.singleton_append, List.pairwise_cons]
      refine ⟨fun y hy => ?_, ?_⟩
      · rw [hg y hy]
        refine .inl ?_
        rw [pl]
        unfold lI; simp <;> omega
      · cases p0
        · exact List.Pairwise.nil
        · exact List.pairwise_singleton _ _
def BI (s : (List (U Qd)) × Nat × Bool × Bool × Nat × Qd) : Prop :=
  s.2.1 ≤ 5 * s.2.2.2.2.1 ∧ s.2.2.2.2.1 ≤ 8 ∧ Fs s.2.2.2.2.2 ∧ (∀ x ∈ s.1, Wv x.iv ∧ Fs x.f ∧ lm x.iv < ((2 * (10 * s.2.1 + (bif s.2.2.1 then 14 else 0)) + (bif s.2.2.2.1 then 1 else 0) : Nat) : Int)) ∧ s.1.Pairwise fun a b => Dj a.iv b.iv
theorem qR (l : List Stp) (s : (List (U Qd)) × Nat × Bool × Bool × Nat × Qd) (h : BI s) :
    nxP BI (fun _ => False) (be l s.1 s.2.1 s.2.2.1 s.2.2.2.1 s.2.2.2.2.1 s.2.2.2.2.2) := by
  obtain ⟨out, a, root, taken, i, before⟩ := s
  obtain ⟨h1, h2, h3, h4, h5⟩ := h
  simp only at h1 h2 h3 h4 h5
  rw [pv]
  cases hc : ((decide (((i : Nat) : Int) < ((l.length : Nat) : Int))) && (decide (((i : Nat) : Int) < 8))) with
  | false => exact ⟨h1, h2, h3, h4, h5⟩
  | true =>
    rw [cond_true]
    rw [Bool.and_eq_true, decide_eq_true_eq, decide_eq_true_eq] at hc
    have hi : i < 8 := by omega
    have hm : (gt l i).length % 3 < 3 := Nat.mod_lt _ (by decide)
    have e1 := tk_at a root (by omega)
    have e2 := tk_at ((a + 3) + ((gt l i).length % 3)) (gt l i).root (by omega)
    have hlt : tk (ad ((a : Nat) : Int) root) < tk (ad (((a + 3) + ((gt l i).length % 3) : Nat) : Int) ((gt l i).root)) := by
      rw [e1, e2]; cases root <;> cases (gt l i).root <;> simp <;> omega
    have hF : Fs (ag (gt l i)) := .inr (.inl ⟨_, rfl⟩)
    have hP : bPs (gt l i) before (ad ((a : Nat) : Int) root) taken = [] ∨ (taken = false ∧ ((((gt l i).piece % 4 : Nat) : Int) == ((2 : Nat) : Int)) = false ∧ ∃ g, Fs g ∧ bPs (gt l i) before (ad ((a : Nat) : Int) root) taken = [pUn (ad ((a : Nat) : Int) root) g]) := by
      unfold bPs bPt
      cases taken
      · rw [cond_false]
        cases ((((gt l i).piece % 4 : Nat) : Int) == ((2 : Nat) : Int))
        · rw [cond_false]
          cases ((((gt l i).point % 4 : Nat) : Int) == ((1 : Nat) : Int))
          · rw [cond_false]
            cases ((((gt l i).point % 4 : Nat) : Int) == ((2 : Nat) : Int))
            · rw [cond_false]
              cases ((((gt l i).point % 4 : Nat) : Int) == ((3 : Nat) : Int))
              · exact .inl rfl
              · exact .inr ⟨rfl, rfl, _, .inr (.inr ⟨_, rfl⟩), rfl⟩
            · exact .inr ⟨rfl, rfl, _, h3, rfl⟩
          · exact .inr ⟨rfl, rfl, _, hF, rfl⟩
        · exact .inl rfl
      · exact .inl rfl
    obtain ⟨k1, k2⟩ := bUs_ok (p0 := ((((gt l i).piece % 4 : Nat) : Int) != ((0 : Nat) : Int))) (p3 := ((((gt l i).piece % 4 : Nat) : Int) == ((3 : Nat) : Int))) (tm_at a root (by omega)) (tm_at ((a + 3) + ((gt l i).length % 3)) (gt l i).root (by omega)) hlt hF hP
    refine ⟨?_, ?_, hF, fun x hx => ?_, ?_⟩
    · show (a + 3) + ((gt l i).length % 3) ≤ 5 * (i + 1); omega
    · show i + 1 ≤ 8; omega
    · show Wv x.iv ∧ Fs x.f ∧ lm x.iv < ((2 * (10 * ((a + 3) + ((gt l i).length % 3)) + (bif (gt l i).root then 14 else 0)) + (bif ((((gt l i).piece % 4 : Nat) : Int) == ((3 : Nat) : Int)) then 1 else 0) : Nat) : Int)
      rw [e1, e2] at hlt
      rcases List.mem_append.1 hx with hx | hx
      · obtain ⟨a1, a2, a3⟩ := h4 x hx
        refine ⟨a1, a2, ?_⟩
        clear h4 k1 k2 hP e1 e2 h5
        generalize ((((gt l i).piece % 4 : Nat) : Int) == ((3 : Nat) : Int)) = p3 at *
        generalize (gt l i).root = rt at *
        cases root <;> cases taken <;> cases rt <;> cases p3 <;> simp only [cond_true, cond_false] at * <;> omega
      · obtain ⟨a1, a2, a3, _⟩ := k1 x hx
        rw [e2] at a3
        refine ⟨a1, a2, ?_⟩
        clear h4 k1 k2 hP e1 e2 h5
        generalize ((((gt l i).piece % 4 : Nat) : Int) == ((3 : Nat) : Int)) = p3 at *
        generalize (gt l i).root = rt at *
        cases rt <;> cases p3 <;> simp only [cond_true, cond_false] at * <;> omega
    · show (out ++ _).Pairwise _
      rw [List.pairwise_append]
      refine ⟨h5, k2, fun x hx y hy => .inl ?_⟩
      obtain ⟨_, _, a3⟩ := h4 x hx
      obtain ⟨_, _, _, a4⟩ := k1 y hy
      rw [e1] at a4
      clear h4 k1 k2 hP e1 e2 h5 hlt
      cases root <;> cases taken <;> simp only [cond_true, cond_false] at * <;> omega
theorem kW (l : List Stp) : (∀ x ∈ aw l, Wv x.iv ∧ Fs x.f) ∧ (aw l).Pairwise fun a b => Dj a.iv b.iv := by
  have h := oA (R := List (U Qd)) (Q := fun _ => False) (B := fun s => be l s.1 s.2.1 s.2.2.1 s.2.2.2.1 s.2.2.2.2.1 s.2.2.2.2.2) (I := BI) (qR l) ((8 - 0) + 1) ([], 0, false, false, 0, default)
    ⟨by decide, by decide, .inl rfl, fun x hx => (by cases hx), List.Pairwise.nil⟩
  have e : ∃ s, BI s ∧ aw l = s.1 := by
    unfold aw
    revert h
    generalize bQ _ _ _ = X
    intro h
    match X, h with
    | .inl s, h => exact ⟨s, h, rfl⟩
  obtain ⟨s, hs, e⟩ := e
  rw [e]
  exact ⟨fun x hx => ⟨(hs.2.2.2.1 x hx).1, (hs.2.2.2.1 x hx).2.1⟩, hs.2.2.2.2⟩
end Go.Sx
namespace Go.Sx
theorem foldl_cons {α β : Type} (g : α → β) : ∀ (l : List α) (o : List β), l.foldl (fun o i => g i :: o) o = (l.map g).reverse ++ o
  | [], o => rfl
  | x :: l, o => by rw [List.foldl_cons, foldl_cons g l]; simp
theorem lV {α β : Type} (g : α → β) : ∀ (l : List α) (o : List β), l.foldl (fun o i => o ++ [g i]) o = o ++ l.map g
  | [], o => by simp
  | x :: l, o => by rw [List.foldl_cons, lV g l]; simp
theorem iR {α : Type} [Inhabited α] {z : α} {u : List (U α)} {E : List GR} {i : Nat} (h : i < (f5 z u E).length) : gt (f5 z u E) i = jK u (gt (eR z E) i) := by
  have h2 : i < (eR z E).length := by simpa [f5] using h
  have : gt ((eR z E).map (jK u)) i = jK u (gt (eR z E) i) := by
    rw [jI (by simpa using h2), jI h2, List.getElem_map]
  exact this
theorem k6 {α : Type} [Inhabited α] {z : α} {u : List (U α)} {E : List GR} (hE : Ts E) : Turns tk (f5 z u E) := by
  have hl : (f5 z u E).length = (eR z E).length := by unfold f5; rw [List.length_map]
  have ok : ∀ {i}, i < (f5 z u E).length → _ := fun {i} hi => mS (z := z) hE (a := gt (eR z E) i) (by rw [jI (hl ▸ hi)]; exact List.getElem_mem _)
  refine ⟨fun i hi => ?_, fun i hi => ?_, fun i hi hg => ?_, fun i hi hg => ?_⟩
  · rw [iR hi, (eW u _).2.1]; exact (mT i (hl ▸ hi)).1
  · rw [iR hi, iR (by omega : i < (f5 z u E).length), (eW u _).1, (eW u _).2.2]
    exact (mT i (by omega)).2 (hl ▸ hi)
  · rw [iR hi] at hg ⊢
    rw [(eW u _).2.1] at hg
    rw [(eW u _).1, (eW u _).2.2]
    exact (ok hi).2.2.1 hg
  · rw [iR hi] at hg ⊢
    rw [(eW u _).2.1] at hg
    rw [(eW u _).1, (eW u _).2.2]
    exact (ok hi).2.2.2 hg
end Go.Sx
namespace Go.Sx
def fU (a : GI) : Int := bif a.neg then -(a.mag : Int) else (a.mag : Int)
def IOk (a : GI) : Prop := a.mag = 0 → a.neg = false
theorem kq (s : Bool) (m : Nat) : IOk (aB s m) := by
  intro h
  have h : m = 0 := h
  subst h
  cases s <;> rfl
theorem fS (s : Bool) (m : Nat) : fU (aB s m) = bif s then -(m : Int) else (m : Int) := by
  unfold fU aB
  by_cases h : m = 0
  · subst h; cases s <;> rfl
  · cases s <;> simp [h]
theorem ival_inj {a b : GI} (ha : IOk a) (hb : IOk b) (h : fU a = fU b) : a = b := by
  obtain ⟨s, m⟩ := a
  obtain ⟨r, n⟩ := b
  unfold fU at h
  unfold IOk at ha hb
  simp only at ha hb h
  cases s <;> cases r <;> simp only [cond_true, cond_false] at h
  · have : m = n := by omega
    rw [this]
  · have h1 : m = 0 := by omega
    have h2 : n = 0 := by omega
    exact absurd (hb h2) (by decide)
  · have h1 : m = 0 := by omega
    exact absurd (ha h1) (by decide)
  · have : m = n := by omega
    rw [this]
theorem py (n : Int) : IOk (cf n) := by
  unfold IOk cf
  intro h
  have h : n.natAbs = 0 := h
  exact decide_eq_false (by omega)
theorem lF (n : Int) : fU (cf n) = n := by
  unfold fU cf
  by_cases h : n < 0
  · simp only [decide_eq_true h, cond_true]; omega
  · simp only [decide_eq_false h, cond_false]; omega
theorem sgn_nn (m : Nat) : 0 ≤ ((m : Nat) : Int).sign := by
  cases m with
  | zero => decide
  | succ m => exact Int.le_of_lt (by rw [Int.sign_eq_one_of_pos (by omega)]; decide)
theorem Sign_val (a : GI) : cG a = (fU a).sign := by
  obtain ⟨s, m⟩ := a
  unfold cG fU
  by_cases h : m = 0
  · subst h; cases s <;> rfl
  · rw [decide_eq_false h]
    cases s
    · exact (Int.sign_eq_one_of_pos (by show (0 : Int) < (m : Int); omega)).symm
    · exact (Int.sign_eq_neg_one_of_neg (by show -(m : Int) < 0; omega)).symm
theorem l6 (a : GI) : fU (am a) = - fU a := by
  unfold am
  rw [fS]
  unfold fU
  cases a.neg <;> simp
theorem cmp_val (a b : Nat) : bh a b = if a < b then -1 else if b < a then 1 else 0 := by
  unfold bh
  rcases Nat.lt_trichotomy a b with h | h | h
  · rw [show Nat.blt a b = true by rw [Nat.blt_eq]; exact h, cond_true, if_pos h]
  · subst h
    have h1 : Nat.blt a a = false := by
      cases e : Nat.blt a a with
      | false => rfl
      | true => rw [Nat.blt_eq] at e; omega
    rw [h1, Nat.beq_refl, if_neg (Nat.lt_irrefl _), if_neg (Nat.lt_irrefl _)]; rfl
  · have h1 : Nat.blt a b = false := by
      cases e : Nat.blt a b with
      | false => rfl
      | true => rw [Nat.blt_eq] at e; omega
    have h2 : Nat.beq a b = false := by
      cases e : Nat.beq a b with
      | false => rfl
      | true => have := Nat.eq_of_beq_eq_true e; omega
    rw [h1, h2, if_neg (by omega), if_pos h]; rfl
theorem Add_val (a b : GI) : fU (dL a b) = fU a + fU b := by
  obtain ⟨s, m⟩ := a
  obtain ⟨r, n⟩ := b
  unfold dL dx co
  simp only [cmp_val]
  cases s <;> cases r
  · show fU (aB false (m + n)) = (m : Int) + n
    rw [fS]; simp
  · show fU (bif decide (_ ≥ (0 : Int)) then aB false (m - n) else aB true (n - m)) = (m : Int) + -n
    split <;> rename_i h1
    · simp only [show decide ((-1 : Int) ≥ 0) = false from rfl, cond_false, fS, cond_true]; omega
    · split
      · simp only [show decide ((1 : Int) ≥ 0) = true from rfl, cond_true, fS, cond_false]; omega
      · simp only [show decide ((0 : Int) ≥ 0) = true from rfl, cond_true, fS, cond_false]; omega
  · show fU (bif decide (_ ≥ (0 : Int)) then aB true (m - n) else aB false (n - m)) = -(m : Int) + n
    split <;> rename_i h1
    · simp only [show decide ((-1 : Int) ≥ 0) = false from rfl, cond_false, fS, cond_true]; omega
    · split
      · simp only [show decide ((1 : Int) ≥ 0) = true from rfl, cond_true, fS, cond_false]; omega
      · simp only [show decide ((0 : Int) ≥ 0) = true from rfl, cond_true, fS, cond_false]; omega
  · show fU (aB true (m + n)) = -(m : Int) + -n
    rw [fS, cond_true]; omega
theorem Add_ok (a b : GI) : IOk (dL a b) := by
  unfold dL
  cases (a.neg == b.neg)
  · rw [cond_false]
    cases (decide ((bh a.mag b.mag) ≥ 0)) <;> exact kq _ _
  · exact kq _ _
theorem rb (a b : GI) : IOk (bp a b) := kq _ _
theorem nC (a : GI) : IOk (am a) := kq _ _
theorem ky (a b : GI) : fU (bp a b) = fU a * fU b := by
  obtain ⟨s, m⟩ := a
  obtain ⟨r, n⟩ := b
  unfold bp eu
  rw [fS]
  unfold fU
  cases s <;> cases r <;> simp [Int.neg_mul, Int.mul_neg]
theorem nR (a : GI) : (fU a).natAbs = a.mag := by unfold fU; cases a.neg <;> simp
theorem og {a b : GI} (hb : b.neg = false) (h0 : b.mag ≠ 0) (hd : b.mag ∣ a.mag) : ar a b = aB a.neg (a.mag / b.mag) := by
  unfold ar cZ bn
  rw [decide_eq_false h0, cond_false, Nat.mod_eq_zero_of_dvd hd, hb]
  simp
def z0 : GI := ⟨false, 0⟩
def mg (x : GQ) : Nat := if x.den = z0 then 1 else x.den.mag
def QOk (x : GQ) : Prop := IOk x.num ∧ (x.den = z0 ∨ (x.den.neg = false ∧ 1 < x.den.mag)) ∧ Nat.Coprime x.num.mag (mg x)
def e9 (x : GQ) : Rat := (fU x.num : Rat) / (mg x : Rat)
theorem QOk.pos {x : GQ} (h : QOk x) : 0 < mg x := by
  unfold mg
  split
  · decide
  · rename_i e
    rcases h.2.1 with h1 | ⟨_, h1⟩
    · exact absurd h1 e
    · omega
theorem pU {x : GQ} (h : QOk x) : e9 x = ⟨fU x.num, mg x, Nat.ne_of_gt h.pos, by rw [nR]; exact h.2.2⟩ := by
  rw [Rat.mk_eq_mkRat, Rat.mkRat_eq_div]; rfl
theorem mf {x y : GQ} (hx : QOk x) (hy : QOk y) (h : e9 x = e9 y) : x = y := by
  rw [pU hx, pU hy] at h
  injection h with h1 h2
  obtain ⟨n, d⟩ := x
  obtain ⟨m, e⟩ := y
  have e1 : n = m := ival_inj hx.1 hy.1 h1
  have e2 : d = e := by
    unfold mg at h2
    have hx2 := hx.2.1
    have hy2 := hy.2.1
    simp only at h2 hx2 hy2
    by_cases c1 : d = z0
    · by_cases c2 : e = z0
      · rw [c1, c2]
      · rw [if_pos c1, if_neg c2] at h2
        rcases hy2 with h3 | ⟨_, h3⟩
        · exact absurd h3 c2
        · omega
    · by_cases c2 : e = z0
      · rw [if_neg c1, if_pos c2] at h2
        rcases hx2 with h3 | ⟨_, h3⟩
        · exact absurd h3 c1
        · omega
      · rw [if_neg c1, if_neg c2] at h2
        obtain ⟨a1, a2⟩ := hx2.resolve_left c1
        obtain ⟨b1, b2⟩ := hy2.resolve_left c2
        obtain ⟨s, p⟩ := d
        obtain ⟨r, q⟩ := e
        simp only at a1 b1 h2
        rw [a1, b1, h2]
  rw [e1, e2]
theorem one_val : fU rational_one = 1 := lF 1
theorem jL {x : GQ} (h : QOk x) : fU (aI x) = mg x ∧ (aI x).neg = false := by
  unfold aI mg
  by_cases e : x.den = z0
  · rw [decide_eq_true (show x.den = ⟨false, 0⟩ from e), if_pos e]
    exact ⟨one_val, rfl⟩
  · rw [decide_eq_false (show ¬ x.den = ⟨false, 0⟩ from e), if_neg e, cond_false]
    obtain ⟨h1, h2⟩ := h.2.1.resolve_left e
    refine ⟨?_, h1⟩
    unfold fU
    rw [h1]; rfl
theorem ny {n d : GI} (hn : IOk n) (hdn : d.neg = false) (hd : d.mag ≠ 0) :
    QOk (bif (decide ((ar d (ay n d)) = rational_one)) then (⟨(ar n (ay n d)), (⟨false, 0⟩ : GI)⟩ : GQ) else (⟨(ar n (ay n d)), (ar d (ay n d))⟩ : GQ)) ∧
    e9 (bif (decide ((ar d (ay n d)) = rational_one)) then (⟨(ar n (ay n d)), (⟨false, 0⟩ : GI)⟩ : GQ) else (⟨(ar n (ay n d)), (ar d (ay n d))⟩ : GQ)) = (fU n : Rat) / (d.mag : Rat) := by
  have hg : 0 < Nat.gcd n.mag d.mag := Nat.gcd_pos_of_pos_right _ (by omega)
  have q1 : ar d (ay n d) = aB false (d.mag / Nat.gcd n.mag d.mag) := by
    have := og (a := d) (b := ay n d) rfl (by show Nat.gcd n.mag d.mag ≠ 0; omega) (Nat.gcd_dvd_right _ _)
    rw [hdn] at this
    exact this
  have q2 : ar n (ay n d) = aB n.neg (n.mag / Nat.gcd n.mag d.mag) :=
    og (a := n) (b := ay n d) rfl (by show Nat.gcd n.mag d.mag ≠ 0; omega) (Nat.gcd_dvd_left _ _)
  rw [q1, q2]
  have hdp : 0 < d.mag / Nat.gcd n.mag d.mag := Nat.div_pos (Nat.le_of_dvd (by omega) (Nat.gcd_dvd_right _ _)) hg
  have hcop : Nat.Coprime (n.mag / Nat.gcd n.mag d.mag) (d.mag / Nat.gcd n.mag d.mag) := Nat.coprime_div_gcd_div_gcd hg
  have hval : (fU (aB n.neg (n.mag / Nat.gcd n.mag d.mag)) : Rat) / ((d.mag / Nat.gcd n.mag d.mag : Nat) : Rat) = (fU n : Rat) / (d.mag : Rat) := by
    have e1 : fU n = fU (aB n.neg (n.mag / Nat.gcd n.mag d.mag)) * (Nat.gcd n.mag d.mag : Int) := by
      rw [fS]
      have := Nat.div_mul_cancel (Nat.gcd_dvd_left n.mag d.mag)
      unfold fU
      cases n.neg
      · simp only [cond_false]; rw [← Int.natCast_mul, this]
      · simp only [cond_true]; rw [Int.neg_mul, ← Int.natCast_mul, this]
    have e2 : d.mag = (d.mag / Nat.gcd n.mag d.mag) * Nat.gcd n.mag d.mag := (Nat.div_mul_cancel (Nat.gcd_dvd_right n.mag d.mag)).symm
    have g0 : ((Nat.gcd n.mag d.mag : Nat) : Rat) ≠ 0 := by
      intro e
      have : Nat.gcd n.mag d.mag = 0 := by exact_mod_cast e
      omega
    have d0 : ((d.mag / Nat.gcd n.mag d.mag : Nat) : Rat) ≠ 0 := by
      intro e
      have : d.mag / Nat.gcd n.mag d.mag = 0 := by exact_mod_cast e
      omega
    rw [e1, Rat.intCast_mul, Rat.intCast_natCast]
    conv => rhs; rhs; rw [e2]
    rw [Rat.natCast_mul]
    grind
  by_cases e : d.mag / Nat.gcd n.mag d.mag = 1
  · have e' : aB false (d.mag / Nat.gcd n.mag d.mag) = rational_one := by rw [e]; rfl
    rw [decide_eq_true e', cond_true]
    refine ⟨⟨kq _ _, .inl rfl, ?_⟩, ?_⟩
    · show Nat.Coprime (n.mag / Nat.gcd n.mag d.mag) 1; exact Nat.coprime_one_right _
    · rw [← hval, e]; rfl
  · have e' : ¬ aB false (d.mag / Nat.gcd n.mag d.mag) = rational_one := fun h => e (by
      have : (aB false (d.mag / Nat.gcd n.mag d.mag)).mag = rational_one.mag := by rw [h]
      exact this)
    rw [decide_eq_false e', cond_false]
    have ez : ¬ (aB false (d.mag / Nat.gcd n.mag d.mag)) = z0 := fun h => by
      have : (aB false (d.mag / Nat.gcd n.mag d.mag)).mag = z0.mag := by rw [h]
      have : d.mag / Nat.gcd n.mag d.mag = 0 := this
      omega
    have eq : mg (⟨aB n.neg (n.mag / Nat.gcd n.mag d.mag), aB false (d.mag / Nat.gcd n.mag d.mag)⟩ : GQ) = d.mag / Nat.gcd n.mag d.mag := if_neg ez
    refine ⟨⟨kq _ _, .inr ⟨rfl, by show 1 < d.mag / Nat.gcd n.mag d.mag; omega⟩, ?_⟩, ?_⟩
    · rw [eq]; exact hcop
    · unfold e9
      rw [eq, ← hval]
theorem oP {n d : GI} (hn : IOk n) (hd : fU d ≠ 0) : QOk (bL n d) ∧ e9 (bL n d) = (fU n : Rat) / (fU d : Rat) := by
  have hm : d.mag ≠ 0 := fun e => hd (by unfold fU; rw [e]; cases d.neg <;> rfl)
  unfold bL
  rw [Sign_val]
  cases hs : d.neg with
  | false =>
    have e : fU d = (d.mag : Int) := by unfold fU; rw [hs]; rfl
    rw [decide_eq_false (by rw [e]; have := sgn_nn d.mag; omega), cond_false, e, Rat.intCast_natCast]
    exact ny hn hs hm
  | true =>
    have e : fU d = -(d.mag : Int) := by unfold fU; rw [hs]; rfl
    rw [decide_eq_true (by rw [e, Int.sign_eq_neg_one_of_neg (by omega)]; decide), cond_true, e]
    have hN : (am d).neg = false := by
      unfold am aB; rw [hs]; rfl
    have hM : (am d).mag = d.mag := rfl
    obtain ⟨k1, k2⟩ := ny (nC n) hN (by rw [hM]; exact hm)
    refine ⟨k1, k2.trans ?_⟩
    rw [l6, hM, Rat.intCast_neg, Rat.intCast_neg, Rat.intCast_natCast]
    have d0 : (d.mag : Rat) ≠ 0 := by
      intro e
      have : d.mag = 0 := by exact_mod_cast e
      omega
    grind
theorem pV {x : GQ} (h : QOk x) : (mg x : Rat) ≠ 0 := by
  intro e
  have : mg x = 0 := by exact_mod_cast e
  have := h.pos
  omega
theorem oi {x : GQ} (h : QOk x) : (0 : Rat) < (mg x : Rat) := by
  have := h.pos
  exact_mod_cast this
theorem qE {x y : GQ} (hx : QOk x) (hy : QOk y) : ∃ D : Rat, 0 < D ∧ (fU (aD x y).1 : Rat) = e9 x * D ∧ (fU (aD x y).2.1 : Rat) = e9 y * D ∧ (fU (aD x y).2.2 : Rat) = D ∧ IOk (aD x y).1 ∧ IOk (aD x y).2.1 := by
  have h1 := oi hx
  have h2 := oi hy
  unfold aD
  by_cases e : x.den = y.den
  · rw [decide_eq_true e, cond_true]
    have e2 : mg x = mg y := by unfold mg; rw [e]
    refine ⟨mg x, h1, ?_, ?_, ?_, hx.1, hy.1⟩
    · unfold e9; show (fU x.num : Rat) = _; grind
    · unfold e9; rw [e2]; show (fU y.num : Rat) = _; grind
    · show (fU (aI x) : Rat) = _
      rw [(jL hx).1, Rat.intCast_natCast]
  · rw [decide_eq_false e, cond_false]
    refine ⟨(mg x : Rat) * (mg y : Rat), Rat.mul_pos h1 h2, ?_, ?_, ?_, rb _ _, rb _ _⟩
    · show (fU (bp x.num (aI y)) : Rat) = _
      rw [ky, Rat.intCast_mul, (jL hy).1, Rat.intCast_natCast]
      unfold e9; grind
    · show (fU (bp y.num (aI x)) : Rat) = _
      rw [ky, Rat.intCast_mul, (jL hx).1, Rat.intCast_natCast]
      unfold e9; grind
    · show (fU (bp (aI x) (aI y)) : Rat) = _
      rw [ky, Rat.intCast_mul, (jL hx).1, (jL hy).1, Rat.intCast_natCast, Rat.intCast_natCast]
theorem l5 {x y : GQ} (hx : QOk x) (hy : QOk y) : QOk (aM x y) ∧ e9 (aM x y) = e9 x + e9 y := by
  obtain ⟨D, h0, h1, h2, h3, _, _⟩ := qE hx hy
  unfold aM
  have hd : fU (aD x y).2.2 ≠ 0 := fun e => by
    rw [e] at h3
    have h4 : (0 : Rat) = D := h3
    grind
  obtain ⟨k1, k2⟩ := oP (Add_ok (aD x y).1 (aD x y).2.1) hd
  refine ⟨k1, ?_⟩
  rw [k2, Add_val, Rat.intCast_add, h1, h2, h3]
  grind
theorem m8 {x y : GQ} (hx : QOk x) (hy : QOk y) : QOk (au x y) ∧ e9 (au x y) = e9 x * e9 y := by
  unfold au
  have e1 := (jL hx).1
  have e2 := (jL hy).1
  have h1 := hx.pos
  have h2 := hy.pos
  have hd : fU (bp (aI x) (aI y)) ≠ 0 := by
    rw [ky, e1, e2, ← Int.natCast_mul]
    have := Nat.mul_pos h1 h2
    omega
  obtain ⟨k1, k2⟩ := oP (rb x.num y.num) hd
  refine ⟨k1, ?_⟩
  rw [k2, ky, ky, e1, e2]
  simp only [Rat.intCast_mul, Rat.intCast_natCast]
  have d1 := pV hx
  have d2 := pV hy
  unfold e9
  grind
theorem neg_ok {x : GQ} (hx : QOk x) : QOk (bM x) ∧ e9 (bM x) = - e9 x := by
  refine ⟨⟨nC _, hx.2.1, hx.2.2⟩, ?_⟩
  unfold e9 bM
  show (fU (am x.num) : Rat) / (mg x : Rat) = _
  rw [l6, Rat.intCast_neg]
  grind
theorem n7 {x y : GQ} (hx : QOk x) (hy : QOk y) : QOk (ap x y) ∧ e9 (ap x y) = e9 x - e9 y := by
  unfold ap
  obtain ⟨k1, k2⟩ := neg_ok hy
  obtain ⟨k3, k4⟩ := l5 hx k1
  refine ⟨k3, ?_⟩
  rw [k4, k2]; grind
theorem fM (n : Int) : QOk (aj n) ∧ e9 (aj n) = (n : Rat) := by
  refine ⟨⟨py n, .inl rfl, Nat.coprime_one_right _⟩, ?_⟩
  unfold e9
  show (fU (cf n) : Rat) / ((1 : Nat) : Rat) = _
  rw [lF]
  grind
theorem zero_ok : QOk ⟨z0, z0⟩ ∧ e9 ⟨z0, z0⟩ = 0 := fM 0
end Go.Sx
namespace Go.Sx
def zQ : GQ := ⟨⟨false, 0⟩, ⟨false, 0⟩⟩
theorem i4 : QOk zQ ∧ e9 zQ = 0 := zero_ok
def DOk (q : Qd) : Prop := QOk q.c0 ∧ QOk q.c1 ∧ QOk q.c2
def TOk (t : GR) : Prop := QOk t.p ∧ QOk t.r
def lv (t : GR) (q : Qd) : Rat × Rat :=
  if t.r = zQ then (e9 q.c0 + e9 t.p * (e9 q.c1 + e9 t.p * e9 q.c2), 0)
  else (e9 q.c0 + e9 q.c2 * (e9 t.r - e9 t.p * e9 t.p), e9 q.c1 + (e9 q.c2 + e9 q.c2) * e9 t.p)
theorem eval_ok {q : Qd} {t : GQ} (hq : DOk q) (ht : QOk t) : QOk (dC q t) ∧ e9 (dC q t) = e9 q.c0 + e9 t * (e9 q.c1 + e9 t * e9 q.c2) := by
  obtain ⟨h0, h1, h2⟩ := hq
  unfold dC
  obtain ⟨a1, a2⟩ := m8 ht h2
  obtain ⟨b1, b2⟩ := l5 h1 a1
  obtain ⟨c1, c2⟩ := m8 ht b1
  obtain ⟨d1, d2⟩ := l5 h0 c1
  exact ⟨d1, by rw [d2, c2, b2, a2]⟩
theorem slope_ok {q : Qd} {t : GQ} (hq : DOk q) (ht : QOk t) : QOk (cU q t) ∧ e9 (cU q t) = e9 q.c1 + (e9 q.c2 + e9 q.c2) * e9 t := by
  obtain ⟨h0, h1, h2⟩ := hq
  unfold cU
  obtain ⟨a1, a2⟩ := l5 h2 h2
  obtain ⟨b1, b2⟩ := m8 a1 ht
  obtain ⟨c1, c2⟩ := l5 h1 b1
  exact ⟨c1, by rw [c2, b2, a2]⟩
theorem pH {p q : Qd} (hp : DOk p) (hq : DOk q) : DOk (dy p q) ∧ e9 (dy p q).c0 = e9 p.c0 - e9 q.c0 ∧ e9 (dy p q).c1 = e9 p.c1 - e9 q.c1 ∧ e9 (dy p q).c2 = e9 p.c2 - e9 q.c2 := by
  unfold dy
  obtain ⟨a1, a2⟩ := n7 hp.1 hq.1
  obtain ⟨b1, b2⟩ := n7 hp.2.1 hq.2.1
  obtain ⟨c1, c2⟩ := n7 hp.2.2 hq.2.2
  exact ⟨⟨a1, b1, c1⟩, a2, b2, c2⟩
theorem qn {a b : GQ} (ha : QOk a) (hb : QOk b) : DOk (aE a b) ∧ (aE a b).c0 = a ∧ (aE a b).c1 = b ∧ (aE a b).c2 = zQ := by
  unfold aE
  exact ⟨⟨ha, hb, i4.1⟩, rfl, rfl, rfl⟩
theorem gZ {q : Qd} {t : GR} (hq : DOk q) (ht : TOk t) : DOk (aP q t) ∧ e9 (aP q t).c0 = (lv t q).1 ∧ e9 (aP q t).c1 = (lv t q).2 ∧ (aP q t).c2 = zQ := by
  unfold aP cN lv
  by_cases e : t.r = zQ
  · rw [decide_eq_true (show t.r = ⟨⟨false, 0⟩, ⟨false, 0⟩⟩ from e), if_pos e]
    obtain ⟨k1, k2⟩ := eval_ok hq ht.1
    exact ⟨⟨k1, i4.1, i4.1⟩, k2, i4.2, rfl⟩
  · rw [decide_eq_false (show ¬ t.r = ⟨⟨false, 0⟩, ⟨false, 0⟩⟩ from e), if_neg e, Bool.not_false, cond_true, cond_false]
    obtain ⟨a1, a2⟩ := m8 ht.1 ht.1
    obtain ⟨b1, b2⟩ := n7 ht.2 a1
    obtain ⟨c1, c2⟩ := m8 hq.2.2 b1
    obtain ⟨d1, d2⟩ := l5 hq.1 c1
    obtain ⟨s1, s2⟩ := slope_ok hq ht.1
    obtain ⟨l1, l2, l3, l4⟩ := qn d1 s1
    exact ⟨l1, by rw [l2, d2, c2, b2, a2], by rw [l3, s2], l4⟩
theorem qd_ext {p q : Qd} (hp : DOk p) (hq : DOk q) (h0 : e9 p.c0 = e9 q.c0) (h1 : e9 p.c1 = e9 q.c1) (h2 : e9 p.c2 = e9 q.c2) : p = q := by
  have e0 := mf hp.1 hq.1 h0
  have e1 := mf hp.2.1 hq.2.1 h1
  have e2 := mf hp.2.2 hq.2.2 h2
  obtain ⟨a, b, c⟩ := p
  obtain ⟨x, y, z⟩ := q
  simp only at e0 e1 e2
  rw [e0, e1, e2]
theorem rl1 (a b c d e f p : Rat) : (a - b) + p * ((c - d) + p * (e - f)) = (a + p * (c + p * e)) - (b + p * (d + p * f)) := by grind
theorem rl2 (a b c d x : Rat) : (a - b) + (c - d) * x = (a + c * x) - (b + d * x) := by grind
theorem rl3 (a b c d x : Rat) : (a - b) + ((c - d) + (c - d)) * x = (a + (c + c) * x) - (b + (d + d) * x) := by grind
theorem lv_sub {p q : Qd} {t : GR} (hp : DOk p) (hq : DOk q) : lv t (dy p q) = ((lv t p).1 - (lv t q).1, (lv t p).2 - (lv t q).2) := by
  obtain ⟨_, e0, e1, e2⟩ := pH hp hq
  unfold lv
  by_cases e : t.r = zQ
  · rw [if_pos e, if_pos e, if_pos e, e0, e1, e2, rl1]
    exact Prod.ext rfl (by show (0 : Rat) = 0 - 0; grind)
  · rw [if_neg e, if_neg e, if_neg e, e0, e1, e2, rl2, rl3]
theorem iL {p q : Qd} {t : GR} (hp : DOk p) (hq : DOk q) (ht : TOk t) : bE p q t = true ↔ lv t p = lv t q := by
  unfold bE
  rw [decide_eq_true_eq]
  obtain ⟨k1, _⟩ := pH hp hq
  obtain ⟨r1, r2, r3, r4⟩ := gZ k1 ht
  rw [lv_sub hp hq] at r2 r3
  constructor
  · intro h
    rw [h] at r2 r3
    have z := i4.2
    unfold zQ at z
    refine Prod.ext ?_ ?_
    · simp only at r2; grind
    · simp only at r3; grind
  · intro h
    refine qd_ext r1 ⟨i4.1, i4.1, i4.1⟩ ?_ ?_ ?_
    · rw [r2, h]; show _ = e9 zQ; rw [i4.2]; grind
    · rw [r3, h]; show _ = e9 zQ; rw [i4.2]; grind
    · rw [r4]; rfl
theorem jU {q : Qd} {t : GR} (hq : DOk q) (ht : TOk t) : lv t (aP q t) = lv t q := by
  obtain ⟨r1, r2, r3, r4⟩ := gZ hq ht
  have h : ∀ x : Qd, e9 x.c0 = (lv t q).1 → e9 x.c1 = (lv t q).2 → x.c2 = zQ → lv t x = lv t q := by
    intro x e0 e1 e2
    have e3 : e9 x.c2 = 0 := by rw [e2]; exact i4.2
    have e4 : t.r = zQ → (lv t q).2 = 0 := fun e => by unfold lv; rw [if_pos e]
    conv => lhs; unfold lv
    split
    · rename_i e
      rw [e4 e] at e1
      refine Prod.ext ?_ ?_
      · simp only; rw [e0, e1, e3]; grind
      · simp only; rw [e4 e]
    · refine Prod.ext ?_ ?_
      · simp only; rw [e0, e3]; grind
      · simp only; rw [e1, e3]; grind
  exact h _ r2 r3 r4
theorem pR {p q : Qd} {t : GR} (hp : DOk p) (hq : DOk q) (ht : TOk t) : aP p t = aP q t ↔ lv t p = lv t q := by
  obtain ⟨r1, r2, r3, r4⟩ := gZ hp ht
  obtain ⟨s1, s2, s3, s4⟩ := gZ hq ht
  constructor
  · intro h; rw [← jU hp ht, ← jU hq ht, h]
  · intro h; exact qd_ext r1 s1 (by rw [r2, s2, h]) (by rw [r3, s3, h]) (by rw [r4, s4])
end Go.Sx
