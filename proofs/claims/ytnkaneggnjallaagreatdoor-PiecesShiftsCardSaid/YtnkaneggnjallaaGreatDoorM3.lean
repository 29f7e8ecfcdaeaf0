/- A part of the proof that the law PiecesShifts answers true at every input and leaves its arguments as they were. -/
import Derived.Test.YtnkaneggnjallaaGreatDoorM2
import Derived.Test.YtnkaneggnjallaaGreatDoorGarith
set_option linter.unusedVariables false
set_option linter.unusedSimpArgs false
namespace Go.Sx
def nxP {S R : Type} (I : S → Prop) (Q : R → Prop) : Nx S R → Prop
  | .go s => I s
  | .out s => I s
  | .ret r => Q r
def smP {S R : Type} (I : S → Prop) (Q : R → Prop) : S ⊕ R → Prop
  | .inl s => I s
  | .inr r => Q r
theorem mP {S R : Type} {B : S → Nx S R} {I : S → Prop} {Q : R → Prop} (h : ∀ s, I s → nxP I Q (B s)) : ∀ (n : Nat) (s : S), I s → smP I Q (b9 B n s)
  | 0, s, hs => hs
  | n + 1, s, hs => by
    have h1 := h s hs
    unfold b9
    revert h1
    cases B s with
    | go s' => exact fun h1 => mP h n s' h1
    | out s' => exact fun h1 => h1
    | ret r => exact fun h1 => h1
def Fs (f : Qd) : Prop := f = default ∨ (∃ s, f = ag s) ∨ ∃ c : Int, f = aF (ah (Int.tmod c 4))
def pUn (t : GR) (f : Qd) : U Qd := ⟨⟨t, t, false, false⟩, f⟩
def bPt (s : Stp) (before : Qd) (t : GR) : List (U Qd) :=
  bif ((((s.point % 4) : Nat) : Int) == ((1 : Nat) : Int)) then [pUn t (ag s)]
  else bif ((((s.point % 4) : Nat) : Int) == ((2 : Nat) : Int)) then [pUn t before]
  else bif ((((s.point % 4) : Nat) : Int) == ((3 : Nat) : Int)) then [pUn t (aF (ah (Int.tmod s.c0 4)))]
  else []
def bPs (s : Stp) (before : Qd) (t : GR) (taken : Bool) : List (U Qd) :=
  bif taken then [] else bif ((((s.piece % 4) : Nat) : Int) == ((2 : Nat) : Int)) then [] else bPt s before t
def bGp (s : Stp) (t t' : GR) (taken : Bool) : List (U Qd) :=
  bif ((((s.piece % 4) : Nat) : Int) != ((0 : Nat) : Int)) then [⟨⟨t, t', !(((((s.piece % 4) : Nat) : Int) == ((2 : Nat) : Int)) && !taken), !((((s.piece % 4) : Nat) : Int) == ((3 : Nat) : Int))⟩, ag s⟩] else []
theorem mu (l : List Stp) (out : List (U Qd)) (a : Nat) (root taken : Bool) (i : Nat) (before : Qd) :
    bb l out a root taken i before =
      bif ((decide (((i : Nat) : Int) < ((l.length : Nat) : Int))) && (decide (((i : Nat) : Int) < 8))) then
        .go (out ++ (bPs (gt l i) before (ad ((a : Nat) : Int) root) taken ++ bGp (gt l i) (ad ((a : Nat) : Int) root) (ad (((a + 3) + ((gt l i).length % 3) : Nat) : Int) ((gt l i).root)) taken),
          ((a + 3) + ((gt l i).length % 3)), (gt l i).root, ((((gt l i).piece % 4 : Nat) : Int) == ((3 : Nat) : Int)), (i + 1), ag (gt l i))
      else .out (out, a, root, taken, i, before) := by
  unfold bb
  congr 1
  generalize gt l i = s
  unfold bPs bGp bPt pUn
  cases e2 : ((((s.piece % 4) : Nat) : Int) == ((2 : Nat) : Int)) <;> cases taken <;>
    simp only [Bool.not_true, Bool.not_false, Bool.and_true, Bool.and_false, cond_true, cond_false, Bool.false_eq_true] <;>
    cases ((((s.piece % 4) : Nat) : Int) != ((0 : Nat) : Int)) <;> simp only [cond_true, cond_false, List.append_nil, List.nil_append] <;>
    cases ((((s.point % 4) : Nat) : Int) == ((1 : Nat) : Int)) <;> simp only [cond_true, cond_false, List.append_nil, List.nil_append, List.append_assoc] <;>
    cases ((((s.point % 4) : Nat) : Int) == ((2 : Nat) : Int)) <;> simp only [cond_true, cond_false, List.append_nil, List.nil_append, List.append_assoc] <;>
    cases ((((s.point % 4) : Nat) : Int) == ((3 : Nat) : Int)) <;> simp only [cond_true, cond_false, List.append_nil, List.nil_append, List.append_assoc]
theorem bUs_ok {taken p0 p2 p3 : Bool} {t t' : GR} {f : Qd} {P : List (U Qd)} (ht : Tm t) (ht' : Tm t') (hlt : tk t < tk t') (hf : Fs f)
    (hP : P = [] ∨ (taken = false ∧ p2 = false ∧ ∃ g, Fs g ∧ P = [pUn t g])) :
    (∀ x ∈ P ++ (bif p0 then [(⟨⟨t, t', !(p2 && !taken), !p3⟩, f⟩ : U Qd)] else []), Wv x.iv ∧ Fs x.f ∧ gY x.iv < 2 * tk t' + (bif p3 then 1 else 0) ∧ (2 * tk t + (bif taken then 1 else 0) : Int) ≤ e7 x.iv) ∧
    (P ++ (bif p0 then [(⟨⟨t, t', !(p2 && !taken), !p3⟩, f⟩ : U Qd)] else [])).Pairwise fun a b => Dj a.iv b.iv := by
  have hg : ∀ x ∈ (bif p0 then [(⟨⟨t, t', !(p2 && !taken), !p3⟩, f⟩ : U Qd)] else []), x = ⟨⟨t, t', !(p2 && !taken), !p3⟩, f⟩ := by
    cases p0
    · intro x hx; cases hx
    · intro x hx; exact List.mem_singleton.1 hx
  have gok : Wv (⟨t, t', !(p2 && !taken), !p3⟩ : Iv) := ⟨⟨ht, ht'⟩, Nat.le_of_lt hlt, fun e => by have e : tk t = tk t' := e; omega⟩
  have g1 : gY (⟨t, t', !(p2 && !taken), !p3⟩ : Iv) < 2 * tk t' + (bif p3 then 1 else 0) := by
    unfold gY; cases p3 <;> simp <;> omega
  have g2 : (2 * tk t + (bif taken then 1 else 0) : Int) ≤ e7 (⟨t, t', !(p2 && !taken), !p3⟩ : Iv) := by
    unfold e7; cases p2 <;> cases taken <;> simp <;> omega
  rcases hP with rfl | ⟨h1, h2, g, hgf, rfl⟩
  · rw [List.nil_append]
    refine ⟨fun x hx => by rw [hg x hx]; exact ⟨gok, hf, g1, g2⟩, ?_⟩
    cases p0
    · exact List.Pairwise.nil
    · exact List.pairwise_singleton _ _
  · subst h1 h2
    have hpw : Wv (pUn t g).iv := ⟨⟨ht, ht⟩, Nat.le_refl _, fun _ => ⟨rfl, rfl⟩⟩
    have pl : gY (pUn t g).iv = 2 * tk t := by unfold gY pUn; simp
    have pf : e7 (pUn t g).iv = 2 * tk t := by unfold e7 pUn; simp
    refine ⟨fun x hx => ?_, ?_⟩
    · rcases List.mem_append.1 hx with hx | hx
      · rw [List.mem_singleton.1 hx]
        refine ⟨hpw, hgf, ?_, ?_⟩
        · rw [pl]; cases p3 <;> simp <;> omega
        · rw [pf]; simp <;> omega
      · rw [hg x hx]; exact ⟨gok, hf, g1, g2⟩
    · rw [List.singleton_append, List.pairwise_cons]
      refine ⟨fun y hy => ?_, ?_⟩
      · rw [hg y hy]
        refine .inl ?_
        rw [pl]
        unfold e7; simp <;> omega
      · cases p0
        · exact List.Pairwise.nil
        · exact List.pairwise_singleton _ _
def BI (s : (List (U Qd)) × Nat × Bool × Bool × Nat × Qd) : Prop :=
  s.2.1 ≤ 5 * s.2.2.2.2.1 ∧ s.2.2.2.2.1 ≤ 8 ∧ Fs s.2.2.2.2.2 ∧ (∀ x ∈ s.1, Wv x.iv ∧ Fs x.f ∧ gY x.iv < ((2 * (10 * s.2.1 + (bif s.2.2.1 then 14 else 0)) + (bif s.2.2.2.1 then 1 else 0) : Nat) : Int)) ∧ s.1.Pairwise fun a b => Dj a.iv b.iv
theorem rJ (l : List Stp) (s : (List (U Qd)) × Nat × Bool × Bool × Nat × Qd) (h : BI s) :
    nxP BI (fun _ => False) (bb l s.1 s.2.1 s.2.2.1 s.2.2.2.1 s.2.2.2.2.1 s.2.2.2.2.2) := by
  obtain ⟨out, a, root, taken, i, before⟩ := s
  obtain ⟨h1, h2, h3, h4, h5⟩ := h
  simp only at h1 h2 h3 h4 h5
  rw [mu]
  cases hc : ((decide (((i : Nat) : Int) < ((l.length : Nat) : Int))) && (decide (((i : Nat) : Int) < 8))) with
  | false => exact ⟨h1, h2, h3, h4, h5⟩
  | true =>
    rw [cond_true]
    rw [Bool.and_eq_true, decide_eq_true_eq, decide_eq_true_eq] at hc
    have hi : i < 8 := by omega
    have hm : (gt l i).length % 3 < 3 := Nat.mod_lt _ (by decide)
    have e1 := tk_at a root (by omega)
    have e2 := tk_at ((a + 3) + ((gt l i).length % 3)) (gt l i).root (by omega)
    have hlt : tk (ad ((a : Nat) : Int) root) < tk (ad (((a + 3) + ((gt l i).length % 3) : Nat) : Int) ((gt l i).root)) := by
      rw [e1, e2]; cases root <;> cases (gt l i).root <;> simp <;> omega
    have hF : Fs (ag (gt l i)) := .inr (.inl ⟨_, rfl⟩)
    have hP : bPs (gt l i) before (ad ((a : Nat) : Int) root) taken = [] ∨ (taken = false ∧ ((((gt l i).piece % 4 : Nat) : Int) == ((2 : Nat) : Int)) = false ∧ ∃ g, Fs g ∧ bPs (gt l i) before (ad ((a : Nat) : Int) root) taken = [pUn (ad ((a : Nat) : Int) root) g]) := by
      unfold bPs bPt
      cases taken
      · rw [cond_false]
        cases ((((gt l i).piece % 4 : Nat) : Int) == ((2 : Nat) : Int))
        · rw [cond_false]
          cases ((((gt l i).point % 4 : Nat) : Int) == ((1 : Nat) : Int))
          · rw [cond_false]
            cases ((((gt l i).point % 4 : Nat) : Int) == ((2 : Nat) : Int))
            · rw [cond_false]
              cases ((((gt l i).point % 4 : Nat) : Int) == ((3 : Nat) : Int))
              · exact .inl rfl
              · exact .inr ⟨rfl, rfl, _, .inr (.inr ⟨_, rfl⟩), rfl⟩
            · exact .inr ⟨rfl, rfl, _, h3, rfl⟩
          · exact .inr ⟨rfl, rfl, _, hF, rfl⟩
        · exact .inl rfl
      · exact .inl rfl
    obtain ⟨k1, k2⟩ := bUs_ok (p0 := ((((gt l i).piece % 4 : Nat) : Int) != ((0 : Nat) : Int))) (p3 := ((((gt l i).piece % 4 : Nat) : Int) == ((3 : Nat) : Int))) (tm_at a root (by omega)) (tm_at ((a + 3) + ((gt l i).length % 3)) (gt l i).root (by omega)) hlt hF hP
    refine ⟨?_, ?_, hF, fun x hx => ?_, ?_⟩
    · show (a + 3) + ((gt l i).length % 3) ≤ 5 * (i + 1); omega
    · show i + 1 ≤ 8; omega
    · show Wv x.iv ∧ Fs x.f ∧ gY x.iv < ((2 * (10 * ((a + 3) + ((gt l i).length % 3)) + (bif (gt l i).root then 14 else 0)) + (bif ((((gt l i).piece % 4 : Nat) : Int) == ((3 : Nat) : Int)) then 1 else 0) : Nat) : Int)
      rw [e1, e2] at hlt
      rcases List.mem_append.1 hx with hx | hx
      · obtain ⟨a1, a2, a3⟩ := h4 x hx
        refine ⟨a1, a2, ?_⟩
        clear h4 k1 k2 hP e1 e2 h5
        generalize ((((gt l i).piece % 4 : Nat) : Int) == ((3 : Nat) : Int)) = p3 at *
        generalize (gt l i).root = rt at *
        cases root <;> cases taken <;> cases rt <;> cases p3 <;> simp only [cond_true, cond_false] at * <;> omega
      · obtain ⟨a1, a2, a3, _⟩ := k1 x hx
        rw [e2] at a3
        refine ⟨a1, a2, ?_⟩
        clear h4 k1 k2 hP e1 e2 h5
        generalize ((((gt l i).piece % 4 : Nat) : Int) == ((3 : Nat) : Int)) = p3 at *
        generalize (gt l i).root = rt at *
        cases rt <;> cases p3 <;> simp only [cond_true, cond_false] at * <;> omega
    · show (out ++ _).Pairwise _
      rw [List.pairwise_append]
      refine ⟨h5, k2, fun x hx y hy => .inl ?_⟩
      obtain ⟨_, _, a3⟩ := h4 x hx
      obtain ⟨_, _, _, a4⟩ := k1 y hy
      rw [e1] at a4
      clear h4 k1 k2 hP e1 e2 h5 hlt
      cases root <;> cases taken <;> simp only [cond_true, cond_false] at * <;> omega
theorem jx (l : List Stp) : (∀ x ∈ aw l, Wv x.iv ∧ Fs x.f) ∧ (aw l).Pairwise fun a b => Dj a.iv b.iv := by
  have h := mP (R := List (U Qd)) (Q := fun _ => False) (B := fun s => bb l s.1 s.2.1 s.2.2.1 s.2.2.2.1 s.2.2.2.2.1 s.2.2.2.2.2) (I := BI) (rJ l) ((8 - 0) + 1) ([], 0, false, false, 0, default)
    ⟨by decide, by decide, .inl rfl, fun x hx => (by cases hx), List.Pairwise.nil⟩
  have e : ∃ s, BI s ∧ aw l = s.1 := by
    unfold aw
    revert h
    generalize b9 _ _ _ = X
    intro h
    match X, h with
    | .inl s, h => exact ⟨s, h, rfl⟩
  obtain ⟨s, hs, e⟩ := e
  rw [e]
  exact ⟨fun x hx => ⟨(hs.2.2.2.1 x hx).1, (hs.2.2.2.1 x hx).2.1⟩, hs.2.2.2.2⟩
end Go.Sx
namespace Go.Sx
theorem foldl_cons {α β : Type} (g : α → β) : ∀ (l : List α) (o : List β), l.foldl (fun o i => g i :: o) o = (l.map g).reverse ++ o
  | [], o => rfl
  | x :: l, o => by rw [List.foldl_cons, foldl_cons g l]; simp
theorem iX {α : Type} [Inhabited α] {z : α} {u : List (U α)} {E : List GR} {i : Nat} (h : i < (fl z u E).length) : gt (fl z u E) i = ic u (gt (et z E) i) := by
  have h2 : i < (et z E).length := by simpa [fl] using h
  have : gt ((et z E).map (ic u)) i = ic u (gt (et z E) i) := by
    rw [f7 (by simpa using h2), f7 h2, List.getElem_map]
  exact this
theorem lp {α : Type} [Inhabited α] {z : α} {u : List (U α)} {E : List GR} (hE : Ts E) : Turns tk (fl z u E) := by
  have hl : (fl z u E).length = (et z E).length := by unfold fl; rw [List.length_map]
  have ok : ∀ {i}, i < (fl z u E).length → _ := fun {i} hi => nj (z := z) hE (a := gt (et z E) i) (by rw [f7 (hl ▸ hi)]; exact List.getElem_mem _)
  refine ⟨fun i hi => ?_, fun i hi => ?_, fun i hi hg => ?_, fun i hi hg => ?_⟩
  · rw [iX hi, (eI u _).2.1]; exact (nk i (hl ▸ hi)).1
  · rw [iX hi, iX (by omega : i < (fl z u E).length), (eI u _).1, (eI u _).2.2]
    exact (nk i (by omega)).2 (hl ▸ hi)
  · rw [iX hi] at hg ⊢
    rw [(eI u _).2.1] at hg
    rw [(eI u _).1, (eI u _).2.2]
    exact (ok hi).2.2.1 hg
  · rw [iX hi] at hg ⊢
    rw [(eI u _).2.1] at hg
    rw [(eI u _).1, (eI u _).2.2]
    exact (ok hi).2.2.2 hg
end Go.Sx
namespace Go.Sx
def fu (a : GI) : Int := bif a.neg then -(a.mag : Int) else (a.mag : Int)
def IOk (a : GI) : Prop := a.mag = 0 → a.neg = false
theorem kD (s : Bool) (m : Nat) : IOk (aE s m) := by
  intro h
  have h : m = 0 := h
  subst h
  cases s <;> rfl
theorem fN (s : Bool) (m : Nat) : fu (aE s m) = bif s then -(m : Int) else (m : Int) := by
  unfold fu aE
  by_cases h : m = 0
  · subst h; cases s <;> rfl
  · cases s <;> simp [h]
theorem ival_inj {a b : GI} (ha : IOk a) (hb : IOk b) (h : fu a = fu b) : a = b := by
  obtain ⟨s, m⟩ := a
  obtain ⟨r, n⟩ := b
  unfold fu at h
  unfold IOk at ha hb
  simp only at ha hb h
  cases s <;> cases r <;> simp only [cond_true, cond_false] at h
  · have : m = n := by omega
    rw [this]
  · have h1 : m = 0 := by omega
    have h2 : n = 0 := by omega
    exact absurd (hb h2) (by decide)
  · have h1 : m = 0 := by omega
    exact absurd (ha h1) (by decide)
  · have : m = n := by omega
    rw [this]
theorem kN (n : Int) : IOk (a6 n) := by
  unfold IOk a6
  intro h
  have h : n.natAbs = 0 := h
  exact decide_eq_false (by omega)
theorem ii (n : Int) : fu (a6 n) = n := by
  unfold fu a6
  by_cases h : n < 0
  · simp only [decide_eq_true h, cond_true]; omega
  · simp only [decide_eq_false h, cond_false]; omega
theorem qy (m : Nat) : 0 ≤ ((m : Nat) : Int).sign := by
  cases m with
  | zero => decide
  | succ m => exact Int.le_of_lt (by rw [Int.sign_eq_one_of_pos (by omega)]; decide)
theorem nm (a : GI) : cj a = (fu a).sign := by
  obtain ⟨s, m⟩ := a
  unfold cj fu
  by_cases h : m = 0
  · subst h; cases s <;> rfl
  · rw [decide_eq_false h]
    cases s
    · exact (Int.sign_eq_one_of_pos (by show (0 : Int) < (m : Int); omega)).symm
    · exact (Int.sign_eq_neg_one_of_neg (by show -(m : Int) < 0; omega)).symm
theorem mv (a : GI) : fu (aj a) = - fu a := by
  unfold aj
  rw [fN]
  unfold fu
  cases a.neg <;> simp
theorem rx (a b : Nat) : ba a b = if a < b then -1 else if b < a then 1 else 0 := by
  unfold ba
  rcases Nat.lt_trichotomy a b with h | h | h
  · rw [show Nat.blt a b = true by rw [Nat.blt_eq]; exact h, cond_true, if_pos h]
  · subst h
    have h1 : Nat.blt a a = false := by
      cases e : Nat.blt a a with
      | false => rfl
      | true => rw [Nat.blt_eq] at e; omega
    rw [h1, Nat.beq_refl, if_neg (Nat.lt_irrefl _), if_neg (Nat.lt_irrefl _)]; rfl
  · have h1 : Nat.blt a b = false := by
      cases e : Nat.blt a b with
      | false => rfl
      | true => rw [Nat.blt_eq] at e; omega
    have h2 : Nat.beq a b = false := by
      cases e : Nat.beq a b with
      | false => rfl
      | true => have := Nat.eq_of_beq_eq_true e; omega
    rw [h1, h2, if_neg (by omega), if_pos h]; rfl
theorem Add_val (a b : GI) : fu (dC a b) = fu a + fu b := by
  obtain ⟨s, m⟩ := a
  obtain ⟨r, n⟩ := b
  unfold dC cb cg
  simp only [rx]
  cases s <;> cases r
  · show fu (aE false (m + n)) = (m : Int) + n
    rw [fN]; simp
  · show fu (bif decide (_ ≥ (0 : Int)) then aE false (m - n) else aE true (n - m)) = (m : Int) + -n
    split <;> rename_i h1
    · simp only [show decide ((-1 : Int) ≥ 0) = false from rfl, cond_false, fN, cond_true]; omega
    · split
      · simp only [show decide ((1 : Int) ≥ 0) = true from rfl, cond_true, fN, cond_false]; omega
      · simp only [show decide ((0 : Int) ≥ 0) = true from rfl, cond_true, fN, cond_false]; omega
  · show fu (bif decide (_ ≥ (0 : Int)) then aE true (m - n) else aE false (n - m)) = -(m : Int) + n
    split <;> rename_i h1
    · simp only [show decide ((-1 : Int) ≥ 0) = false from rfl, cond_false, fN, cond_true]; omega
    · split
      · simp only [show decide ((1 : Int) ≥ 0) = true from rfl, cond_true, fN, cond_false]; omega
      · simp only [show decide ((0 : Int) ≥ 0) = true from rfl, cond_true, fN, cond_false]; omega
  · show fu (aE true (m + n)) = -(m : Int) + -n
    rw [fN, cond_true]; omega
theorem Add_ok (a b : GI) : IOk (dC a b) := by
  unfold dC
  cases (a.neg == b.neg)
  · rw [cond_false]
    cases (decide ((ba a.mag b.mag) ≥ 0)) <;> exact kD _ _
  · exact kD _ _
theorem rT (a b : GI) : IOk (bm a b) := kD _ _
theorem n7 (a : GI) : IOk (aj a) := kD _ _
theorem kM (a b : GI) : fu (bm a b) = fu a * fu b := by
  obtain ⟨s, m⟩ := a
  obtain ⟨r, n⟩ := b
  unfold bm dm
  rw [fN]
  unfold fu
  cases s <;> cases r <;> simp [Int.neg_mul, Int.mul_neg]
def icmp (a b : Int) : Int := if a < b then -1 else if b < a then 1 else 0
theorem qa (a b : Int) : cY a b = icmp a b := by
  unfold cY icmp eR
  rcases Int.lt_trichotomy a b with h | h | h
  · simp [h]
  · subst h; simp
  · simp [h, show ¬ a < b by omega]
theorem oK {a b : GI} (ha : IOk a) (hb : IOk b) : aR a b = icmp (fu a) (fu b) := by
  obtain ⟨s, m⟩ := a
  obtain ⟨r, n⟩ := b
  unfold aR
  rw [qa, nm, nm, rx]
  unfold fu icmp
  unfold IOk at ha hb
  simp only at ha hb
  cases s <;> cases r
  · simp only [bne_self_eq_false, cond_false]
    rcases Nat.lt_trichotomy m n with h | h | h
    · rw [if_pos h, if_pos (by omega)]
    · subst h; simp
    · rw [if_neg (by omega), if_pos h, if_neg (by omega), if_pos (by omega)]
  · have : n ≠ 0 := fun e => absurd (hb e) (by decide)
    have e1 : (-(n : Int)).sign = -1 := Int.sign_eq_neg_one_of_neg (by omega)
    have e2 : 0 ≤ (m : Int).sign := qy m
    show (if (m : Int).sign < (-(n : Int)).sign then (-1 : Int) else if (-(n : Int)).sign < (m : Int).sign then 1 else 0) = if (m : Int) < -(n : Int) then -1 else if -(n : Int) < (m : Int) then 1 else 0
    simp only [e1, if_neg (show ¬ (m : Int).sign < -1 by omega), if_pos (show (-1 : Int) < (m : Int).sign by omega), if_neg (show ¬ (m : Int) < -(n : Int) by omega), if_pos (show -(n : Int) < (m : Int) by omega)]
  · have : m ≠ 0 := fun e => absurd (ha e) (by decide)
    have e1 : (-(m : Int)).sign = -1 := Int.sign_eq_neg_one_of_neg (by omega)
    have e2 : 0 ≤ (n : Int).sign := qy n
    show (if (-(m : Int)).sign < (n : Int).sign then (-1 : Int) else if (n : Int).sign < (-(m : Int)).sign then 1 else 0) = if -(m : Int) < (n : Int) then -1 else if (n : Int) < -(m : Int) then 1 else 0
    simp only [e1, if_pos (show (-1 : Int) < (n : Int).sign by omega), if_pos (show -(m : Int) < (n : Int) by omega)]
  · simp only [bne_self_eq_false, cond_false, cond_true]
    rcases Nat.lt_trichotomy m n with h | h | h
    · rw [if_pos h, if_neg (by omega), if_pos (by omega)]; rfl
    · subst h; simp
    · rw [if_neg (by omega), if_pos h, if_pos (by omega)]
theorem jQ (a : GI) : (fu a).natAbs = a.mag := by unfold fu; cases a.neg <;> simp
theorem o3 {a b : GI} (hb : b.neg = false) (h0 : b.mag ≠ 0) (hd : b.mag ∣ a.mag) : ao a b = aE a.neg (a.mag / b.mag) := by
  unfold ao cJ aW
  rw [decide_eq_false h0, cond_false, Nat.mod_eq_zero_of_dvd hd, hb]
  simp
def z0 : GI := ⟨false, 0⟩
def ks (x : GQ) : Nat := if x.den = z0 then 1 else x.den.mag
def QOk (x : GQ) : Prop := IOk x.num ∧ (x.den = z0 ∨ (x.den.neg = false ∧ 1 < x.den.mag)) ∧ Nat.Coprime x.num.mag (ks x)
def ed (x : GQ) : Rat := (fu x.num : Rat) / (ks x : Rat)
theorem QOk.pos {x : GQ} (h : QOk x) : 0 < ks x := by
  unfold ks
  split
  · decide
  · rename_i e
    rcases h.2.1 with h1 | ⟨_, h1⟩
    · exact absurd h1 e
    · omega
theorem qI {x : GQ} (h : QOk x) : ed x = ⟨fu x.num, ks x, Nat.ne_of_gt h.pos, by rw [jQ]; exact h.2.2⟩ := by
  rw [Rat.mk_eq_mkRat, Rat.mkRat_eq_div]; rfl
theorem lg {x y : GQ} (hx : QOk x) (hy : QOk y) (h : ed x = ed y) : x = y := by
  rw [qI hx, qI hy] at h
  injection h with h1 h2
  obtain ⟨n, d⟩ := x
  obtain ⟨m, e⟩ := y
  have e1 : n = m := ival_inj hx.1 hy.1 h1
  have e2 : d = e := by
    unfold ks at h2
    have hx2 := hx.2.1
    have hy2 := hy.2.1
    simp only at h2 hx2 hy2
    by_cases c1 : d = z0
    · by_cases c2 : e = z0
      · rw [c1, c2]
      · rw [if_pos c1, if_neg c2] at h2
        rcases hy2 with h3 | ⟨_, h3⟩
        · exact absurd h3 c2
        · omega
    · by_cases c2 : e = z0
      · rw [if_neg c1, if_pos c2] at h2
        rcases hx2 with h3 | ⟨_, h3⟩
        · exact absurd h3 c1
        · omega
      · rw [if_neg c1, if_neg c2] at h2
        obtain ⟨a1, a2⟩ := hx2.resolve_left c1
        obtain ⟨b1, b2⟩ := hy2.resolve_left c2
        obtain ⟨s, p⟩ := d
        obtain ⟨r, q⟩ := e
        simp only at a1 b1 h2
        rw [a1, b1, h2]
  rw [e1, e2]
theorem qP : fu rational_one = 1 := ii 1
theorem jU {x : GQ} (h : QOk x) : fu (aG x) = ks x ∧ (aG x).neg = false := by
  unfold aG ks
  by_cases e : x.den = z0
  · rw [decide_eq_true (show x.den = ⟨false, 0⟩ from e), if_pos e]
    exact ⟨qP, rfl⟩
  · rw [decide_eq_false (show ¬ x.den = ⟨false, 0⟩ from e), if_neg e, cond_false]
    obtain ⟨h1, h2⟩ := h.2.1.resolve_left e
    refine ⟨?_, h1⟩
    unfold fu
    rw [h1]; rfl
theorem nT {n d : GI} (hn : IOk n) (hdn : d.neg = false) (hd : d.mag ≠ 0) :
    QOk (bif (decide ((ao d (aB n d)) = rational_one)) then (⟨(ao n (aB n d)), (⟨false, 0⟩ : GI)⟩ : GQ) else (⟨(ao n (aB n d)), (ao d (aB n d))⟩ : GQ)) ∧
    ed (bif (decide ((ao d (aB n d)) = rational_one)) then (⟨(ao n (aB n d)), (⟨false, 0⟩ : GI)⟩ : GQ) else (⟨(ao n (aB n d)), (ao d (aB n d))⟩ : GQ)) = (fu n : Rat) / (d.mag : Rat) := by
  have hg : 0 < Nat.gcd n.mag d.mag := Nat.gcd_pos_of_pos_right _ (by omega)
  have q1 : ao d (aB n d) = aE false (d.mag / Nat.gcd n.mag d.mag) := by
    have := o3 (a := d) (b := aB n d) rfl (by show Nat.gcd n.mag d.mag ≠ 0; omega) (Nat.gcd_dvd_right _ _)
    rw [hdn] at this
    exact this
  have q2 : ao n (aB n d) = aE n.neg (n.mag / Nat.gcd n.mag d.mag) :=
    o3 (a := n) (b := aB n d) rfl (by show Nat.gcd n.mag d.mag ≠ 0; omega) (Nat.gcd_dvd_left _ _)
  rw [q1, q2]
  have hdp : 0 < d.mag / Nat.gcd n.mag d.mag := Nat.div_pos (Nat.le_of_dvd (by omega) (Nat.gcd_dvd_right _ _)) hg
  have hcop : Nat.Coprime (n.mag / Nat.gcd n.mag d.mag) (d.mag / Nat.gcd n.mag d.mag) := Nat.coprime_div_gcd_div_gcd hg
  have hval : (fu (aE n.neg (n.mag / Nat.gcd n.mag d.mag)) : Rat) / ((d.mag / Nat.gcd n.mag d.mag : Nat) : Rat) = (fu n : Rat) / (d.mag : Rat) := by
    have e1 : fu n = fu (aE n.neg (n.mag / Nat.gcd n.mag d.mag)) * (Nat.gcd n.mag d.mag : Int) := by
      rw [fN]
      have := Nat.div_mul_cancel (Nat.gcd_dvd_left n.mag d.mag)
      unfold fu
      cases n.neg
      · simp only [cond_false]; rw [← Int.natCast_mul, this]
      · simp only [cond_true]; rw [Int.neg_mul, ← Int.natCast_mul, this]
    have e2 : d.mag = (d.mag / Nat.gcd n.mag d.mag) * Nat.gcd n.mag d.mag := (Nat.div_mul_cancel (Nat.gcd_dvd_right n.mag d.mag)).symm
    have g0 : ((Nat.gcd n.mag d.mag : Nat) : Rat) ≠ 0 := by
      intro e
      have : Nat.gcd n.mag d.mag = 0 := by exact_mod_cast e
      omega
    have d0 : ((d.mag / Nat.gcd n.mag d.mag : Nat) : Rat) ≠ 0 := by
      intro e
      have : d.mag / Nat.gcd n.mag d.mag = 0 := by exact_mod_cast e
      omega
    rw [e1, Rat.intCast_mul, Rat.intCast_natCast]
    conv => rhs; rhs; rw [e2]
    rw [Rat.natCast_mul]
    grind
  by_cases e : d.mag / Nat.gcd n.mag d.mag = 1
  · have e' : aE false (d.mag / Nat.gcd n.mag d.mag) = rational_one := by rw [e]; rfl
    rw [decide_eq_true e', cond_true]
    refine ⟨⟨kD _ _, .inl rfl, ?_⟩, ?_⟩
    · show Nat.Coprime (n.mag / Nat.gcd n.mag d.mag) 1; exact Nat.coprime_one_right _
    · rw [← hval, e]; rfl
  · have e' : ¬ aE false (d.mag / Nat.gcd n.mag d.mag) = rational_one := fun h => e (by
      have : (aE false (d.mag / Nat.gcd n.mag d.mag)).mag = rational_one.mag := by rw [h]
      exact this)
    rw [decide_eq_false e', cond_false]
    have ez : ¬ (aE false (d.mag / Nat.gcd n.mag d.mag)) = z0 := fun h => by
      have : (aE false (d.mag / Nat.gcd n.mag d.mag)).mag = z0.mag := by rw [h]
      have : d.mag / Nat.gcd n.mag d.mag = 0 := this
      omega
    have eq : ks (⟨aE n.neg (n.mag / Nat.gcd n.mag d.mag), aE false (d.mag / Nat.gcd n.mag d.mag)⟩ : GQ) = d.mag / Nat.gcd n.mag d.mag := if_neg ez
    refine ⟨⟨kD _ _, .inr ⟨rfl, by show 1 < d.mag / Nat.gcd n.mag d.mag; omega⟩, ?_⟩, ?_⟩
    · rw [eq]; exact hcop
    · unfold ed
      rw [eq, ← hval]
theorem nf {n d : GI} (hn : IOk n) (hd : fu d ≠ 0) : QOk (aZ n d) ∧ ed (aZ n d) = (fu n : Rat) / (fu d : Rat) := by
  have hm : d.mag ≠ 0 := fun e => hd (by unfold fu; rw [e]; cases d.neg <;> rfl)
  unfold aZ
  rw [nm]
  cases hs : d.neg with
  | false =>
    have e : fu d = (d.mag : Int) := by unfold fu; rw [hs]; rfl
    rw [decide_eq_false (by rw [e]; have := qy d.mag; omega), cond_false, e, Rat.intCast_natCast]
    exact nT hn hs hm
  | true =>
    have e : fu d = -(d.mag : Int) := by unfold fu; rw [hs]; rfl
    rw [decide_eq_true (by rw [e, Int.sign_eq_neg_one_of_neg (by omega)]; decide), cond_true, e]
    have hN : (aj d).neg = false := by
      unfold aj aE; rw [hs]; rfl
    have hM : (aj d).mag = d.mag := rfl
    obtain ⟨k1, k2⟩ := nT (n7 n) hN (by rw [hM]; exact hm)
    refine ⟨k1, k2.trans ?_⟩
    rw [mv, hM, Rat.intCast_neg, Rat.intCast_neg, Rat.intCast_natCast]
    have d0 : (d.mag : Rat) ≠ 0 := by
      intro e
      have : d.mag = 0 := by exact_mod_cast e
      omega
    grind
theorem oo {x : GQ} (h : QOk x) : (ks x : Rat) ≠ 0 := by
  intro e
  have : ks x = 0 := by exact_mod_cast e
  have := h.pos
  omega
theorem o4 {x : GQ} (h : QOk x) : (0 : Rat) < (ks x : Rat) := by
  have := h.pos
  exact_mod_cast this
theorem rv {x y : GQ} (hx : QOk x) (hy : QOk y) : ∃ D : Rat, 0 < D ∧ (fu (aJ x y).1 : Rat) = ed x * D ∧ (fu (aJ x y).2.1 : Rat) = ed y * D ∧ (fu (aJ x y).2.2 : Rat) = D ∧ IOk (aJ x y).1 ∧ IOk (aJ x y).2.1 := by
  have h1 := o4 hx
  have h2 := o4 hy
  unfold aJ
  by_cases e : x.den = y.den
  · rw [decide_eq_true e, cond_true]
    have e2 : ks x = ks y := by unfold ks; rw [e]
    refine ⟨ks x, h1, ?_, ?_, ?_, hx.1, hy.1⟩
    · unfold ed; show (fu x.num : Rat) = _; grind
    · unfold ed; rw [e2]; show (fu y.num : Rat) = _; grind
    · show (fu (aG x) : Rat) = _
      rw [(jU hx).1, Rat.intCast_natCast]
  · rw [decide_eq_false e, cond_false]
    refine ⟨(ks x : Rat) * (ks y : Rat), Rat.mul_pos h1 h2, ?_, ?_, ?_, rT _ _, rT _ _⟩
    · show (fu (bm x.num (aG y)) : Rat) = _
      rw [kM, Rat.intCast_mul, (jU hy).1, Rat.intCast_natCast]
      unfold ed; grind
    · show (fu (bm y.num (aG x)) : Rat) = _
      rw [kM, Rat.intCast_mul, (jU hx).1, Rat.intCast_natCast]
      unfold ed; grind
    · show (fu (bm (aG x) (aG y)) : Rat) = _
      rw [kM, Rat.intCast_mul, (jU hx).1, (jU hy).1, Rat.intCast_natCast, Rat.intCast_natCast]
theorem gK {x y : GQ} (hx : QOk x) (hy : QOk y) : QOk (au x y) ∧ ed (au x y) = ed x + ed y := by
  obtain ⟨D, h0, h1, h2, h3, _, _⟩ := rv hx hy
  unfold au
  have hd : fu (aJ x y).2.2 ≠ 0 := fun e => by
    rw [e] at h3
    have h4 : (0 : Rat) = D := h3
    grind
  obtain ⟨k1, k2⟩ := nf (Add_ok (aJ x y).1 (aJ x y).2.1) hd
  refine ⟨k1, ?_⟩
  rw [k2, Add_val, Rat.intCast_add, h1, h2, h3]
  grind
theorem mn {x y : GQ} (hx : QOk x) (hy : QOk y) : QOk (an x y) ∧ ed (an x y) = ed x * ed y := by
  unfold an
  have e1 := (jU hx).1
  have e2 := (jU hy).1
  have h1 := hx.pos
  have h2 := hy.pos
  have hd : fu (bm (aG x) (aG y)) ≠ 0 := by
    rw [kM, e1, e2, ← Int.natCast_mul]
    have := Nat.mul_pos h1 h2
    omega
  obtain ⟨k1, k2⟩ := nf (rT x.num y.num) hd
  refine ⟨k1, ?_⟩
  rw [k2, kM, kM, e1, e2]
  simp only [Rat.intCast_mul, Rat.intCast_natCast]
  have d1 := oo hx
  have d2 := oo hy
  unfold ed
  grind
theorem pc {x : GQ} (hx : QOk x) : QOk (az x) ∧ ed (az x) = - ed x := by
  refine ⟨⟨n7 _, hx.2.1, hx.2.2⟩, ?_⟩
  unfold ed az
  show (fu (aj x.num) : Rat) / (ks x : Rat) = _
  rw [mv, Rat.intCast_neg]
  grind
theorem mf {x y : GQ} (hx : QOk x) (hy : QOk y) : QOk (am x y) ∧ ed (am x y) = ed x - ed y := by
  unfold am
  obtain ⟨k1, k2⟩ := pc hy
  obtain ⟨k3, k4⟩ := gK hx k1
  refine ⟨k3, ?_⟩
  rw [k4, k2]; grind
theorem eY (n : Int) : QOk (ah n) ∧ ed (ah n) = (n : Rat) := by
  refine ⟨⟨kN n, .inl rfl, Nat.coprime_one_right _⟩, ?_⟩
  unfold ed
  show (fu (a6 n) : Rat) / ((1 : Nat) : Rat) = _
  rw [ii]
  grind
theorem zero_ok : QOk ⟨z0, z0⟩ ∧ ed ⟨z0, z0⟩ = 0 := eY 0
end Go.Sx
namespace Go.Sx
def zQ : GQ := ⟨⟨false, 0⟩, ⟨false, 0⟩⟩
theorem i5 : QOk zQ ∧ ed zQ = 0 := zero_ok
def DOk (q : Qd) : Prop := QOk q.c0 ∧ QOk q.c1 ∧ QOk q.c2
def TOk (t : GR) : Prop := QOk t.p ∧ QOk t.r
def lv (t : GR) (q : Qd) : Rat × Rat :=
  if t.r = zQ then (ed q.c0 + ed t.p * (ed q.c1 + ed t.p * ed q.c2), 0)
  else (ed q.c0 + ed q.c2 * (ed t.r - ed t.p * ed t.p), ed q.c1 + (ed q.c2 + ed q.c2) * ed t.p)
theorem rk {q : Qd} {t : GQ} (hq : DOk q) (ht : QOk t) : QOk (bP q t) ∧ ed (bP q t) = ed q.c0 + ed t * (ed q.c1 + ed t * ed q.c2) := by
  obtain ⟨h0, h1, h2⟩ := hq
  unfold bP
  obtain ⟨a1, a2⟩ := mn ht h2
  obtain ⟨b1, b2⟩ := gK h1 a1
  obtain ⟨c1, c2⟩ := mn ht b1
  obtain ⟨d1, d2⟩ := gK h0 c1
  exact ⟨d1, by rw [d2, c2, b2, a2]⟩
theorem slope_ok {q : Qd} {t : GQ} (hq : DOk q) (ht : QOk t) : QOk (cE q t) ∧ ed (cE q t) = ed q.c1 + (ed q.c2 + ed q.c2) * ed t := by
  obtain ⟨h0, h1, h2⟩ := hq
  unfold cE
  obtain ⟨a1, a2⟩ := gK h2 h2
  obtain ⟨b1, b2⟩ := mn a1 ht
  obtain ⟨c1, c2⟩ := gK h1 b1
  exact ⟨c1, by rw [c2, b2, a2]⟩
theorem qr {p q : Qd} (hp : DOk p) (hq : DOk q) : DOk (de p q) ∧ ed (de p q).c0 = ed p.c0 - ed q.c0 ∧ ed (de p q).c1 = ed p.c1 - ed q.c1 ∧ ed (de p q).c2 = ed p.c2 - ed q.c2 := by
  unfold de
  obtain ⟨a1, a2⟩ := mf hp.1 hq.1
  obtain ⟨b1, b2⟩ := mf hp.2.1 hq.2.1
  obtain ⟨c1, c2⟩ := mf hp.2.2 hq.2.2
  exact ⟨⟨a1, b1, c1⟩, a2, b2, c2⟩
theorem ra {a b : GQ} (ha : QOk a) (hb : QOk b) : DOk (aK a b) ∧ (aK a b).c0 = a ∧ (aK a b).c1 = b ∧ (aK a b).c2 = zQ := by
  unfold aK
  exact ⟨⟨ha, hb, i5.1⟩, rfl, rfl, rfl⟩
theorem fq {q : Qd} {t : GR} (hq : DOk q) (ht : TOk t) : DOk (aN q t) ∧ ed (aN q t).c0 = (lv t q).1 ∧ ed (aN q t).c1 = (lv t q).2 ∧ (aN q t).c2 = zQ := by
  unfold aN cB lv
  by_cases e : t.r = zQ
  · rw [decide_eq_true (show t.r = ⟨⟨false, 0⟩, ⟨false, 0⟩⟩ from e), if_pos e]
    obtain ⟨k1, k2⟩ := rk hq ht.1
    exact ⟨⟨k1, i5.1, i5.1⟩, k2, i5.2, rfl⟩
  · rw [decide_eq_false (show ¬ t.r = ⟨⟨false, 0⟩, ⟨false, 0⟩⟩ from e), if_neg e, Bool.not_false, cond_true, cond_false]
    obtain ⟨a1, a2⟩ := mn ht.1 ht.1
    obtain ⟨b1, b2⟩ := mf ht.2 a1
    obtain ⟨c1, c2⟩ := mn hq.2.2 b1
    obtain ⟨d1, d2⟩ := gK hq.1 c1
    obtain ⟨s1, s2⟩ := slope_ok hq ht.1
    obtain ⟨l1, l2, l3, l4⟩ := ra d1 s1
    exact ⟨l1, by rw [l2, d2, c2, b2, a2], by rw [l3, s2], l4⟩
theorem o5 {p q : Qd} (hp : DOk p) (hq : DOk q) (h0 : ed p.c0 = ed q.c0) (h1 : ed p.c1 = ed q.c1) (h2 : ed p.c2 = ed q.c2) : p = q := by
  have e0 := lg hp.1 hq.1 h0
  have e1 := lg hp.2.1 hq.2.1 h1
  have e2 := lg hp.2.2 hq.2.2 h2
  obtain ⟨a, b, c⟩ := p
  obtain ⟨x, y, z⟩ := q
  simp only at e0 e1 e2
  rw [e0, e1, e2]
theorem rl1 (a b c d e f p : Rat) : (a - b) + p * ((c - d) + p * (e - f)) = (a + p * (c + p * e)) - (b + p * (d + p * f)) := by grind
theorem rl2 (a b c d x : Rat) : (a - b) + (c - d) * x = (a + c * x) - (b + d * x) := by grind
theorem rl3 (a b c d x : Rat) : (a - b) + ((c - d) + (c - d)) * x = (a + (c + c) * x) - (b + (d + d) * x) := by grind
theorem lv_sub {p q : Qd} {t : GR} (hp : DOk p) (hq : DOk q) : lv t (de p q) = ((lv t p).1 - (lv t q).1, (lv t p).2 - (lv t q).2) := by
  obtain ⟨_, e0, e1, e2⟩ := qr hp hq
  unfold lv
  by_cases e : t.r = zQ
  · rw [if_pos e, if_pos e, if_pos e, e0, e1, e2, rl1]
    exact Prod.ext rfl (by show (0 : Rat) = 0 - 0; grind)
  · rw [if_neg e, if_neg e, if_neg e, e0, e1, e2, rl2, rl3]
theorem gQ {p q : Qd} {t : GR} (hp : DOk p) (hq : DOk q) (ht : TOk t) : bt p q t = true ↔ lv t p = lv t q := by
  unfold bt
  rw [decide_eq_true_eq]
  obtain ⟨k1, _⟩ := qr hp hq
  obtain ⟨r1, r2, r3, r4⟩ := fq k1 ht
  rw [lv_sub hp hq] at r2 r3
  constructor
  · intro h
    rw [h] at r2 r3
    have z := i5.2
    unfold zQ at z
    refine Prod.ext ?_ ?_
    · simp only at r2; grind
    · simp only at r3; grind
  · intro h
    refine o5 r1 ⟨i5.1, i5.1, i5.1⟩ ?_ ?_ ?_
    · rw [r2, h]; show _ = ed zQ; rw [i5.2]; grind
    · rw [r3, h]; show _ = ed zQ; rw [i5.2]; grind
    · rw [r4]; rfl
theorem kb {q : Qd} {t : GR} (hq : DOk q) (ht : TOk t) : lv t (aN q t) = lv t q := by
  obtain ⟨r1, r2, r3, r4⟩ := fq hq ht
  have h : ∀ x : Qd, ed x.c0 = (lv t q).1 → ed x.c1 = (lv t q).2 → x.c2 = zQ → lv t x = lv t q := by
    intro x e0 e1 e2
    have e3 : ed x.c2 = 0 := by rw [e2]; exact i5.2
    have e4 : t.r = zQ → (lv t q).2 = 0 := fun e => by unfold lv; rw [if_pos e]
    conv => lhs; unfold lv
    split
    · rename_i e
      rw [e4 e] at e1
      refine Prod.ext ?_ ?_
      · simp only; rw [e0, e1, e3]; grind
      · simp only; rw [e4 e]
    · refine Prod.ext ?_ ?_
      · simp only; rw [e0, e3]; grind
      · simp only; rw [e1, e3]; grind
  exact h _ r2 r3 r4
theorem qF {p q : Qd} {t : GR} (hp : DOk p) (hq : DOk q) (ht : TOk t) : aN p t = aN q t ↔ lv t p = lv t q := by
  obtain ⟨r1, r2, r3, r4⟩ := fq hp ht
  obtain ⟨s1, s2, s3, s4⟩ := fq hq ht
  constructor
  · intro h; rw [← kb hp ht, ← kb hq ht, h]
  · intro h; exact o5 r1 s1 (by rw [r2, s2, h]) (by rw [r3, s3, h]) (by rw [r4, s4])
end Go.Sx
