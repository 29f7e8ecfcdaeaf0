/- A part of the proof that the law PiecesChecks answers true at every input and leaves its arguments as they were. -/
import Derived.Test.YtnkaneggnjallaaGreatDoorM2
import Derived.Test.YtnkaneggnjallaaGreatDoorGarith
set_option linter.unusedVariables false
set_option linter.unusedSimpArgs false
namespace Go.Sx
def nxP {S R : Type} (I : S → Prop) (Q : R → Prop) : Nx S R → Prop
  | .go s => I s
  | .out s => I s
  | .ret r => Q r
def smP {S R : Type} (I : S → Prop) (Q : R → Prop) : S ⊕ R → Prop
  | .inl s => I s
  | .inr r => Q r
theorem kA {S R : Type} {B : S → Nx S R} {I : S → Prop} {Q : R → Prop} (h : ∀ s, I s → nxP I Q (B s)) : ∀ (n : Nat) (s : S), I s → smP I Q (bS B n s)
  | 0, s, hs => hs
  | n + 1, s, hs => by
    have h1 := h s hs
    unfold bS
    revert h1
    cases B s with
    | go s' => exact fun h1 => kA h n s' h1
    | out s' => exact fun h1 => h1
    | ret r => exact fun h1 => h1
def Fs (f : Qd) : Prop := f = default ∨ (∃ s, f = aj s) ∨ ∃ c : Int, f = aE (ak (Int.tmod c 4))
def pUn (t : GR) (f : Qd) : U Qd := ⟨⟨t, t, false, false⟩, f⟩
def bPt (s : Stp) (before : Qd) (t : GR) : List (U Qd) :=
  bif ((((s.point % 4) : Nat) : Int) == ((1 : Nat) : Int)) then [pUn t (aj s)]
  else bif ((((s.point % 4) : Nat) : Int) == ((2 : Nat) : Int)) then [pUn t before]
  else bif ((((s.point % 4) : Nat) : Int) == ((3 : Nat) : Int)) then [pUn t (aE (ak (Int.tmod s.c0 4)))]
  else []
def bPs (s : Stp) (before : Qd) (t : GR) (taken : Bool) : List (U Qd) :=
  bif taken then [] else bif ((((s.piece % 4) : Nat) : Int) == ((2 : Nat) : Int)) then [] else bPt s before t
def bGp (s : Stp) (t t' : GR) (taken : Bool) : List (U Qd) :=
  bif ((((s.piece % 4) : Nat) : Int) != ((0 : Nat) : Int)) then [⟨⟨t, t', !(((((s.piece % 4) : Nat) : Int) == ((2 : Nat) : Int)) && !taken), !((((s.piece % 4) : Nat) : Int) == ((3 : Nat) : Int))⟩, aj s⟩] else []
theorem kg (l : List Stp) (out : List (U Qd)) (a : Nat) (root taken : Bool) (i : Nat) (before : Qd) :
    aU l out a root taken i before =
      bif ((decide (((i : Nat) : Int) < ((l.length : Nat) : Int))) && (decide (((i : Nat) : Int) < 8))) then
        .go (out ++ (bPs (gt l i) before (af ((a : Nat) : Int) root) taken ++ bGp (gt l i) (af ((a : Nat) : Int) root) (af (((a + 3) + ((gt l i).length % 3) : Nat) : Int) ((gt l i).root)) taken),
          ((a + 3) + ((gt l i).length % 3)), (gt l i).root, ((((gt l i).piece % 4 : Nat) : Int) == ((3 : Nat) : Int)), (i + 1), aj (gt l i))
      else .out (out, a, root, taken, i, before) := by
  unfold aU
  congr 1
  generalize gt l i = s
  unfold bPs bGp bPt pUn
  cases e2 : ((((s.piece % 4) : Nat) : Int) == ((2 : Nat) : Int)) <;> cases taken <;>
    simp only [Bool.not_true, Bool.not_false, Bool.and_true, Bool.and_false, cond_true, cond_false, Bool.false_eq_true] <;>
    cases ((((s.piece % 4) : Nat) : Int) != ((0 : Nat) : Int)) <;> simp only [cond_true, cond_false, List.append_nil, List.nil_append] <;>
    cases ((((s.point % 4) : Nat) : Int) == ((1 : Nat) : Int)) <;> simp only [cond_true, cond_false, List.append_nil, List.nil_append, List.append_assoc] <;>
    cases ((((s.point % 4) : Nat) : Int) == ((2 : Nat) : Int)) <;> simp only [cond_true, cond_false, List.append_nil, List.nil_append, List.append_assoc] <;>
    cases ((((s.point % 4) : Nat) : Int) == ((3 : Nat) : Int)) <;> simp only [cond_true, cond_false, List.append_nil, List.nil_append, List.append_assoc]
theorem bUs_ok {taken p0 p2 p3 : Bool} {t t' : GR} {f : Qd} {P : List (U Qd)} (ht : Tm t) (ht' : Tm t') (hlt : tk t < tk t') (hf : Fs f)
    (hP : P = [] ∨ (taken = false ∧ p2 = false ∧ ∃ g, Fs g ∧ P = [pUn t g])) :
    (∀ x ∈ P ++ (bif p0 then [(⟨⟨t, t', !(p2 && !taken), !p3⟩, f⟩ : U Qd)] else []), Wv x.iv ∧ Fs x.f ∧ gk x.iv < 2 * tk t' + (bif p3 then 1 else 0) ∧ (2 * tk t + (bif taken then 1 else 0) : Int) ≤ eQ x.iv) ∧
    (P ++ (bif p0 then [(⟨⟨t, t', !(p2 && !taken), !p3⟩, f⟩ : U Qd)] else [])).Pairwise fun a b => Dj a.iv b.iv := by
  have hg : ∀ x ∈ (bif p0 then [(⟨⟨t, t', !(p2 && !taken), !p3⟩, f⟩ : U Qd)] else []), x = ⟨⟨t, t', !(p2 && !taken), !p3⟩, f⟩ := by
    cases p0
    · intro x hx; cases hx
    · intro x hx; exact List.mem_singleton.1 hx
  have gok : Wv (⟨t, t', !(p2 && !taken), !p3⟩ : Iv) := ⟨⟨ht, ht'⟩, Nat.le_of_lt hlt, fun e => by have e : tk t = tk t' := e; omega⟩
  have g1 : gk (⟨t, t', !(p2 && !taken), !p3⟩ : Iv) < 2 * tk t' + (bif p3 then 1 else 0) := by
    unfold gk; cases p3 <;> simp <;> omega
  have g2 : (2 * tk t + (bif taken then 1 else 0) : Int) ≤ eQ (⟨t, t', !(p2 && !taken), !p3⟩ : Iv) := by
    unfold eQ; cases p2 <;> cases taken <;> simp <;> omega
  rcases hP with rfl | ⟨h1, h2, g, hgf, rfl⟩
  · rw [List.nil_append]
    refine ⟨fun x hx => by rw [hg x hx]; exact ⟨gok, hf, g1, g2⟩, ?_⟩
    cases p0
    · exact List.Pairwise.nil
    · exact List.pairwise_singleton _ _
  · subst h1 h2
    have hpw : Wv (pUn t g).iv := ⟨⟨ht, ht⟩, Nat.le_refl _, fun _ => ⟨rfl, rfl⟩⟩
    have pl : gk (pUn t g).iv = 2 * tk t := by unfold gk pUn; simp
    have pf : eQ (pUn t g).iv = 2 * tk t := by unfold eQ pUn; simp
    refine ⟨fun x hx => ?_, ?_⟩
    · rcases List.mem_append.1 hx with hx | hx
      · rw [List.mem_singleton.1 hx]
        refine ⟨hpw, hgf, ?_, ?_⟩
        · rw [pl]; cases p3 <;> simp <;> omega
        · rw [pf]; simp <;> omega
      · rw [hg x hx]; exact ⟨gok, hf, g1, g2⟩
    · rw [List.singleton_append, List.pairwise_cons]
      refine ⟨fun y hy => ?_, ?_⟩
      · rw [hg y hy]
        refine .inl ?_
        rw [pl]
        unfold eQ; simp <;> omega
      · cases p0
        · exact List.Pairwise.nil
        · exact List.pairwise_singleton _ _
def BI (s : (List (U Qd)) × Nat × Bool × Bool × Nat × Qd) : Prop :=
  s.2.1 ≤ 5 * s.2.2.2.2.1 ∧ s.2.2.2.2.1 ≤ 8 ∧ Fs s.2.2.2.2.2 ∧ (∀ x ∈ s.1, Wv x.iv ∧ Fs x.f ∧ gk x.iv < ((2 * (10 * s.2.1 + (bif s.2.2.1 then 14 else 0)) + (bif s.2.2.2.1 then 1 else 0) : Nat) : Int)) ∧ s.1.Pairwise fun a b => Dj a.iv b.iv
theorem qV (l : List Stp) (s : (List (U Qd)) × Nat × Bool × Bool × Nat × Qd) (h : BI s) :
    nxP BI (fun _ => False) (aU l s.1 s.2.1 s.2.2.1 s.2.2.2.1 s.2.2.2.2.1 s.2.2.2.2.2) := by
  obtain ⟨out, a, root, taken, i, before⟩ := s
  obtain ⟨h1, h2, h3, h4, h5⟩ := h
  simp only at h1 h2 h3 h4 h5
  rw [kg]
  cases hc : ((decide (((i : Nat) : Int) < ((l.length : Nat) : Int))) && (decide (((i : Nat) : Int) < 8))) with
  | false => exact ⟨h1, h2, h3, h4, h5⟩
  | true =>
    rw [cond_true]
    rw [Bool.and_eq_true, decide_eq_true_eq, decide_eq_true_eq] at hc
    have hi : i < 8 := by omega
    have hm : (gt l i).length % 3 < 3 := Nat.mod_lt _ (by decide)
    have e1 := tk_at a root (by omega)
    have e2 := tk_at ((a + 3) + ((gt l i).length % 3)) (gt l i).root (by omega)
    have hlt : tk (af ((a : Nat) : Int) root) < tk (af (((a + 3) + ((gt l i).length % 3) : Nat) : Int) ((gt l i).root)) := by
      rw [e1, e2]; cases root <;> cases (gt l i).root <;> simp <;> omega
    have hF : Fs (aj (gt l i)) := .inr (.inl ⟨_, rfl⟩)
    have hP : bPs (gt l i) before (af ((a : Nat) : Int) root) taken = [] ∨ (taken = false ∧ ((((gt l i).piece % 4 : Nat) : Int) == ((2 : Nat) : Int)) = false ∧ ∃ g, Fs g ∧ bPs (gt l i) before (af ((a : Nat) : Int) root) taken = [pUn (af ((a : Nat) : Int) root) g]) := by
      unfold bPs bPt
      cases taken
      · rw [cond_false]
        cases ((((gt l i).piece % 4 : Nat) : Int) == ((2 : Nat) : Int))
        · rw [cond_false]
          cases ((((gt l i).point % 4 : Nat) : Int) == ((1 : Nat) : Int))
          · rw [cond_false]
            cases ((((gt l i).point % 4 : Nat) : Int) == ((2 : Nat) : Int))
            · rw [cond_false]
              cases ((((gt l i).point % 4 : Nat) : Int) == ((3 : Nat) : Int))
              · exact .inl rfl
              · exact .inr ⟨rfl, rfl, _, .inr (.inr ⟨_, rfl⟩), rfl⟩
            · exact .inr ⟨rfl, rfl, _, h3, rfl⟩
          · exact .inr ⟨rfl, rfl, _, hF, rfl⟩
        · exact .inl rfl
      · exact .inl rfl
    obtain ⟨k1, k2⟩ := bUs_ok (p0 := ((((gt l i).piece % 4 : Nat) : Int) != ((0 : Nat) : Int))) (p3 := ((((gt l i).piece % 4 : Nat) : Int) == ((3 : Nat) : Int))) (tm_at a root (by omega)) (tm_at ((a + 3) + ((gt l i).length % 3)) (gt l i).root (by omega)) hlt hF hP
    refine ⟨?_, ?_, hF, fun x hx => ?_, ?_⟩
    · show (a + 3) + ((gt l i).length % 3) ≤ 5 * (i + 1); omega
    · show i + 1 ≤ 8; omega
    · show Wv x.iv ∧ Fs x.f ∧ gk x.iv < ((2 * (10 * ((a + 3) + ((gt l i).length % 3)) + (bif (gt l i).root then 14 else 0)) + (bif ((((gt l i).piece % 4 : Nat) : Int) == ((3 : Nat) : Int)) then 1 else 0) : Nat) : Int)
      rw [e1, e2] at hlt
      rcases List.mem_append.1 hx with hx | hx
      · obtain ⟨a1, a2, a3⟩ := h4 x hx
        refine ⟨a1, a2, ?_⟩
        clear h4 k1 k2 hP e1 e2 h5
        generalize ((((gt l i).piece % 4 : Nat) : Int) == ((3 : Nat) : Int)) = p3 at *
        generalize (gt l i).root = rt at *
        cases root <;> cases taken <;> cases rt <;> cases p3 <;> simp only [cond_true, cond_false] at * <;> omega
      · obtain ⟨a1, a2, a3, _⟩ := k1 x hx
        rw [e2] at a3
        refine ⟨a1, a2, ?_⟩
        clear h4 k1 k2 hP e1 e2 h5
        generalize ((((gt l i).piece % 4 : Nat) : Int) == ((3 : Nat) : Int)) = p3 at *
        generalize (gt l i).root = rt at *
        cases rt <;> cases p3 <;> simp only [cond_true, cond_false] at * <;> omega
    · show (out ++ _).Pairwise _
      rw [List.pairwise_append]
      refine ⟨h5, k2, fun x hx y hy => .inl ?_⟩
      obtain ⟨_, _, a3⟩ := h4 x hx
      obtain ⟨_, _, _, a4⟩ := k1 y hy
      rw [e1] at a4
      clear h4 k1 k2 hP e1 e2 h5 hlt
      cases root <;> cases taken <;> simp only [cond_true, cond_false] at * <;> omega
theorem jP (l : List Stp) : (∀ x ∈ ab l, Wv x.iv ∧ Fs x.f) ∧ (ab l).Pairwise fun a b => Dj a.iv b.iv := by
  have h := kA (R := List (U Qd)) (Q := fun _ => False) (B := fun s => aU l s.1 s.2.1 s.2.2.1 s.2.2.2.1 s.2.2.2.2.1 s.2.2.2.2.2) (I := BI) (qV l) ((8 - 0) + 1) ([], 0, false, false, 0, default)
    ⟨by decide, by decide, .inl rfl, fun x hx => (by cases hx), List.Pairwise.nil⟩
  have e : ∃ s, BI s ∧ ab l = s.1 := by
    unfold ab
    revert h
    generalize bS _ _ _ = X
    intro h
    match X, h with
    | .inl s, h => exact ⟨s, h, rfl⟩
  obtain ⟨s, hs, e⟩ := e
  rw [e]
  exact ⟨fun x hx => ⟨(hs.2.2.2.1 x hx).1, (hs.2.2.2.1 x hx).2.1⟩, hs.2.2.2.2⟩
end Go.Sx
namespace Go.Sx
theorem foldl_cons {α β : Type} (g : α → β) : ∀ (l : List α) (o : List β), l.foldl (fun o i => g i :: o) o = (l.map g).reverse ++ o
  | [], o => rfl
  | x :: l, o => by rw [List.foldl_cons, foldl_cons g l]; simp
theorem iz {α : Type} [Inhabited α] {z : α} {u : List (U α)} {E : List GR} {i : Nat} (h : i < (eZ z u E).length) : gt (eZ z u E) i = gP u (gt (ep z E) i) := by
  have h2 : i < (ep z E).length := by simpa [eZ] using h
  have : gt ((ep z E).map (gP u)) i = gP u (gt (ep z E) i) := by
    rw [fv (by simpa using h2), fv h2, List.getElem_map]
  exact this
theorem kG {α : Type} [Inhabited α] {z : α} {u : List (U α)} {E : List GR} (hE : Ts E) : Turns tk (eZ z u E) := by
  have hl : (eZ z u E).length = (ep z E).length := by unfold eZ; rw [List.length_map]
  have ok : ∀ {i}, i < (eZ z u E).length → _ := fun {i} hi => nR (z := z) hE (a := gt (ep z E) i) (by rw [fv (hl ▸ hi)]; exact List.getElem_mem _)
  refine ⟨fun i hi => ?_, fun i hi => ?_, fun i hi hg => ?_, fun i hi hg => ?_⟩
  · rw [iz hi, (en u _).2.1]; exact (mw i (hl ▸ hi)).1
  · rw [iz hi, iz (by omega : i < (eZ z u E).length), (en u _).1, (en u _).2.2]
    exact (mw i (by omega)).2 (hl ▸ hi)
  · rw [iz hi] at hg ⊢
    rw [(en u _).2.1] at hg
    rw [(en u _).1, (en u _).2.2]
    exact (ok hi).2.2.1 hg
  · rw [iz hi] at hg ⊢
    rw [(en u _).2.1] at hg
    rw [(en u _).1, (en u _).2.2]
    exact (ok hi).2.2.2 hg
end Go.Sx
namespace Go.Sx
def fm (a : GI) : Int := bif a.neg then -(a.mag : Int) else (a.mag : Int)
def IOk (a : GI) : Prop := a.mag = 0 → a.neg = false
theorem j6 (s : Bool) (m : Nat) : IOk (ay s m) := by
  intro h
  have h : m = 0 := h
  subst h
  cases s <;> rfl
theorem fu (s : Bool) (m : Nat) : fm (ay s m) = bif s then -(m : Int) else (m : Int) := by
  unfold fm ay
  by_cases h : m = 0
  · subst h; cases s <;> rfl
  · cases s <;> simp [h]
theorem ival_inj {a b : GI} (ha : IOk a) (hb : IOk b) (h : fm a = fm b) : a = b := by
  obtain ⟨s, m⟩ := a
  obtain ⟨r, n⟩ := b
  unfold fm at h
  unfold IOk at ha hb
  simp only at ha hb h
  cases s <;> cases r <;> simp only [cond_true, cond_false] at h
  · have : m = n := by omega
    rw [this]
  · have h1 : m = 0 := by omega
    have h2 : n = 0 := by omega
    exact absurd (hb h2) (by decide)
  · have h1 : m = 0 := by omega
    exact absurd (ha h1) (by decide)
  · have : m = n := by omega
    rw [this]
theorem lP (n : Int) : IOk (bO n) := by
  unfold IOk bO
  intro h
  have h : n.natAbs = 0 := h
  exact decide_eq_false (by omega)
theorem lm (n : Int) : fm (bO n) = n := by
  unfold fm bO
  by_cases h : n < 0
  · simp only [decide_eq_true h, cond_true]; omega
  · simp only [decide_eq_false h, cond_false]; omega
theorem pK (m : Nat) : 0 ≤ ((m : Nat) : Int).sign := by
  cases m with
  | zero => decide
  | succ m => exact Int.le_of_lt (by rw [Int.sign_eq_one_of_pos (by omega)]; decide)
theorem mA (a : GI) : cg a = (fm a).sign := by
  obtain ⟨s, m⟩ := a
  unfold cg fm
  by_cases h : m = 0
  · subst h; cases s <;> rfl
  · rw [decide_eq_false h]
    cases s
    · exact (Int.sign_eq_one_of_pos (by show (0 : Int) < (m : Int); omega)).symm
    · exact (Int.sign_eq_neg_one_of_neg (by show -(m : Int) < 0; omega)).symm
theorem lO (a : GI) : fm (am a) = - fm a := by
  unfold am
  rw [fu]
  unfold fm
  cases a.neg <;> simp
theorem qJ (a b : Nat) : aY a b = if a < b then -1 else if b < a then 1 else 0 := by
  unfold aY
  rcases Nat.lt_trichotomy a b with h | h | h
  · rw [show Nat.blt a b = true by rw [Nat.blt_eq]; exact h, cond_true, if_pos h]
  · subst h
    have h1 : Nat.blt a a = false := by
      cases e : Nat.blt a a with
      | false => rfl
      | true => rw [Nat.blt_eq] at e; omega
    rw [h1, Nat.beq_refl, if_neg (Nat.lt_irrefl _), if_neg (Nat.lt_irrefl _)]; rfl
  · have h1 : Nat.blt a b = false := by
      cases e : Nat.blt a b with
      | false => rfl
      | true => rw [Nat.blt_eq] at e; omega
    have h2 : Nat.beq a b = false := by
      cases e : Nat.beq a b with
      | false => rfl
      | true => have := Nat.eq_of_beq_eq_true e; omega
    rw [h1, h2, if_neg (by omega), if_pos h]; rfl
theorem Add_val (a b : GI) : fm (dp a b) = fm a + fm b := by
  obtain ⟨s, m⟩ := a
  obtain ⟨r, n⟩ := b
  unfold dp bV bY
  simp only [qJ]
  cases s <;> cases r
  · show fm (ay false (m + n)) = (m : Int) + n
    rw [fu]; simp
  · show fm (bif decide (_ ≥ (0 : Int)) then ay false (m - n) else ay true (n - m)) = (m : Int) + -n
    split <;> rename_i h1
    · simp only [show decide ((-1 : Int) ≥ 0) = false from rfl, cond_false, fu, cond_true]; omega
    · split
      · simp only [show decide ((1 : Int) ≥ 0) = true from rfl, cond_true, fu, cond_false]; omega
      · simp only [show decide ((0 : Int) ≥ 0) = true from rfl, cond_true, fu, cond_false]; omega
  · show fm (bif decide (_ ≥ (0 : Int)) then ay true (m - n) else ay false (n - m)) = -(m : Int) + n
    split <;> rename_i h1
    · simp only [show decide ((-1 : Int) ≥ 0) = false from rfl, cond_false, fu, cond_true]; omega
    · split
      · simp only [show decide ((1 : Int) ≥ 0) = true from rfl, cond_true, fu, cond_false]; omega
      · simp only [show decide ((0 : Int) ≥ 0) = true from rfl, cond_true, fu, cond_false]; omega
  · show fm (ay true (m + n)) = -(m : Int) + -n
    rw [fu, cond_true]; omega
theorem Add_ok (a b : GI) : IOk (dp a b) := by
  unfold dp
  cases (a.neg == b.neg)
  · rw [cond_false]
    cases (decide ((aY a.mag b.mag) ≥ 0)) <;> exact j6 _ _
  · exact j6 _ _
theorem rc (a b : GI) : IOk (bj a b) := j6 _ _
theorem nq (a : GI) : IOk (am a) := j6 _ _
theorem kh (a b : GI) : fm (bj a b) = fm a * fm b := by
  obtain ⟨s, m⟩ := a
  obtain ⟨r, n⟩ := b
  unfold bj db
  rw [fu]
  unfold fm
  cases s <;> cases r <;> simp [Int.neg_mul, Int.mul_neg]
def icmp (a b : Int) : Int := if a < b then -1 else if b < a then 1 else 0
theorem pm (a b : Int) : cO a b = icmp a b := by
  unfold cO icmp eH
  rcases Int.lt_trichotomy a b with h | h | h
  · simp [h]
  · subst h; simp
  · simp [h, show ¬ a < b by omega]
theorem nS {a b : GI} (ha : IOk a) (hb : IOk b) : aO a b = icmp (fm a) (fm b) := by
  obtain ⟨s, m⟩ := a
  obtain ⟨r, n⟩ := b
  unfold aO
  rw [pm, mA, mA, qJ]
  unfold fm icmp
  unfold IOk at ha hb
  simp only at ha hb
  cases s <;> cases r
  · simp only [bne_self_eq_false, cond_false]
    rcases Nat.lt_trichotomy m n with h | h | h
    · rw [if_pos h, if_pos (by omega)]
    · subst h; simp
    · rw [if_neg (by omega), if_pos h, if_neg (by omega), if_pos (by omega)]
  · have : n ≠ 0 := fun e => absurd (hb e) (by decide)
    have e1 : (-(n : Int)).sign = -1 := Int.sign_eq_neg_one_of_neg (by omega)
    have e2 : 0 ≤ (m : Int).sign := pK m
    show (if (m : Int).sign < (-(n : Int)).sign then (-1 : Int) else if (-(n : Int)).sign < (m : Int).sign then 1 else 0) = if (m : Int) < -(n : Int) then -1 else if -(n : Int) < (m : Int) then 1 else 0
    simp only [e1, if_neg (show ¬ (m : Int).sign < -1 by omega), if_pos (show (-1 : Int) < (m : Int).sign by omega), if_neg (show ¬ (m : Int) < -(n : Int) by omega), if_pos (show -(n : Int) < (m : Int) by omega)]
  · have : m ≠ 0 := fun e => absurd (ha e) (by decide)
    have e1 : (-(m : Int)).sign = -1 := Int.sign_eq_neg_one_of_neg (by omega)
    have e2 : 0 ≤ (n : Int).sign := pK n
    show (if (-(m : Int)).sign < (n : Int).sign then (-1 : Int) else if (n : Int).sign < (-(m : Int)).sign then 1 else 0) = if -(m : Int) < (n : Int) then -1 else if (n : Int) < -(m : Int) then 1 else 0
    simp only [e1, if_pos (show (-1 : Int) < (n : Int).sign by omega), if_pos (show -(m : Int) < (n : Int) by omega)]
  · simp only [bne_self_eq_false, cond_false, cond_true]
    rcases Nat.lt_trichotomy m n with h | h | h
    · rw [if_pos h, if_neg (by omega), if_pos (by omega)]; rfl
    · subst h; simp
    · rw [if_neg (by omega), if_pos h, if_pos (by omega)]
theorem nE (a : GI) : (fm a).natAbs = a.mag := by unfold fm; cases a.neg <;> simp
theorem n9 {a b : GI} (hb : b.neg = false) (h0 : b.mag ≠ 0) (hd : b.mag ∣ a.mag) : ao a b = ay a.neg (a.mag / b.mag) := by
  unfold ao cp aQ
  rw [decide_eq_false h0, cond_false, Nat.mod_eq_zero_of_dvd hd, hb]
  simp
def z0 : GI := ⟨false, 0⟩
def lD (x : GQ) : Nat := if x.den = z0 then 1 else x.den.mag
def QOk (x : GQ) : Prop := IOk x.num ∧ (x.den = z0 ∨ (x.den.neg = false ∧ 1 < x.den.mag)) ∧ Nat.Coprime x.num.mag (lD x)
def eL (x : GQ) : Rat := (fm x.num : Rat) / (lD x : Rat)
theorem QOk.pos {x : GQ} (h : QOk x) : 0 < lD x := by
  unfold lD
  split
  · decide
  · rename_i e
    rcases h.2.1 with h1 | ⟨_, h1⟩
    · exact absurd h1 e
    · omega
theorem pT {x : GQ} (h : QOk x) : eL x = ⟨fm x.num, lD x, Nat.ne_of_gt h.pos, by rw [nE]; exact h.2.2⟩ := by
  rw [Rat.mk_eq_mkRat, Rat.mkRat_eq_div]; rfl
theorem lX {x y : GQ} (hx : QOk x) (hy : QOk y) (h : eL x = eL y) : x = y := by
  rw [pT hx, pT hy] at h
  injection h with h1 h2
  obtain ⟨n, d⟩ := x
  obtain ⟨m, e⟩ := y
  have e1 : n = m := ival_inj hx.1 hy.1 h1
  have e2 : d = e := by
    unfold lD at h2
    have hx2 := hx.2.1
    have hy2 := hy.2.1
    simp only at h2 hx2 hy2
    by_cases c1 : d = z0
    · by_cases c2 : e = z0
      · rw [c1, c2]
      · rw [if_pos c1, if_neg c2] at h2
        rcases hy2 with h3 | ⟨_, h3⟩
        · exact absurd h3 c2
        · omega
    · by_cases c2 : e = z0
      · rw [if_neg c1, if_pos c2] at h2
        rcases hx2 with h3 | ⟨_, h3⟩
        · exact absurd h3 c1
        · omega
      · rw [if_neg c1, if_neg c2] at h2
        obtain ⟨a1, a2⟩ := hx2.resolve_left c1
        obtain ⟨b1, b2⟩ := hy2.resolve_left c2
        obtain ⟨s, p⟩ := d
        obtain ⟨r, q⟩ := e
        simp only at a1 b1 h2
        rw [a1, b1, h2]
  rw [e1, e2]
theorem qa : fm rational_one = 1 := lm 1
theorem ju {x : GQ} (h : QOk x) : fm (aC x) = lD x ∧ (aC x).neg = false := by
  unfold aC lD
  by_cases e : x.den = z0
  · rw [decide_eq_true (show x.den = ⟨false, 0⟩ from e), if_pos e]
    exact ⟨qa, rfl⟩
  · rw [decide_eq_false (show ¬ x.den = ⟨false, 0⟩ from e), if_neg e, cond_false]
    obtain ⟨h1, h2⟩ := h.2.1.resolve_left e
    refine ⟨?_, h1⟩
    unfold fm
    rw [h1]; rfl
theorem ng {n d : GI} (hn : IOk n) (hdn : d.neg = false) (hd : d.mag ≠ 0) :
    QOk (bif (decide ((ao d (au n d)) = rational_one)) then (⟨(ao n (au n d)), (⟨false, 0⟩ : GI)⟩ : GQ) else (⟨(ao n (au n d)), (ao d (au n d))⟩ : GQ)) ∧
    eL (bif (decide ((ao d (au n d)) = rational_one)) then (⟨(ao n (au n d)), (⟨false, 0⟩ : GI)⟩ : GQ) else (⟨(ao n (au n d)), (ao d (au n d))⟩ : GQ)) = (fm n : Rat) / (d.mag : Rat) := by
  have hg : 0 < Nat.gcd n.mag d.mag := Nat.gcd_pos_of_pos_right _ (by omega)
  have q1 : ao d (au n d) = ay false (d.mag / Nat.gcd n.mag d.mag) := by
    have := n9 (a := d) (b := au n d) rfl (by show Nat.gcd n.mag d.mag ≠ 0; omega) (Nat.gcd_dvd_right _ _)
    rw [hdn] at this
    exact this
  have q2 : ao n (au n d) = ay n.neg (n.mag / Nat.gcd n.mag d.mag) :=
    n9 (a := n) (b := au n d) rfl (by show Nat.gcd n.mag d.mag ≠ 0; omega) (Nat.gcd_dvd_left _ _)
  rw [q1, q2]
  have hdp : 0 < d.mag / Nat.gcd n.mag d.mag := Nat.div_pos (Nat.le_of_dvd (by omega) (Nat.gcd_dvd_right _ _)) hg
  have hcop : Nat.Coprime (n.mag / Nat.gcd n.mag d.mag) (d.mag / Nat.gcd n.mag d.mag) := Nat.coprime_div_gcd_div_gcd hg
  have hval : (fm (ay n.neg (n.mag / Nat.gcd n.mag d.mag)) : Rat) / ((d.mag / Nat.gcd n.mag d.mag : Nat) : Rat) = (fm n : Rat) / (d.mag : Rat) := by
    have e1 : fm n = fm (ay n.neg (n.mag / Nat.gcd n.mag d.mag)) * (Nat.gcd n.mag d.mag : Int) := by
      rw [fu]
      have := Nat.div_mul_cancel (Nat.gcd_dvd_left n.mag d.mag)
      unfold fm
      cases n.neg
      · simp only [cond_false]; rw [← Int.natCast_mul, this]
      · simp only [cond_true]; rw [Int.neg_mul, ← Int.natCast_mul, this]
    have e2 : d.mag = (d.mag / Nat.gcd n.mag d.mag) * Nat.gcd n.mag d.mag := (Nat.div_mul_cancel (Nat.gcd_dvd_right n.mag d.mag)).symm
    have g0 : ((Nat.gcd n.mag d.mag : Nat) : Rat) ≠ 0 := by
      intro e
      have : Nat.gcd n.mag d.mag = 0 := by exact_mod_cast e
      omega
    have d0 : ((d.mag / Nat.gcd n.mag d.mag : Nat) : Rat) ≠ 0 := by
      intro e
      have : d.mag / Nat.gcd n.mag d.mag = 0 := by exact_mod_cast e
      omega
    rw [e1, Rat.intCast_mul, Rat.intCast_natCast]
    conv => rhs; rhs; rw [e2]
    rw [Rat.natCast_mul]
    grind
  by_cases e : d.mag / Nat.gcd n.mag d.mag = 1
  · have e' : ay false (d.mag / Nat.gcd n.mag d.mag) = rational_one := by rw [e]; rfl
    rw [decide_eq_true e', cond_true]
    refine ⟨⟨j6 _ _, .inl rfl, ?_⟩, ?_⟩
    · show Nat.Coprime (n.mag / Nat.gcd n.mag d.mag) 1; exact Nat.coprime_one_right _
    · rw [← hval, e]; rfl
  · have e' : ¬ ay false (d.mag / Nat.gcd n.mag d.mag) = rational_one := fun h => e (by
      have : (ay false (d.mag / Nat.gcd n.mag d.mag)).mag = rational_one.mag := by rw [h]
      exact this)
    rw [decide_eq_false e', cond_false]
    have ez : ¬ (ay false (d.mag / Nat.gcd n.mag d.mag)) = z0 := fun h => by
      have : (ay false (d.mag / Nat.gcd n.mag d.mag)).mag = z0.mag := by rw [h]
      have : d.mag / Nat.gcd n.mag d.mag = 0 := this
      omega
    have eq : lD (⟨ay n.neg (n.mag / Nat.gcd n.mag d.mag), ay false (d.mag / Nat.gcd n.mag d.mag)⟩ : GQ) = d.mag / Nat.gcd n.mag d.mag := if_neg ez
    refine ⟨⟨j6 _ _, .inr ⟨rfl, by show 1 < d.mag / Nat.gcd n.mag d.mag; omega⟩, ?_⟩, ?_⟩
    · rw [eq]; exact hcop
    · unfold eL
      rw [eq, ← hval]
theorem oM {n d : GI} (hn : IOk n) (hd : fm d ≠ 0) : QOk (be n d) ∧ eL (be n d) = (fm n : Rat) / (fm d : Rat) := by
  have hm : d.mag ≠ 0 := fun e => hd (by unfold fm; rw [e]; cases d.neg <;> rfl)
  unfold be
  rw [mA]
  cases hs : d.neg with
  | false =>
    have e : fm d = (d.mag : Int) := by unfold fm; rw [hs]; rfl
    rw [decide_eq_false (by rw [e]; have := pK d.mag; omega), cond_false, e, Rat.intCast_natCast]
    exact ng hn hs hm
  | true =>
    have e : fm d = -(d.mag : Int) := by unfold fm; rw [hs]; rfl
    rw [decide_eq_true (by rw [e, Int.sign_eq_neg_one_of_neg (by omega)]; decide), cond_true, e]
    have hN : (am d).neg = false := by
      unfold am ay; rw [hs]; rfl
    have hM : (am d).mag = d.mag := rfl
    obtain ⟨k1, k2⟩ := ng (nq n) hN (by rw [hM]; exact hm)
    refine ⟨k1, k2.trans ?_⟩
    rw [lO, hM, Rat.intCast_neg, Rat.intCast_neg, Rat.intCast_natCast]
    have d0 : (d.mag : Rat) ≠ 0 := by
      intro e
      have : d.mag = 0 := by exact_mod_cast e
      omega
    grind
theorem pU {x : GQ} (h : QOk x) : (lD x : Rat) ≠ 0 := by
  intro e
  have : lD x = 0 := by exact_mod_cast e
  have := h.pos
  omega
theorem oa {x : GQ} (h : QOk x) : (0 : Rat) < (lD x : Rat) := by
  have := h.pos
  exact_mod_cast this
theorem qH {x y : GQ} (hx : QOk x) (hy : QOk y) : ∃ D : Rat, 0 < D ∧ (fm (aD x y).1 : Rat) = eL x * D ∧ (fm (aD x y).2.1 : Rat) = eL y * D ∧ (fm (aD x y).2.2 : Rat) = D ∧ IOk (aD x y).1 ∧ IOk (aD x y).2.1 := by
  have h1 := oa hx
  have h2 := oa hy
  unfold aD
  by_cases e : x.den = y.den
  · rw [decide_eq_true e, cond_true]
    have e2 : lD x = lD y := by unfold lD; rw [e]
    refine ⟨lD x, h1, ?_, ?_, ?_, hx.1, hy.1⟩
    · unfold eL; show (fm x.num : Rat) = _; grind
    · unfold eL; rw [e2]; show (fm y.num : Rat) = _; grind
    · show (fm (aC x) : Rat) = _
      rw [(ju hx).1, Rat.intCast_natCast]
  · rw [decide_eq_false e, cond_false]
    refine ⟨(lD x : Rat) * (lD y : Rat), Rat.mul_pos h1 h2, ?_, ?_, ?_, rc _ _, rc _ _⟩
    · show (fm (bj x.num (aC y)) : Rat) = _
      rw [kh, Rat.intCast_mul, (ju hy).1, Rat.intCast_natCast]
      unfold eL; grind
    · show (fm (bj y.num (aC x)) : Rat) = _
      rw [kh, Rat.intCast_mul, (ju hx).1, Rat.intCast_natCast]
      unfold eL; grind
    · show (fm (bj (aC x) (aC y)) : Rat) = _
      rw [kh, Rat.intCast_mul, (ju hx).1, (ju hy).1, Rat.intCast_natCast, Rat.intCast_natCast]
theorem lN {x y : GQ} (hx : QOk x) (hy : QOk y) : QOk (aK x y) ∧ eL (aK x y) = eL x + eL y := by
  obtain ⟨D, h0, h1, h2, h3, _, _⟩ := qH hx hy
  unfold aK
  have hd : fm (aD x y).2.2 ≠ 0 := fun e => by
    rw [e] at h3
    have h4 : (0 : Rat) = D := h3
    grind
  obtain ⟨k1, k2⟩ := oM (Add_ok (aD x y).1 (aD x y).2.1) hd
  refine ⟨k1, ?_⟩
  rw [k2, Add_val, Rat.intCast_add, h1, h2, h3]
  grind
theorem mO {x y : GQ} (hx : QOk x) (hy : QOk y) : QOk (aq x y) ∧ eL (aq x y) = eL x * eL y := by
  unfold aq
  have e1 := (ju hx).1
  have e2 := (ju hy).1
  have h1 := hx.pos
  have h2 := hy.pos
  have hd : fm (bj (aC x) (aC y)) ≠ 0 := by
    rw [kh, e1, e2, ← Int.natCast_mul]
    have := Nat.mul_pos h1 h2
    omega
  obtain ⟨k1, k2⟩ := oM (rc x.num y.num) hd
  refine ⟨k1, ?_⟩
  rw [k2, kh, kh, e1, e2]
  simp only [Rat.intCast_mul, Rat.intCast_natCast]
  have d1 := pU hx
  have d2 := pU hy
  unfold eL
  grind
theorem neg_ok {x : GQ} (hx : QOk x) : QOk (bA x) ∧ eL (bA x) = - eL x := by
  refine ⟨⟨nq _, hx.2.1, hx.2.2⟩, ?_⟩
  unfold eL bA
  show (fm (am x.num) : Rat) / (lD x : Rat) = _
  rw [lO, Rat.intCast_neg]
  grind
theorem nV {x y : GQ} (hx : QOk x) (hy : QOk y) : QOk (an x y) ∧ eL (an x y) = eL x - eL y := by
  unfold an
  obtain ⟨k1, k2⟩ := neg_ok hy
  obtain ⟨k3, k4⟩ := lN hx k1
  refine ⟨k3, ?_⟩
  rw [k4, k2]; grind
theorem fo (n : Int) : QOk (ak n) ∧ eL (ak n) = (n : Rat) := by
  refine ⟨⟨lP n, .inl rfl, Nat.coprime_one_right _⟩, ?_⟩
  unfold eL
  show (fm (bO n) : Rat) / ((1 : Nat) : Rat) = _
  rw [lm]
  grind
theorem zero_ok : QOk ⟨z0, z0⟩ ∧ eL ⟨z0, z0⟩ = 0 := fo 0
end Go.Sx
namespace Go.Sx
def zQ : GQ := ⟨⟨false, 0⟩, ⟨false, 0⟩⟩
theorem iK : QOk zQ ∧ eL zQ = 0 := zero_ok
def DOk (q : Qd) : Prop := QOk q.c0 ∧ QOk q.c1 ∧ QOk q.c2
def TOk (t : GR) : Prop := QOk t.p ∧ QOk t.r
def lv (t : GR) (q : Qd) : Rat × Rat :=
  if t.r = zQ then (eL q.c0 + eL t.p * (eL q.c1 + eL t.p * eL q.c2), 0)
  else (eL q.c0 + eL q.c2 * (eL t.r - eL t.p * eL t.p), eL q.c1 + (eL q.c2 + eL q.c2) * eL t.p)
theorem eval_ok {q : Qd} {t : GQ} (hq : DOk q) (ht : QOk t) : QOk (cX q t) ∧ eL (cX q t) = eL q.c0 + eL t * (eL q.c1 + eL t * eL q.c2) := by
  obtain ⟨h0, h1, h2⟩ := hq
  unfold cX
  obtain ⟨a1, a2⟩ := mO ht h2
  obtain ⟨b1, b2⟩ := lN h1 a1
  obtain ⟨c1, c2⟩ := mO ht b1
  obtain ⟨d1, d2⟩ := lN h0 c1
  exact ⟨d1, by rw [d2, c2, b2, a2]⟩
theorem slope_ok {q : Qd} {t : GQ} (hq : DOk q) (ht : QOk t) : QOk (cn q t) ∧ eL (cn q t) = eL q.c1 + (eL q.c2 + eL q.c2) * eL t := by
  obtain ⟨h0, h1, h2⟩ := hq
  unfold cn
  obtain ⟨a1, a2⟩ := lN h2 h2
  obtain ⟨b1, b2⟩ := mO a1 ht
  obtain ⟨c1, c2⟩ := lN h1 b1
  exact ⟨c1, by rw [c2, b2, a2]⟩
theorem pG {p q : Qd} (hp : DOk p) (hq : DOk q) : DOk (cM p q) ∧ eL (cM p q).c0 = eL p.c0 - eL q.c0 ∧ eL (cM p q).c1 = eL p.c1 - eL q.c1 ∧ eL (cM p q).c2 = eL p.c2 - eL q.c2 := by
  unfold cM
  obtain ⟨a1, a2⟩ := nV hp.1 hq.1
  obtain ⟨b1, b2⟩ := nV hp.2.1 hq.2.1
  obtain ⟨c1, c2⟩ := nV hp.2.2 hq.2.2
  exact ⟨⟨a1, b1, c1⟩, a2, b2, c2⟩
theorem qp {a b : GQ} (ha : QOk a) (hb : QOk b) : DOk (aF a b) ∧ (aF a b).c0 = a ∧ (aF a b).c1 = b ∧ (aF a b).c2 = zQ := by
  unfold aF
  exact ⟨⟨ha, hb, iK.1⟩, rfl, rfl, rfl⟩
theorem gw {q : Qd} {t : GR} (hq : DOk q) (ht : TOk t) : DOk (aP q t) ∧ eL (aP q t).c0 = (lv t q).1 ∧ eL (aP q t).c1 = (lv t q).2 ∧ (aP q t).c2 = zQ := by
  unfold aP ck lv
  by_cases e : t.r = zQ
  · rw [decide_eq_true (show t.r = ⟨⟨false, 0⟩, ⟨false, 0⟩⟩ from e), if_pos e]
    obtain ⟨k1, k2⟩ := eval_ok hq ht.1
    exact ⟨⟨k1, iK.1, iK.1⟩, k2, iK.2, rfl⟩
  · rw [decide_eq_false (show ¬ t.r = ⟨⟨false, 0⟩, ⟨false, 0⟩⟩ from e), if_neg e, Bool.not_false, cond_true, cond_false]
    obtain ⟨a1, a2⟩ := mO ht.1 ht.1
    obtain ⟨b1, b2⟩ := nV ht.2 a1
    obtain ⟨c1, c2⟩ := mO hq.2.2 b1
    obtain ⟨d1, d2⟩ := lN hq.1 c1
    obtain ⟨s1, s2⟩ := slope_ok hq ht.1
    obtain ⟨l1, l2, l3, l4⟩ := qp d1 s1
    exact ⟨l1, by rw [l2, d2, c2, b2, a2], by rw [l3, s2], l4⟩
theorem qd_ext {p q : Qd} (hp : DOk p) (hq : DOk q) (h0 : eL p.c0 = eL q.c0) (h1 : eL p.c1 = eL q.c1) (h2 : eL p.c2 = eL q.c2) : p = q := by
  have e0 := lX hp.1 hq.1 h0
  have e1 := lX hp.2.1 hq.2.1 h1
  have e2 := lX hp.2.2 hq.2.2 h2
  obtain ⟨a, b, c⟩ := p
  obtain ⟨x, y, z⟩ := q
  simp only at e0 e1 e2
  rw [e0, e1, e2]
theorem rl1 (a b c d e f p : Rat) : (a - b) + p * ((c - d) + p * (e - f)) = (a + p * (c + p * e)) - (b + p * (d + p * f)) := by grind
theorem rl2 (a b c d x : Rat) : (a - b) + (c - d) * x = (a + c * x) - (b + d * x) := by grind
theorem rl3 (a b c d x : Rat) : (a - b) + ((c - d) + (c - d)) * x = (a + (c + c) * x) - (b + (d + d) * x) := by grind
theorem lv_sub {p q : Qd} {t : GR} (hp : DOk p) (hq : DOk q) : lv t (cM p q) = ((lv t p).1 - (lv t q).1, (lv t p).2 - (lv t q).2) := by
  obtain ⟨_, e0, e1, e2⟩ := pG hp hq
  unfold lv
  by_cases e : t.r = zQ
  · rw [if_pos e, if_pos e, if_pos e, e0, e1, e2, rl1]
    exact Prod.ext rfl (by show (0 : Rat) = 0 - 0; grind)
  · rw [if_neg e, if_neg e, if_neg e, e0, e1, e2, rl2, rl3]
theorem io {p q : Qd} {t : GR} (hp : DOk p) (hq : DOk q) (ht : TOk t) : bJ p q t = true ↔ lv t p = lv t q := by
  unfold bJ
  rw [decide_eq_true_eq]
  obtain ⟨k1, _⟩ := pG hp hq
  obtain ⟨r1, r2, r3, r4⟩ := gw k1 ht
  rw [lv_sub hp hq] at r2 r3
  constructor
  · intro h
    rw [h] at r2 r3
    have z := iK.2
    unfold zQ at z
    refine Prod.ext ?_ ?_
    · simp only at r2; grind
    · simp only at r3; grind
  · intro h
    refine qd_ext r1 ⟨iK.1, iK.1, iK.1⟩ ?_ ?_ ?_
    · rw [r2, h]; show _ = eL zQ; rw [iK.2]; grind
    · rw [r3, h]; show _ = eL zQ; rw [iK.2]; grind
    · rw [r4]; rfl
theorem jG {q : Qd} {t : GR} (hq : DOk q) (ht : TOk t) : lv t (aP q t) = lv t q := by
  obtain ⟨r1, r2, r3, r4⟩ := gw hq ht
  have h : ∀ x : Qd, eL x.c0 = (lv t q).1 → eL x.c1 = (lv t q).2 → x.c2 = zQ → lv t x = lv t q := by
    intro x e0 e1 e2
    have e3 : eL x.c2 = 0 := by rw [e2]; exact iK.2
    have e4 : t.r = zQ → (lv t q).2 = 0 := fun e => by unfold lv; rw [if_pos e]
    conv => lhs; unfold lv
    split
    · rename_i e
      rw [e4 e] at e1
      refine Prod.ext ?_ ?_
      · simp only; rw [e0, e1, e3]; grind
      · simp only; rw [e4 e]
    · refine Prod.ext ?_ ?_
      · simp only; rw [e0, e3]; grind
      · simp only; rw [e1, e3]; grind
  exact h _ r2 r3 r4
theorem pQ {p q : Qd} {t : GR} (hp : DOk p) (hq : DOk q) (ht : TOk t) : aP p t = aP q t ↔ lv t p = lv t q := by
  obtain ⟨r1, r2, r3, r4⟩ := gw hp ht
  obtain ⟨s1, s2, s3, s4⟩ := gw hq ht
  constructor
  · intro h; rw [← jG hp ht, ← jG hq ht, h]
  · intro h; exact qd_ext r1 s1 (by rw [r2, s2, h]) (by rw [r3, s3, h]) (by rw [r4, s4])
end Go.Sx
