/- A part of the proof that the law PiecesKinds answers true at every input and leaves its arguments as they were. -/
import Derived.Test.YtnkaneggnjallaaGreatDoorM2
import Derived.Test.YtnkaneggnjallaaGreatDoorGarith
set_option linter.unusedVariables false
set_option linter.unusedSimpArgs false
namespace Go.Sx
def nxP {S R : Type} (I : S → Prop) (Q : R → Prop) : Nx S R → Prop
  | .go s => I s
  | .out s => I s
  | .ret r => Q r
def smP {S R : Type} (I : S → Prop) (Q : R → Prop) : S ⊕ R → Prop
  | .inl s => I s
  | .inr r => Q r
theorem pj {S R : Type} {B : S → Nx S R} {I : S → Prop} {Q : R → Prop} (h : ∀ s, I s → nxP I Q (B s)) : ∀ (n : Nat) (s : S), I s → smP I Q (bI B n s)
  | 0, s, hs => hs
  | n + 1, s, hs => by
    have h1 := h s hs
    unfold bI
    revert h1
    cases B s with
    | go s' => exact fun h1 => pj h n s' h1
    | out s' => exact fun h1 => h1
    | ret r => exact fun h1 => h1
def Fs (f : Qd) : Prop := f = default ∨ (∃ s, f = an s) ∨ ∃ c : Int, f = aP (ar (Int.tmod c 4))
def pUn (t : GR) (f : Qd) : U Qd := ⟨⟨t, t, false, false⟩, f⟩
def bPt (s : Stp) (before : Qd) (t : GR) : List (U Qd) :=
  bif ((((s.point % 4) : Nat) : Int) == ((1 : Nat) : Int)) then [pUn t (an s)]
  else bif ((((s.point % 4) : Nat) : Int) == ((2 : Nat) : Int)) then [pUn t before]
  else bif ((((s.point % 4) : Nat) : Int) == ((3 : Nat) : Int)) then [pUn t (aP (ar (Int.tmod s.c0 4)))]
  else []
def bPs (s : Stp) (before : Qd) (t : GR) (taken : Bool) : List (U Qd) :=
  bif taken then [] else bif ((((s.piece % 4) : Nat) : Int) == ((2 : Nat) : Int)) then [] else bPt s before t
def bGp (s : Stp) (t t' : GR) (taken : Bool) : List (U Qd) :=
  bif ((((s.piece % 4) : Nat) : Int) != ((0 : Nat) : Int)) then [⟨⟨t, t', !(((((s.piece % 4) : Nat) : Int) == ((2 : Nat) : Int)) && !taken), !((((s.piece % 4) : Nat) : Int) == ((3 : Nat) : Int))⟩, an s⟩] else []
theorem qg (l : List Stp) (out : List (U Qd)) (a : Nat) (root taken : Bool) (i : Nat) (before : Qd) :
    bu l out a root taken i before =
      bif ((decide (((i : Nat) : Int) < ((l.length : Nat) : Int))) && (decide (((i : Nat) : Int) < 8))) then
        .go (out ++ (bPs (gt l i) before (ah ((a : Nat) : Int) root) taken ++ bGp (gt l i) (ah ((a : Nat) : Int) root) (ah (((a + 3) + ((gt l i).length % 3) : Nat) : Int) ((gt l i).root)) taken),
          ((a + 3) + ((gt l i).length % 3)), (gt l i).root, ((((gt l i).piece % 4 : Nat) : Int) == ((3 : Nat) : Int)), (i + 1), an (gt l i))
      else .out (out, a, root, taken, i, before) := by
  unfold bu
  congr 1
  generalize gt l i = s
  unfold bPs bGp bPt pUn
  cases e2 : ((((s.piece % 4) : Nat) : Int) == ((2 : Nat) : Int)) <;> cases taken <;>
    simp only [Bool.not_true, Bool.not_false, Bool.and_true, Bool.and_false, cond_true, cond_false, Bool.false_eq_true] <;>
    cases ((((s.piece % 4) : Nat) : Int) != ((0 : Nat) : Int)) <;> simp only [cond_true, cond_false, List.append_nil, List.nil_append] <;>
    cases ((((s.point % 4) : Nat) : Int) == ((1 : Nat) : Int)) <;> simp only [cond_true, cond_false, List.append_nil, List.nil_append, List.append_assoc] <;>
    cases ((((s.point % 4) : Nat) : Int) == ((2 : Nat) : Int)) <;> simp only [cond_true, cond_false, List.append_nil, List.nil_append, List.append_assoc] <;>
    cases ((((s.point % 4) : Nat) : Int) == ((3 : Nat) : Int)) <;> simp only [cond_true, cond_false, List.append_nil, List.nil_append, List.append_assoc]
theorem bUs_ok {taken p0 p2 p3 : Bool} {t t' : GR} {f : Qd} {P : List (U Qd)} (ht : Tm t) (ht' : Tm t') (hlt : tk t < tk t') (hf : Fs f)
    (hP : P = [] ∨ (taken = false ∧ p2 = false ∧ ∃ g, Fs g ∧ P = [pUn t g])) :
    (∀ x ∈ P ++ (bif p0 then [(⟨⟨t, t', !(p2 && !taken), !p3⟩, f⟩ : U Qd)] else []), Wv x.iv ∧ Fs x.f ∧ j6 x.iv < 2 * tk t' + (bif p3 then 1 else 0) ∧ (2 * tk t + (bif taken then 1 else 0) : Int) ≤ gZ x.iv) ∧
    (P ++ (bif p0 then [(⟨⟨t, t', !(p2 && !taken), !p3⟩, f⟩ : U Qd)] else [])).Pairwise fun a b => Dj a.iv b.iv := by
  have hg : ∀ x ∈ (bif p0 then [(⟨⟨t, t', !(p2 && !taken), !p3⟩, f⟩ : U Qd)] else []), x = ⟨⟨t, t', !(p2 && !taken), !p3⟩, f⟩ := by
    cases p0
    · intro x hx; cases hx
    · intro x hx; exact List.mem_singleton.1 hx
  have gok : Wv (⟨t, t', !(p2 && !taken), !p3⟩ : Iv) := ⟨⟨ht, ht'⟩, Nat.le_of_lt hlt, fun e => by have e : tk t = tk t' := e; omega⟩
  have g1 : j6 (⟨t, t', !(p2 && !taken), !p3⟩ : Iv) < 2 * tk t' + (bif p3 then 1 else 0) := by
    unfold j6; cases p3 <;> simp <;> omega
  have g2 : (2 * tk t + (bif taken then 1 else 0) : Int) ≤ gZ (⟨t, t', !(p2 && !taken), !p3⟩ : Iv) := by
    unfold gZ; cases p2 <;> cases taken <;> simp <;> omega
  rcases hP with rfl | ⟨h1, h2, g, hgf, rfl⟩
  · rw [List.nil_append]
    refine ⟨fun x hx => by rw [hg x hx]; exact ⟨gok, hf, g1, g2⟩, ?_⟩
    cases p0
    · exact List.Pairwise.nil
    · exact List.pairwise_singleton _ _
  · subst h1 h2
    have hpw : Wv (pUn t g).iv := ⟨⟨ht, ht⟩, Nat.le_refl _, fun _ => ⟨rfl, rfl⟩⟩
    have pl : j6 (pUn t g).iv = 2 * tk t := by unfold j6 pUn; simp
    have pf : gZ (pUn t g).iv = 2 * tk t := by unfold gZ pUn; simp
    refine ⟨fun x hx => ?_, ?_⟩
    · rcases List.mem_append.1 hx with hx | hx
      · rw [List.mem_singleton.1 hx]
        refine ⟨hpw, hgf, ?_, ?_⟩
        · rw [pl]; cases p3 <;> simp <;> omega
        · rw [pf]; simp <;> omega
      · rw [hg x hx]; exact ⟨gok, hf, g1, g2⟩
    · rw [List.singleton_append, List.pairwise_cons]
      refine ⟨fun y hy => ?_, ?_⟩
      · rw [hg y hy]
        refine .inl ?_
        rw [pl]
        unfold gZ; simp <;> omega
      · cases p0
        · exact List.Pairwise.nil
        · exact List.pairwise_singleton _ _
def BI (s : (List (U Qd)) × Nat × Bool × Bool × Nat × Qd) : Prop :=
  s.2.1 ≤ 5 * s.2.2.2.2.1 ∧ s.2.2.2.2.1 ≤ 8 ∧ Fs s.2.2.2.2.2 ∧ (∀ x ∈ s.1, Wv x.iv ∧ Fs x.f ∧ j6 x.iv < ((2 * (10 * s.2.1 + (bif s.2.2.1 then 14 else 0)) + (bif s.2.2.2.1 then 1 else 0) : Nat) : Int)) ∧ s.1.Pairwise fun a b => Dj a.iv b.iv
theorem rv (l : List Stp) (s : (List (U Qd)) × Nat × Bool × Bool × Nat × Qd) (h : BI s) :
    nxP BI (fun _ => False) (bu l s.1 s.2.1 s.2.2.1 s.2.2.2.1 s.2.2.2.2.1 s.2.2.2.2.2) := by
  obtain ⟨out, a, root, taken, i, before⟩ := s
  obtain ⟨h1, h2, h3, h4, h5⟩ := h
  simp only at h1 h2 h3 h4 h5
  rw [qg]
  cases hc : ((decide (((i : Nat) : Int) < ((l.length : Nat) : Int))) && (decide (((i : Nat) : Int) < 8))) with
  | false => exact ⟨h1, h2, h3, h4, h5⟩
  | true =>
    rw [cond_true]
    rw [Bool.and_eq_true, decide_eq_true_eq, decide_eq_true_eq] at hc
    have hi : i < 8 := by omega
    have hm : (gt l i).length % 3 < 3 := Nat.mod_lt _ (by decide)
    have e1 := tk_at a root (by omega)
    have e2 := tk_at ((a + 3) + ((gt l i).length % 3)) (gt l i).root (by omega)
    have hlt : tk (ah ((a : Nat) : Int) root) < tk (ah (((a + 3) + ((gt l i).length % 3) : Nat) : Int) ((gt l i).root)) := by
      rw [e1, e2]; cases root <;> cases (gt l i).root <;> simp <;> omega
    have hF : Fs (an (gt l i)) := .inr (.inl ⟨_, rfl⟩)
    have hP : bPs (gt l i) before (ah ((a : Nat) : Int) root) taken = [] ∨ (taken = false ∧ ((((gt l i).piece % 4 : Nat) : Int) == ((2 : Nat) : Int)) = false ∧ ∃ g, Fs g ∧ bPs (gt l i) before (ah ((a : Nat) : Int) root) taken = [pUn (ah ((a : Nat) : Int) root) g]) := by
      unfold bPs bPt
      cases taken
      · rw [cond_false]
        cases ((((gt l i).piece % 4 : Nat) : Int) == ((2 : Nat) : Int))
        · rw [cond_false]
          cases ((((gt l i).point % 4 : Nat) : Int) == ((1 : Nat) : Int))
          · rw [cond_false]
            cases ((((gt l i).point % 4 : Nat) : Int) == ((2 : Nat) : Int))
            · rw [cond_false]
              cases ((((gt l i).point % 4 : Nat) : Int) == ((3 : Nat) : Int))
              · exact .inl rfl
              · exact .inr ⟨rfl, rfl, _, .inr (.inr ⟨_, rfl⟩), rfl⟩
            · exact .inr ⟨rfl, rfl, _, h3, rfl⟩
          · exact .inr ⟨rfl, rfl, _, hF, rfl⟩
        · exact .inl rfl
      · exact .inl rfl
    obtain ⟨k1, k2⟩ := bUs_ok (p0 := ((((gt l i).piece % 4 : Nat) : Int) != ((0 : Nat) : Int))) (p3 := ((((gt l i).piece % 4 : Nat) : Int) == ((3 : Nat) : Int))) (tm_at a root (by omega)) (tm_at ((a + 3) + ((gt l i).length % 3)) (gt l i).root (by omega)) hlt hF hP
    refine ⟨?_, ?_, hF, fun x hx => ?_, ?_⟩
    · show (a + 3) + ((gt l i).length % 3) ≤ 5 * (i + 1); omega
    · show i + 1 ≤ 8; omega
    · show Wv x.iv ∧ Fs x.f ∧ j6 x.iv < ((2 * (10 * ((a + 3) + ((gt l i).length % 3)) + (bif (gt l i).root then 14 else 0)) + (bif ((((gt l i).piece % 4 : Nat) : Int) == ((3 : Nat) : Int)) then 1 else 0) : Nat) : Int)
      rw [e1, e2] at hlt
      rcases List.mem_append.1 hx with hx | hx
      · obtain ⟨a1, a2, a3⟩ := h4 x hx
        refine ⟨a1, a2, ?_⟩
        clear h4 k1 k2 hP e1 e2 h5
        generalize ((((gt l i).piece % 4 : Nat) : Int) == ((3 : Nat) : Int)) = p3 at *
        generalize (gt l i).root = rt at *
        cases root <;> cases taken <;> cases rt <;> cases p3 <;> simp only [cond_true, cond_false] at * <;> omega
      · obtain ⟨a1, a2, a3, _⟩ := k1 x hx
        rw [e2] at a3
        refine ⟨a1, a2, ?_⟩
        clear h4 k1 k2 hP e1 e2 h5
        generalize ((((gt l i).piece % 4 : Nat) : Int) == ((3 : Nat) : Int)) = p3 at *
        generalize (gt l i).root = rt at *
        cases rt <;> cases p3 <;> simp only [cond_true, cond_false] at * <;> omega
    · show (out ++ _).Pairwise _
      rw [List.pairwise_append]
      refine ⟨h5, k2, fun x hx y hy => .inl ?_⟩
      obtain ⟨_, _, a3⟩ := h4 x hx
      obtain ⟨_, _, _, a4⟩ := k1 y hy
      rw [e1] at a4
      clear h4 k1 k2 hP e1 e2 h5 hlt
      cases root <;> cases taken <;> simp only [cond_true, cond_false] at * <;> omega
theorem pB (l : List Stp) : (∀ x ∈ am l, Wv x.iv ∧ Fs x.f) ∧ (am l).Pairwise fun a b => Dj a.iv b.iv := by
  have h := pj (R := List (U Qd)) (Q := fun _ => False) (B := fun s => bu l s.1 s.2.1 s.2.2.1 s.2.2.2.1 s.2.2.2.2.1 s.2.2.2.2.2) (I := BI) (rv l) ((8 - 0) + 1) ([], 0, false, false, 0, default)
    ⟨by decide, by decide, .inl rfl, fun x hx => (by cases hx), List.Pairwise.nil⟩
  have e : ∃ s, BI s ∧ am l = s.1 := by
    unfold am
    revert h
    generalize bI _ _ _ = X
    intro h
    match X, h with
    | .inl s, h => exact ⟨s, h, rfl⟩
  obtain ⟨s, hs, e⟩ := e
  rw [e]
  exact ⟨fun x hx => ⟨(hs.2.2.2.1 x hx).1, (hs.2.2.2.1 x hx).2.1⟩, hs.2.2.2.2⟩
end Go.Sx
namespace Go.Sx
theorem po {n i : Nat} (h : i < n) : gt (List.range n) i = i := by
  rw [lh (by simpa using h)]; exact List.getElem_range _
def turnF {α : Type} [Inhabited α] (l : List α) (b : Nat) : List α := (List.range l.length).foldl (fun o i => gt l ((i + b) % l.length) :: o) []
theorem foldl_cons {α β : Type} (g : α → β) : ∀ (l : List α) (o : List β), l.foldl (fun o i => g i :: o) o = (l.map g).reverse ++ o
  | [], o => rfl
  | x :: l, o => by rw [List.foldl_cons, foldl_cons g l]; simp
theorem lC {α β : Type} (g : α → β) : ∀ (l : List α) (o : List β), l.foldl (fun o i => o ++ [g i]) o = o ++ l.map g
  | [], o => by simp
  | x :: l, o => by rw [List.foldl_cons, lC g l]; simp
theorem nN {α : Type} [Inhabited α] (l : List α) (b : Nat) : (turnF l b).Perm l := by
  unfold turnF
  rw [foldl_cons, List.append_nil]
  refine (List.reverse_perm _).trans ?_
  by_cases h0 : l.length = 0
  · rw [h0, List.eq_nil_of_length_eq_zero h0]; exact List.Perm.refl _
  · have hk : b % l.length < l.length := Nat.mod_lt _ (by omega)
    have e : (List.range l.length).map (fun i => gt l ((i + b) % l.length)) = l.drop (b % l.length) ++ l.take (b % l.length) := by
      refine List.ext_getElem (by simp; omega) fun i h1 h2 => ?_
      rw [List.length_map, List.length_range] at h1
      rw [List.getElem_map, List.getElem_range, List.getElem_append]
      have e2 : (i + b) % l.length = (i + b % l.length) % l.length := by rw [Nat.add_mod_mod]
      rw [e2]
      split
      · rename_i h3
        rw [List.length_drop] at h3
        rw [Nat.mod_eq_of_lt (by omega), lh (by omega), List.getElem_drop]
        congr 1; omega
      · rename_i h3
        rw [List.length_drop] at h3
        rw [Nat.mod_eq_sub_mod (by omega), Nat.mod_eq_of_lt (by omega), lh (by omega), List.getElem_take]
        congr 1
        rw [List.length_drop]; omega
    rw [e]
    exact (List.perm_append_comm).trans (by rw [List.take_append_drop])
theorem pJ (l : List (U Int)) (b : Nat) : au l b = turnF l b := by
  unfold au
  have := i0 (R := List (U Int)) (f := fun (o : List (U Int)) (i : Nat) => gt l ((i + b) % l.length) :: o) (List.range l.length) (B := fun s => cn l b s.1 s.2)
    (fun o i hi => by
      rw [List.length_range] at hi
      show cn l b o i = _
      unfold cn
      rw [decide_eq_true (by omega : ((i : Nat) : Int) < ((l.length : Nat) : Int)), po hi]
      rfl)
    (fun o => by
      show cn l b o (List.range l.length).length = _
      unfold cn
      rw [List.length_range, decide_eq_false (by omega : ¬ ((l.length : Nat) : Int) < ((l.length : Nat) : Int))]
      rfl) (List.range l.length) [] [] (l.length - 0 + 1) rfl (by simp)
  refine (ee this).trans ?_
  rfl
theorem m0 (he : ∀ f, bE f f = true) (l : List (U Int)) : aX l l = true := by
  unfold aX
  rw [show ((((l.length : Nat) : Int)) != (((l.length : Nat) : Int))) = false by simp, cond_false]
  refine (ee (l8 (n := l.length) (r := false) (bad := fun i => ((!(decide ((gt l i).iv = (gt l i).iv))) || (!(bE ((gt l i).f) ((gt l i).f))))) (fun i hi => by
    unfold dz
    rw [decide_eq_true (by omega : ((i : Nat) : Int) < ((l.length : Nat) : Int)), cond_true]) (by
    unfold dz
    rw [decide_eq_false (by omega : ¬ ((l.length : Nat) : Int) < ((l.length : Nat) : Int))]
    rfl) (l.length - 0 + 1) 0 (Nat.zero_le _) (by omega) fun i _ _ => ?_)).trans rfl
  rw [he, decide_eq_true rfl]
  rfl
theorem ms {α : Type} [Inhabited α] {z : α} {u : List (U α)} {E : List GR} {i : Nat} (h : i < (gX z u E).length) : gt (gX z u E) i = j7 u (gt (fQ z E) i) := by
  have h2 : i < (fQ z E).length := by simpa [gX] using h
  have : gt ((fQ z E).map (j7 u)) i = j7 u (gt (fQ z E) i) := by
    rw [lh (by simpa using h2), lh h2, List.getElem_map]
  exact this
theorem l5 {α : Type} [Inhabited α] {z : α} {u : List (U α)} {E : List GR} (hE : Ts E) : Turns tk (gX z u E) := by
  have hl : (gX z u E).length = (fQ z E).length := by unfold gX; rw [List.length_map]
  have ok : ∀ {i}, i < (gX z u E).length → _ := fun {i} hi => base_ok (z := z) hE (a := gt (fQ z E) i) (by rw [lh (hl ▸ hi)]; exact List.getElem_mem _)
  refine ⟨fun i hi => ?_, fun i hi => ?_, fun i hi hg => ?_, fun i hi hg => ?_⟩
  · rw [ms hi, (gm u _).2.1]; exact (nI i (hl ▸ hi)).1
  · rw [ms hi, ms (by omega : i < (gX z u E).length), (gm u _).1, (gm u _).2.2]
    exact (nI i (by omega)).2 (hl ▸ hi)
  · rw [ms hi] at hg ⊢
    rw [(gm u _).2.1] at hg
    rw [(gm u _).1, (gm u _).2.2]
    exact (ok hi).2.2.1 hg
  · rw [ms hi] at hg ⊢
    rw [(gm u _).2.1] at hg
    rw [(gm u _).1, (gm u _).2.2]
    exact (ok hi).2.2.2 hg
theorem na (heq : ∀ a b, bE a b = true → a = b) {d u : List (U Int)} (hp : d.Perm u) (hW : ∀ x ∈ u, Wv x.iv) (hD : u.Pairwise fun a b => Dj a.iv b.iv) : ay d = (aO u, 0) := by
  have hWd : ∀ x ∈ d, Wv x.iv := fun x hx => hW x (hp.mem_iff.1 hx)
  obtain ⟨s1, s2⟩ := pM (fun x hx => (hWd x hx).1)
  have hps := s1.trans hp
  have hE := (nu (l := u.map (·.iv)) (fun i hi => by obtain ⟨x, hx, rfl⟩ := List.mem_map.1 hi; exact (hW x hx).1)).1
  rw [m9 s1.length_eq fun i h0 h1 => (pE hW hps s2).2 hD i h0 (by rw [s1.length_eq]; exact h1), qJ]
  have e1 : ag (ab d) = iZ (gX 0 u (mL (u.map (·.iv)))) := by
    rw [pR]; exact pD hW hD hps s2
  unfold aO
  rw [e1, built_eq, ends_int, rB, pi heq (l5 hE)]
end Go.Sx
namespace Go.Sx
def ival (a : GI) : Int := bif a.neg then -(a.mag : Int) else (a.mag : Int)
def IOk (a : GI) : Prop := a.mag = 0 → a.neg = false
def z0 : GI := ⟨false, 0⟩
def qden (x : GQ) : Nat := if x.den = z0 then 1 else x.den.mag
def QOk (x : GQ) : Prop := IOk x.num ∧ (x.den = z0 ∨ (x.den.neg = false ∧ 1 < x.den.mag)) ∧ Nat.Coprime x.num.mag (qden x)
def pa (x : GQ) : Rat := (ival x.num : Rat) / (qden x : Rat)
theorem QOk.pos {x : GQ} (h : QOk x) : 0 < qden x := by
  unfold qden
  split
  · decide
  · rename_i e
    rcases h.2.1 with h1 | ⟨_, h1⟩
    · exact absurd h1 e
    · omega
end Go.Sx
namespace Go.Sx
def zQ : GQ := ⟨⟨false, 0⟩, ⟨false, 0⟩⟩
def lv (t : GR) (q : Qd) : Rat × Rat :=
  if t.r = zQ then (pa q.c0 + pa t.p * (pa q.c1 + pa t.p * pa q.c2), 0)
  else (pa q.c0 + pa q.c2 * (pa t.r - pa t.p * pa t.p), pa q.c1 + (pa q.c2 + pa q.c2) * pa t.p)
end Go.Sx
