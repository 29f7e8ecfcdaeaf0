/- Part of piecesMaps. -/
import Derived.Test.YtbenbmdkhcfcfaaGreatDoorM1
import Derived.Test.YtbenbmdkhcfcfaaGreatDoorGarith
import Derived.Test.YtbenbmdkhcfcfaaGreatDoorProg
import Derived.Test.YtbenbmdkhcfcfaaGreatDoorL2
import Derived.Test.YtbenbmdkhcfcfaaGreatDoorQ2
import Derived.Test.YtbenbmdkhcfcfaaGreatDoorQ3
import Derived.Test.YtbenbmdkhcfcfaaGreatDoorQ4
set_option linter.unusedVariables false
set_option linter.unusedSimpArgs false
namespace Go.Sx
def nxP {S R : Type} (I : S → Prop) (Q : R → Prop) : Nx S R → Prop
 | .go s => I s
 | .out s => I s
 | .ret r => Q r
def smP {S R : Type} (I : S → Prop) (Q : R → Prop) : S ⊕ R → Prop
 | .inl s => I s
 | .inr r => Q r
theorem pk {S R : Type} {B : S → Nx S R} {I : S → Prop} {Q : R → Prop} (h : ∀ s, I s → nxP I Q (B s)) : ∀ (n : Nat) (s : S), I s → smP I Q (bo B n s)
 | 0, s, hs => hs
 | n + 1, s, hs => by
  have h1 := h s hs
  unfold bo
  revert h1
  cases B s with
  | go s' => exact fun h1 => pk h n s' h1
  | out s' => exact fun h1 => h1
  | ret r => exact fun h1 => h1
def Fs (f : Qd) : Prop := f = default ∨ (∃ s, f = ap s) ∨ ∃ c : Int, f = aG (ao (Int.tmod c 4))
def pUn (t : GR) (f : Qd) : U Qd := ⟨⟨t, t, false, false⟩, f⟩
def bPt (s : Stp) (before : Qd) (t : GR) : List (U Qd) :=
 bif ((((s.point % 4) : Nat) : Int) == ((1 : Nat) : Int)) then [pUn t (ap s)]
 else bif ((((s.point % 4) : Nat) : Int) == ((2 : Nat) : Int)) then [pUn t before]
 else bif ((((s.point % 4) : Nat) : Int) == ((3 : Nat) : Int)) then [pUn t (aG (ao (Int.tmod s.c0 4)))]
 else []
def bPs (s : Stp) (before : Qd) (t : GR) (taken : Bool) : List (U Qd) :=
 bif taken then [] else bif ((((s.piece % 4) : Nat) : Int) == ((2 : Nat) : Int)) then [] else bPt s before t
def bGp (s : Stp) (t t' : GR) (taken : Bool) : List (U Qd) :=
 bif ((((s.piece % 4) : Nat) : Int) != ((0 : Nat) : Int)) then [⟨⟨t, t', !(((((s.piece % 4) : Nat) : Int) == ((2 : Nat) : Int)) && !taken), !((((s.piece % 4) : Nat) : Int) == ((3 : Nat) : Int))⟩, ap s⟩] else []
theorem oM (l : List Stp) (out : List (U Qd)) (a : Nat) (root taken : Bool) (i : Nat) (before : Qd) :
 cY l out a root taken i before =
  bif ((decide ((i : Int) < (l.length : Int))) && (decide ((i : Int) < 8))) then
   .go (out ++ (bPs (gt l i) before (ae (a : Int) root) taken ++ bGp (gt l i) (ae (a : Int) root) (ae (((a + 3) + ((gt l i).length % 3) : Nat) : Int) ((gt l i).root)) taken),
    ((a + 3) + ((gt l i).length % 3)), (gt l i).root, ((((gt l i).piece % 4 : Nat) : Int) == ((3 : Nat) : Int)), (i + 1), ap (gt l i))
  else .out (out, a, root, taken, i, before) := by
 unfold cY
 congr 1
 generalize gt l i = s
 unfold bPs bGp bPt pUn
 cases e2 : ((((s.piece % 4) : Nat) : Int) == ((2 : Nat) : Int)) <;> cases taken <;>
  simp only [Bool.not_true, Bool.not_false, Bool.and_true, Bool.and_false, cond_true, cond_false, Bool.false_eq_true] <;>
  cases ((((s.piece % 4) : Nat) : Int) != ((0 : Nat) : Int)) <;> simp only [cond_true, cond_false, List.append_nil, List.nil_append] <;>
  cases ((((s.point % 4) : Nat) : Int) == ((1 : Nat) : Int)) <;> simp only [cond_true, cond_false, List.append_nil, List.nil_append, List.append_assoc] <;>
  cases ((((s.point % 4) : Nat) : Int) == ((2 : Nat) : Int)) <;> simp only [cond_true, cond_false, List.append_nil, List.nil_append, List.append_assoc] <;>
  cases ((((s.point % 4) : Nat) : Int) == ((3 : Nat) : Int)) <;> simp only [cond_true, cond_false, List.append_nil, List.nil_append, List.append_assoc]
theorem bUs_ok {taken p0 p2 p3 : Bool} {t t' : GR} {f : Qd} {P : List (U Qd)} (ht : Tm t) (ht' : Tm t') (hlt : tk t < tk t') (hf : Fs f)
 (hP : P = [] ∨ (taken = false ∧ p2 = false ∧ ∃ g, Fs g ∧ P = [pUn t g])) :
 (∀ x ∈ P ++ (bif p0 then [(⟨⟨t, t', !(p2 && !taken), !p3⟩, f⟩ : U Qd)] else []), Wv x.iv ∧ Fs x.f ∧ ey x.iv < 2 * tk t' + (bif p3 then 1 else 0) ∧ (2 * tk t + (bif taken then 1 else 0) : Int) ≤ d4 x.iv) ∧
 (P ++ (bif p0 then [(⟨⟨t, t', !(p2 && !taken), !p3⟩, f⟩ : U Qd)] else [])).Pairwise fun a b => Dj a.iv b.iv := by
 have hg : ∀ x ∈ (bif p0 then [(⟨⟨t, t', !(p2 && !taken), !p3⟩, f⟩ : U Qd)] else []), x = ⟨⟨t, t', !(p2 && !taken), !p3⟩, f⟩ := by
  cases p0
  ·intro x hx; cases hx
  ·intro x hx; exact List.mem_singleton.1 hx
 have gok : Wv (⟨t, t', !(p2 && !taken), !p3⟩ : Iv) := ⟨⟨ht, ht'⟩, Nat.le_of_lt hlt, fun e => by have e : tk t = tk t' := e; omega⟩
 have g1 : ey (⟨t, t', !(p2 && !taken), !p3⟩ : Iv) < 2 * tk t' + (bif p3 then 1 else 0) := by
  unfold ey; cases p3 <;> simp <;> omega
 have g2 : (2 * tk t + (bif taken then 1 else 0) : Int) ≤ d4 (⟨t, t', !(p2 && !taken), !p3⟩ : Iv) := by
  unfold d4; cases p2 <;> cases taken <;> simp <;> omega
 rcases hP with rfl | ⟨h1, h2, g, hgf, rfl⟩
 ·rw [List.nil_append]
  refine ⟨fun x hx => by rw [hg x hx]; exact ⟨gok, hf, g1, g2⟩, ?_⟩
  cases p0
  ·exact List.Pairwise.nil
  ·exact List.pairwise_singleton _ _
 ·subst h1 h2
  have hpw : Wv (pUn t g).iv := ⟨⟨ht, ht⟩, Nat.le_refl _, fun _ => ⟨rfl, rfl⟩⟩
  have pl : ey (pUn t g).iv = 2 * tk t := by unfold ey pUn; simp
  have pf : d4 (pUn t g).iv = 2 * tk t := by unfold d4 pUn; simp
  refine ⟨fun x hx => ?_, ?_⟩
  ·rcases List.mem_append.1 hx with hx | hx
   ·rw [List.mem_singleton.1 hx]
    refine ⟨hpw, hgf, ?_, ?_⟩
    ·rw [pl]; cases p3 <;> simp <;> omega
    ·rw [pf]; simp <;> omega
   ·rw [hg x hx]; exact ⟨gok, hf, g1, g2⟩
  ·rw [List.singleton_append, List.pairwise_cons]
   refine ⟨fun y hy => ?_, ?_⟩
   ·rw [hg y hy]
    refine .inl ?_
    rw [pl]
    unfold d4; simp <;> omega
   ·cases p0
    ·exact List.Pairwise.nil
    ·exact List.pairwise_singleton _ _
def BI (s : (List (U Qd)) × Nat × Bool × Bool × Nat × Qd) : Prop :=
 s.2.1 ≤ 5 * s.2.2.2.2.1 ∧ s.2.2.2.2.1 ≤ 8 ∧ Fs s.2.2.2.2.2 ∧ (∀ x ∈ s.1, Wv x.iv ∧ Fs x.f ∧ ey x.iv < ((2 * (10 * s.2.1 + 10 + (bif s.2.2.1 then 14 else 0)) + (bif s.2.2.2.1 then 1 else 0) : Nat) : Int)) ∧ s.1.Pairwise fun a b => Dj a.iv b.iv
theorem xK (l : List Stp) (s : (List (U Qd)) × Nat × Bool × Bool × Nat × Qd) (h : BI s) :
 nxP BI (fun _ => False) (cY l s.1 s.2.1 s.2.2.1 s.2.2.2.1 s.2.2.2.2.1 s.2.2.2.2.2) := by
 obtain ⟨out, a, root, taken, i, before⟩ := s
 obtain ⟨h1, h2, h3, h4, h5⟩ := h
 simp only at h1 h2 h3 h4 h5
 rw [oM]
 cases hc : ((decide ((i : Int) < (l.length : Int))) && (decide ((i : Int) < 8))) with
 | false => exact ⟨h1, h2, h3, h4, h5⟩
 | true =>
  rw [cond_true]
  rw [Bool.and_eq_true, decide_eq_true_eq, decide_eq_true_eq] at hc
  have hi : i < 8 := by omega
  have hm : (gt l i).length % 3 < 3 := Nat.mod_lt _ DC
  have e1 := tk_at a root og
  have e2 := tk_at ((a + 3) + ((gt l i).length % 3)) (gt l i).root og
  have hlt : tk (ae (a : Int) root) < tk (ae (((a + 3) + ((gt l i).length % 3) : Nat) : Int) ((gt l i).root)) := by
   rw [e1, e2]; cases root <;> cases (gt l i).root <;> simp <;> omega
  have hF : Fs (ap (gt l i)) := .inr (.inl ⟨_, rfl⟩)
  have hP : bPs (gt l i) before (ae (a : Int) root) taken = [] ∨ (taken = false ∧ ((((gt l i).piece % 4 : Nat) : Int) == ((2 : Nat) : Int)) = false ∧ ∃ g, Fs g ∧ bPs (gt l i) before (ae (a : Int) root) taken = [pUn (ae (a : Int) root) g]) := by
   unfold bPs bPt
   cases taken
   ·rw [cond_false]
    cases ((((gt l i).piece % 4 : Nat) : Int) == ((2 : Nat) : Int))
    ·rw [cond_false]
     cases ((((gt l i).point % 4 : Nat) : Int) == ((1 : Nat) : Int))
     ·rw [cond_false]
      cases ((((gt l i).point % 4 : Nat) : Int) == ((2 : Nat) : Int))
      ·rw [cond_false]
       cases ((((gt l i).point % 4 : Nat) : Int) == ((3 : Nat) : Int))
       ·exact .inl rfl
       ·exact .inr ⟨rfl, rfl, _, .inr (.inr ⟨_, rfl⟩), rfl⟩
      ·exact .inr ⟨rfl, rfl, _, h3, rfl⟩
     ·exact .inr ⟨rfl, rfl, _, hF, rfl⟩
    ·exact .inl rfl
   ·exact .inl rfl
  obtain ⟨k1, k2⟩ := bUs_ok (p0 := ((((gt l i).piece % 4 : Nat) : Int) != ((0 : Nat) : Int))) (p3 := ((((gt l i).piece % 4 : Nat) : Int) == ((3 : Nat) : Int))) (tm_at a root og) (tm_at ((a + 3) + ((gt l i).length % 3)) (gt l i).root og) hlt hF hP
  refine ⟨?_, ?_, hF, fun x hx => ?_, ?_⟩
  ·show (a + 3) + ((gt l i).length % 3) ≤ 5 * (i + 1); omega
  ·show i + 1 ≤ 8; omega
  ·show Wv x.iv ∧ Fs x.f ∧ ey x.iv < ((2 * (10 * ((a + 3) + ((gt l i).length % 3)) + 10 + (bif (gt l i).root then 14 else 0)) + (bif ((((gt l i).piece % 4 : Nat) : Int) == ((3 : Nat) : Int)) then 1 else 0) : Nat) : Int)
   rw [e1, e2] at hlt
   rcases List.mem_append.1 hx with hx | hx
   ·obtain ⟨a1, a2, a3⟩ := h4 x hx
    refine ⟨a1, a2, ?_⟩
    clear h4 k1 k2 hP e1 e2 h5
    generalize ((((gt l i).piece % 4 : Nat) : Int) == ((3 : Nat) : Int)) = p3 at *
    generalize (gt l i).root = rt at *
    cases root <;> cases taken <;> cases rt <;> cases p3 <;> simp only [cond_true, cond_false] at * <;> omega
   ·obtain ⟨a1, a2, a3, _⟩ := k1 x hx
    rw [e2] at a3
    refine ⟨a1, a2, ?_⟩
    clear h4 k1 k2 hP e1 e2 h5
    generalize ((((gt l i).piece % 4 : Nat) : Int) == ((3 : Nat) : Int)) = p3 at *
    generalize (gt l i).root = rt at *
    cases rt <;> cases p3 <;> simp only [cond_true, cond_false] at * <;> omega
  ·show (out ++ _).Pairwise _
   rw [List.pairwise_append]
   refine ⟨h5, k2, fun x hx y hy => .inl ?_⟩
   obtain ⟨_, _, a3⟩ := h4 x hx
   obtain ⟨_, _, _, a4⟩ := k1 y hy
   rw [e1] at a4
   clear h4 k1 k2 hP e1 e2 h5 hlt
   cases root <;> cases taken <;> simp only [cond_true, cond_false] at * <;> omega
theorem lc (l : List Stp) : (∀ x ∈ an l, Wv x.iv ∧ Fs x.f) ∧ (an l).Pairwise fun a b => Dj a.iv b.iv := by
 have h := pk (R := List (U Qd)) (Q := fun _ => False) (B := fun s => cY l s.1 s.2.1 s.2.2.1 s.2.2.2.1 s.2.2.2.2.1 s.2.2.2.2.2) (I := BI) (xK l) ((8 - 0) + 1) ([], 0, false, false, 0, default)
  ⟨by decide, by decide, .inl rfl, fun x hx => (by cases hx), List.Pairwise.nil⟩
 have e : ∃ s, BI s ∧ an l = s.1 := by
  unfold an
  revert h
  generalize bo _ _ _ = X
  intro h
  match X, h with
  | .inl s, h => exact ⟨s, h, rfl⟩
 obtain ⟨s, hs, e⟩ := e
 rw [e]
 exact ⟨fun x hx => ⟨(hs.2.2.2.1 x hx).1, (hs.2.2.2.1 x hx).2.1⟩, hs.2.2.2.2⟩
end Go.Sx
namespace Go.Sx
theorem foldl_cons {α β : Type} (g : α → β) : ∀ (l : List α) (o : List β), l.foldl (fun o i => g i :: o) o = (l.map g).reverse ++ o
 | [], o => rfl
 | x :: l, o => by rw [List.foldl_cons, foldl_cons g l]; simp
theorem lV {α : Type} [Inhabited α] {z : α} {u : List (U α)} {E : List GR} {i : Nat} (h : i < (iP z u E).length) : gt (iP z u E) i = kQ u (gt (gb z E) i) := by
 have h2 : i < (gb z E).length := by simpa [iP] using h
 have : gt ((gb z E).map (kQ u)) i = kQ u (gt (gb z E) i) := by
  rw [hH (by simpa using h2), hH h2, List.getElem_map]
 exact this
theorem pv {α : Type} [Inhabited α] {z : α} {u : List (U α)} {E : List GR} (hE : Ts E) : Turns tk (iP z u E) := by
 have hl : (iP z u E).length = (gb z E).length := by unfold iP; rw [List.length_map]
 have ok : ∀ {i}, i < (iP z u E).length → _ := fun {i} hi => rL (z := z) hE (a := gt (gb z E) i) (by rw [hH (hl ▸ hi)]; exact List.getElem_mem _)
 refine ⟨fun i hi => ?_, fun i hi => ?_, fun i hi hg => ?_, fun i hi hg => ?_⟩
 ·rw [lV hi, (gL u _).2.1]; exact (rM i (hl ▸ hi)).1
 ·rw [lV hi, lV (by omega : i < (iP z u E).length), (gL u _).1, (gL u _).2.2]
  exact (rM i og).2 (hl ▸ hi)
 ·rw [lV hi] at hg ⊢
  rw [(gL u _).2.1] at hg
  rw [(gL u _).1, (gL u _).2.2]
  exact (ok hi).2.2.1 hg
 ·rw [lV hi] at hg ⊢
  rw [(gL u _).2.1] at hg
  rw [(gL u _).1, (gL u _).2.2]
  exact (ok hi).2.2.2 hg
end Go.Sx
namespace Go.Sx
def iX (a : GI) : Int := bif a.neg then -(a.mag : Int) else (a.mag : Int)
def IOk (a : GI) : Prop := a.mag = 0 → a.neg = false
theorem oA (s : Bool) (m : Nat) : IOk (aU s m) := by
 intro h
 have h : m = 0 := h
 subst h
 cases s <;> rfl
theorem jv (s : Bool) (m : Nat) : iX (aU s m) = bif s then -(m : Int) else (m : Int) := by
 unfold iX aU
 by_cases h : m = 0
 ·subst h; cases s <;> rfl
 ·cases s <;> simp [h]
theorem ival_inj {a b : GI} (ha : IOk a) (hb : IOk b) (h : iX a = iX b) : a = b := by
 obtain ⟨s, m⟩ := a
 obtain ⟨r, n⟩ := b
 unfold iX at h
 unfold IOk at ha hb
 simp only at ha hb h
 cases s <;> cases r <;> simp only [cond_true, cond_false] at h
 ·have : m = n := by omega
  rw [this]
 ·have h1 : m = 0 := by omega
  have h2 : n = 0 := by omega
  exact absurd (hb h2) DC
 ·have h1 : m = 0 := by omega
  exact absurd (ha h1) DC
 ·have : m = n := by omega
  rw [this]
theorem qO (n : Int) : IOk (aB n) := by
 unfold IOk aB
 intro h
 have h : n.natAbs = 0 := h
 exact decide_eq_false og
theorem qj (n : Int) : iX (aB n) = n := by
 unfold iX aB
 by_cases h : n < 0
 ·simp only [decide_eq_true h, cond_true]; omega
 ·simp only [decide_eq_false h, cond_false]; omega
theorem vL (m : Nat) : 0 ≤ (m : Int).sign := by
 cases m with
 | zero => decide
 | succ m => exact Int.le_of_lt (by rw [Int.sign_eq_one_of_pos og]; decide)
theorem rN (a : GI) : dx a = (iX a).sign := by
 obtain ⟨s, m⟩ := a
 unfold dx iX
 by_cases h : m = 0
 ·subst h; cases s <;> rfl
 ·rw [decide_eq_false h]
  cases s
  ·exact (Int.sign_eq_one_of_pos (by show (0 : Int) < (m : Int); omega)).symm
  ·exact (Int.sign_eq_neg_one_of_neg (by show -(m : Int) < 0; omega)).symm
theorem qN (a : GI) : iX (aD a) = - iX a := by
 unfold aD
 rw [jv]
 unfold iX
 cases a.neg <;> simp
theorem xx (a b : Nat) : bA a b = if a < b then -1 else if b < a then 1 else 0 := by
 unfold bA
 rcases Nat.lt_trichotomy a b with h | h | h
 ·rw [show Nat.blt a b = true by rw [Nat.blt_eq]; exact h, cond_true, if_pos h]
 ·subst h
  have h1 : Nat.blt a a = false := by
   cases e : Nat.blt a a with
   | false => rfl
   | true => rw [Nat.blt_eq] at e; omega
  rw [h1, Nat.beq_refl, if_neg (Nat.lt_irrefl _), if_neg (Nat.lt_irrefl _)]; rfl
 ·have h1 : Nat.blt a b = false := by
   cases e : Nat.blt a b with
   | false => rfl
   | true => rw [Nat.blt_eq] at e; omega
  have h2 : Nat.beq a b = false := by
   cases e : Nat.beq a b with
   | false => rfl
   | true => have := Nat.eq_of_beq_eq_true e; omega
  rw [h1, h2, if_neg og, if_pos h]; rfl
theorem Add_val (a b : GI) : iX (aN a b) = iX a + iX b := by
 obtain ⟨s, m⟩ := a
 obtain ⟨r, n⟩ := b
 unfold aN dk dA
 simp only [xx]
 cases s <;> cases r
 ·show iX (aU false (m + n)) = (m : Int) + n
  rw [jv]; simp
 ·show iX (bif decide (_ ≥ (0 : Int)) then aU false (m - n) else aU true (n - m)) = (m : Int) + -n
  split <;> rename_i h1
  ·simp only [show decide ((-1 : Int) ≥ 0) = false from rfl, cond_false, jv, cond_true]; omega
  ·split
   ·simp only [show decide ((1 : Int) ≥ 0) = true from rfl, cond_true, jv, cond_false]; omega
   ·simp only [show decide ((0 : Int) ≥ 0) = true from rfl, cond_true, jv, cond_false]; omega
 ·show iX (bif decide (_ ≥ (0 : Int)) then aU true (m - n) else aU false (n - m)) = -(m : Int) + n
  split <;> rename_i h1
  ·simp only [show decide ((-1 : Int) ≥ 0) = false from rfl, cond_false, jv, cond_true]; omega
  ·split
   ·simp only [show decide ((1 : Int) ≥ 0) = true from rfl, cond_true, jv, cond_false]; omega
   ·simp only [show decide ((0 : Int) ≥ 0) = true from rfl, cond_true, jv, cond_false]; omega
 ·show iX (aU true (m + n)) = -(m : Int) + -n
  rw [jv, cond_true]; omega
theorem Add_ok (a b : GI) : IOk (aN a b) := by
 unfold aN
 cases (a.neg == b.neg)
 ·rw [cond_false]
  cases (decide ((bA a.mag b.mag) ≥ 0)) <;> exact oA _ _
 ·exact oA _ _
theorem xX (a b : GI) : IOk (ab a b) := oA _ _
theorem sT (a : GI) : IOk (aD a) := oA _ _
theorem oN (a b : GI) : iX (ab a b) = iX a * iX b := by
 obtain ⟨s, m⟩ := a
 obtain ⟨r, n⟩ := b
 unfold ab fV
 rw [jv]
 unfold iX
 cases s <;> cases r <;> simp [Int.neg_mul, Int.mul_neg]
def icmp (a b : Int) : Int := if a < b then -1 else if b < a then 1 else 0
theorem va (a b : Int) : cX a b = icmp a b := by
 unfold cX icmp ik
 rcases Int.lt_trichotomy a b with h | h | h
 ·simp [h]
 ·subst h; simp
 ·simp [h, show ¬ a < b by omega]
theorem tI {a b : GI} (ha : IOk a) (hb : IOk b) : dQ a b = icmp (iX a) (iX b) := by
 obtain ⟨s, m⟩ := a
 obtain ⟨r, n⟩ := b
 unfold dQ
 rw [va, rN, rN, xx]
 unfold iX icmp
 unfold IOk at ha hb
 simp only at ha hb
 cases s <;> cases r
 ·simp only [bne_self_eq_false, cond_false]
  rcases Nat.lt_trichotomy m n with h | h | h
  ·rw [if_pos h, if_pos og]
  ·subst h; simp
  ·rw [if_neg og, if_pos h, if_neg og, if_pos og]
 ·have : n ≠ 0 := fun e => absurd (hb e) DC
  have e1 : (-(n : Int)).sign = -1 := Int.sign_eq_neg_one_of_neg og
  have e2 : 0 ≤ (m : Int).sign := vL m
  show (if (m : Int).sign < (-(n : Int)).sign then (-1 : Int) else if (-(n : Int)).sign < (m : Int).sign then 1 else 0) = if (m : Int) < -(n : Int) then -1 else if -(n : Int) < (m : Int) then 1 else 0
  simp only [e1, if_neg (show ¬ (m : Int).sign < -1 by omega), if_pos (show (-1 : Int) < (m : Int).sign by omega), if_neg (show ¬ (m : Int) < -(n : Int) by omega), if_pos (show -(n : Int) < (m : Int) by omega)]
 ·have : m ≠ 0 := fun e => absurd (ha e) DC
  have e1 : (-(m : Int)).sign = -1 := Int.sign_eq_neg_one_of_neg og
  have e2 : 0 ≤ (n : Int).sign := vL n
  show (if (-(m : Int)).sign < (n : Int).sign then (-1 : Int) else if (n : Int).sign < (-(m : Int)).sign then 1 else 0) = if -(m : Int) < (n : Int) then -1 else if (n : Int) < -(m : Int) then 1 else 0
  simp only [e1, if_pos (show (-1 : Int) < (n : Int).sign by omega), if_pos (show -(m : Int) < (n : Int) by omega)]
 ·simp only [bne_self_eq_false, cond_false, cond_true]
  rcases Nat.lt_trichotomy m n with h | h | h
  ·rw [if_pos h, if_neg og, if_pos og]; rfl
  ·subst h; simp
  ·rw [if_neg og, if_pos h, if_pos og]
theorem kK (a : GI) : (iX a).natAbs = a.mag := by unfold iX; cases a.neg <;> simp
theorem t6 {a b : GI} (hb : b.neg = false) (h0 : b.mag ≠ 0) (hd : b.mag ∣ a.mag) : aT a b = aU a.neg (a.mag / b.mag) := by
 unfold aT aX bB
 rw [decide_eq_false h0, cond_false, Nat.mod_eq_zero_of_dvd hd, hb]
 simp
def z0 : GI := ⟨false, 0⟩
def o8 (x : GQ) : Nat := if x.den = z0 then 1 else x.den.mag
def QOk (x : GQ) : Prop := IOk x.num ∧ (x.den = z0 ∨ (x.den.neg = false ∧ 1 < x.den.mag)) ∧ Nat.Coprime x.num.mag (o8 x)
def g7 (x : GQ) : Rat := (iX x.num : Rat) / (o8 x : Rat)
theorem QOk.pos {x : GQ} (h : QOk x) : 0 < o8 x := by
 unfold o8
 split
 ·decide
 ·rename_i e
  rcases h.2.1 with h1 | ⟨_, h1⟩
  ·exact absurd h1 e
  ·omega
theorem oq {x : GQ} (h : QOk x) : g7 x = ⟨iX x.num, o8 x, Nat.ne_of_gt h.pos, by rw [kK]; exact h.2.2⟩ := by
 rw [Rat.mk_eq_mkRat, Rat.mkRat_eq_div]; rfl
theorem qZ {x y : GQ} (hx : QOk x) (hy : QOk y) (h : g7 x = g7 y) : x = y := by
 rw [oq hx, oq hy] at h
 injection h with h1 h2
 obtain ⟨n, d⟩ := x
 obtain ⟨m, e⟩ := y
 have e1 : n = m := ival_inj hx.1 hy.1 h1
 have e2 : d = e := by
  unfold o8 at h2
  have hx2 := hx.2.1
  have hy2 := hy.2.1
  simp only at h2 hx2 hy2
  by_cases c1 : d = z0
  ·by_cases c2 : e = z0
   ·rw [c1, c2]
   ·rw [if_pos c1, if_neg c2] at h2
    rcases hy2 with h3 | ⟨_, h3⟩
    ·exact absurd h3 c2
    ·omega
  ·by_cases c2 : e = z0
   ·rw [if_neg c1, if_pos c2] at h2
    rcases hx2 with h3 | ⟨_, h3⟩
    ·exact absurd h3 c1
    ·omega
   ·rw [if_neg c1, if_neg c2] at h2
    obtain ⟨a1, a2⟩ := hx2.resolve_left c1
    obtain ⟨b1, b2⟩ := hy2.resolve_left c2
    obtain ⟨s, p⟩ := d
    obtain ⟨r, q⟩ := e
    simp only at a1 b1 h2
    rw [a1, b1, h2]
 rw [e1, e2]
theorem wk : iX rational_one = 1 := qj 1
theorem nE {x : GQ} (h : QOk x) : iX (aa x) = o8 x ∧ (aa x).neg = false := by
 unfold aa o8
 by_cases e : x.den = z0
 ·rw [decide_eq_true (show x.den = ⟨false, 0⟩ from e), if_pos e]
  exact ⟨wk, rfl⟩
 ·rw [decide_eq_false (show ¬ x.den = ⟨false, 0⟩ from e), if_neg e, cond_false]
  obtain ⟨h1, h2⟩ := h.2.1.resolve_left e
  refine ⟨?_, h1⟩
  unfold iX
  rw [h1]; rfl
theorem sO {n d : GI} (hn : IOk n) (hdn : d.neg = false) (hd : d.mag ≠ 0) :
 QOk (bif (decide ((aT d (bh n d)) = rational_one)) then (⟨(aT n (bh n d)), (⟨false, 0⟩ : GI)⟩ : GQ) else (⟨(aT n (bh n d)), (aT d (bh n d))⟩ : GQ)) ∧
 g7 (bif (decide ((aT d (bh n d)) = rational_one)) then (⟨(aT n (bh n d)), (⟨false, 0⟩ : GI)⟩ : GQ) else (⟨(aT n (bh n d)), (aT d (bh n d))⟩ : GQ)) = (iX n : Rat) / (d.mag : Rat) := by
 have hg : 0 < Nat.gcd n.mag d.mag := Nat.gcd_pos_of_pos_right _ og
 have q1 : aT d (bh n d) = aU false (d.mag / Nat.gcd n.mag d.mag) := by
  have := t6 (a := d) (b := bh n d) rfl (by show Nat.gcd n.mag d.mag ≠ 0; omega) (Nat.gcd_dvd_right _ _)
  rw [hdn] at this
  exact this
 have q2 : aT n (bh n d) = aU n.neg (n.mag / Nat.gcd n.mag d.mag) :=
  t6 (a := n) (b := bh n d) rfl (by show Nat.gcd n.mag d.mag ≠ 0; omega) (Nat.gcd_dvd_left _ _)
 rw [q1, q2]
 have hdp : 0 < d.mag / Nat.gcd n.mag d.mag := Nat.div_pos (Nat.le_of_dvd og (Nat.gcd_dvd_right _ _)) hg
 have hcop : Nat.Coprime (n.mag / Nat.gcd n.mag d.mag) (d.mag / Nat.gcd n.mag d.mag) := Nat.coprime_div_gcd_div_gcd hg
 have hval : (iX (aU n.neg (n.mag / Nat.gcd n.mag d.mag)) : Rat) / ((d.mag / Nat.gcd n.mag d.mag : Nat) : Rat) = (iX n : Rat) / (d.mag : Rat) := by
  have e1 : iX n = iX (aU n.neg (n.mag / Nat.gcd n.mag d.mag)) * (Nat.gcd n.mag d.mag : Int) := by
   rw [jv]
   have := Nat.div_mul_cancel (Nat.gcd_dvd_left n.mag d.mag)
   unfold iX
   cases n.neg
   ·simp only [cond_false]; rw [← Int.natCast_mul, this]
   ·simp only [cond_true]; rw [Int.neg_mul, ← Int.natCast_mul, this]
  have e2 : d.mag = (d.mag / Nat.gcd n.mag d.mag) * Nat.gcd n.mag d.mag := (Nat.div_mul_cancel (Nat.gcd_dvd_right n.mag d.mag)).symm
  have g0 : ((Nat.gcd n.mag d.mag : Nat) : Rat) ≠ 0 := by
   intro e
   have : Nat.gcd n.mag d.mag = 0 := by exact_mod_cast e
   omega
  have d0 : ((d.mag / Nat.gcd n.mag d.mag : Nat) : Rat) ≠ 0 := by
   intro e
   have : d.mag / Nat.gcd n.mag d.mag = 0 := by exact_mod_cast e
   omega
  rw [e1, Rat.intCast_mul, Rat.intCast_natCast]
  conv => rhs; rhs; rw [e2]
  rw [Rat.natCast_mul]
  grind
 by_cases e : d.mag / Nat.gcd n.mag d.mag = 1
 ·have e' : aU false (d.mag / Nat.gcd n.mag d.mag) = rational_one := by rw [e]; rfl
  rw [decide_eq_true e', cond_true]
  refine ⟨⟨oA _ _, .inl rfl, ?_⟩, ?_⟩
  ·show Nat.Coprime (n.mag / Nat.gcd n.mag d.mag) 1; exact Nat.coprime_one_right _
  ·rw [← hval, e]; rfl
 ·have e' : ¬ aU false (d.mag / Nat.gcd n.mag d.mag) = rational_one := fun h => e (by
   have : (aU false (d.mag / Nat.gcd n.mag d.mag)).mag = rational_one.mag := by rw [h]
   exact this)
  rw [decide_eq_false e', cond_false]
  have ez : ¬ (aU false (d.mag / Nat.gcd n.mag d.mag)) = z0 := fun h => by
   have : (aU false (d.mag / Nat.gcd n.mag d.mag)).mag = z0.mag := by rw [h]
   have : d.mag / Nat.gcd n.mag d.mag = 0 := this
   omega
  have eq : o8 (⟨aU n.neg (n.mag / Nat.gcd n.mag d.mag), aU false (d.mag / Nat.gcd n.mag d.mag)⟩ : GQ) = d.mag / Nat.gcd n.mag d.mag := if_neg ez
  refine ⟨⟨oA _ _, .inr ⟨rfl, by show 1 < d.mag / Nat.gcd n.mag d.mag; omega⟩, ?_⟩, ?_⟩
  ·rw [eq]; exact hcop
  ·unfold g7
   rw [eq, ← hval]
theorem uA {n d : GI} (hn : IOk n) (hd : iX d ≠ 0) : QOk (bP n d) ∧ g7 (bP n d) = (iX n : Rat) / (iX d : Rat) := by
 have hm : d.mag ≠ 0 := fun e => hd (by unfold iX; rw [e]; cases d.neg <;> rfl)
 unfold bP
 rw [rN]
 cases hs : d.neg with
 | false =>
  have e : iX d = (d.mag : Int) := by unfold iX; rw [hs]; rfl
  rw [decide_eq_false (by rw [e]; have := vL d.mag; omega), cond_false, e, Rat.intCast_natCast]
  exact sO hn hs hm
 | true =>
  have e : iX d = -(d.mag : Int) := by unfold iX; rw [hs]; rfl
  rw [decide_eq_true (by rw [e, Int.sign_eq_neg_one_of_neg og]; decide), cond_true, e]
  have hN : (aD d).neg = false := by
   unfold aD aU; rw [hs]; rfl
  have hM : (aD d).mag = d.mag := rfl
  obtain ⟨k1, k2⟩ := sO (sT n) hN (by rw [hM]; exact hm)
  refine ⟨k1, k2.trans ?_⟩
  rw [qN, hM, Rat.intCast_neg, Rat.intCast_neg, Rat.intCast_natCast]
  have d0 : (d.mag : Rat) ≠ 0 := by
   intro e
   have : d.mag = 0 := by exact_mod_cast e
   omega
  grind
theorem v8 {x : GQ} (h : QOk x) : (o8 x : Rat) ≠ 0 := by
 intro e
 have : o8 x = 0 := by exact_mod_cast e
 have := h.pos
 omega
theorem t7 {x : GQ} (h : QOk x) : (0 : Rat) < (o8 x : Rat) := by
 have := h.pos
 exact_mod_cast this
theorem xw {x y : GQ} (hx : QOk x) (hy : QOk y) : ∃ D : Rat, 0 < D ∧ (iX (bf x y).1 : Rat) = g7 x * D ∧ (iX (bf x y).2.1 : Rat) = g7 y * D ∧ (iX (bf x y).2.2 : Rat) = D ∧ IOk (bf x y).1 ∧ IOk (bf x y).2.1 := by
 have h1 := t7 hx
 have h2 := t7 hy
 unfold bf
 by_cases e : x.den = y.den
 ·rw [decide_eq_true e, cond_true]
  have e2 : o8 x = o8 y := by unfold o8; rw [e]
  refine ⟨o8 x, h1, ?_, ?_, ?_, hx.1, hy.1⟩
  ·unfold g7; show (iX x.num : Rat) = _; grind
  ·unfold g7; rw [e2]; show (iX y.num : Rat) = _; grind
  ·show (iX (aa x) : Rat) = _
   rw [(nE hx).1, Rat.intCast_natCast]
 ·rw [decide_eq_false e, cond_false]
  refine ⟨(o8 x : Rat) * (o8 y : Rat), Rat.mul_pos h1 h2, ?_, ?_, ?_, xX _ _, xX _ _⟩
  ·show (iX (ab x.num (aa y)) : Rat) = _
   rw [oN, Rat.intCast_mul, (nE hy).1, Rat.intCast_natCast]
   unfold g7; grind
  ·show (iX (ab y.num (aa x)) : Rat) = _
   rw [oN, Rat.intCast_mul, (nE hx).1, Rat.intCast_natCast]
   unfold g7; grind
  ·show (iX (ab (aa x) (aa y)) : Rat) = _
   rw [oN, Rat.intCast_mul, (nE hx).1, (nE hy).1, Rat.intCast_natCast, Rat.intCast_natCast]
theorem oa {x y : GQ} (hx : QOk x) (hy : QOk y) : QOk (aV x y) ∧ g7 (aV x y) = g7 x + g7 y := by
 obtain ⟨D, h0, h1, h2, h3, _, _⟩ := xw hx hy
 unfold aV
 have hd : iX (bf x y).2.2 ≠ 0 := fun e => by
  rw [e] at h3
  have h4 : (0 : Rat) = D := h3
  grind
 obtain ⟨k1, k2⟩ := uA (Add_ok (bf x y).1 (bf x y).2.1) hd
 refine ⟨k1, ?_⟩
 rw [k2, Add_val, Rat.intCast_add, h1, h2, h3]
 grind
theorem sg {x y : GQ} (hx : QOk x) (hy : QOk y) : QOk (aH x y) ∧ g7 (aH x y) = g7 x * g7 y := by
 unfold aH
 have e1 := (nE hx).1
 have e2 := (nE hy).1
 have h1 := hx.pos
 have h2 := hy.pos
 have hd : iX (ab (aa x) (aa y)) ≠ 0 := by
  rw [oN, e1, e2, ← Int.natCast_mul]
  have := Nat.mul_pos h1 h2
  omega
 obtain ⟨k1, k2⟩ := uA (xX x.num y.num) hd
 refine ⟨k1, ?_⟩
 rw [k2, oN, oN, e1, e2]
 simp only [Rat.intCast_mul, Rat.intCast_natCast]
 have d1 := v8 hx
 have d2 := v8 hy
 unfold g7
 grind
theorem neg_ok {x : GQ} (hx : QOk x) : QOk (cz x) ∧ g7 (cz x) = - g7 x := by
 refine ⟨⟨sT _, hx.2.1, hx.2.2⟩, ?_⟩
 unfold g7 cz
 show (iX (aD x.num) : Rat) / (o8 x : Rat) = _
 rw [qN, Rat.intCast_neg]
 grind
theorem tP {x y : GQ} (hx : QOk x) (hy : QOk y) : QOk (aF x y) ∧ g7 (aF x y) = g7 x - g7 y := by
 unfold aF
 obtain ⟨k1, k2⟩ := neg_ok hy
 obtain ⟨k3, k4⟩ := oa hx k1
 refine ⟨k3, ?_⟩
 rw [k4, k2]; grind
theorem ji (n : Int) : QOk (ao n) ∧ g7 (ao n) = (n : Rat) := by
 refine ⟨⟨qO n, .inl rfl, Nat.coprime_one_right _⟩, ?_⟩
 unfold g7
 show (iX (aB n) : Rat) / ((1 : Nat) : Rat) = _
 rw [qj]
 grind
theorem zero_ok : QOk ⟨z0, z0⟩ ∧ g7 ⟨z0, z0⟩ = 0 := ji 0
end Go.Sx
namespace Go.Sx
def zQ : GQ := ⟨⟨false, 0⟩, ⟨false, 0⟩⟩
theorem l8 : QOk zQ ∧ g7 zQ = 0 := zero_ok
def DOk (q : Qd) : Prop := QOk q.c0 ∧ QOk q.c1 ∧ QOk q.c2
def TOk (t : GR) : Prop := QOk t.p ∧ QOk t.r
def lv (t : GR) (q : Qd) : Rat × Rat :=
 if t.r = zQ then (g7 q.c0 + g7 t.p * (g7 q.c1 + g7 t.p * g7 q.c2), 0)
 else (g7 q.c0 + g7 q.c2 * (g7 t.r - g7 t.p * g7 t.p), g7 q.c1 + (g7 q.c2 + g7 q.c2) * g7 t.p)
theorem eval_ok {q : Qd} {t : GQ} (hq : DOk q) (ht : QOk t) : QOk (eC q t) ∧ g7 (eC q t) = g7 q.c0 + g7 t * (g7 q.c1 + g7 t * g7 q.c2) := by
 obtain ⟨h0, h1, h2⟩ := hq
 unfold eC
 obtain ⟨a1, a2⟩ := sg ht h2
 obtain ⟨b1, b2⟩ := oa h1 a1
 obtain ⟨c1, c2⟩ := sg ht b1
 obtain ⟨d1, d2⟩ := oa h0 c1
 exact ⟨d1, by rw [d2, c2, b2, a2]⟩
theorem slope_ok {q : Qd} {t : GQ} (hq : DOk q) (ht : QOk t) : QOk (dE q t) ∧ g7 (dE q t) = g7 q.c1 + (g7 q.c2 + g7 q.c2) * g7 t := by
 obtain ⟨h0, h1, h2⟩ := hq
 unfold dE
 obtain ⟨a1, a2⟩ := oa h2 h2
 obtain ⟨b1, b2⟩ := sg a1 ht
 obtain ⟨c1, c2⟩ := oa h1 b1
 exact ⟨c1, by rw [c2, b2, a2]⟩
theorem vA {p q : Qd} (hp : DOk p) (hq : DOk q) : DOk (eg p q) ∧ g7 (eg p q).c0 = g7 p.c0 - g7 q.c0 ∧ g7 (eg p q).c1 = g7 p.c1 - g7 q.c1 ∧ g7 (eg p q).c2 = g7 p.c2 - g7 q.c2 := by
 unfold eg
 obtain ⟨a1, a2⟩ := tP hp.1 hq.1
 obtain ⟨b1, b2⟩ := tP hp.2.1 hq.2.1
 obtain ⟨c1, c2⟩ := tP hp.2.2 hq.2.2
 exact ⟨⟨a1, b1, c1⟩, a2, b2, c2⟩
theorem wS {a b : GQ} (ha : QOk a) (hb : QOk b) : DOk (br a b) ∧ (br a b).c0 = a ∧ (br a b).c1 = b ∧ (br a b).c2 = zQ := by
 unfold br
 exact ⟨⟨ha, hb, l8.1⟩, rfl, rfl, rfl⟩
theorem j0 {q : Qd} {t : GR} (hq : DOk q) (ht : TOk t) : DOk (cv q t) ∧ g7 (cv q t).c0 = (lv t q).1 ∧ g7 (cv q t).c1 = (lv t q).2 ∧ (cv q t).c2 = zQ := by
 unfold cv ef lv
 by_cases e : t.r = zQ
 ·rw [decide_eq_true (show t.r = ⟨⟨false, 0⟩, ⟨false, 0⟩⟩ from e), if_pos e]
  obtain ⟨k1, k2⟩ := eval_ok hq ht.1
  exact ⟨⟨k1, l8.1, l8.1⟩, k2, l8.2, rfl⟩
 ·rw [decide_eq_false (show ¬ t.r = ⟨⟨false, 0⟩, ⟨false, 0⟩⟩ from e), if_neg e, Bool.not_false, cond_true, cond_false]
  obtain ⟨a1, a2⟩ := sg ht.1 ht.1
  obtain ⟨b1, b2⟩ := tP ht.2 a1
  obtain ⟨c1, c2⟩ := sg hq.2.2 b1
  obtain ⟨d1, d2⟩ := oa hq.1 c1
  obtain ⟨s1, s2⟩ := slope_ok hq ht.1
  obtain ⟨l1, l2, l3, l4⟩ := wS d1 s1
  exact ⟨l1, by rw [l2, d2, c2, b2, a2], by rw [l3, s2], l4⟩
theorem qd_ext {p q : Qd} (hp : DOk p) (hq : DOk q) (h0 : g7 p.c0 = g7 q.c0) (h1 : g7 p.c1 = g7 q.c1) (h2 : g7 p.c2 = g7 q.c2) : p = q := by
 have e0 := qZ hp.1 hq.1 h0
 have e1 := qZ hp.2.1 hq.2.1 h1
 have e2 := qZ hp.2.2 hq.2.2 h2
 obtain ⟨a, b, c⟩ := p
 obtain ⟨x, y, z⟩ := q
 simp only at e0 e1 e2
 rw [e0, e1, e2]
theorem rl1 (a b c d e f p : Rat) : (a - b) + p * ((c - d) + p * (e - f)) = (a + p * (c + p * e)) - (b + p * (d + p * f)) := by grind
theorem rl2 (a b c d x : Rat) : (a - b) + (c - d) * x = (a + c * x) - (b + d * x) := by grind
theorem rl3 (a b c d x : Rat) : (a - b) + ((c - d) + (c - d)) * x = (a + (c + c) * x) - (b + (d + d) * x) := by grind
theorem lv_sub {p q : Qd} {t : GR} (hp : DOk p) (hq : DOk q) : lv t (eg p q) = ((lv t p).1 - (lv t q).1, (lv t p).2 - (lv t q).2) := by
 obtain ⟨_, e0, e1, e2⟩ := vA hp hq
 unfold lv
 by_cases e : t.r = zQ
 ·rw [if_pos e, if_pos e, if_pos e, e0, e1, e2, rl1]
  exact Prod.ext rfl (by show (0 : Rat) = 0 - 0; grind)
 ·rw [if_neg e, if_neg e, if_neg e, e0, e1, e2, rl2, rl3]
theorem lO {p q : Qd} {t : GR} (hp : DOk p) (hq : DOk q) (ht : TOk t) : eR p q t = true ↔ lv t p = lv t q := by
 unfold eR
 rw [decide_eq_true_eq]
 obtain ⟨k1, _⟩ := vA hp hq
 obtain ⟨r1, r2, r3, r4⟩ := j0 k1 ht
 rw [lv_sub hp hq] at r2 r3
 constructor
 ·intro h
  rw [h] at r2 r3
  have z := l8.2
  unfold zQ at z
  refine Prod.ext ?_ ?_
  ·simp only at r2; grind
  ·simp only at r3; grind
 ·intro h
  refine qd_ext r1 ⟨l8.1, l8.1, l8.1⟩ ?_ ?_ ?_
  ·rw [r2, h]; show _ = g7 zQ; rw [l8.2]; grind
  ·rw [r3, h]; show _ = g7 zQ; rw [l8.2]; grind
  ·rw [r4]; rfl
theorem nR {q : Qd} {t : GR} (hq : DOk q) (ht : TOk t) : lv t (cv q t) = lv t q := by
 obtain ⟨r1, r2, r3, r4⟩ := j0 hq ht
 have h : ∀ x : Qd, g7 x.c0 = (lv t q).1 → g7 x.c1 = (lv t q).2 → x.c2 = zQ → lv t x = lv t q := by
  intro x e0 e1 e2
  have e3 : g7 x.c2 = 0 := by rw [e2]; exact l8.2
  have e4 : t.r = zQ → (lv t q).2 = 0 := fun e => by unfold lv; rw [if_pos e]
  conv => lhs; unfold lv
  split
  ·rename_i e
   rw [e4 e] at e1
   refine Prod.ext ?_ ?_
   ·simp only; rw [e0, e1, e3]; grind
   ·simp only; rw [e4 e]
  ·refine Prod.ext ?_ ?_
   ·simp only; rw [e0, e3]; grind
   ·simp only; rw [e1, e3]; grind
 exact h _ r2 r3 r4
theorem vX {p q : Qd} {t : GR} (hp : DOk p) (hq : DOk q) (ht : TOk t) : cv p t = cv q t ↔ lv t p = lv t q := by
 obtain ⟨r1, r2, r3, r4⟩ := j0 hp ht
 obtain ⟨s1, s2, s3, s4⟩ := j0 hq ht
 constructor
 ·intro h; rw [← nR hp ht, ← nR hq ht, h]
 ·intro h; exact qd_ext r1 s1 (by rw [r2, s2, h]) (by rw [r3, s3, h]) (by rw [r4, s4])
end Go.Sx
namespace Go.Sx
theorem take_gt2 {β : Type} [Inhabited β] {A : List β} {i : Nat} (h : i < A.length) : A.take (i + 1) = A.take i ++ [gt A i] := by
 rw [hH h, List.take_append_getElem]
theorem mB (a b : Int) : ch a b = true ↔ a = b := by
 unfold ch
 simp
end Go.Sx
namespace Go.Sx
theorem rX (l : List (U Qd)) : ax l = mf bH l 0 l.length := by
 unfold ax cZ be eB
 show bg l 0 l.length = _
 unfold bg
 rfl
theorem pY (a b : U Qd) : bH a b = cU a b := by
 unfold bH aZ cU ci
 rfl
theorem kw {d : List (U Qd)} (hd : ∀ u ∈ d, Tv u.iv) : (ax d).Perm d ∧ (ax d).Pairwise fun a b => kU a.iv ≤ kU b.iv := by
 rw [rX]
 exact qy pY hd
theorem mI (l : List (U Qd)) : ak l [] = kY (l.map (·.iv)) := by
 unfold ak
 have := nX (R := List GR) (f := fun (o : List GR) (u : U Qd) => aC (aC o u.iv.lo) u.iv.hi) l (B := fun s => dm l [] s.1 s.2)
  (fun o i hi => by
    show dm l [] o i = _
    unfold dm
    rw [decide_eq_true (by omega : (i : Int) < (l.length : Int))]
    rfl)
  (fun o => by
    show dm l [] o l.length = _
    unfold dm
    rw [decide_eq_false (by omega : ¬ (l.length : Int) < (l.length : Int))]
    rfl) l [] [] (l.length - 0 + 1) rfl og
 refine (gD this).trans ?_
 unfold jd kY
 rw [List.foldl_map]
theorem mZ (l : List (U Qd)) (ts : List GR) : ce l ts = iP (default : Qd) l ts := by
 unfold ce iP
 have h1 := qg (R := List (At Qd)) (z := (default : Qd)) (ts := ts) (B := fun s => cp l ts s.1 s.2)
  (fun o i hi => by
    show cp l ts o i = _
    unfold cp
    rw [decide_eq_true (by omega : (i : Int) < (ts.length : Int)), decide_eq_true (by omega : ((i + 1 : Nat) : Int) < (ts.length : Int))]
    rfl)
  (fun o i hi => by
    show cp l ts o i = _
    unfold cp
    rw [decide_eq_true (by omega : (i : Int) < (ts.length : Int)), decide_eq_false (by omega : ¬ ((i + 1 : Nat) : Int) < (ts.length : Int))]
    rfl)
  (fun o => by
    show cp l ts o ts.length = _
    unfold cp
    rw [decide_eq_false (by omega : ¬ (ts.length : Int) < (ts.length : Int))]
    rfl) ts [] [] (ts.length - 0 + 1) rfl og
 refine (gD h1).trans ?_
 show gw l ts ([] ++ gb (default : Qd) ts) ts.length = _
 rw [List.nil_append]
 generalize gb (default : Qd) ts = o0
 unfold gw
 have h2 := ug (R := List (At Qd)) (g := kQ l) (n := o0.length) (B := fun s => df l ts o0 ts.length s.1 s.2)
  (fun o i hi hn => by
    show df l ts o0 ts.length i o = _
    unfold df
    rw [decide_eq_true (by omega : (i : Int) < (o.length : Int)), cond_true]
    have h3 := mX (R := List (At Qd)) (f := fun o u => o.set i (lL u (gt o i))) l (I := fun o => i < o.length) (B := fun s => de l ts o0 ts.length i o s.1 s.2)
     (fun o x h => by simpa using h)
     (fun o k ho hk => by
       show de l ts o0 ts.length i _ k o = _
       unfold de lL
       rw [decide_eq_true (by omega : (k : Int) < (l.length : Int)), cond_true]
       cases aY (gt l k).iv (gt o i).frm (gt o i).til (gt o i).gap
       ·rw [cond_false, cond_false, set_gt ho]
       ·rfl)
     (fun o' => by
       show de l ts o0 ts.length i _ l.length o' = _
       unfold de
       rw [decide_eq_false (by omega : ¬ (l.length : Int) < (l.length : Int))]
       rfl) l [] o (l.length - 0 + 1) hi rfl og
    refine (gD h3).trans ?_
    show gu l ts o0 ts.length i _ l.length _ = _
    unfold gu
    rw [ur i l o hi])
  (fun o hn => by
    show df l ts o0 ts.length o0.length o = _
    unfold df
    rw [hn, decide_eq_false (by omega : ¬ (o0.length : Int) < (o0.length : Int))]
    rfl) o0 [] (o0.length - 0 + 1) (by simp) og
 refine (gD h2).trans ?_
 rfl
theorem kI (l : List (U Qd)) : af l = l.flatMap atU := by
 unfold af
 have h := mX (R := List (U Qd)) (f := fun o u => o ++ atU u) l (I := fun _ => True) (B := fun s => dU l s.1 s.2)
  (fun _ _ h => h)
  (fun o i _ hi => by
    show dU l i o = _
    unfold dU atU ptU mW
    rw [decide_eq_true (by omega : (i : Int) < (l.length : Int)), cond_true]
    cases (gt l i).iv.openLo <;> cases aL (gt l i).iv <;> cases (gt l i).iv.openHi <;> simp)
  (fun o => by
    show dU l l.length o = _
    unfold dU
    rw [decide_eq_false (by omega : ¬ (l.length : Int) < (l.length : Int))]
    rfl) l [] [] (l.length - 0 + 1) trivial rfl og
 refine (gD h).trans ?_
 show iQ l l.length _ = _
 unfold iQ
 rw [mH, List.nil_append]
theorem iV {l : List (U Qd)} (hl : (ax l).length = l.length) (h : ∀ i, 0 < i → i < l.length → dp (gt (ax l) (i - 1)).iv (gt (ax l) i).iv = true) : bG l = dI l l.length := by
 unfold bG
 refine (gD (mj (n := l.length) (r := (([], 11) : List (U Qd) × Int)) (bad := fun x => decide ((x : Int) > 0) && !(dp (gt (ax l) (x - 1)).iv (gt (ax l) x).iv)) (fun x hx => by
  unfold d6
  rw [hl, decide_eq_true (by omega : (x : Int) < (l.length : Int)), cond_true]) (by
  unfold d6
  rw [hl, decide_eq_false (by omega : ¬ (l.length : Int) < (l.length : Int))]
  rfl) (l.length - 0 + 1) 0 (Nat.zero_le _) og fun i _ h2 => ?_)).trans rfl
 by_cases e : 0 < i
 ·show (decide ((i : Int) > 0) && !(dp (gt (ax l) (i - 1)).iv (gt (ax l) i).iv)) = false
  rw [h i e h2, Bool.not_true, Bool.and_false]
 ·show (decide ((i : Int) > 0) && _) = false
  rw [decide_eq_false (by omega : ¬ (i : Int) > 0), Bool.false_and]
theorem qn (l : List (U Qd)) (x18 : Nat) (out : List (U Qd)) (x : Nat) (hx : x < (af (ax l)).length) :
 dg l x18 out x = .go (dr bF aW aI (af (ax l)) out x, x + 1) := by
 unfold dg dr jh kp rP lq e9
 rw [decide_eq_true (by omega : (x : Int) < (((af (ax l)).length : Nat) : Int)), cond_true]
 generalize af (ax l) = L
 repeat' (first | refine rE ?_ ?_ | rfl)
theorem qa (l : List (At Qd)) (out : List (U Qd)) (i : Nat) (hi : i < l.length) :
 dc l out i = .go (e7 bF aW aI l out i, i + 1) := by
 unfold dc e7
 rw [decide_eq_true (by omega : (i : Int) < (l.length : Int)), cond_true]
 cases (gt l i).has <;> cases (gt l i).gap <;> simp only [Bool.not_true, Bool.not_false, cond_true, cond_false]
 ·repeat' (first | refine rE ?_ ?_ | rfl)
 ·repeat' (first | refine rE ?_ ?_ | rfl)
theorem iW (l : List (U Qd)) (n : Nat) : dI l n = (es (dr bF aW aI (af (ax l))) [] (af (ax l)).length, 0) := by
 unfold dI
 refine (gD (nT (o := ([] : List (U Qd))) (st := dr bF aW aI (af (ax l))) (n := (af (ax l)).length) (B := fun s => dg l n s.1 s.2)
  (fun o i hi => qn l n o i hi) (fun o => by
    show dg l n o _ = _
    unfold dg
    rw [decide_eq_false (by omega : ¬ (((af (ax l)).length : Nat) : Int) < (((af (ax l)).length : Nat) : Int))]
    rfl) _ 0 (Nat.zero_le _) og)).trans ?_
 rfl
theorem kt (l : List (At Qd)) : dl l = es (e7 bF aW aI l) [] l.length := by
 unfold dl
 refine (gD (nT (o := ([] : List (U Qd))) (st := e7 bF aW aI l) (n := l.length) (B := fun s => dc l s.1 s.2)
  (fun o i hi => qa l o i hi) (fun o => by
    show dc l o _ = _
    unfold dc
    rw [decide_eq_false (by omega : ¬ (l.length : Int) < (l.length : Int))]
    rfl) _ 0 (Nat.zero_le _) og)).trans ?_
 rfl
theorem nh (heq : ∀ a b, bF a b = true → a = b) {d u : List (U Qd)} (hp : d.Perm u) (hW : ∀ x ∈ u, Wv x.iv) (hD : u.Pairwise fun a b => Dj a.iv b.iv) : bG d = (am u, 0) := by
 have hWd : ∀ x ∈ d, Wv x.iv := fun x hx => hW x (hp.mem_iff.1 hx)
 obtain ⟨s1, s2⟩ := kw (fun x hx => (hWd x hx).1)
 have hps := s1.trans hp
 have hE := (mY (l := u.map (·.iv)) (fun i hi => by obtain ⟨x, hx, rfl⟩ := List.mem_map.1 hi; exact (hW x hx).1)).1
 rw [iV s1.length_eq fun i h0 h1 => (po hW hps s2).2 hD i h0 (by rw [s1.length_eq]; exact h1), iW]
 have e1 : af (ax d) = kV (iP (default : Qd) u (kY (u.map (·.iv)))) := by
  rw [kI]; exact atoms_eq hW hD hps s2
 unfold am
 rw [e1, kt, mI, mZ, loops_eq heq (pv hE)]
end Go.Sx
namespace Go.Sx
theorem knw : gO = true := by decide +kernel
end Go.Sx
