/- A part of the proof of piecesMoments. -/
import Derived.Test.YtbenbmdkhcfcfaaGreatDoorM1
import Derived.Test.YtbenbmdkhcfcfaaGreatDoorGarith
import Derived.Test.YtbenbmdkhcfcfaaGreatDoorQ2
import Derived.Test.YtbenbmdkhcfcfaaGreatDoorQ3
set_option linter.unusedVariables false
set_option linter.unusedSimpArgs false
namespace Go.Sx
def nxP {S R : Type} (I : S → Prop) (Q : R → Prop) : Nx S R → Prop
 | .go s => I s
 | .out s => I s
 | .ret r => Q r
def smP {S R : Type} (I : S → Prop) (Q : R → Prop) : S ⊕ R → Prop
 | .inl s => I s
 | .inr r => Q r
theorem oR {S R : Type} {B : S → Nx S R} {I : S → Prop} {Q : R → Prop} (h : ∀ s, I s → nxP I Q (B s)) : ∀ (n : Nat) (s : S), I s → smP I Q (bR B n s)
 | 0, s, hs => hs
 | n + 1, s, hs => by
  have h1 := h s hs
  unfold bR
  revert h1
  cases B s with
  | go s' => exact fun h1 => oR h n s' h1
  | out s' => exact fun h1 => h1
  | ret r => exact fun h1 => h1
def Fs (f : Qd) : Prop := f = default ∨ (∃ s, f = ah s) ∨ ∃ c : Int, f = aJ (ap (Int.tmod c 4))
def pUn (t : GR) (f : Qd) : U Qd := ⟨⟨t, t, false, false⟩, f⟩
def bPt (s : Stp) (before : Qd) (t : GR) : List (U Qd) :=
 bif ((((s.point % 4) : Nat) : Int) == ((1 : Nat) : Int)) then [pUn t (ah s)]
 else bif ((((s.point % 4) : Nat) : Int) == ((2 : Nat) : Int)) then [pUn t before]
 else bif ((((s.point % 4) : Nat) : Int) == ((3 : Nat) : Int)) then [pUn t (aJ (ap (Int.tmod s.c0 4)))]
 else []
def bPs (s : Stp) (before : Qd) (t : GR) (taken : Bool) : List (U Qd) :=
 bif taken then [] else bif ((((s.piece % 4) : Nat) : Int) == ((2 : Nat) : Int)) then [] else bPt s before t
def bGp (s : Stp) (t t' : GR) (taken : Bool) : List (U Qd) :=
 bif ((((s.piece % 4) : Nat) : Int) != ((0 : Nat) : Int)) then [⟨⟨t, t', !(((((s.piece % 4) : Nat) : Int) == ((2 : Nat) : Int)) && !taken), !((((s.piece % 4) : Nat) : Int) == ((3 : Nat) : Int))⟩, ah s⟩] else []
theorem oi (l : List Stp) (out : List (U Qd)) (a : Nat) (root taken : Bool) (i : Nat) (before : Qd) :
 bq l out a root taken i before =
  bif ((decide (((i : Nat) : Int) < ((l.length : Nat) : Int))) && (decide (((i : Nat) : Int) < 8))) then
   .go (out ++ (bPs (gt l i) before (ab ((a : Nat) : Int) root) taken ++ bGp (gt l i) (ab ((a : Nat) : Int) root) (ab (((a + 3) + ((gt l i).length % 3) : Nat) : Int) ((gt l i).root)) taken),
    ((a + 3) + ((gt l i).length % 3)), (gt l i).root, ((((gt l i).piece % 4 : Nat) : Int) == ((3 : Nat) : Int)), (i + 1), ah (gt l i))
  else .out (out, a, root, taken, i, before) := by
 unfold bq
 congr 1
 generalize gt l i = s
 unfold bPs bGp bPt pUn
 cases e2 : ((((s.piece % 4) : Nat) : Int) == ((2 : Nat) : Int)) <;> cases taken <;>
  simp only [Bool.not_true, Bool.not_false, Bool.and_true, Bool.and_false, cond_true, cond_false, Bool.false_eq_true] <;>
  cases ((((s.piece % 4) : Nat) : Int) != ((0 : Nat) : Int)) <;> simp only [cond_true, cond_false, List.append_nil, List.nil_append] <;>
  cases ((((s.point % 4) : Nat) : Int) == ((1 : Nat) : Int)) <;> simp only [cond_true, cond_false, List.append_nil, List.nil_append, List.append_assoc] <;>
  cases ((((s.point % 4) : Nat) : Int) == ((2 : Nat) : Int)) <;> simp only [cond_true, cond_false, List.append_nil, List.nil_append, List.append_assoc] <;>
  cases ((((s.point % 4) : Nat) : Int) == ((3 : Nat) : Int)) <;> simp only [cond_true, cond_false, List.append_nil, List.nil_append, List.append_assoc]
theorem bUs_ok {taken p0 p2 p3 : Bool} {t t' : GR} {f : Qd} {P : List (U Qd)} (ht : Tm t) (ht' : Tm t') (hlt : tk t < tk t') (hf : Fs f)
 (hP : P = [] ∨ (taken = false ∧ p2 = false ∧ ∃ g, Fs g ∧ P = [pUn t g])) :
 (∀ x ∈ P ++ (bif p0 then [(⟨⟨t, t', !(p2 && !taken), !p3⟩, f⟩ : U Qd)] else []), Wv x.iv ∧ Fs x.f ∧ eW x.iv < 2 * tk t' + (bif p3 then 1 else 0) ∧ (2 * tk t + (bif taken then 1 else 0) : Int) ≤ eK x.iv) ∧
 (P ++ (bif p0 then [(⟨⟨t, t', !(p2 && !taken), !p3⟩, f⟩ : U Qd)] else [])).Pairwise fun a b => Dj a.iv b.iv := by
 have hg : ∀ x ∈ (bif p0 then [(⟨⟨t, t', !(p2 && !taken), !p3⟩, f⟩ : U Qd)] else []), x = ⟨⟨t, t', !(p2 && !taken), !p3⟩, f⟩ := by
  cases p0
  ·intro x hx; cases hx
  ·intro x hx; exact List.mem_singleton.1 hx
 have gok : Wv (⟨t, t', !(p2 && !taken), !p3⟩ : Iv) := ⟨⟨ht, ht'⟩, Nat.le_of_lt hlt, fun e => by have e : tk t = tk t' := e; omega⟩
 have g1 : eW (⟨t, t', !(p2 && !taken), !p3⟩ : Iv) < 2 * tk t' + (bif p3 then 1 else 0) := by
  unfold eW; cases p3 <;> simp <;> omega
 have g2 : (2 * tk t + (bif taken then 1 else 0) : Int) ≤ eK (⟨t, t', !(p2 && !taken), !p3⟩ : Iv) := by
  unfold eK; cases p2 <;> cases taken <;> simp <;> omega
 rcases hP with rfl | ⟨h1, h2, g, hgf, rfl⟩
 ·rw [List.nil_append]
  refine ⟨fun x hx => by rw [hg x hx]; exact ⟨gok, hf, g1, g2⟩, ?_⟩
  cases p0
  ·exact List.Pairwise.nil
  ·exact List.pairwise_singleton _ _
 ·subst h1 h2
  have hpw : Wv (pUn t g).iv := ⟨⟨ht, ht⟩, Nat.le_refl _, fun _ => ⟨rfl, rfl⟩⟩
  have pl : eW (pUn t g).iv = 2 * tk t := by unfold eW pUn; simp
  have pf : eK (pUn t g).iv = 2 * tk t := by unfold eK pUn; simp
  refine ⟨fun x hx => ?_, ?_⟩
  ·rcases List.mem_append.1 hx with hx | hx
   ·rw [List.mem_singleton.1 hx]
    refine ⟨hpw, hgf, ?_, ?_⟩
    ·rw [pl]; cases p3 <;> simp <;> omega
    ·rw [pf]; simp <;> omega
   ·rw [hg x hx]; exact ⟨gok, hf, g1, g2⟩
  ·rw [List.singleton_append, List.pairwise_cons]
   refine ⟨fun y hy => ?_, ?_⟩
   ·rw [hg y hy]
    refine .inl ?_
    rw [pl]
    unfold eK; simp <;> omega
   ·cases p0
    ·exact List.Pairwise.nil
    ·exact List.pairwise_singleton _ _
def BI (s : (List (U Qd)) × Nat × Bool × Bool × Nat × Qd) : Prop :=
 s.2.1 ≤ 5 * s.2.2.2.2.1 ∧ s.2.2.2.2.1 ≤ 8 ∧ Fs s.2.2.2.2.2 ∧ (∀ x ∈ s.1, Wv x.iv ∧ Fs x.f ∧ eW x.iv < ((2 * (10 * s.2.1 + 10 + (bif s.2.2.1 then 14 else 0)) + (bif s.2.2.2.1 then 1 else 0) : Nat) : Int)) ∧ s.1.Pairwise fun a b => Dj a.iv b.iv
theorem uj (l : List Stp) (s : (List (U Qd)) × Nat × Bool × Bool × Nat × Qd) (h : BI s) :
 nxP BI (fun _ => False) (bq l s.1 s.2.1 s.2.2.1 s.2.2.2.1 s.2.2.2.2.1 s.2.2.2.2.2) := by
 obtain ⟨out, a, root, taken, i, before⟩ := s
 obtain ⟨h1, h2, h3, h4, h5⟩ := h
 simp only at h1 h2 h3 h4 h5
 rw [oi]
 cases hc : ((decide (((i : Nat) : Int) < ((l.length : Nat) : Int))) && (decide (((i : Nat) : Int) < 8))) with
 | false => exact ⟨h1, h2, h3, h4, h5⟩
 | true =>
  rw [cond_true]
  rw [Bool.and_eq_true, decide_eq_true_eq, decide_eq_true_eq] at hc
  have hi : i < 8 := by omega
  have hm : (gt l i).length % 3 < 3 := Nat.mod_lt _ (by decide)
  have e1 := tk_at a root (by omega)
  have e2 := tk_at ((a + 3) + ((gt l i).length % 3)) (gt l i).root (by omega)
  have hlt : tk (ab ((a : Nat) : Int) root) < tk (ab (((a + 3) + ((gt l i).length % 3) : Nat) : Int) ((gt l i).root)) := by
   rw [e1, e2]; cases root <;> cases (gt l i).root <;> simp <;> omega
  have hF : Fs (ah (gt l i)) := .inr (.inl ⟨_, rfl⟩)
  have hP : bPs (gt l i) before (ab ((a : Nat) : Int) root) taken = [] ∨ (taken = false ∧ ((((gt l i).piece % 4 : Nat) : Int) == ((2 : Nat) : Int)) = false ∧ ∃ g, Fs g ∧ bPs (gt l i) before (ab ((a : Nat) : Int) root) taken = [pUn (ab ((a : Nat) : Int) root) g]) := by
   unfold bPs bPt
   cases taken
   ·rw [cond_false]
    cases ((((gt l i).piece % 4 : Nat) : Int) == ((2 : Nat) : Int))
    ·rw [cond_false]
     cases ((((gt l i).point % 4 : Nat) : Int) == ((1 : Nat) : Int))
     ·rw [cond_false]
      cases ((((gt l i).point % 4 : Nat) : Int) == ((2 : Nat) : Int))
      ·rw [cond_false]
       cases ((((gt l i).point % 4 : Nat) : Int) == ((3 : Nat) : Int))
       ·exact .inl rfl
       ·exact .inr ⟨rfl, rfl, _, .inr (.inr ⟨_, rfl⟩), rfl⟩
      ·exact .inr ⟨rfl, rfl, _, h3, rfl⟩
     ·exact .inr ⟨rfl, rfl, _, hF, rfl⟩
    ·exact .inl rfl
   ·exact .inl rfl
  obtain ⟨k1, k2⟩ := bUs_ok (p0 := ((((gt l i).piece % 4 : Nat) : Int) != ((0 : Nat) : Int))) (p3 := ((((gt l i).piece % 4 : Nat) : Int) == ((3 : Nat) : Int))) (tm_at a root (by omega)) (tm_at ((a + 3) + ((gt l i).length % 3)) (gt l i).root (by omega)) hlt hF hP
  refine ⟨?_, ?_, hF, fun x hx => ?_, ?_⟩
  ·show (a + 3) + ((gt l i).length % 3) ≤ 5 * (i + 1); omega
  ·show i + 1 ≤ 8; omega
  ·show Wv x.iv ∧ Fs x.f ∧ eW x.iv < ((2 * (10 * ((a + 3) + ((gt l i).length % 3)) + 10 + (bif (gt l i).root then 14 else 0)) + (bif ((((gt l i).piece % 4 : Nat) : Int) == ((3 : Nat) : Int)) then 1 else 0) : Nat) : Int)
   rw [e1, e2] at hlt
   rcases List.mem_append.1 hx with hx | hx
   ·obtain ⟨a1, a2, a3⟩ := h4 x hx
    refine ⟨a1, a2, ?_⟩
    clear h4 k1 k2 hP e1 e2 h5
    generalize ((((gt l i).piece % 4 : Nat) : Int) == ((3 : Nat) : Int)) = p3 at *
    generalize (gt l i).root = rt at *
    cases root <;> cases taken <;> cases rt <;> cases p3 <;> simp only [cond_true, cond_false] at * <;> omega
   ·obtain ⟨a1, a2, a3, _⟩ := k1 x hx
    rw [e2] at a3
    refine ⟨a1, a2, ?_⟩
    clear h4 k1 k2 hP e1 e2 h5
    generalize ((((gt l i).piece % 4 : Nat) : Int) == ((3 : Nat) : Int)) = p3 at *
    generalize (gt l i).root = rt at *
    cases rt <;> cases p3 <;> simp only [cond_true, cond_false] at * <;> omega
  ·show (out ++ _).Pairwise _
   rw [List.pairwise_append]
   refine ⟨h5, k2, fun x hx y hy => .inl ?_⟩
   obtain ⟨_, _, a3⟩ := h4 x hx
   obtain ⟨_, _, _, a4⟩ := k1 y hy
   rw [e1] at a4
   clear h4 k1 k2 hP e1 e2 h5 hlt
   cases root <;> cases taken <;> simp only [cond_true, cond_false] at * <;> omega
theorem jb (l : List Stp) : (∀ x ∈ am l, Wv x.iv ∧ Fs x.f) ∧ (am l).Pairwise fun a b => Dj a.iv b.iv := by
 have h := oR (R := List (U Qd)) (Q := fun _ => False) (B := fun s => bq l s.1 s.2.1 s.2.2.1 s.2.2.2.1 s.2.2.2.2.1 s.2.2.2.2.2) (I := BI) (uj l) ((8 - 0) + 1) ([], 0, false, false, 0, default)
  ⟨by decide, by decide, .inl rfl, fun x hx => (by cases hx), List.Pairwise.nil⟩
 have e : ∃ s, BI s ∧ am l = s.1 := by
  unfold am
  revert h
  generalize bR _ _ _ = X
  intro h
  match X, h with
  | .inl s, h => exact ⟨s, h, rfl⟩
 obtain ⟨s, hs, e⟩ := e
 rw [e]
 exact ⟨fun x hx => ⟨(hs.2.2.2.1 x hx).1, (hs.2.2.2.1 x hx).2.1⟩, hs.2.2.2.2⟩
end Go.Sx
namespace Go.Sx
theorem foldl_cons {α β : Type} (g : α → β) : ∀ (l : List α) (o : List β), l.foldl (fun o i => g i :: o) o = (l.map g).reverse ++ o
 | [], o => rfl
 | x :: l, o => by rw [List.foldl_cons, foldl_cons g l]; simp
theorem kM {α : Type} [Inhabited α] {z : α} {u : List (U α)} {E : List GR} {i : Nat} (h : i < (ij z u E).length) : gt (ij z u E) i = jp u (gt (fU z E) i) := by
 have h2 : i < (fU z E).length := by simpa [ij] using h
 have : gt ((fU z E).map (jp u)) i = jp u (gt (fU z E) i) := by
  rw [gp (by simpa using h2), gp h2, List.getElem_map]
 exact this
theorem mL {α : Type} [Inhabited α] {z : α} {u : List (U α)} {E : List GR} (hE : Ts E) : Turns tk (ij z u E) := by
 have hl : (ij z u E).length = (fU z E).length := by unfold ij; rw [List.length_map]
 have ok : ∀ {i}, i < (ij z u E).length → _ := fun {i} hi => qP (z := z) hE (a := gt (fU z E) i) (by rw [gp (hl ▸ hi)]; exact List.getElem_mem _)
 refine ⟨fun i hi => ?_, fun i hi => ?_, fun i hi hg => ?_, fun i hi hg => ?_⟩
 ·rw [kM hi, (fY u _).2.1]; exact (po i (hl ▸ hi)).1
 ·rw [kM hi, kM (by omega : i < (ij z u E).length), (fY u _).1, (fY u _).2.2]
  exact (po i (by omega)).2 (hl ▸ hi)
 ·rw [kM hi] at hg ⊢
  rw [(fY u _).2.1] at hg
  rw [(fY u _).1, (fY u _).2.2]
  exact (ok hi).2.2.1 hg
 ·rw [kM hi] at hg ⊢
  rw [(fY u _).2.1] at hg
  rw [(fY u _).1, (fY u _).2.2]
  exact (ok hi).2.2.2 hg
end Go.Sx
namespace Go.Sx
def iq (a : GI) : Int := bif a.neg then -(a.mag : Int) else (a.mag : Int)
def IOk (a : GI) : Prop := a.mag = 0 → a.neg = false
theorem l8 (s : Bool) (m : Nat) : IOk (aM s m) := by
 intro h
 have h : m = 0 := h
 subst h
 cases s <;> rfl
theorem im (s : Bool) (m : Nat) : iq (aM s m) = bif s then -(m : Int) else (m : Int) := by
 unfold iq aM
 by_cases h : m = 0
 ·subst h; cases s <;> rfl
 ·cases s <;> simp [h]
theorem ival_inj {a b : GI} (ha : IOk a) (hb : IOk b) (h : iq a = iq b) : a = b := by
 obtain ⟨s, m⟩ := a
 obtain ⟨r, n⟩ := b
 unfold iq at h
 unfold IOk at ha hb
 simp only at ha hb h
 cases s <;> cases r <;> simp only [cond_true, cond_false] at h
 ·have : m = n := by omega
  rw [this]
 ·have h1 : m = 0 := by omega
  have h2 : n = 0 := by omega
  exact absurd (hb h2) (by decide)
 ·have h1 : m = 0 := by omega
  exact absurd (ha h1) (by decide)
 ·have : m = n := by omega
  rw [this]
theorem sg (n : Int) : IOk (aw n) := by
 unfold IOk aw
 intro h
 have h : n.natAbs = 0 := h
 exact decide_eq_false (by omega)
theorem nG (n : Int) : iq (aw n) = n := by
 unfold iq aw
 by_cases h : n < 0
 ·simp only [decide_eq_true h, cond_true]; omega
 ·simp only [decide_eq_false h, cond_false]; omega
theorem sgn_nn (m : Nat) : 0 ≤ ((m : Nat) : Int).sign := by
 cases m with
 | zero => decide
 | succ m => exact Int.le_of_lt (by rw [Int.sign_eq_one_of_pos (by omega)]; decide)
theorem Sign_val (a : GI) : df a = (iq a).sign := by
 obtain ⟨s, m⟩ := a
 unfold df iq
 by_cases h : m = 0
 ·subst h; cases s <;> rfl
 ·rw [decide_eq_false h]
  cases s
  ·exact (Int.sign_eq_one_of_pos (by show (0 : Int) < (m : Int); omega)).symm
  ·exact (Int.sign_eq_neg_one_of_neg (by show -(m : Int) < 0; omega)).symm
theorem oq (a : GI) : iq (ar a) = - iq a := by
 unfold ar
 rw [im]
 unfold iq
 cases a.neg <;> simp
theorem cmp_val (a b : Nat) : bp a b = if a < b then -1 else if b < a then 1 else 0 := by
 unfold bp
 rcases Nat.lt_trichotomy a b with h | h | h
 ·rw [show Nat.blt a b = true by rw [Nat.blt_eq]; exact h, cond_true, if_pos h]
 ·subst h
  have h1 : Nat.blt a a = false := by
   cases e : Nat.blt a a with
   | false => rfl
   | true => rw [Nat.blt_eq] at e; omega
  rw [h1, Nat.beq_refl, if_neg (Nat.lt_irrefl _), if_neg (Nat.lt_irrefl _)]; rfl
 ·have h1 : Nat.blt a b = false := by
   cases e : Nat.blt a b with
   | false => rfl
   | true => rw [Nat.blt_eq] at e; omega
  have h2 : Nat.beq a b = false := by
   cases e : Nat.beq a b with
   | false => rfl
   | true => have := Nat.eq_of_beq_eq_true e; omega
  rw [h1, h2, if_neg (by omega), if_pos h]; rfl
theorem Add_val (a b : GI) : iq (aH a b) = iq a + iq b := by
 obtain ⟨s, m⟩ := a
 obtain ⟨r, n⟩ := b
 unfold aH cX c8
 simp only [cmp_val]
 cases s <;> cases r
 ·show iq (aM false (m + n)) = (m : Int) + n
  rw [im]; simp
 ·show iq (bif decide (_ ≥ (0 : Int)) then aM false (m - n) else aM true (n - m)) = (m : Int) + -n
  split <;> rename_i h1
  ·simp only [show decide ((-1 : Int) ≥ 0) = false from rfl, cond_false, im, cond_true]; omega
  ·split
   ·simp only [show decide ((1 : Int) ≥ 0) = true from rfl, cond_true, im, cond_false]; omega
   ·simp only [show decide ((0 : Int) ≥ 0) = true from rfl, cond_true, im, cond_false]; omega
 ·show iq (bif decide (_ ≥ (0 : Int)) then aM true (m - n) else aM false (n - m)) = -(m : Int) + n
  split <;> rename_i h1
  ·simp only [show decide ((-1 : Int) ≥ 0) = false from rfl, cond_false, im, cond_true]; omega
  ·split
   ·simp only [show decide ((1 : Int) ≥ 0) = true from rfl, cond_true, im, cond_false]; omega
   ·simp only [show decide ((0 : Int) ≥ 0) = true from rfl, cond_true, im, cond_false]; omega
 ·show iq (aM true (m + n)) = -(m : Int) + -n
  rw [im, cond_true]; omega
theorem Add_ok (a b : GI) : IOk (aH a b) := by
 unfold aH
 cases (a.neg == b.neg)
 ·rw [cond_false]
  cases (decide ((bp a.mag b.mag) ≥ 0)) <;> exact l8 _ _
 ·exact l8 _ _
theorem uA (a b : GI) : IOk (ag a b) := l8 _ _
theorem qt (a : GI) : IOk (ar a) := l8 _ _
theorem mh (a b : GI) : iq (ag a b) = iq a * iq b := by
 obtain ⟨s, m⟩ := a
 obtain ⟨r, n⟩ := b
 unfold ag ec
 rw [im]
 unfold iq
 cases s <;> cases r <;> simp [Int.neg_mul, Int.mul_neg]
theorem qF (a : GI) : (iq a).natAbs = a.mag := by unfold iq; cases a.neg <;> simp
theorem qZ {a b : GI} (hb : b.neg = false) (h0 : b.mag ≠ 0) (hd : b.mag ∣ a.mag) : az a b = aM a.neg (a.mag / b.mag) := by
 unfold az aS be
 rw [decide_eq_false h0, cond_false, Nat.mod_eq_zero_of_dvd hd, hb]
 simp
def z0 : GI := ⟨false, 0⟩
def oG (x : GQ) : Nat := if x.den = z0 then 1 else x.den.mag
def QOk (x : GQ) : Prop := IOk x.num ∧ (x.den = z0 ∨ (x.den.neg = false ∧ 1 < x.den.mag)) ∧ Nat.Coprime x.num.mag (oG x)
def f7 (x : GQ) : Rat := (iq x.num : Rat) / (oG x : Rat)
theorem QOk.pos {x : GQ} (h : QOk x) : 0 < oG x := by
 unfold oG
 split
 ·decide
 ·rename_i e
  rcases h.2.1 with h1 | ⟨_, h1⟩
  ·exact absurd h1 e
  ·omega
theorem sU {x : GQ} (h : QOk x) : f7 x = ⟨iq x.num, oG x, Nat.ne_of_gt h.pos, by rw [qF]; exact h.2.2⟩ := by
 rw [Rat.mk_eq_mkRat, Rat.mkRat_eq_div]; rfl
theorem oF {x y : GQ} (hx : QOk x) (hy : QOk y) (h : f7 x = f7 y) : x = y := by
 rw [sU hx, sU hy] at h
 injection h with h1 h2
 obtain ⟨n, d⟩ := x
 obtain ⟨m, e⟩ := y
 have e1 : n = m := ival_inj hx.1 hy.1 h1
 have e2 : d = e := by
  unfold oG at h2
  have hx2 := hx.2.1
  have hy2 := hy.2.1
  simp only at h2 hx2 hy2
  by_cases c1 : d = z0
  ·by_cases c2 : e = z0
   ·rw [c1, c2]
   ·rw [if_pos c1, if_neg c2] at h2
    rcases hy2 with h3 | ⟨_, h3⟩
    ·exact absurd h3 c2
    ·omega
  ·by_cases c2 : e = z0
   ·rw [if_neg c1, if_pos c2] at h2
    rcases hx2 with h3 | ⟨_, h3⟩
    ·exact absurd h3 c1
    ·omega
   ·rw [if_neg c1, if_neg c2] at h2
    obtain ⟨a1, a2⟩ := hx2.resolve_left c1
    obtain ⟨b1, b2⟩ := hy2.resolve_left c2
    obtain ⟨s, p⟩ := d
    obtain ⟨r, q⟩ := e
    simp only at a1 b1 h2
    rw [a1, b1, h2]
 rw [e1, e2]
theorem one_val : iq rational_one = 1 := nG 1
theorem ll {x : GQ} (h : QOk x) : iq (aa x) = oG x ∧ (aa x).neg = false := by
 unfold aa oG
 by_cases e : x.den = z0
 ·rw [decide_eq_true (show x.den = ⟨false, 0⟩ from e), if_pos e]
  exact ⟨one_val, rfl⟩
 ·rw [decide_eq_false (show ¬ x.den = ⟨false, 0⟩ from e), if_neg e, cond_false]
  obtain ⟨h1, h2⟩ := h.2.1.resolve_left e
  refine ⟨?_, h1⟩
  unfold iq
  rw [h1]; rfl
theorem qm {n d : GI} (hn : IOk n) (hdn : d.neg = false) (hd : d.mag ≠ 0) :
 QOk (bif (decide ((az d (aP n d)) = rational_one)) then (⟨(az n (aP n d)), (⟨false, 0⟩ : GI)⟩ : GQ) else (⟨(az n (aP n d)), (az d (aP n d))⟩ : GQ)) ∧
 f7 (bif (decide ((az d (aP n d)) = rational_one)) then (⟨(az n (aP n d)), (⟨false, 0⟩ : GI)⟩ : GQ) else (⟨(az n (aP n d)), (az d (aP n d))⟩ : GQ)) = (iq n : Rat) / (d.mag : Rat) := by
 have hg : 0 < Nat.gcd n.mag d.mag := Nat.gcd_pos_of_pos_right _ (by omega)
 have q1 : az d (aP n d) = aM false (d.mag / Nat.gcd n.mag d.mag) := by
  have := qZ (a := d) (b := aP n d) rfl (by show Nat.gcd n.mag d.mag ≠ 0; omega) (Nat.gcd_dvd_right _ _)
  rw [hdn] at this
  exact this
 have q2 : az n (aP n d) = aM n.neg (n.mag / Nat.gcd n.mag d.mag) :=
  qZ (a := n) (b := aP n d) rfl (by show Nat.gcd n.mag d.mag ≠ 0; omega) (Nat.gcd_dvd_left _ _)
 rw [q1, q2]
 have hdp : 0 < d.mag / Nat.gcd n.mag d.mag := Nat.div_pos (Nat.le_of_dvd (by omega) (Nat.gcd_dvd_right _ _)) hg
 have hcop : Nat.Coprime (n.mag / Nat.gcd n.mag d.mag) (d.mag / Nat.gcd n.mag d.mag) := Nat.coprime_div_gcd_div_gcd hg
 have hval : (iq (aM n.neg (n.mag / Nat.gcd n.mag d.mag)) : Rat) / ((d.mag / Nat.gcd n.mag d.mag : Nat) : Rat) = (iq n : Rat) / (d.mag : Rat) := by
  have e1 : iq n = iq (aM n.neg (n.mag / Nat.gcd n.mag d.mag)) * (Nat.gcd n.mag d.mag : Int) := by
   rw [im]
   have := Nat.div_mul_cancel (Nat.gcd_dvd_left n.mag d.mag)
   unfold iq
   cases n.neg
   ·simp only [cond_false]; rw [← Int.natCast_mul, this]
   ·simp only [cond_true]; rw [Int.neg_mul, ← Int.natCast_mul, this]
  have e2 : d.mag = (d.mag / Nat.gcd n.mag d.mag) * Nat.gcd n.mag d.mag := (Nat.div_mul_cancel (Nat.gcd_dvd_right n.mag d.mag)).symm
  have g0 : ((Nat.gcd n.mag d.mag : Nat) : Rat) ≠ 0 := by
   intro e
   have : Nat.gcd n.mag d.mag = 0 := by exact_mod_cast e
   omega
  have d0 : ((d.mag / Nat.gcd n.mag d.mag : Nat) : Rat) ≠ 0 := by
   intro e
   have : d.mag / Nat.gcd n.mag d.mag = 0 := by exact_mod_cast e
   omega
  rw [e1, Rat.intCast_mul, Rat.intCast_natCast]
  conv => rhs; rhs; rw [e2]
  rw [Rat.natCast_mul]
  grind
 by_cases e : d.mag / Nat.gcd n.mag d.mag = 1
 ·have e' : aM false (d.mag / Nat.gcd n.mag d.mag) = rational_one := by rw [e]; rfl
  rw [decide_eq_true e', cond_true]
  refine ⟨⟨l8 _ _, .inl rfl, ?_⟩, ?_⟩
  ·show Nat.Coprime (n.mag / Nat.gcd n.mag d.mag) 1; exact Nat.coprime_one_right _
  ·rw [← hval, e]; rfl
 ·have e' : ¬ aM false (d.mag / Nat.gcd n.mag d.mag) = rational_one := fun h => e (by
   have : (aM false (d.mag / Nat.gcd n.mag d.mag)).mag = rational_one.mag := by rw [h]
   exact this)
  rw [decide_eq_false e', cond_false]
  have ez : ¬ (aM false (d.mag / Nat.gcd n.mag d.mag)) = z0 := fun h => by
   have : (aM false (d.mag / Nat.gcd n.mag d.mag)).mag = z0.mag := by rw [h]
   have : d.mag / Nat.gcd n.mag d.mag = 0 := this
   omega
  have eq : oG (⟨aM n.neg (n.mag / Nat.gcd n.mag d.mag), aM false (d.mag / Nat.gcd n.mag d.mag)⟩ : GQ) = d.mag / Nat.gcd n.mag d.mag := if_neg ez
  refine ⟨⟨l8 _ _, .inr ⟨rfl, by show 1 < d.mag / Nat.gcd n.mag d.mag; omega⟩, ?_⟩, ?_⟩
  ·rw [eq]; exact hcop
  ·unfold f7
   rw [eq, ← hval]
theorem rx {n d : GI} (hn : IOk n) (hd : iq d ≠ 0) : QOk (br n d) ∧ f7 (br n d) = (iq n : Rat) / (iq d : Rat) := by
 have hm : d.mag ≠ 0 := fun e => hd (by unfold iq; rw [e]; cases d.neg <;> rfl)
 unfold br
 rw [Sign_val]
 cases hs : d.neg with
 | false =>
  have e : iq d = (d.mag : Int) := by unfold iq; rw [hs]; rfl
  rw [decide_eq_false (by rw [e]; have := sgn_nn d.mag; omega), cond_false, e, Rat.intCast_natCast]
  exact qm hn hs hm
 | true =>
  have e : iq d = -(d.mag : Int) := by unfold iq; rw [hs]; rfl
  rw [decide_eq_true (by rw [e, Int.sign_eq_neg_one_of_neg (by omega)]; decide), cond_true, e]
  have hN : (ar d).neg = false := by
   unfold ar aM; rw [hs]; rfl
  have hM : (ar d).mag = d.mag := rfl
  obtain ⟨k1, k2⟩ := qm (qt n) hN (by rw [hM]; exact hm)
  refine ⟨k1, k2.trans ?_⟩
  rw [oq, hM, Rat.intCast_neg, Rat.intCast_neg, Rat.intCast_natCast]
  have d0 : (d.mag : Rat) ≠ 0 := by
   intro e
   have : d.mag = 0 := by exact_mod_cast e
   omega
  grind
theorem sV {x : GQ} (h : QOk x) : (oG x : Rat) ≠ 0 := by
 intro e
 have : oG x = 0 := by exact_mod_cast e
 have := h.pos
 omega
theorem q6 {x : GQ} (h : QOk x) : (0 : Rat) < (oG x : Rat) := by
 have := h.pos
 exact_mod_cast this
theorem tW {x y : GQ} (hx : QOk x) (hy : QOk y) : ∃ D : Rat, 0 < D ∧ (iq (aQ x y).1 : Rat) = f7 x * D ∧ (iq (aQ x y).2.1 : Rat) = f7 y * D ∧ (iq (aQ x y).2.2 : Rat) = D ∧ IOk (aQ x y).1 ∧ IOk (aQ x y).2.1 := by
 have h1 := q6 hx
 have h2 := q6 hy
 unfold aQ
 by_cases e : x.den = y.den
 ·rw [decide_eq_true e, cond_true]
  have e2 : oG x = oG y := by unfold oG; rw [e]
  refine ⟨oG x, h1, ?_, ?_, ?_, hx.1, hy.1⟩
  ·unfold f7; show (iq x.num : Rat) = _; grind
  ·unfold f7; rw [e2]; show (iq y.num : Rat) = _; grind
  ·show (iq (aa x) : Rat) = _
   rw [(ll hx).1, Rat.intCast_natCast]
 ·rw [decide_eq_false e, cond_false]
  refine ⟨(oG x : Rat) * (oG y : Rat), Rat.mul_pos h1 h2, ?_, ?_, ?_, uA _ _, uA _ _⟩
  ·show (iq (ag x.num (aa y)) : Rat) = _
   rw [mh, Rat.intCast_mul, (ll hy).1, Rat.intCast_natCast]
   unfold f7; grind
  ·show (iq (ag y.num (aa x)) : Rat) = _
   rw [mh, Rat.intCast_mul, (ll hx).1, Rat.intCast_natCast]
   unfold f7; grind
  ·show (iq (ag (aa x) (aa y)) : Rat) = _
   rw [mh, Rat.intCast_mul, (ll hx).1, (ll hy).1, Rat.intCast_natCast, Rat.intCast_natCast]
theorem oo {x y : GQ} (hx : QOk x) (hy : QOk y) : QOk (aZ x y) ∧ f7 (aZ x y) = f7 x + f7 y := by
 obtain ⟨D, h0, h1, h2, h3, _, _⟩ := tW hx hy
 unfold aZ
 have hd : iq (aQ x y).2.2 ≠ 0 := fun e => by
  rw [e] at h3
  have h4 : (0 : Rat) = D := h3
  grind
 obtain ⟨k1, k2⟩ := rx (Add_ok (aQ x y).1 (aQ x y).2.1) hd
 refine ⟨k1, ?_⟩
 rw [k2, Add_val, Rat.intCast_add, h1, h2, h3]
 grind
theorem pO {x y : GQ} (hx : QOk x) (hy : QOk y) : QOk (aB x y) ∧ f7 (aB x y) = f7 x * f7 y := by
 unfold aB
 have e1 := (ll hx).1
 have e2 := (ll hy).1
 have h1 := hx.pos
 have h2 := hy.pos
 have hd : iq (ag (aa x) (aa y)) ≠ 0 := by
  rw [mh, e1, e2, ← Int.natCast_mul]
  have := Nat.mul_pos h1 h2
  omega
 obtain ⟨k1, k2⟩ := rx (uA x.num y.num) hd
 refine ⟨k1, ?_⟩
 rw [k2, mh, mh, e1, e2]
 simp only [Rat.intCast_mul, Rat.intCast_natCast]
 have d1 := sV hx
 have d2 := sV hy
 unfold f7
 grind
theorem neg_ok {x : GQ} (hx : QOk x) : QOk (ca x) ∧ f7 (ca x) = - f7 x := by
 refine ⟨⟨qt _, hx.2.1, hx.2.2⟩, ?_⟩
 unfold f7 ca
 show (iq (ar x.num) : Rat) / (oG x : Rat) = _
 rw [oq, Rat.intCast_neg]
 grind
theorem qT {x y : GQ} (hx : QOk x) (hy : QOk y) : QOk (ax x y) ∧ f7 (ax x y) = f7 x - f7 y := by
 unfold ax
 obtain ⟨k1, k2⟩ := neg_ok hy
 obtain ⟨k3, k4⟩ := oo hx k1
 refine ⟨k3, ?_⟩
 rw [k4, k2]; grind
theorem ii (n : Int) : QOk (ap n) ∧ f7 (ap n) = (n : Rat) := by
 refine ⟨⟨sg n, .inl rfl, Nat.coprime_one_right _⟩, ?_⟩
 unfold f7
 show (iq (aw n) : Rat) / ((1 : Nat) : Rat) = _
 rw [nG]
 grind
theorem zero_ok : QOk ⟨z0, z0⟩ ∧ f7 ⟨z0, z0⟩ = 0 := ii 0
end Go.Sx
namespace Go.Sx
def zQ : GQ := ⟨⟨false, 0⟩, ⟨false, 0⟩⟩
theorem kr : QOk zQ ∧ f7 zQ = 0 := zero_ok
def DOk (q : Qd) : Prop := QOk q.c0 ∧ QOk q.c1 ∧ QOk q.c2
def TOk (t : GR) : Prop := QOk t.p ∧ QOk t.r
def lv (t : GR) (q : Qd) : Rat × Rat :=
 if t.r = zQ then (f7 q.c0 + f7 t.p * (f7 q.c1 + f7 t.p * f7 q.c2), 0)
 else (f7 q.c0 + f7 q.c2 * (f7 t.r - f7 t.p * f7 t.p), f7 q.c1 + (f7 q.c2 + f7 q.c2) * f7 t.p)
theorem eval_ok {q : Qd} {t : GQ} (hq : DOk q) (ht : QOk t) : QOk (d3 q t) ∧ f7 (d3 q t) = f7 q.c0 + f7 t * (f7 q.c1 + f7 t * f7 q.c2) := by
 obtain ⟨h0, h1, h2⟩ := hq
 unfold d3
 obtain ⟨a1, a2⟩ := pO ht h2
 obtain ⟨b1, b2⟩ := oo h1 a1
 obtain ⟨c1, c2⟩ := pO ht b1
 obtain ⟨d1, d2⟩ := oo h0 c1
 exact ⟨d1, by rw [d2, c2, b2, a2]⟩
theorem slope_ok {q : Qd} {t : GQ} (hq : DOk q) (ht : QOk t) : QOk (dx q t) ∧ f7 (dx q t) = f7 q.c1 + (f7 q.c2 + f7 q.c2) * f7 t := by
 obtain ⟨h0, h1, h2⟩ := hq
 unfold dx
 obtain ⟨a1, a2⟩ := oo h2 h2
 obtain ⟨b1, b2⟩ := pO a1 ht
 obtain ⟨c1, c2⟩ := oo h1 b1
 exact ⟨c1, by rw [c2, b2, a2]⟩
theorem sA {p q : Qd} (hp : DOk p) (hq : DOk q) : DOk (dT p q) ∧ f7 (dT p q).c0 = f7 p.c0 - f7 q.c0 ∧ f7 (dT p q).c1 = f7 p.c1 - f7 q.c1 ∧ f7 (dT p q).c2 = f7 p.c2 - f7 q.c2 := by
 unfold dT
 obtain ⟨a1, a2⟩ := qT hp.1 hq.1
 obtain ⟨b1, b2⟩ := qT hp.2.1 hq.2.1
 obtain ⟨c1, c2⟩ := qT hp.2.2 hq.2.2
 exact ⟨⟨a1, b1, c1⟩, a2, b2, c2⟩
theorem tz {a b : GQ} (ha : QOk a) (hb : QOk b) : DOk (bm a b) ∧ (bm a b).c0 = a ∧ (bm a b).c1 = b ∧ (bm a b).c2 = zQ := by
 unfold bm
 exact ⟨⟨ha, hb, kr.1⟩, rfl, rfl, rfl⟩
theorem je {q : Qd} {t : GR} (hq : DOk q) (ht : TOk t) : DOk (cj q t) ∧ f7 (cj q t).c0 = (lv t q).1 ∧ f7 (cj q t).c1 = (lv t q).2 ∧ (cj q t).c2 = zQ := by
 unfold cj dr lv
 by_cases e : t.r = zQ
 ·rw [decide_eq_true (show t.r = ⟨⟨false, 0⟩, ⟨false, 0⟩⟩ from e), if_pos e]
  obtain ⟨k1, k2⟩ := eval_ok hq ht.1
  exact ⟨⟨k1, kr.1, kr.1⟩, k2, kr.2, rfl⟩
 ·rw [decide_eq_false (show ¬ t.r = ⟨⟨false, 0⟩, ⟨false, 0⟩⟩ from e), if_neg e, Bool.not_false, cond_true, cond_false]
  obtain ⟨a1, a2⟩ := pO ht.1 ht.1
  obtain ⟨b1, b2⟩ := qT ht.2 a1
  obtain ⟨c1, c2⟩ := pO hq.2.2 b1
  obtain ⟨d1, d2⟩ := oo hq.1 c1
  obtain ⟨s1, s2⟩ := slope_ok hq ht.1
  obtain ⟨l1, l2, l3, l4⟩ := tz d1 s1
  exact ⟨l1, by rw [l2, d2, c2, b2, a2], by rw [l3, s2], l4⟩
theorem qd_ext {p q : Qd} (hp : DOk p) (hq : DOk q) (h0 : f7 p.c0 = f7 q.c0) (h1 : f7 p.c1 = f7 q.c1) (h2 : f7 p.c2 = f7 q.c2) : p = q := by
 have e0 := oF hp.1 hq.1 h0
 have e1 := oF hp.2.1 hq.2.1 h1
 have e2 := oF hp.2.2 hq.2.2 h2
 obtain ⟨a, b, c⟩ := p
 obtain ⟨x, y, z⟩ := q
 simp only at e0 e1 e2
 rw [e0, e1, e2]
theorem rl1 (a b c d e f p : Rat) : (a - b) + p * ((c - d) + p * (e - f)) = (a + p * (c + p * e)) - (b + p * (d + p * f)) := by grind
theorem rl2 (a b c d x : Rat) : (a - b) + (c - d) * x = (a + c * x) - (b + d * x) := by grind
theorem rl3 (a b c d x : Rat) : (a - b) + ((c - d) + (c - d)) * x = (a + (c + c) * x) - (b + (d + d) * x) := by grind
theorem lv_sub {p q : Qd} {t : GR} (hp : DOk p) (hq : DOk q) : lv t (dT p q) = ((lv t p).1 - (lv t q).1, (lv t p).2 - (lv t q).2) := by
 obtain ⟨_, e0, e1, e2⟩ := sA hp hq
 unfold lv
 by_cases e : t.r = zQ
 ·rw [if_pos e, if_pos e, if_pos e, e0, e1, e2, rl1]
  exact Prod.ext rfl (by show (0 : Rat) = 0 - 0; grind)
 ·rw [if_neg e, if_neg e, if_neg e, e0, e1, e2, rl2, rl3]
theorem jV {p q : Qd} {t : GR} (hp : DOk p) (hq : DOk q) (ht : TOk t) : eD p q t = true ↔ lv t p = lv t q := by
 unfold eD
 rw [decide_eq_true_eq]
 obtain ⟨k1, _⟩ := sA hp hq
 obtain ⟨r1, r2, r3, r4⟩ := je k1 ht
 rw [lv_sub hp hq] at r2 r3
 constructor
 ·intro h
  rw [h] at r2 r3
  have z := kr.2
  unfold zQ at z
  refine Prod.ext ?_ ?_
  ·simp only at r2; grind
  ·simp only at r3; grind
 ·intro h
  refine qd_ext r1 ⟨kr.1, kr.1, kr.1⟩ ?_ ?_ ?_
  ·rw [r2, h]; show _ = f7 zQ; rw [kr.2]; grind
  ·rw [r3, h]; show _ = f7 zQ; rw [kr.2]; grind
  ·rw [r4]; rfl
theorem lF {q : Qd} {t : GR} (hq : DOk q) (ht : TOk t) : lv t (cj q t) = lv t q := by
 obtain ⟨r1, r2, r3, r4⟩ := je hq ht
 have h : ∀ x : Qd, f7 x.c0 = (lv t q).1 → f7 x.c1 = (lv t q).2 → x.c2 = zQ → lv t x = lv t q := by
  intro x e0 e1 e2
  have e3 : f7 x.c2 = 0 := by rw [e2]; exact kr.2
  have e4 : t.r = zQ → (lv t q).2 = 0 := fun e => by unfold lv; rw [if_pos e]
  conv => lhs; unfold lv
  split
  ·rename_i e
   rw [e4 e] at e1
   refine Prod.ext ?_ ?_
   ·simp only; rw [e0, e1, e3]; grind
   ·simp only; rw [e4 e]
  ·refine Prod.ext ?_ ?_
   ·simp only; rw [e0, e3]; grind
   ·simp only; rw [e1, e3]; grind
 exact h _ r2 r3 r4
theorem sP {p q : Qd} {t : GR} (hp : DOk p) (hq : DOk q) (ht : TOk t) : cj p t = cj q t ↔ lv t p = lv t q := by
 obtain ⟨r1, r2, r3, r4⟩ := je hp ht
 obtain ⟨s1, s2, s3, s4⟩ := je hq ht
 constructor
 ·intro h; rw [← lF hp ht, ← lF hq ht, h]
 ·intro h; exact qd_ext r1 s1 (by rw [r2, s2, h]) (by rw [r3, s3, h]) (by rw [r4, s4])
end Go.Sx
namespace Go.Sx
theorem pz (l : List (U Qd)) : ae l = pU dQ l 0 l.length := by
 unfold ae bA bo cM
 show bD l 0 l.length = _
 unfold bD
 rfl
theorem qK (a b : U Qd) : dQ a b = cU a b := by
 unfold dQ aY cU ci
 rfl
theorem lf {d : List (U Qd)} (hd : ∀ u ∈ d, Tv u.iv) : (ae d).Perm d ∧ (ae d).Pairwise fun a b => kU a.iv ≤ kU b.iv := by
 rw [pz]
 exact rL qK hd
theorem lL (l : List (U Qd)) : aq l [] = kN (l.map (·.iv)) := by
 unfold aq
 have := jR (R := List GR) (f := fun (o : List GR) (u : U Qd) => aA (aA o u.iv.lo) u.iv.hi) l (B := fun s => cA l [] s.1 s.2)
  (fun o i hi => by
    show cA l [] o i = _
    unfold cA
    rw [decide_eq_true (by omega : ((i : Nat) : Int) < ((l.length : Nat) : Int))]
    rfl)
  (fun o => by
    show cA l [] o l.length = _
    unfold cA
    rw [decide_eq_false (by omega : ¬ ((l.length : Nat) : Int) < ((l.length : Nat) : Int))]
    rfl) l [] [] (l.length - 0 + 1) rfl (by omega)
 refine (eV this).trans ?_
 unfold ic kN
 rw [List.foldl_map]
theorem mf (l : List (U Qd)) (ts : List GR) : fp l ts = ij (default : Qd) l ts := by
 unfold fp ij
 have h1 := nC (R := List (At Qd)) (z := (default : Qd)) (ts := ts) (B := fun s => da l ts s.1 s.2)
  (fun o i hi => by
    show da l ts o i = _
    unfold da
    rw [decide_eq_true (by omega : ((i : Nat) : Int) < ((ts.length : Nat) : Int)), decide_eq_true (by omega : ((i + 1 : Nat) : Int) < ((ts.length : Nat) : Int))]
    rfl)
  (fun o i hi => by
    show da l ts o i = _
    unfold da
    rw [decide_eq_true (by omega : ((i : Nat) : Int) < ((ts.length : Nat) : Int)), decide_eq_false (by omega : ¬ ((i + 1 : Nat) : Int) < ((ts.length : Nat) : Int))]
    rfl)
  (fun o => by
    show da l ts o ts.length = _
    unfold da
    rw [decide_eq_false (by omega : ¬ ((ts.length : Nat) : Int) < ((ts.length : Nat) : Int))]
    rfl) ts [] [] (ts.length - 0 + 1) rfl (by omega)
 refine (eV h1).trans ?_
 show fJ l ts ([] ++ fU (default : Qd) ts) ts.length = _
 rw [List.nil_append]
 generalize fU (default : Qd) ts = o0
 unfold fJ
 have h2 := re (R := List (At Qd)) (g := jp l) (n := o0.length) (B := fun s => dM l ts o0 ts.length s.1 s.2)
  (fun o i hi hn => by
    show dM l ts o0 ts.length i o = _
    unfold dM
    rw [decide_eq_true (by omega : ((i : Nat) : Int) < ((o.length : Nat) : Int)), cond_true]
    have h3 := mb (R := List (At Qd)) (f := fun o u => o.set i (jS u (gt o i))) l (I := fun o => i < o.length) (B := fun s => dL l ts o0 ts.length i o s.1 s.2)
     (fun o x h => by simpa using h)
     (fun o k ho hk => by
       show dL l ts o0 ts.length i _ k o = _
       unfold dL jS
       rw [decide_eq_true (by omega : ((k : Nat) : Int) < ((l.length : Nat) : Int)), cond_true]
       cases aW (gt l k).iv (gt o i).frm (gt o i).til (gt o i).gap
       ·rw [cond_false, cond_false, set_gt ho]
       ·rfl)
     (fun o' => by
       show dL l ts o0 ts.length i _ l.length o' = _
       unfold dL
       rw [decide_eq_false (by omega : ¬ ((l.length : Nat) : Int) < ((l.length : Nat) : Int))]
       rfl) l [] o (l.length - 0 + 1) hi rfl (by omega)
    refine (eV h3).trans ?_
    show fI l ts o0 ts.length i _ l.length _ = _
    unfold fI
    rw [rk i l o hi])
  (fun o hn => by
    show dM l ts o0 ts.length o0.length o = _
    unfold dM
    rw [hn, decide_eq_false (by omega : ¬ ((o0.length : Nat) : Int) < ((o0.length : Nat) : Int))]
    rfl) o0 [] (o0.length - 0 + 1) (by simp) (by omega)
 refine (eV h2).trans ?_
 rfl
theorem lh (l : List (U Qd)) : af l = l.flatMap atU := by
 unfold af
 have h := mb (R := List (U Qd)) (f := fun o u => o ++ atU u) l (I := fun _ => True) (B := fun s => bX l s.1 s.2)
  (fun _ _ h => h)
  (fun o i _ hi => by
    show bX l i o = _
    unfold bX atU ptU lR
    rw [decide_eq_true (by omega : ((i : Nat) : Int) < ((l.length : Nat) : Int)), cond_true]
    cases (gt l i).iv.openLo <;> cases aX (gt l i).iv <;> cases (gt l i).iv.openHi <;> simp)
  (fun o => by
    show bX l l.length o = _
    unfold bX
    rw [decide_eq_false (by omega : ¬ ((l.length : Nat) : Int) < ((l.length : Nat) : Int))]
    rfl) l [] [] (l.length - 0 + 1) trivial rfl (by omega)
 refine (eV h).trans ?_
 show gK l l.length _ = _
 unfold gK
 rw [jQ, List.nil_append]
theorem jC {l : List (U Qd)} (hl : (ae l).length = l.length) (h : ∀ i, 0 < i → i < l.length → e9 (gt (ae l) (i - 1)).iv (gt (ae l) i).iv = true) : au l = fC l l.length := by
 unfold au
 refine (eV (mO (n := l.length) (r := (([], 11) : List (U Qd) × Int)) (bad := fun x => decide (((x : Nat) : Int) > 0) && !(e9 (gt (ae l) (x - 1)).iv (gt (ae l) x).iv)) (fun x hx => by
  unfold dI
  rw [hl, decide_eq_true (by omega : ((x : Nat) : Int) < ((l.length : Nat) : Int)), cond_true]) (by
  unfold dI
  rw [hl, decide_eq_false (by omega : ¬ ((l.length : Nat) : Int) < ((l.length : Nat) : Int))]
  rfl) (l.length - 0 + 1) 0 (Nat.zero_le _) (by omega) fun i _ h2 => ?_)).trans rfl
 by_cases e : 0 < i
 ·show (decide (((i : Nat) : Int) > 0) && !(e9 (gt (ae l) (i - 1)).iv (gt (ae l) i).iv)) = false
  rw [h i e h2, Bool.not_true, Bool.and_false]
 ·show (decide (((i : Nat) : Int) > 0) && _) = false
  rw [decide_eq_false (by omega : ¬ ((i : Nat) : Int) > 0), Bool.false_and]
theorem nK (l : List (U Qd)) (x18 : Nat) (out : List (U Qd)) (x : Nat) (hx : x < (af (ae l)).length) :
 bB l x18 out x = .go (eu bL bc aV (af (ae l)) out x, x + 1) := by
 unfold bB eu iU jE qp ka eI
 rw [decide_eq_true (by omega : ((x : Nat) : Int) < (((af (ae l)).length : Nat) : Int)), cond_true]
 generalize af (ae l) = L
 repeat' (first | refine qJ ?_ ?_ | rfl)
theorem ny (l : List (At Qd)) (out : List (U Qd)) (i : Nat) (hi : i < l.length) :
 dK l out i = .go (eH bL bc aV l out i, i + 1) := by
 unfold dK eH
 rw [decide_eq_true (by omega : ((i : Nat) : Int) < ((l.length : Nat) : Int)), cond_true]
 cases (gt l i).has <;> cases (gt l i).gap <;> simp only [Bool.not_true, Bool.not_false, cond_true, cond_false]
 ·repeat' (first | refine qJ ?_ ?_ | rfl)
 ·repeat' (first | refine qJ ?_ ?_ | rfl)
theorem jD (l : List (U Qd)) (n : Nat) : fC l n = (fF (eu bL bc aV (af (ae l))) [] (af (ae l)).length, 0) := by
 unfold fC
 refine (eV (m8 (o := ([] : List (U Qd))) (st := eu bL bc aV (af (ae l))) (n := (af (ae l)).length) (B := fun s => bB l n s.1 s.2)
  (fun o i hi => nK l n o i hi) (fun o => by
    show bB l n o _ = _
    unfold bB
    rw [decide_eq_false (by omega : ¬ (((af (ae l)).length : Nat) : Int) < (((af (ae l)).length : Nat) : Int))]
    rfl) _ 0 (Nat.zero_le _) (by omega))).trans ?_
 rfl
theorem kd (l : List (At Qd)) : fo l = fF (eH bL bc aV l) [] l.length := by
 unfold fo
 refine (eV (m8 (o := ([] : List (U Qd))) (st := eH bL bc aV l) (n := l.length) (B := fun s => dK l s.1 s.2)
  (fun o i hi => ny l o i hi) (fun o => by
    show dK l o _ = _
    unfold dK
    rw [decide_eq_false (by omega : ¬ ((l.length : Nat) : Int) < ((l.length : Nat) : Int))]
    rfl) _ 0 (Nat.zero_le _) (by omega))).trans ?_
 rfl
theorem k8 (heq : ∀ a b, bL a b = true → a = b) {d u : List (U Qd)} (hp : d.Perm u) (hW : ∀ x ∈ u, Wv x.iv) (hD : u.Pairwise fun a b => Dj a.iv b.iv) : au d = (ce u, 0) := by
 have hWd : ∀ x ∈ d, Wv x.iv := fun x hx => hW x (hp.mem_iff.1 hx)
 obtain ⟨s1, s2⟩ := lf (fun x hx => (hWd x hx).1)
 have hps := s1.trans hp
 have hE := (lM (l := u.map (·.iv)) (fun i hi => by obtain ⟨x, hx, rfl⟩ := List.mem_map.1 hi; exact (hW x hx).1)).1
 rw [jC s1.length_eq fun i h0 h1 => (pp hW hps s2).2 hD i h0 (by rw [s1.length_eq]; exact h1), jD]
 have e1 : af (ae d) = jn (ij (default : Qd) u (kN (u.map (·.iv)))) := by
  rw [lh]; exact atoms_eq hW hD hps s2
 unfold ce
 rw [e1, kd, lL, mf, loops_eq heq (mL hE)]
end Go.Sx
namespace Go.Sx
theorem knw : fM = true := by decide +kernel
end Go.Sx
