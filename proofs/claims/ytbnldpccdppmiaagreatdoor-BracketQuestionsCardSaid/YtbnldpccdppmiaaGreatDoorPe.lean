/- A part of the proof that the law BracketQuestions/Checks answers true at every input and leaves its arguments as they were. -/
import Derived.Test.YtbnldpccdppmiaaGreatDoorP1
import Derived.Test.YtbnldpccdppmiaaGreatDoorBo
set_option linter.unusedVariables false
set_option linter.unusedSimpArgs false
namespace Go.Sx
def kB (b : Bd) : Nat := 2 * tk b.at_ + (bif b.behind then 1 else 0)
theorem bb (b : Bool) : (bif b then 1 else 0 : Nat) ≤ 1 := by cases b <;> decide
theorem cmpB {a b : Bd} (ha : Tm a.at_) (hb : Tm b.at_) : aQ a b = sgn (kB a) (kB b) := by
  unfold aQ kB
  rw [ha.cmp hb]
  have h1 := bb a.behind
  have h2 := bb b.behind
  rcases Nat.lt_trichotomy (tk a.at_) (tk b.at_) with e | e | e
  · rw [kn e, kn (by omega)]; rfl
  · rw [e, ie]
    cases a.behind <;> cases b.behind
    · rw [ie]; rfl
    · rw [kn (by simp)]; rfl
    · rw [k6 (by simp)]; rfl
    · rw [ie]; rfl
  · rw [k6 e, k6 (by omega)]; rfl
theorem kB_inj {a b : Bd} (ha : Tm a.at_) (hb : Tm b.at_) (h : kB a = kB b) : a = b := by
  unfold kB at h
  have h1 := bb a.behind
  have h2 := bb b.behind
  have e : tk a.at_ = tk b.at_ := by omega
  have e2 := (ha.inj hb).1 e
  have e3 : a.behind = b.behind := by
    rw [e] at h
    cases ha : a.behind <;> cases hb : b.behind <;> rw [ha, hb] at h <;> simp at h <;> rfl
  obtain ⟨x, y⟩ := a
  obtain ⟨z, w⟩ := b
  simp only at e2 e3
  rw [e2, e3]
theorem pf (i : Iv) : am i = ⟨i.lo, i.openLo⟩ := by unfold am; rfl
theorem pl (i : Iv) : ao i = ⟨i.hi, !i.openHi⟩ := by unfold ao; rfl
theorem kB_first (i : Iv) : kB (am i) = pz i := by rw [pf]; rfl
theorem kB_last (i : Iv) : (kB (ao i) : Int) = od i + 1 := by
  unfold kB ao od
  simp only
  cases i.openHi <;> simp <;> omega
theorem Wv.bd {i : Iv} (h : Wv i) : kB (am i) < kB (ao i) := by
  have h1 := h.le
  have h2 := kB_last i
  rw [kB_first]; omega
theorem wv_of {i : Iv} (h : Tv i) (hlt : kB (am i) < kB (ao i)) : Wv i := by
  rw [pf, pl] at hlt
  have hlt : 2 * tk i.lo + (bif i.openLo then 1 else 0) < 2 * tk i.hi + (bif !i.openHi then 1 else 0) := hlt
  have h1 := bb i.openLo
  have h2 := bb (!i.openHi)
  refine ⟨h, by omega, fun e => ?_⟩
  rw [e] at hlt
  revert hlt
  cases i.openLo <;> cases i.openHi <;> simp
theorem lZ (a b : Bd) : am (a8 a b) = a := by
  unfold am a8; rfl
theorem m6 (a b : Bd) : ao (a8 a b) = b := by
  unfold ao a8
  simp only [Bool.not_not]
theorem iv_ext {i j : Iv} (hi : Tv i) (hj : Tv j) (h1 : kB (am i) = kB (am j)) (h2 : kB (ao i) = kB (ao j)) : i = j := by
  have e1 := kB_inj (a := am i) (b := am j) (by rw [pf]; exact hi.1) (by rw [pf]; exact hj.1) h1
  have e2 := kB_inj (a := ao i) (b := ao j) (by rw [pl]; exact hi.2) (by rw [pl]; exact hj.2) h2
  rw [pf, pf, Bd.mk.injEq] at e1
  rw [pl, pl, Bd.mk.injEq] at e2
  obtain ⟨lo, hi', ol, oh⟩ := i
  obtain ⟨lo2, hi2, ol2, oh2⟩ := j
  simp only at e1 e2
  obtain ⟨rfl, rfl⟩ := e1
  obtain ⟨rfl, e3⟩ := e2
  rw [show oh = oh2 by cases oh <;> cases oh2 <;> first | rfl | cases e3]
end Go.Sx
namespace Go.Sx
def inI (i : Iv) (x : Nat) : Prop := kB (am i) ≤ x ∧ x < kB (ao i)
def inP (p : List Iv) (x : Nat) : Prop := ∃ i ∈ p, inI i x
structure Cn (p : List Iv) : Prop where
  wv : ∀ i ∈ p, Wv i
  sep : p.Pairwise fun i j => kB (ao i) < kB (am j)
theorem im (x : Nat) : ¬ inP [] x := fun ⟨_, h, _⟩ => by cases h
theorem em {i : Iv} {p : List Iv} {x : Nat} : inP (i :: p) x ↔ inI i x ∨ inP p x := by
  constructor
  · rintro ⟨j, hj, h⟩
    rcases List.mem_cons.1 hj with rfl | hj
    · exact .inl h
    · exact .inr ⟨j, hj, h⟩
  · rintro (h | ⟨j, hj, h⟩)
    · exact ⟨i, List.mem_cons_self .., h⟩
    · exact ⟨j, List.mem_cons_of_mem _ hj, h⟩
theorem inP_app {p q : List Iv} {x : Nat} : inP (p ++ q) x ↔ inP p x ∨ inP q x := by
  constructor
  · rintro ⟨j, hj, h⟩
    rcases List.mem_append.1 hj with hj | hj
    · exact .inl ⟨j, hj, h⟩
    · exact .inr ⟨j, hj, h⟩
  · rintro (⟨j, hj, h⟩ | ⟨j, hj, h⟩)
    · exact ⟨j, List.mem_append_left _ hj, h⟩
    · exact ⟨j, List.mem_append_right _ hj, h⟩
theorem Cn.nil : Cn [] := ⟨fun _ h => (by cases h), List.Pairwise.nil⟩
theorem Cn.tail {i : Iv} {p : List Iv} (h : Cn (i :: p)) : Cn p ∧ (∀ j ∈ p, kB (ao i) < kB (am j)) ∧ Wv i := by
  have h2 := List.pairwise_cons.1 h.sep
  exact ⟨⟨fun j hj => h.wv j (List.mem_cons_of_mem _ hj), h2.2⟩, h2.1, h.wv i (List.mem_cons_self ..)⟩
theorem Cn.behind {i : Iv} {p : List Iv} (h : Cn (i :: p)) {x : Nat} (hx : inP p x) : kB (ao i) < x := by
  obtain ⟨j, hj, h1, _⟩ := hx
  have := h.tail.2.1 j hj
  omega
theorem Cn.ext : ∀ {p q : List Iv}, Cn p → Cn q → (∀ x, inP p x ↔ inP q x) → p = q
  | [], [], _, _, _ => rfl
  | [], j :: q, _, hq, h => absurd ((h _).2 (em.2 (.inl ⟨Nat.le_refl _, (hq.tail.2.2).bd⟩))) (im _)
  | i :: p, [], hp, _, h => absurd ((h _).1 (em.2 (.inl ⟨Nat.le_refl _, (hp.tail.2.2).bd⟩))) (im _)
  | i :: p, j :: q, hp, hq, h => by
    have wi := hp.tail.2.2
    have wj := hq.tail.2.2
    have bi := wi.bd
    have bj := wj.bd
    have f1 : kB (am j) ≤ kB (am i) := by
      rcases em.1 ((h _).1 (em.2 (.inl ⟨Nat.le_refl _, bi⟩))) with h1 | h1
      · exact h1.1
      · have := hq.behind h1; omega
    have f2 : kB (am i) ≤ kB (am j) := by
      rcases em.1 ((h _).2 (em.2 (.inl ⟨Nat.le_refl _, bj⟩))) with h1 | h1
      · exact h1.1
      · have := hp.behind h1; omega
    have l1 : ¬ kB (ao i) < kB (ao j) := fun hl => by
      rcases em.1 ((h (kB (ao i))).2 (em.2 (.inl ⟨by omega, hl⟩))) with h1 | h1
      · have := h1.2; omega
      · have := hp.behind h1; omega
    have l2 : ¬ kB (ao j) < kB (ao i) := fun hl => by
      rcases em.1 ((h (kB (ao j))).1 (em.2 (.inl ⟨by omega, hl⟩))) with h1 | h1
      · have := h1.2; omega
      · have := hq.behind h1; omega
    have e : i = j := iv_ext wi.1 wj.1 (by omega) (by omega)
    subst e
    rw [Cn.ext hp.tail.1 hq.tail.1 fun x => ⟨fun hx => ?_, fun hx => ?_⟩]
    · rcases em.1 ((h x).1 (em.2 (.inr hx))) with h1 | h1
      · have := hp.behind hx; have := h1.2; omega
      · exact h1
    · rcases em.1 ((h x).2 (em.2 (.inr hx))) with h1 | h1
      · have := hq.behind hx; have := h1.2; omega
      · exact h1
def sm (c : Ev → Int) : List Ev → Nat → Int
  | [], _ => 0
  | e :: r, x => (if kB e.at_ ≤ x then c e else 0) + sm c r x
def rs (c : Ev → Int) : List Ev → Int
  | [] => 0
  | e :: r => c e + rs c r
variable {c : Ev → Int}
theorem oT (a b : List Ev) (x : Nat) : sm c (a ++ b) x = sm c a x + sm c b x := by
  induction a with
  | nil => show sm c b x = 0 + sm c b x; omega
  | cons e a ih => show (if kB e.at_ ≤ x then c e else 0) + sm c (a ++ b) x = (if kB e.at_ ≤ x then c e else 0) + sm c a x + sm c b x; rw [ih]; omega
theorem nb (a b : List Ev) : rs c (a ++ b) = rs c a + rs c b := by
  induction a with
  | nil => show rs c b = 0 + rs c b; omega
  | cons e a ih => show c e + rs c (a ++ b) = c e + rs c a + rs c b; rw [ih]; omega
theorem oS {a b : List Ev} (h : a.Perm b) (x : Nat) : sm c a x = sm c b x := by
  induction h with
  | nil => rfl
  | cons e _ ih => show _ + _ = _ + _; rw [ih]
  | swap e e' l => show (if kB e'.at_ ≤ x then c e' else 0) + ((if kB e.at_ ≤ x then c e else 0) + sm c l x) = (if kB e.at_ ≤ x then c e else 0) + ((if kB e'.at_ ≤ x then c e' else 0) + sm c l x); omega
  | trans _ _ h1 h2 => rw [h1, h2]
theorem o8 {a b : List Ev} (h : a.Perm b) : rs c a = rs c b := by
  induction h with
  | nil => rfl
  | cons e _ ih => show _ + _ = _ + _; rw [ih]
  | swap e e' l => show c e' + (c e + rs c l) = c e + (c e' + rs c l); omega
  | trans _ _ h1 h2 => rw [h1, h2]
theorem oU {a : List Ev} {x : Nat} (h : ∀ e ∈ a, kB e.at_ ≤ x) : sm c a x = rs c a := by
  induction a with
  | nil => rfl
  | cons e a ih =>
    show (if kB e.at_ ≤ x then c e else 0) + sm c a x = c e + rs c a
    rw [if_pos (h e (List.mem_cons_self ..)), ih fun e' he => h e' (List.mem_cons_of_mem _ he)]
theorem mI {a : List Ev} {x : Nat} (h : ∀ e ∈ a, x < kB e.at_) : sm c a x = 0 := by
  induction a with
  | nil => rfl
  | cons e a ih =>
    show (if kB e.at_ ≤ x then c e else 0) + sm c a x = 0
    rw [if_neg (by have := h e (List.mem_cons_self ..); omega), ih fun e' he => h e' (List.mem_cons_of_mem _ he)]
    rfl
def far : List Ev → Nat
  | [] => 0
  | e :: r => kB e.at_ + far r
theorem pB : ∀ {a : List Ev}, ∀ e ∈ a, kB e.at_ ≤ far a
  | [], _, h => by cases h
  | e' :: a, e, h => by
    rcases List.mem_cons.1 h with rfl | h
    · exact Nat.le_add_right _ _
    · exact Nat.le_trans (pB e h) (Nat.le_add_left _ _)
def nxe (e : Ev) : List Ev → Bool
  | [] => false
  | e2 :: _ => aQ e.at_ e2.at_ == 0
def swS (keep : Bool → Bool → Bool) : List Ev → List Iv → Bool → Bd → Int → Int → List Iv
  | [], out, _, _, _, _ => out
  | e :: r, out, in_, fr, n0, n1 =>
    bif (nxe e r) then swS keep r out in_ fr (n0 + e.b0) (n1 + e.b1)
    else bif (keep (decide (n0 + e.b0 > 0)) (decide (n1 + e.b1 > 0))) && !in_ then swS keep r out (keep (decide (n0 + e.b0 > 0)) (decide (n1 + e.b1 > 0))) e.at_ (n0 + e.b0) (n1 + e.b1)
    else bif (!(keep (decide (n0 + e.b0 > 0)) (decide (n1 + e.b1 > 0)))) && in_ then swS keep r (out ++ [a8 fr e.at_]) (keep (decide (n0 + e.b0 > 0)) (decide (n1 + e.b1 > 0))) fr (n0 + e.b0) (n1 + e.b1)
    else swS keep r out (keep (decide (n0 + e.b0 > 0)) (decide (n1 + e.b1 > 0))) fr (n0 + e.b0) (n1 + e.b1)
theorem eqz {a b : Bd} (ha : Tm a.at_) (hb : Tm b.at_) : (aQ a b == 0) = decide (kB a = kB b) := by
  rw [cmpB ha hb]
  by_cases e : kB a = kB b
  · rw [e, ie, decide_eq_true rfl]; rfl
  · rw [decide_eq_false e]
    exact beq_eq_false_iff_ne.2 fun h => e (sgn_zero.1 h)
theorem not_in {out : List Iv} {y x : Nat} (h : ∀ i ∈ out, kB (ao i) < y) (hx : y ≤ x) : ¬ inP out x := fun ⟨i, hi, _, h2⟩ => by have := h i hi; omega
def b0c : Ev → Int := fun e => e.b0
def b1c : Ev → Int := fun e => e.b1
theorem oM {keep : Bool → Bool → Bool} {S : List Ev} (hT : ∀ e ∈ S, Tm e.at_.at_) (hs : S.Pairwise fun a b => kB a.at_ ≤ kB b.at_) (hend : keep (decide (rs b0c S > 0)) (decide (rs b1c S > 0)) = false) :
    ∀ (s p : List Ev) (out : List Iv) (in_ : Bool) (fr : Bd) (n0 n1 : Int), S = p ++ s → n0 = rs b0c p → n1 = rs b1c p →
      (∀ x, (∀ e ∈ s, x < kB e.at_) → ((inP out x ∨ (in_ = true ∧ kB fr ≤ x)) ↔ keep (decide (sm b0c S x > 0)) (decide (sm b1c S x > 0)) = true)) →
      Cn out → (∀ i ∈ out, ∀ e ∈ s, kB (ao i) < kB e.at_) →
      (in_ = true → Tm fr.at_ ∧ (∀ e ∈ s, kB fr < kB e.at_) ∧ ∀ i ∈ out, kB (ao i) < kB fr) →
      Cn (swS keep s out in_ fr n0 n1) ∧ ∀ x, inP (swS keep s out in_ fr n0 n1) x ↔ keep (decide (sm b0c S x > 0)) (decide (sm b1c S x > 0)) = true
  | [], p, out, in_, fr, n0, n1, hS, _, _, hR, hC, _, hI => by
    refine ⟨hC, fun x => ?_⟩
    show inP out x ↔ _
    cases in_ with
    | false =>
      rw [← hR x (fun _ h => by cases h)]
      exact ⟨.inl, fun h => h.resolve_right fun h => by cases h.1⟩
    | true =>
      exfalso
      have h1 := (hR (kB fr + far S) (fun _ h => by cases h)).1 (.inr ⟨rfl, Nat.le_add_right _ _⟩)
      rw [oU (fun e he => Nat.le_trans (pB e he) (Nat.le_add_left _ _)), oU (fun e he => Nat.le_trans (pB e he) (Nat.le_add_left _ _)), hend] at h1
      cases h1
  | e :: r, p, out, in_, fr, n0, n1, hS, hn0, hn1, hR, hC, hL, hI => by
    have hS2 : S = (p ++ [e]) ++ r := by rw [hS]; simp
    have hTe := hT e (by rw [hS]; simp)
    have hm0 : n0 + e.b0 = rs b0c (p ++ [e]) := by rw [nb, hn0]; show _ = rs b0c p + (e.b0 + 0); omega
    have hm1 : n1 + e.b1 = rs b1c (p ++ [e]) := by rw [nb, hn1]; show _ = rs b1c p + (e.b1 + 0); omega
    have hs2 := hs
    rw [hS2, List.pairwise_append] at hs2
    have hpe : ∀ e' ∈ p ++ [e], kB e'.at_ ≤ kB e.at_ := fun e' he' => by
      have h1 := hs
      rw [hS, List.pairwise_append] at h1
      rcases List.mem_append.1 he' with h2 | h2
      · exact h1.2.2 e' h2 e (List.mem_cons_self ..)
      · rw [List.mem_singleton.1 h2]; exact Nat.le_refl _
    have her : ∀ e' ∈ r, kB e.at_ ≤ kB e'.at_ := fun e' he' => hs2.2.2 e (by simp) e' he'
    cases ht : nxe e r with
    | true =>
      obtain ⟨e2, r2, rfl⟩ : ∃ e2 r2, r = e2 :: r2 := by
        cases r with
        | nil => cases ht
        | cons e2 r2 => exact ⟨e2, r2, rfl⟩
      have hk : kB e.at_ = kB e2.at_ := by
        have ht : (aQ e.at_ e2.at_ == 0) = true := ht
        rw [eqz hTe (hT e2 (by rw [hS]; simp)), decide_eq_true_eq] at ht
        exact ht
      rw [show swS keep (e :: e2 :: r2) out in_ fr n0 n1 = swS keep (e2 :: r2) out in_ fr (n0 + e.b0) (n1 + e.b1) by
        show (bif (nxe e (e2 :: r2)) then _ else _) = _
        rw [ht]; rfl]
      refine oM hT hs hend (e2 :: r2) (p ++ [e]) out in_ fr _ _ hS2 hm0 hm1 (fun x hx => hR x fun e' he' => ?_) hC (fun i hi e' he' => hL i hi e' (List.mem_cons_of_mem _ he')) (fun hin => ⟨(hI hin).1, fun e' he' => (hI hin).2.1 e' (List.mem_cons_of_mem _ he'), (hI hin).2.2⟩)
      rcases List.mem_cons.1 he' with rfl | he'
      · rw [hk]; exact hx e2 (List.mem_cons_self ..)
      · exact hx e' he'
    | false =>
      have hgt : ∀ e' ∈ r, kB e.at_ < kB e'.at_ := fun e' he' => by
        cases r with
        | nil => cases he'
        | cons e2 r2 =>
          have ht : (aQ e.at_ e2.at_ == 0) = false := ht
          rw [eqz hTe (hT e2 (by rw [hS]; simp)), decide_eq_false_iff_not] at ht
          have h1 := her e2 (List.mem_cons_self ..)
          have h2 := List.pairwise_cons.1 hs2.2.1
          rcases List.mem_cons.1 he' with rfl | he'
          · omega
          · have := h2.1 e' he'; omega
      have hK : ∀ x, kB e.at_ ≤ x → (∀ e' ∈ r, x < kB e'.at_) → keep (decide (sm b0c S x > 0)) (decide (sm b1c S x > 0)) = keep (decide (n0 + e.b0 > 0)) (decide (n1 + e.b1 > 0)) := fun x h1 h2 => by
        have q : ∀ c : Ev → Int, sm c S x = rs c (p ++ [e]) := fun c => by
          rw [hS2, oT, oU (fun e' he' => Nat.le_trans (hpe e' he') h1), mI h2]; omega
        rw [q, q, hm0, hm1]
      have hlow : ∀ x, x < kB e.at_ → ∀ e' ∈ e :: r, x < kB e'.at_ := fun x hx e' he' => by
        rcases List.mem_cons.1 he' with rfl | he'
        · exact hx
        · have := her e' he'; omega
      have hLe : ∀ i ∈ out, kB (ao i) < kB e.at_ := fun i hi => hL i hi e (List.mem_cons_self ..)
      have hLr : ∀ i ∈ out, ∀ e' ∈ r, kB (ao i) < kB e'.at_ := fun i hi e' he' => hL i hi e' (List.mem_cons_of_mem _ he')
      have ih := fun out in_ fr => oM hT hs hend r (p ++ [e]) out in_ fr _ _ hS2 hm0 hm1
      rw [show swS keep (e :: r) out in_ fr n0 n1 = bif (keep (decide (n0 + e.b0 > 0)) (decide (n1 + e.b1 > 0))) && !in_ then swS keep r out (keep (decide (n0 + e.b0 > 0)) (decide (n1 + e.b1 > 0))) e.at_ (n0 + e.b0) (n1 + e.b1)
        else bif (!(keep (decide (n0 + e.b0 > 0)) (decide (n1 + e.b1 > 0)))) && in_ then swS keep r (out ++ [a8 fr e.at_]) (keep (decide (n0 + e.b0 > 0)) (decide (n1 + e.b1 > 0))) fr (n0 + e.b0) (n1 + e.b1)
        else swS keep r out (keep (decide (n0 + e.b0 > 0)) (decide (n1 + e.b1 > 0))) fr (n0 + e.b0) (n1 + e.b1) by
        show (bif (nxe e r) then _ else _) = _
        rw [ht]; rfl]
      revert hK
      generalize keep (decide (n0 + e.b0 > 0)) (decide (n1 + e.b1 > 0)) = now
      intro hK
      have hall : ∀ x, x < kB e.at_ ∨ kB e.at_ ≤ x := fun x => Nat.lt_or_ge x _
      cases now with
      | true =>
        cases in_ with
        | false =>
          refine ih out true e.at_ (fun x hx => ?_) hC hLr (fun _ => ⟨hTe, hgt, hLe⟩)
          rcases hall x with h1 | h1
          · rw [← hR x (hlow x h1)]
            exact ⟨fun h => .inl (h.resolve_right fun h => by have := h.2; omega), fun h => .inl (h.resolve_right fun h => by cases h.1)⟩
          · rw [hK x h1 hx]
            exact ⟨fun _ => rfl, fun _ => .inr ⟨rfl, h1⟩⟩
        | true =>
          obtain ⟨i1, i2, i3⟩ := hI rfl
          refine ih out true fr (fun x hx => ?_) hC hLr (fun _ => ⟨i1, fun e' he' => i2 e' (List.mem_cons_of_mem _ he'), i3⟩)
          rcases hall x with h1 | h1
          · exact hR x (hlow x h1)
          · rw [hK x h1 hx]
            have := i2 e (List.mem_cons_self ..)
            exact ⟨fun _ => rfl, fun _ => .inr ⟨rfl, by omega⟩⟩
      | false =>
        cases in_ with
        | false =>
          refine ih out false fr (fun x hx => ?_) hC hLr (fun h => by cases h)
          rcases hall x with h1 | h1
          · exact hR x (hlow x h1)
          · rw [hK x h1 hx]
            exact ⟨fun h => h.elim (fun h => absurd h (not_in hLe h1)) fun h => (by cases h.1), fun h => (by cases h)⟩
        | true =>
          obtain ⟨i1, i2, i3⟩ := hI rfl
          have hfe := i2 e (List.mem_cons_self ..)
          have hin : ∀ x, inI (a8 fr e.at_) x ↔ (kB fr ≤ x ∧ x < kB e.at_) := fun x => by unfold inI; rw [lZ, m6]
          have hw : Wv (a8 fr e.at_) := by
            refine wv_of ⟨?_, ?_⟩ (by rw [lZ, m6]; exact hfe)
            · unfold a8; exact i1
            · unfold a8; exact hTe
          refine ih (out ++ [a8 fr e.at_]) false fr (fun x hx => ?_) ⟨fun i hi => ?_, ?_⟩ (fun i hi e' he' => ?_) (fun h => by cases h)
          · have hx2 : inP (out ++ [a8 fr e.at_]) x ↔ inP out x ∨ (kB fr ≤ x ∧ x < kB e.at_) := by
              rw [inP_app, em, hin]
              exact ⟨fun h => h.imp id fun h => h.resolve_right (im x), fun h => h.imp id .inl⟩
            rw [hx2]
            rcases hall x with h1 | h1
            · rw [← hR x (hlow x h1)]
              constructor
              · rintro ((h | h) | h)
                · exact .inl h
                · exact .inr ⟨rfl, h.1⟩
                · cases h.1
              · rintro (h | h)
                · exact .inl (.inl h)
                · exact .inl (.inr ⟨h.2, h1⟩)
            · rw [hK x h1 hx]
              constructor
              · rintro ((h | h) | h)
                · exact absurd h (not_in hLe h1)
                · omega
                · cases h.1
              · intro h; cases h
          · rcases List.mem_append.1 hi with hi | hi
            · exact hC.wv i hi
            · rw [List.mem_singleton.1 hi]; exact hw
          · rw [List.pairwise_append]
            refine ⟨hC.sep, List.pairwise_singleton _ _, fun i hi j hj => ?_⟩
            rw [List.mem_singleton.1 hj, lZ]
            exact i3 i hi
          · rcases List.mem_append.1 hi with hi | hi
            · exact hLr i hi e' he'
            · rw [List.mem_singleton.1 hi, m6]
              exact hgt e' he'
def evA (a : List Iv) : List Ev := a.flatMap fun i => [⟨am i, 1, 0⟩, ⟨ao i, -1, 0⟩]
def evB (b : List Iv) : List Ev := b.flatMap fun i => [⟨am i, 0, 1⟩, ⟨ao i, 0, -1⟩]
theorem pK {i : Iv} (h : Wv i) (x : Nat) : (if kB (am i) ≤ x then (1 : Int) else 0) + ((if kB (ao i) ≤ x then (-1 : Int) else 0)) = if kB (am i) ≤ x ∧ x < kB (ao i) then 1 else 0 := by
  have := h.bd
  by_cases h1 : kB (am i) ≤ x
  · by_cases h2 : kB (ao i) ≤ x
    · rw [if_pos h1, if_pos h2, if_neg (by omega)]; rfl
    · rw [if_pos h1, if_neg h2, if_pos ⟨h1, by omega⟩]; rfl
  · rw [if_neg h1, if_neg (by omega), if_neg (by omega)]; rfl
theorem evA_sm : ∀ {a : List Iv}, (∀ i ∈ a, Wv i) → ∀ x, 0 ≤ sm b0c (evA a) x ∧ (0 < sm b0c (evA a) x ↔ inP a x)
  | [], _, x => ⟨Int.le_refl _, ⟨fun h => absurd h (Int.lt_irrefl _), fun h => absurd h (im x)⟩⟩
  | i :: a, h, x => by
    obtain ⟨h1, h2⟩ := evA_sm (a := a) (fun j hj => h j (List.mem_cons_of_mem _ hj)) x
    have e : sm b0c (evA (i :: a)) x = ((if kB (am i) ≤ x then (1 : Int) else 0) + ((if kB (ao i) ≤ x then (-1 : Int) else 0))) + sm b0c (evA a) x := by
      show (if kB (am i) ≤ x then (1 : Int) else 0) + ((if kB (ao i) ≤ x then (-1 : Int) else 0) + sm b0c (evA a) x) = _
      omega
    rw [e, pK (h i (List.mem_cons_self ..)), em, ← h2]
    unfold inI
    by_cases h3 : kB (am i) ≤ x ∧ x < kB (ao i)
    · rw [if_pos h3]; exact ⟨by omega, ⟨fun _ => .inl h3, fun _ => by omega⟩⟩
    · rw [if_neg h3]; exact ⟨by omega, ⟨fun h4 => .inr (by omega), fun h4 => by have := h4.resolve_left h3; omega⟩⟩
theorem evB_sm : ∀ {a : List Iv}, (∀ i ∈ a, Wv i) → ∀ x, 0 ≤ sm b1c (evB a) x ∧ (0 < sm b1c (evB a) x ↔ inP a x)
  | [], _, x => ⟨Int.le_refl _, ⟨fun h => absurd h (Int.lt_irrefl _), fun h => absurd h (im x)⟩⟩
  | i :: a, h, x => by
    obtain ⟨h1, h2⟩ := evB_sm (a := a) (fun j hj => h j (List.mem_cons_of_mem _ hj)) x
    have e : sm b1c (evB (i :: a)) x = ((if kB (am i) ≤ x then (1 : Int) else 0) + ((if kB (ao i) ≤ x then (-1 : Int) else 0))) + sm b1c (evB a) x := by
      show (if kB (am i) ≤ x then (1 : Int) else 0) + ((if kB (ao i) ≤ x then (-1 : Int) else 0) + sm b1c (evB a) x) = _
      omega
    rw [e, pK (h i (List.mem_cons_self ..)), em, ← h2]
    unfold inI
    by_cases h3 : kB (am i) ≤ x ∧ x < kB (ao i)
    · rw [if_pos h3]; exact ⟨by omega, ⟨fun _ => .inl h3, fun _ => by omega⟩⟩
    · rw [if_neg h3]; exact ⟨by omega, ⟨fun h4 => .inr (by omega), fun h4 => by have := h4.resolve_left h3; omega⟩⟩
theorem evA_0 : ∀ (a : List Iv) (x : Nat), sm b1c (evA a) x = 0 ∧ rs b1c (evA a) = 0 ∧ rs b0c (evA a) = 0
  | [], _ => ⟨rfl, rfl, rfl⟩
  | i :: a, x => by
    obtain ⟨h1, h2, h3⟩ := evA_0 a x
    refine ⟨?_, ?_, ?_⟩
    · show (if kB (am i) ≤ x then (0 : Int) else 0) + ((if kB (ao i) ≤ x then (0 : Int) else 0) + sm b1c (evA a) x) = 0
      rw [h1]; simp
    · show (0 : Int) + (0 + rs b1c (evA a)) = 0
      rw [h2]; rfl
    · show (1 : Int) + (-1 + rs b0c (evA a)) = 0
      rw [h3]; rfl
theorem evB_0 : ∀ (a : List Iv) (x : Nat), sm b0c (evB a) x = 0 ∧ rs b0c (evB a) = 0 ∧ rs b1c (evB a) = 0
  | [], _ => ⟨rfl, rfl, rfl⟩
  | i :: a, x => by
    obtain ⟨h1, h2, h3⟩ := evB_0 a x
    refine ⟨?_, ?_, ?_⟩
    · show (if kB (am i) ≤ x then (0 : Int) else 0) + ((if kB (ao i) ≤ x then (0 : Int) else 0) + sm b0c (evB a) x) = 0
      rw [h1]; simp
    · show (0 : Int) + (0 + rs b0c (evB a)) = 0
      rw [h2]; rfl
    · show (1 : Int) + (-1 + rs b1c (evB a)) = 0
      rw [h3]; rfl
theorem mZ {a b : List Iv} (ha : ∀ i ∈ a, Wv i) (hb : ∀ i ∈ b, Wv i) : ∀ e ∈ evA a ++ evB b, Tm e.at_.at_ := fun e he => by
  rcases List.mem_append.1 he with he | he
  · obtain ⟨i, hi, he⟩ := List.mem_flatMap.1 he
    have := (ha i hi).1
    rcases List.mem_cons.1 he with rfl | he
    · show Tm (am i).at_; rw [pf]; exact this.1
    · rw [List.mem_singleton.1 he]; show Tm (ao i).at_; rw [pl]; exact this.2
  · obtain ⟨i, hi, he⟩ := List.mem_flatMap.1 he
    have := (hb i hi).1
    rcases List.mem_cons.1 he with rfl | he
    · show Tm (am i).at_; rw [pf]; exact this.1
    · rw [List.mem_singleton.1 he]; show Tm (ao i).at_; rw [pl]; exact this.2
open Classical in
theorem kj {keep : Bool → Bool → Bool} (hk : keep false false = false) {a b : List Iv} (ha : ∀ i ∈ a, Wv i) (hb : ∀ i ∈ b, Wv i) {S : List Ev} (hp : S.Perm (evA a ++ evB b)) (hs : S.Pairwise fun a b => kB a.at_ ≤ kB b.at_) (fr : Bd) :
    Cn (swS keep S [] false fr 0 0) ∧ ∀ x, inP (swS keep S [] false fr 0 0) x ↔ keep (decide (inP a x)) (decide (inP b x)) = true := by
  have hT : ∀ e ∈ S, Tm e.at_.at_ := fun e he => mZ ha hb e (hp.mem_iff.1 he)
  have h0 : ∀ x, sm b0c S x = sm b0c (evA a) x := fun x => by rw [oS hp, oT, (evB_0 b x).1]; omega
  have h1 : ∀ x, sm b1c S x = sm b1c (evB b) x := fun x => by rw [oS hp, oT, (evA_0 a x).1]; omega
  have hend : keep (decide (rs b0c S > 0)) (decide (rs b1c S > 0)) = false := by
    rw [o8 hp, o8 hp, nb, nb, (evA_0 a 0).2.2, (evB_0 b 0).2.1, (evA_0 a 0).2.1, (evB_0 b 0).2.2]
    exact hk
  have hx : ∀ x, keep (decide (sm b0c S x > 0)) (decide (sm b1c S x > 0)) = keep (decide (inP a x)) (decide (inP b x)) := fun x => by
    rw [h0, h1, decide_eq_decide.2 (evA_sm ha x).2, decide_eq_decide.2 (evB_sm hb x).2]
  obtain ⟨r1, r2⟩ := oM hT hs hend S [] [] false fr 0 0 rfl rfl rfl (fun x hx2 => by
    rw [mI hx2, mI hx2]
    constructor
    · rintro (h | h)
      · exact absurd h (im x)
      · cases h.1
    · intro h
      rw [show decide ((0 : Int) > 0) = false from rfl, hk] at h; cases h) Cn.nil (fun _ h => by cases h) (fun h => by cases h)
  exact ⟨r1, fun x => by rw [r2, hx]⟩
end Go.Sx
