/- A part of the proof of movingpointLong. -/
import Derived.Test.YtbenbmdkhcfcfaaGreatDoorB5
set_option linter.unusedVariables false
set_option linter.unusedSimpArgs false
namespace Go.Sx
def fb (a : GI) : Int := bif a.neg then -(a.mag : Int) else (a.mag : Int)
def IOk (a : GI) : Prop := a.mag = 0 → a.neg = false
theorem kG (s : Bool) (m : Nat) : IOk (aD s m) := by
  intro h
  have h : m = 0 := h
  subst h
  cases s <;> rfl
theorem fY (s : Bool) (m : Nat) : fb (aD s m) = bif s then -(m : Int) else (m : Int) := by
  unfold fb aD
  by_cases h : m = 0
  · subst h; cases s <;> rfl
  · cases s <;> simp [h]
theorem qQ {a b : GI} (ha : IOk a) (hb : IOk b) (h : fb a = fb b) : a = b := by
  obtain ⟨s, m⟩ := a
  obtain ⟨r, n⟩ := b
  unfold fb at h
  unfold IOk at ha hb
  simp only at ha hb h
  cases s <;> cases r <;> simp only [cond_true, cond_false] at h
  · have : m = n := by omega
    rw [this]
  · have h1 : m = 0 := by omega
    have h2 : n = 0 := by omega
    exact absurd (hb h2) (by decide)
  · have h1 : m = 0 := by omega
    exact absurd (ha h1) (by decide)
  · have : m = n := by omega
    rw [this]
theorem jH (n : Int) : IOk (aw n) := by
  unfold IOk aw
  intro h
  have h : n.natAbs = 0 := h
  exact decide_eq_false (by omega)
theorem gw (n : Int) : fb (aw n) = n := by
  unfold fb aw
  by_cases h : n < 0
  · simp only [decide_eq_true h, cond_true]; omega
  · simp only [decide_eq_false h, cond_false]; omega
theorem sD (m : Nat) : 0 ≤ ((m : Nat) : Int).sign := by
  cases m with
  | zero => decide
  | succ m => exact Int.le_of_lt (by rw [Int.sign_eq_one_of_pos (by omega)]; decide)
theorem jG (a : GI) : bL a = (fb a).sign := by
  obtain ⟨s, m⟩ := a
  unfold bL fb
  by_cases h : m = 0
  · subst h; cases s <;> rfl
  · rw [decide_eq_false h]
    cases s
    · exact (Int.sign_eq_one_of_pos (by show (0 : Int) < (m : Int); omega)).symm
    · exact (Int.sign_eq_neg_one_of_neg (by show -(m : Int) < 0; omega)).symm
theorem mL (a : GI) : fb (ap a) = - fb a := by
  unfold ap
  rw [fY]
  unfold fb
  cases a.neg <;> simp
theorem qi (a b : Nat) : a8 a b = if a < b then -1 else if b < a then 1 else 0 := by
  unfold a8
  rcases Nat.lt_trichotomy a b with h | h | h
  · rw [show Nat.blt a b = true by rw [Nat.blt_eq]; exact h, cond_true, if_pos h]
  · subst h
    have h1 : Nat.blt a a = false := by
      cases e : Nat.blt a a with
      | false => rfl
      | true => rw [Nat.blt_eq] at e; omega
    rw [h1, Nat.beq_refl, if_neg (Nat.lt_irrefl _), if_neg (Nat.lt_irrefl _)]; rfl
  · have h1 : Nat.blt a b = false := by
      cases e : Nat.blt a b with
      | false => rfl
      | true => rw [Nat.blt_eq] at e; omega
    have h2 : Nat.beq a b = false := by
      cases e : Nat.beq a b with
      | false => rfl
      | true => have := Nat.eq_of_beq_eq_true e; omega
    rw [h1, h2, if_neg (by omega), if_pos h]; rfl
theorem Add_val (a b : GI) : fb (aF a b) = fb a + fb b := by
  obtain ⟨s, m⟩ := a
  obtain ⟨r, n⟩ := b
  unfold aF cG cb
  simp only [qi]
  cases s <;> cases r
  · show fb (aD false (m + n)) = (m : Int) + n
    rw [fY]; simp
  · show fb (bif decide (_ ≥ (0 : Int)) then aD false (m - n) else aD true (n - m)) = (m : Int) + -n
    split <;> rename_i h1
    · simp only [show decide ((-1 : Int) ≥ 0) = false from rfl, cond_false, fY, cond_true]; omega
    · split
      · simp only [show decide ((1 : Int) ≥ 0) = true from rfl, cond_true, fY, cond_false]; omega
      · simp only [show decide ((0 : Int) ≥ 0) = true from rfl, cond_true, fY, cond_false]; omega
  · show fb (bif decide (_ ≥ (0 : Int)) then aD true (m - n) else aD false (n - m)) = -(m : Int) + n
    split <;> rename_i h1
    · simp only [show decide ((-1 : Int) ≥ 0) = false from rfl, cond_false, fY, cond_true]; omega
    · split
      · simp only [show decide ((1 : Int) ≥ 0) = true from rfl, cond_true, fY, cond_false]; omega
      · simp only [show decide ((0 : Int) ≥ 0) = true from rfl, cond_true, fY, cond_false]; omega
  · show fb (aD true (m + n)) = -(m : Int) + -n
    rw [fY, cond_true]; omega
theorem Add_ok (a b : GI) : IOk (aF a b) := by
  unfold aF
  cases (a.neg == b.neg)
  · rw [cond_false]
    cases (decide ((a8 a.mag b.mag) ≥ 0)) <;> exact kG _ _
  · exact kG _ _
theorem rb (a b : GI) : IOk (ae a b) := kG _ _
theorem pA (a : GI) : IOk (ap a) := kG _ _
theorem iY (a b : GI) : fb (ae a b) = fb a * fb b := by
  obtain ⟨s, m⟩ := a
  obtain ⟨r, n⟩ := b
  unfold ae d7
  rw [fY]
  unfold fb
  cases s <;> cases r <;> simp [Int.neg_mul, Int.mul_neg]
def icmp (a b : Int) : Int := if a < b then -1 else if b < a then 1 else 0
theorem rS (a b : Int) : bG a b = icmp a b := by
  unfold bG icmp eS
  rcases Int.lt_trichotomy a b with h | h | h
  · simp [h]
  · subst h; simp
  · simp [h, show ¬ a < b by omega]
theorem l9 {a b : GI} (ha : IOk a) (hb : IOk b) : cn a b = icmp (fb a) (fb b) := by
  obtain ⟨s, m⟩ := a
  obtain ⟨r, n⟩ := b
  unfold cn
  rw [rS, jG, jG, qi]
  unfold fb icmp
  unfold IOk at ha hb
  simp only at ha hb
  cases s <;> cases r
  · simp only [bne_self_eq_false, cond_false]
    rcases Nat.lt_trichotomy m n with h | h | h
    · rw [if_pos h, if_pos (by omega)]
    · subst h; simp
    · rw [if_neg (by omega), if_pos h, if_neg (by omega), if_pos (by omega)]
  · have : n ≠ 0 := fun e => absurd (hb e) (by decide)
    have e1 : (-(n : Int)).sign = -1 := Int.sign_eq_neg_one_of_neg (by omega)
    have e2 : 0 ≤ (m : Int).sign := sD m
    show (if (m : Int).sign < (-(n : Int)).sign then (-1 : Int) else if (-(n : Int)).sign < (m : Int).sign then 1 else 0) = if (m : Int) < -(n : Int) then -1 else if -(n : Int) < (m : Int) then 1 else 0
    simp only [e1, if_neg (show ¬ (m : Int).sign < -1 by omega), if_pos (show (-1 : Int) < (m : Int).sign by omega), if_neg (show ¬ (m : Int) < -(n : Int) by omega), if_pos (show -(n : Int) < (m : Int) by omega)]
  · have : m ≠ 0 := fun e => absurd (ha e) (by decide)
    have e1 : (-(m : Int)).sign = -1 := Int.sign_eq_neg_one_of_neg (by omega)
    have e2 : 0 ≤ (n : Int).sign := sD n
    show (if (-(m : Int)).sign < (n : Int).sign then (-1 : Int) else if (n : Int).sign < (-(m : Int)).sign then 1 else 0) = if -(m : Int) < (n : Int) then -1 else if (n : Int) < -(m : Int) then 1 else 0
    simp only [e1, if_pos (show (-1 : Int) < (n : Int).sign by omega), if_pos (show -(m : Int) < (n : Int) by omega)]
  · simp only [bne_self_eq_false, cond_false, cond_true]
    rcases Nat.lt_trichotomy m n with h | h | h
    · rw [if_pos h, if_neg (by omega), if_pos (by omega)]; rfl
    · subst h; simp
    · rw [if_neg (by omega), if_pos h, if_pos (by omega)]
theorem jW (a : GI) : (fb a).natAbs = a.mag := by unfold fb; cases a.neg <;> simp
theorem qI {a b : GI} (hb : b.neg = false) (h0 : b.mag ≠ 0) (hd : b.mag ∣ a.mag) : aC a b = aD a.neg (a.mag / b.mag) := by
  unfold aC aG bn
  rw [decide_eq_false h0, cond_false, Nat.mod_eq_zero_of_dvd hd, hb]
  simp
def z0 : GI := ⟨false, 0⟩
def kb (x : GQ) : Nat := if x.den = z0 then 1 else x.den.mag
def QOk (x : GQ) : Prop := IOk x.num ∧ (x.den = z0 ∨ (x.den.neg = false ∧ 1 < x.den.mag)) ∧ Nat.Coprime x.num.mag (kb x)
def ba (x : GQ) : Rat := (fb x.num : Rat) / (kb x : Rat)
theorem QOk.pos {x : GQ} (h : QOk x) : 0 < kb x := by
  unfold kb
  split
  · decide
  · rename_i e
    rcases h.2.1 with h1 | ⟨_, h1⟩
    · exact absurd h1 e
    · omega
theorem sV {x : GQ} (h : QOk x) : ba x = ⟨fb x.num, kb x, Nat.ne_of_gt h.pos, by rw [jW]; exact h.2.2⟩ := by
  rw [Rat.mk_eq_mkRat, Rat.mkRat_eq_div]; rfl
theorem dq {x y : GQ} (hx : QOk x) (hy : QOk y) (h : ba x = ba y) : x = y := by
  rw [sV hx, sV hy] at h
  injection h with h1 h2
  obtain ⟨n, d⟩ := x
  obtain ⟨m, e⟩ := y
  have e1 : n = m := qQ hx.1 hy.1 h1
  have e2 : d = e := by
    unfold kb at h2
    have hx2 := hx.2.1
    have hy2 := hy.2.1
    simp only at h2 hx2 hy2
    by_cases c1 : d = z0
    · by_cases c2 : e = z0
      · rw [c1, c2]
      · rw [if_pos c1, if_neg c2] at h2
        rcases hy2 with h3 | ⟨_, h3⟩
        · exact absurd h3 c2
        · omega
    · by_cases c2 : e = z0
      · rw [if_neg c1, if_pos c2] at h2
        rcases hx2 with h3 | ⟨_, h3⟩
        · exact absurd h3 c1
        · omega
      · rw [if_neg c1, if_neg c2] at h2
        obtain ⟨a1, a2⟩ := hx2.resolve_left c1
        obtain ⟨b1, b2⟩ := hy2.resolve_left c2
        obtain ⟨s, p⟩ := d
        obtain ⟨r, q⟩ := e
        simp only at a1 b1 h2
        rw [a1, b1, h2]
  rw [e1, e2]
theorem tc : fb rational_one = 1 := gw 1
theorem iZ {x : GQ} (h : QOk x) : fb (aa x) = kb x ∧ (aa x).neg = false := by
  unfold aa kb
  by_cases e : x.den = z0
  · rw [decide_eq_true (show x.den = ⟨false, 0⟩ from e), if_pos e]
    exact ⟨tc, rfl⟩
  · rw [decide_eq_false (show ¬ x.den = ⟨false, 0⟩ from e), if_neg e, cond_false]
    obtain ⟨h1, h2⟩ := h.2.1.resolve_left e
    refine ⟨?_, h1⟩
    unfold fb
    rw [h1]; rfl
theorem pp {n d : GI} (hn : IOk n) (hdn : d.neg = false) (hd : d.mag ≠ 0) :
    QOk (bif (decide ((aC d (aR n d)) = rational_one)) then (⟨(aC n (aR n d)), (⟨false, 0⟩ : GI)⟩ : GQ) else (⟨(aC n (aR n d)), (aC d (aR n d))⟩ : GQ)) ∧
    ba (bif (decide ((aC d (aR n d)) = rational_one)) then (⟨(aC n (aR n d)), (⟨false, 0⟩ : GI)⟩ : GQ) else (⟨(aC n (aR n d)), (aC d (aR n d))⟩ : GQ)) = (fb n : Rat) / (d.mag : Rat) := by
  have hg : 0 < Nat.gcd n.mag d.mag := Nat.gcd_pos_of_pos_right _ (by omega)
  have q1 : aC d (aR n d) = aD false (d.mag / Nat.gcd n.mag d.mag) := by
    have := qI (a := d) (b := aR n d) rfl (by show Nat.gcd n.mag d.mag ≠ 0; omega) (Nat.gcd_dvd_right _ _)
    rw [hdn] at this
    exact this
  have q2 : aC n (aR n d) = aD n.neg (n.mag / Nat.gcd n.mag d.mag) :=
    qI (a := n) (b := aR n d) rfl (by show Nat.gcd n.mag d.mag ≠ 0; omega) (Nat.gcd_dvd_left _ _)
  rw [q1, q2]
  have hdp : 0 < d.mag / Nat.gcd n.mag d.mag := Nat.div_pos (Nat.le_of_dvd (by omega) (Nat.gcd_dvd_right _ _)) hg
  have hcop : Nat.Coprime (n.mag / Nat.gcd n.mag d.mag) (d.mag / Nat.gcd n.mag d.mag) := Nat.coprime_div_gcd_div_gcd hg
  have hval : (fb (aD n.neg (n.mag / Nat.gcd n.mag d.mag)) : Rat) / ((d.mag / Nat.gcd n.mag d.mag : Nat) : Rat) = (fb n : Rat) / (d.mag : Rat) := by
    have e1 : fb n = fb (aD n.neg (n.mag / Nat.gcd n.mag d.mag)) * (Nat.gcd n.mag d.mag : Int) := by
      rw [fY]
      have := Nat.div_mul_cancel (Nat.gcd_dvd_left n.mag d.mag)
      unfold fb
      cases n.neg
      · simp only [cond_false]; rw [← Int.natCast_mul, this]
      · simp only [cond_true]; rw [Int.neg_mul, ← Int.natCast_mul, this]
    have e2 : d.mag = (d.mag / Nat.gcd n.mag d.mag) * Nat.gcd n.mag d.mag := (Nat.div_mul_cancel (Nat.gcd_dvd_right n.mag d.mag)).symm
    have g0 : ((Nat.gcd n.mag d.mag : Nat) : Rat) ≠ 0 := by
      intro e
      have : Nat.gcd n.mag d.mag = 0 := by exact_mod_cast e
      omega
    have d0 : ((d.mag / Nat.gcd n.mag d.mag : Nat) : Rat) ≠ 0 := by
      intro e
      have : d.mag / Nat.gcd n.mag d.mag = 0 := by exact_mod_cast e
      omega
    rw [e1, Rat.intCast_mul, Rat.intCast_natCast]
    conv => rhs; rhs; rw [e2]
    rw [Rat.natCast_mul]
    grind
  by_cases e : d.mag / Nat.gcd n.mag d.mag = 1
  · have e' : aD false (d.mag / Nat.gcd n.mag d.mag) = rational_one := by rw [e]; rfl
    rw [decide_eq_true e', cond_true]
    refine ⟨⟨kG _ _, .inl rfl, ?_⟩, ?_⟩
    · show Nat.Coprime (n.mag / Nat.gcd n.mag d.mag) 1; exact Nat.coprime_one_right _
    · rw [← hval, e]; rfl
  · have e' : ¬ aD false (d.mag / Nat.gcd n.mag d.mag) = rational_one := fun h => e (by
      have : (aD false (d.mag / Nat.gcd n.mag d.mag)).mag = rational_one.mag := by rw [h]
      exact this)
    rw [decide_eq_false e', cond_false]
    have ez : ¬ (aD false (d.mag / Nat.gcd n.mag d.mag)) = z0 := fun h => by
      have : (aD false (d.mag / Nat.gcd n.mag d.mag)).mag = z0.mag := by rw [h]
      have : d.mag / Nat.gcd n.mag d.mag = 0 := this
      omega
    have eq : kb (⟨aD n.neg (n.mag / Nat.gcd n.mag d.mag), aD false (d.mag / Nat.gcd n.mag d.mag)⟩ : GQ) = d.mag / Nat.gcd n.mag d.mag := if_neg ez
    refine ⟨⟨kG _ _, .inr ⟨rfl, by show 1 < d.mag / Nat.gcd n.mag d.mag; omega⟩, ?_⟩, ?_⟩
    · rw [eq]; exact hcop
    · unfold ba
      rw [eq, ← hval]
theorem nK {n d : GI} (hn : IOk n) (hd : fb d ≠ 0) : QOk (a6 n d) ∧ ba (a6 n d) = (fb n : Rat) / (fb d : Rat) := by
  have hm : d.mag ≠ 0 := fun e => hd (by unfold fb; rw [e]; cases d.neg <;> rfl)
  unfold a6
  rw [jG]
  cases hs : d.neg with
  | false =>
    have e : fb d = (d.mag : Int) := by unfold fb; rw [hs]; rfl
    rw [decide_eq_false (by rw [e]; have := sD d.mag; omega), cond_false, e, Rat.intCast_natCast]
    exact pp hn hs hm
  | true =>
    have e : fb d = -(d.mag : Int) := by unfold fb; rw [hs]; rfl
    rw [decide_eq_true (by rw [e, Int.sign_eq_neg_one_of_neg (by omega)]; decide), cond_true, e]
    have hN : (ap d).neg = false := by
      unfold ap aD; rw [hs]; rfl
    have hM : (ap d).mag = d.mag := rfl
    obtain ⟨k1, k2⟩ := pp (pA n) hN (by rw [hM]; exact hm)
    refine ⟨k1, k2.trans ?_⟩
    rw [mL, hM, Rat.intCast_neg, Rat.intCast_neg, Rat.intCast_natCast]
    have d0 : (d.mag : Rat) ≠ 0 := by
      intro e
      have : d.mag = 0 := by exact_mod_cast e
      omega
    grind
theorem m8 {x : GQ} (h : QOk x) : (kb x : Rat) ≠ 0 := by
  intro e
  have : kb x = 0 := by exact_mod_cast e
  have := h.pos
  omega
theorem m7 {x : GQ} (h : QOk x) : (0 : Rat) < (kb x : Rat) := by
  have := h.pos
  exact_mod_cast this
theorem pj {x y : GQ} (hx : QOk x) (hy : QOk y) : ∃ D : Rat, 0 < D ∧ (fb (aP x y).1 : Rat) = ba x * D ∧ (fb (aP x y).2.1 : Rat) = ba y * D ∧ (fb (aP x y).2.2 : Rat) = D ∧ IOk (aP x y).1 ∧ IOk (aP x y).2.1 := by
  have h1 := m7 hx
  have h2 := m7 hy
  unfold aP
  by_cases e : x.den = y.den
  · rw [decide_eq_true e, cond_true]
    have e2 : kb x = kb y := by unfold kb; rw [e]
    refine ⟨kb x, h1, ?_, ?_, ?_, hx.1, hy.1⟩
    · unfold ba; show (fb x.num : Rat) = _; grind
    · unfold ba; rw [e2]; show (fb y.num : Rat) = _; grind
    · show (fb (aa x) : Rat) = _
      rw [(iZ hx).1, Rat.intCast_natCast]
  · rw [decide_eq_false e, cond_false]
    refine ⟨(kb x : Rat) * (kb y : Rat), Rat.mul_pos h1 h2, ?_, ?_, ?_, rb _ _, rb _ _⟩
    · show (fb (ae x.num (aa y)) : Rat) = _
      rw [iY, Rat.intCast_mul, (iZ hy).1, Rat.intCast_natCast]
      unfold ba; grind
    · show (fb (ae y.num (aa x)) : Rat) = _
      rw [iY, Rat.intCast_mul, (iZ hx).1, Rat.intCast_natCast]
      unfold ba; grind
    · show (fb (ae (aa x) (aa y)) : Rat) = _
      rw [iY, Rat.intCast_mul, (iZ hx).1, (iZ hy).1, Rat.intCast_natCast, Rat.intCast_natCast]
theorem im {x y : GQ} (hx : QOk x) (hy : QOk y) : QOk (ax x y) ∧ ba (ax x y) = ba x + ba y := by
  obtain ⟨D, h0, h1, h2, h3, _, _⟩ := pj hx hy
  unfold ax
  have hd : fb (aP x y).2.2 ≠ 0 := fun e => by
    rw [e] at h3
    have h4 : (0 : Rat) = D := h3
    grind
  obtain ⟨k1, k2⟩ := nK (Add_ok (aP x y).1 (aP x y).2.1) hd
  refine ⟨k1, ?_⟩
  rw [k2, Add_val, Rat.intCast_add, h1, h2, h3]
  grind
theorem fi {x y : GQ} (hx : QOk x) (hy : QOk y) : QOk (ak x y) ∧ ba (ak x y) = ba x * ba y := by
  unfold ak
  have e1 := (iZ hx).1
  have e2 := (iZ hy).1
  have h1 := hx.pos
  have h2 := hy.pos
  have hd : fb (ae (aa x) (aa y)) ≠ 0 := by
    rw [iY, e1, e2, ← Int.natCast_mul]
    have := Nat.mul_pos h1 h2
    omega
  obtain ⟨k1, k2⟩ := nK (rb x.num y.num) hd
  refine ⟨k1, ?_⟩
  rw [k2, iY, iY, e1, e2]
  simp only [Rat.intCast_mul, Rat.intCast_natCast]
  have d1 := m8 hx
  have d2 := m8 hy
  unfold ba
  grind
theorem tu {x : GQ} (hx : QOk x) : QOk (aU x) ∧ ba (aU x) = - ba x := by
  refine ⟨⟨pA _, hx.2.1, hx.2.2⟩, ?_⟩
  unfold ba aU
  show (fb (ap x.num) : Rat) / (kb x : Rat) = _
  rw [mL, Rat.intCast_neg]
  grind
theorem fG {x y : GQ} (hx : QOk x) (hy : QOk y) : QOk (aj x y) ∧ ba (aj x y) = ba x - ba y := by
  unfold aj
  obtain ⟨k1, k2⟩ := tu hy
  obtain ⟨k3, k4⟩ := im hx k1
  refine ⟨k3, ?_⟩
  rw [k4, k2]; grind
theorem cM (n : Int) : QOk (am n) ∧ ba (am n) = (n : Rat) := by
  refine ⟨⟨jH n, .inl rfl, Nat.coprime_one_right _⟩, ?_⟩
  unfold ba
  show (fb (aw n) : Rat) / ((1 : Nat) : Rat) = _
  rw [gw]
  grind
def rsgn (x : Rat) : Int := if x < 0 then -1 else if 0 < x then 1 else 0
theorem zero_ok : QOk ⟨z0, z0⟩ ∧ ba ⟨z0, z0⟩ = 0 := cM 0
theorem j5 {x : GQ} (hx : QOk x) : au x = rsgn (ba x) := by
  have h1 := m7 hx
  have hm : (fb x.num : Rat) = ba x * (kb x : Rat) := by unfold ba; grind
  unfold au rsgn
  rw [jG]
  rcases Int.lt_trichotomy (fb x.num) 0 with h | h | h
  · rw [Int.sign_eq_neg_one_of_neg h]
    have h2 : (fb x.num : Rat) < 0 := by exact_mod_cast h
    rw [if_pos]
    rcases Rat.le_total (a := 0) (b := ba x) with h3 | h3
    · have := Rat.mul_nonneg h3 (Rat.le_of_lt h1)
      grind
    · by_cases h4 : ba x = 0
      · rw [h4] at hm; grind
      · grind
  · rw [h]
    have h2 : (fb x.num : Rat) = 0 := by rw [h]; rfl
    have h3 : ba x = 0 := by unfold ba; rw [h2]; grind
    rw [h3, if_neg (by decide), if_neg (by decide)]; rfl
  · rw [Int.sign_eq_one_of_pos h]
    have h2 : (0 : Rat) < (fb x.num : Rat) := by exact_mod_cast h
    have h3 : 0 < ba x := by
      rcases Rat.le_total (a := 0) (b := ba x) with h3 | h3
      · by_cases h4 : ba x = 0
        · rw [h4] at hm; grind
        · grind
      · have := Rat.mul_nonneg (a := - ba x) (by grind) (Rat.le_of_lt h1)
        grind
    rw [if_neg (by grind), if_pos h3]
def rcmp (x y : Rat) : Int := if x < y then -1 else if y < x then 1 else 0
theorem lQ {x y : GQ} (hx : QOk x) (hy : QOk y) : aY x y = rcmp (ba x) (ba y) := by
  unfold aY rcmp
  by_cases e : x = y
  · rw [decide_eq_true e, e]
    simp
  · rw [decide_eq_false e, cond_false]
    obtain ⟨D, h0, h1, h2, h3, k1, k2⟩ := pj hx hy
    rw [l9 k1 k2]
    unfold icmp
    have key : ∀ a b : Int, ∀ p q : Rat, (a : Rat) = p * D → (b : Rat) = q * D → (a < b ↔ p < q) := by
      intro a b p q e1 e2
      rw [← Rat.intCast_lt_intCast, e1, e2]
      exact Rat.mul_lt_mul_right h0
    have i1 := key _ _ _ _ h1 h2
    have i2 := key _ _ _ _ h2 h1
    by_cases c1 : ba x < ba y
    · rw [if_pos c1, if_pos (i1.2 c1)]
    · rw [if_neg c1, if_neg (fun h => c1 (i1.1 h))]
      by_cases c2 : ba y < ba x
      · rw [if_pos c2, if_pos (i2.2 c2)]
      · rw [if_neg c2, if_neg (fun h => c2 (i2.1 h))]
end Go.Sx
namespace Go.Sx
def zQ : GQ := ⟨⟨false, 0⟩, ⟨false, 0⟩⟩
theorem it : QOk zQ ∧ ba zQ = 0 := zero_ok
def DOk (q : Qd) : Prop := QOk q.c0 ∧ QOk q.c1 ∧ QOk q.c2
def TOk (t : GR) : Prop := QOk t.p ∧ QOk t.r
def lv (t : GR) (q : Qd) : Rat × Rat :=
  if t.r = zQ then (ba q.c0 + ba t.p * (ba q.c1 + ba t.p * ba q.c2), 0)
  else (ba q.c0 + ba q.c2 * (ba t.r - ba t.p * ba t.p), ba q.c1 + (ba q.c2 + ba q.c2) * ba t.p)
theorem qg {q : Qd} {t : GQ} (hq : DOk q) (ht : QOk t) : QOk (aN q t) ∧ ba (aN q t) = ba q.c0 + ba t * (ba q.c1 + ba t * ba q.c2) := by
  obtain ⟨h0, h1, h2⟩ := hq
  unfold aN
  obtain ⟨a1, a2⟩ := fi ht h2
  obtain ⟨b1, b2⟩ := im h1 a1
  obtain ⟨c1, c2⟩ := fi ht b1
  obtain ⟨d1, d2⟩ := im h0 c1
  exact ⟨d1, by rw [d2, c2, b2, a2]⟩
theorem slope_ok {q : Qd} {t : GQ} (hq : DOk q) (ht : QOk t) : QOk (aT q t) ∧ ba (aT q t) = ba q.c1 + (ba q.c2 + ba q.c2) * ba t := by
  obtain ⟨h0, h1, h2⟩ := hq
  unfold aT
  obtain ⟨a1, a2⟩ := im h2 h2
  obtain ⟨b1, b2⟩ := fi a1 ht
  obtain ⟨c1, c2⟩ := im h1 b1
  exact ⟨c1, by rw [c2, b2, a2]⟩
theorem ss {p q : Qd} (hp : DOk p) (hq : DOk q) : DOk (cK p q) ∧ ba (cK p q).c0 = ba p.c0 - ba q.c0 ∧ ba (cK p q).c1 = ba p.c1 - ba q.c1 ∧ ba (cK p q).c2 = ba p.c2 - ba q.c2 := by
  unfold cK
  obtain ⟨a1, a2⟩ := fG hp.1 hq.1
  obtain ⟨b1, b2⟩ := fG hp.2.1 hq.2.1
  obtain ⟨c1, c2⟩ := fG hp.2.2 hq.2.2
  exact ⟨⟨a1, b1, c1⟩, a2, b2, c2⟩
theorem iK {a b : GQ} (ha : QOk a) (hb : QOk b) : DOk (aM a b) ∧ (aM a b).c0 = a ∧ (aM a b).c1 = b ∧ (aM a b).c2 = zQ := by
  unfold aM
  exact ⟨⟨ha, hb, it.1⟩, rfl, rfl, rfl⟩
theorem fV {q : Qd} {t : GR} (hq : DOk q) (ht : TOk t) : DOk (aQ q t) ∧ ba (aQ q t).c0 = (lv t q).1 ∧ ba (aQ q t).c1 = (lv t q).2 ∧ (aQ q t).c2 = zQ := by
  unfold aQ cJ lv
  by_cases e : t.r = zQ
  · rw [decide_eq_true (show t.r = ⟨⟨false, 0⟩, ⟨false, 0⟩⟩ from e), if_pos e]
    obtain ⟨k1, k2⟩ := qg hq ht.1
    exact ⟨⟨k1, it.1, it.1⟩, k2, it.2, rfl⟩
  · rw [decide_eq_false (show ¬ t.r = ⟨⟨false, 0⟩, ⟨false, 0⟩⟩ from e), if_neg e, Bool.not_false, cond_true, cond_false]
    obtain ⟨a1, a2⟩ := fi ht.1 ht.1
    obtain ⟨b1, b2⟩ := fG ht.2 a1
    obtain ⟨c1, c2⟩ := fi hq.2.2 b1
    obtain ⟨d1, d2⟩ := im hq.1 c1
    obtain ⟨s1, s2⟩ := slope_ok hq ht.1
    obtain ⟨l1, l2, l3, l4⟩ := iK d1 s1
    exact ⟨l1, by rw [l2, d2, c2, b2, a2], by rw [l3, s2], l4⟩
theorem qd_ext {p q : Qd} (hp : DOk p) (hq : DOk q) (h0 : ba p.c0 = ba q.c0) (h1 : ba p.c1 = ba q.c1) (h2 : ba p.c2 = ba q.c2) : p = q := by
  have e0 := dq hp.1 hq.1 h0
  have e1 := dq hp.2.1 hq.2.1 h1
  have e2 := dq hp.2.2 hq.2.2 h2
  obtain ⟨a, b, c⟩ := p
  obtain ⟨x, y, z⟩ := q
  simp only at e0 e1 e2
  rw [e0, e1, e2]
theorem rl1 (a b c d e f p : Rat) : (a - b) + p * ((c - d) + p * (e - f)) = (a + p * (c + p * e)) - (b + p * (d + p * f)) := by grind
theorem rl2 (a b c d x : Rat) : (a - b) + (c - d) * x = (a + c * x) - (b + d * x) := by grind
theorem rl3 (a b c d x : Rat) : (a - b) + ((c - d) + (c - d)) * x = (a + (c + c) * x) - (b + (d + d) * x) := by grind
theorem lv_sub {p q : Qd} {t : GR} (hp : DOk p) (hq : DOk q) : lv t (cK p q) = ((lv t p).1 - (lv t q).1, (lv t p).2 - (lv t q).2) := by
  obtain ⟨_, e0, e1, e2⟩ := ss hp hq
  unfold lv
  by_cases e : t.r = zQ
  · rw [if_pos e, if_pos e, if_pos e, e0, e1, e2, rl1]
    exact Prod.ext rfl (by show (0 : Rat) = 0 - 0; grind)
  · rw [if_neg e, if_neg e, if_neg e, e0, e1, e2, rl2, rl3]
theorem qA {p q : Qd} {t : GR} (hp : DOk p) (hq : DOk q) (ht : TOk t) : e7 p q t = true ↔ lv t p = lv t q := by
  unfold e7
  rw [decide_eq_true_eq]
  obtain ⟨k1, _⟩ := ss hp hq
  obtain ⟨r1, r2, r3, r4⟩ := fV k1 ht
  rw [lv_sub hp hq] at r2 r3
  constructor
  · intro h
    rw [h] at r2 r3
    have z := it.2
    unfold zQ at z
    refine Prod.ext ?_ ?_
    · simp only at r2; grind
    · simp only at r3; grind
  · intro h
    refine qd_ext r1 ⟨it.1, it.1, it.1⟩ ?_ ?_ ?_
    · rw [r2, h]; show _ = ba zQ; rw [it.2]; grind
    · rw [r3, h]; show _ = ba zQ; rw [it.2]; grind
    · rw [r4]; rfl
theorem kg {q : Qd} {t : GR} (hq : DOk q) (ht : TOk t) : lv t (aQ q t) = lv t q := by
  obtain ⟨r1, r2, r3, r4⟩ := fV hq ht
  have h : ∀ x : Qd, ba x.c0 = (lv t q).1 → ba x.c1 = (lv t q).2 → x.c2 = zQ → lv t x = lv t q := by
    intro x e0 e1 e2
    have e3 : ba x.c2 = 0 := by rw [e2]; exact it.2
    have e4 : t.r = zQ → (lv t q).2 = 0 := fun e => by unfold lv; rw [if_pos e]
    conv => lhs; unfold lv
    split
    · rename_i e
      rw [e4 e] at e1
      refine Prod.ext ?_ ?_
      · simp only; rw [e0, e1, e3]; grind
      · simp only; rw [e4 e]
    · refine Prod.ext ?_ ?_
      · simp only; rw [e0, e3]; grind
      · simp only; rw [e1, e3]; grind
  exact h _ r2 r3 r4
theorem oc {p q : Qd} {t : GR} (hp : DOk p) (hq : DOk q) (ht : TOk t) : aQ p t = aQ q t ↔ lv t p = lv t q := by
  obtain ⟨r1, r2, r3, r4⟩ := fV hp ht
  obtain ⟨s1, s2, s3, s4⟩ := fV hq ht
  constructor
  · intro h; rw [← kg hp ht, ← kg hq ht, h]
  · intro h; exact qd_ext r1 s1 (by rw [r2, s2, h]) (by rw [r3, s3, h]) (by rw [r4, s4])
end Go.Sx
namespace Go.Sx
open Go Go.RowKit Go.Proofs
set_option maxRecDepth 100000
set_option maxHeartbeats 40000000
attribute [local irreducible] Code.wp wpList Rd Step ObS Ent
attribute [local irreducible] ar aO am au aA bG
theorem bld55 : BuildF Tryz.prog 55 [] [] := BuildF.of Tryz.zeroValue55 rfl Tryz.runUnderlying55 (by intro w; simp)
theorem bld80 : BuildF Tryz.prog 80 [] [] := BuildF.of Tryz.zeroValue80 rfl Tryz.runUnderlying80 (by intro w; simp)
theorem mS : SlT Tryz.prog 66 71 9 104 [.bool false, .string ⟨#[]⟩, .bool false, .string ⟨#[]⟩, .bool false, .string ⟨#[]⟩, .bool false, .string ⟨#[]⟩, .bool false] := ⟨Tryz.underlying66, Tryz.t71, _, Tryz.type71, rfl, rfl, rfl, rfl, rfl, by decide, by decide⟩
end Go.Sx
namespace Go.Sx
open Go Go.RowKit Go.Proofs
set_option maxRecDepth 100000
set_option maxHeartbeats 40000000
attribute [local irreducible] Code.wp wpList Rd Step ObS Ent
attribute [local irreducible] ar aO am au aA bG
def uc (x : List Int) (x8 : Nat) : Int :=
 0
def iM (x : List Int) (x8 : Nat) : Nx Nat Int :=
 bif (decide (((x8 : Nat) : Int) < ((x.length : Nat) : Int))) then
  bif ((gt x x8) != 0) then
   .ret (gt x x8)
  else
   .go (x8 + 1)
 else
  .out x8
def kq (x : List Int) : Int :=
 fin (bC (fun s => iM x s) ((x.length - 0) + 1) 0) (fun s => uc x s) (fun r => r)
theorem ub (x : List Int) (xv : Value) (w0 : World) (hxv : View w0 xv x) : Calls Tryz.prog 227 #[xv] w0 (dH w0 (.int .i64 (kq x)) (True)) := by
 refine enter (N := 18) (args := [xv]) Tryz.func227 rfl rfl ?_; intro ac h
 have hlenx := hxv.len
 obtain ⟨X1, hX1⟩ : ∃ X, bC (fun s => iM x s) ((x.length - 0) + 1) 0 = X := ⟨_, rfl⟩
 refine gz h <| (W) ?_; clear h ac; intro ac wo h
 refine wp_loop_ghost (fun n_ a_ w_ => ∃ (x8 : Nat), ((x.length - x8) < n_) ∧ (bC (fun s => iM x s) n_ x8 = X1) ∧ (x8 ≤ x.length) ∧ St w0 18 [(3, (.int .i64 0)), (6, xv), (7, (.int .i64 ((x.length : Nat) : Int))), (8, (.int .i64 ((x8 : Nat) : Int)))] [] a_ w_) ((x.length - 0) + 1) ⟨0, og, hX1, og, h.rs⟩ ?_
 clear h ac wo; rintro n1 ac wo ⟨x8, hm1, hL1, hx8, h⟩
 obtain ⟨m1, rfl⟩ : ∃ m, n1 = m + 1 := ⟨n1 - 1, by omega⟩
 refine gz h <| (ai) ?_ ?_ <;> clear h ac wo <;> intro ac wo h hc1
 ·
  have hd1 := of_decide_eq_true hc1
  refine gz h <| (ai) ?_ ?_ <;> clear h ac wo <;> intro ac wo h hc2
  ·
   have hq2 := hc2; try simp at hq2
   have hr1 := nt hL1 pt
   have hd : kq x = (gt x x8) := pt
   refine gz h <| (W) ?_; clear h ac wo; intro ac wo h
   exact (rt h) (h.retP (by rw [hd] <;> rfl) trivial)
  ·
   have hq2 := hc2; try simp at hq2
   refine gz h <| (W) ?_; clear h ac wo; intro ac wo h
   have hg := bQ hL1 pt
   exact aE ⟨m1, og, _, og, hg, og, h.re []⟩
 ·
  have hd1 := of_decide_eq_false hc1
  have hx1 := dM hL1 pt
  have hd : kq x = 0 := pt
  refine gz h <| (W) ?_; clear h ac wo; intro ac wo h
  exact (rt h) (h.retP (by rw [hd] <;> rfl) trivial)
attribute [irreducible] kq
end Go.Sx
