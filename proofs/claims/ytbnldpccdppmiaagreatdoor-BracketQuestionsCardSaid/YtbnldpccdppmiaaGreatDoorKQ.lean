/- A part of the proof that the law BracketQuestions/Checks answers true at every input and leaves its arguments as they were. -/
import Derived.Test.YtbnldpccdppmiaaGreatDoorGarith
set_option linter.unusedVariables false
set_option linter.unusedSimpArgs false
namespace Go.Sx
def fx (a : GI) : Int := bif a.neg then -(a.mag : Int) else (a.mag : Int)
def IOk (a : GI) : Prop := a.mag = 0 → a.neg = false
theorem jN (s : Bool) (m : Nat) : IOk (aB s m) := by
  intro h
  have h : m = 0 := h
  subst h
  cases s <;> rfl
theorem fl (s : Bool) (m : Nat) : fx (aB s m) = bif s then -(m : Int) else (m : Int) := by
  unfold fx aB
  by_cases h : m = 0
  · subst h; cases s <;> rfl
  · cases s <;> simp [h]
theorem ival_inj {a b : GI} (ha : IOk a) (hb : IOk b) (h : fx a = fx b) : a = b := by
  obtain ⟨s, m⟩ := a
  obtain ⟨r, n⟩ := b
  unfold fx at h
  unfold IOk at ha hb
  simp only at ha hb h
  cases s <;> cases r <;> simp only [cond_true, cond_false] at h
  · have : m = n := by omega
    rw [this]
  · have h1 : m = 0 := by omega
    have h2 : n = 0 := by omega
    exact absurd (hb h2) (by decide)
  · have h1 : m = 0 := by omega
    exact absurd (ha h1) (by decide)
  · have : m = n := by omega
    rw [this]
theorem ll (n : Int) : IOk (aK n) := by
  unfold IOk aK
  intro h
  have h : n.natAbs = 0 := h
  exact decide_eq_false (by omega)
theorem fN (n : Int) : fx (aK n) = n := by
  unfold fx aK
  by_cases h : n < 0
  · simp only [decide_eq_true h, cond_true]; omega
  · simp only [decide_eq_false h, cond_false]; omega
theorem sgn_nn (m : Nat) : 0 ≤ ((m : Nat) : Int).sign := by
  cases m with
  | zero => decide
  | succ m => exact Int.le_of_lt (by rw [Int.sign_eq_one_of_pos (by omega)]; decide)
theorem nN (a : GI) : bY a = (fx a).sign := by
  obtain ⟨s, m⟩ := a
  unfold bY fx
  by_cases h : m = 0
  · subst h; cases s <;> rfl
  · rw [decide_eq_false h]
    cases s
    · exact (Int.sign_eq_one_of_pos (by show (0 : Int) < (m : Int); omega)).symm
    · exact (Int.sign_eq_neg_one_of_neg (by show -(m : Int) < 0; omega)).symm
theorem lk (a : GI) : fx (ak a) = - fx a := by
  unfold ak
  rw [fl]
  unfold fx
  cases a.neg <;> simp
theorem cmp_val (a b : Nat) : a6 a b = if a < b then -1 else if b < a then 1 else 0 := by
  unfold a6
  rcases Nat.lt_trichotomy a b with h | h | h
  · rw [show Nat.blt a b = true by rw [Nat.blt_eq]; exact h, cond_true, if_pos h]
  · subst h
    have h1 : Nat.blt a a = false := by
      cases e : Nat.blt a a with
      | false => rfl
      | true => rw [Nat.blt_eq] at e; omega
    rw [h1, Nat.beq_refl, if_neg (Nat.lt_irrefl _), if_neg (Nat.lt_irrefl _)]; rfl
  · have h1 : Nat.blt a b = false := by
      cases e : Nat.blt a b with
      | false => rfl
      | true => rw [Nat.blt_eq] at e; omega
    have h2 : Nat.beq a b = false := by
      cases e : Nat.beq a b with
      | false => rfl
      | true => have := Nat.eq_of_beq_eq_true e; omega
    rw [h1, h2, if_neg (by omega), if_pos h]; rfl
theorem Add_val (a b : GI) : fx (dD a b) = fx a + fx b := by
  obtain ⟨s, m⟩ := a
  obtain ⟨r, n⟩ := b
  unfold dD bA bX
  simp only [cmp_val]
  cases s <;> cases r
  · show fx (aB false (m + n)) = (m : Int) + n
    rw [fl]; simp
  · show fx (bif decide (_ ≥ (0 : Int)) then aB false (m - n) else aB true (n - m)) = (m : Int) + -n
    split <;> rename_i h1
    · simp only [show decide ((-1 : Int) ≥ 0) = false from rfl, cond_false, fl, cond_true]; omega
    · split
      · simp only [show decide ((1 : Int) ≥ 0) = true from rfl, cond_true, fl, cond_false]; omega
      · simp only [show decide ((0 : Int) ≥ 0) = true from rfl, cond_true, fl, cond_false]; omega
  · show fx (bif decide (_ ≥ (0 : Int)) then aB true (m - n) else aB false (n - m)) = -(m : Int) + n
    split <;> rename_i h1
    · simp only [show decide ((-1 : Int) ≥ 0) = false from rfl, cond_false, fl, cond_true]; omega
    · split
      · simp only [show decide ((1 : Int) ≥ 0) = true from rfl, cond_true, fl, cond_false]; omega
      · simp only [show decide ((0 : Int) ≥ 0) = true from rfl, cond_true, fl, cond_false]; omega
  · show fx (aB true (m + n)) = -(m : Int) + -n
    rw [fl, cond_true]; omega
theorem Add_ok (a b : GI) : IOk (dD a b) := by
  unfold dD
  cases (a.neg == b.neg)
  · rw [cond_false]
    cases (decide ((a6 a.mag b.mag) ≥ 0)) <;> exact jN _ _
  · exact jN _ _
theorem Mul_ok (a b : GI) : IOk (br a b) := jN _ _
theorem mF (a : GI) : IOk (ak a) := jN _ _
theorem m7 (a b : GI) : fx (br a b) = fx a * fx b := by
  obtain ⟨s, m⟩ := a
  obtain ⟨r, n⟩ := b
  unfold br db
  rw [fl]
  unfold fx
  cases s <;> cases r <;> simp [Int.neg_mul, Int.mul_neg]
theorem mS (a : GI) : (fx a).natAbs = a.mag := by unfold fx; cases a.neg <;> simp
theorem nh {a b : GI} (hb : b.neg = false) (h0 : b.mag ≠ 0) (hd : b.mag ∣ a.mag) : ar a b = aB a.neg (a.mag / b.mag) := by
  unfold ar cv aG
  rw [decide_eq_false h0, cond_false, Nat.mod_eq_zero_of_dvd hd, hb]
  simp
def z0 : GI := ⟨false, 0⟩
def mg (x : GQ) : Nat := if x.den = z0 then 1 else x.den.mag
def QOk (x : GQ) : Prop := IOk x.num ∧ (x.den = z0 ∨ (x.den.neg = false ∧ 1 < x.den.mag)) ∧ Nat.Coprime x.num.mag (mg x)
def ke (x : GQ) : Rat := (fx x.num : Rat) / (mg x : Rat)
theorem QOk.pos {x : GQ} (h : QOk x) : 0 < mg x := by
  unfold mg
  split
  · decide
  · rename_i e
    rcases h.2.1 with h1 | ⟨_, h1⟩
    · exact absurd h1 e
    · omega
theorem pa {x : GQ} (h : QOk x) : ke x = ⟨fx x.num, mg x, Nat.ne_of_gt h.pos, by rw [mS]; exact h.2.2⟩ := by
  rw [Rat.mk_eq_mkRat, Rat.mkRat_eq_div]; rfl
theorem ng {x y : GQ} (hx : QOk x) (hy : QOk y) (h : ke x = ke y) : x = y := by
  rw [pa hx, pa hy] at h
  injection h with h1 h2
  obtain ⟨n, d⟩ := x
  obtain ⟨m, e⟩ := y
  have e1 : n = m := ival_inj hx.1 hy.1 h1
  have e2 : d = e := by
    unfold mg at h2
    have hx2 := hx.2.1
    have hy2 := hy.2.1
    simp only at h2 hx2 hy2
    by_cases c1 : d = z0
    · by_cases c2 : e = z0
      · rw [c1, c2]
      · rw [if_pos c1, if_neg c2] at h2
        rcases hy2 with h3 | ⟨_, h3⟩
        · exact absurd h3 c2
        · omega
    · by_cases c2 : e = z0
      · rw [if_neg c1, if_pos c2] at h2
        rcases hx2 with h3 | ⟨_, h3⟩
        · exact absurd h3 c1
        · omega
      · rw [if_neg c1, if_neg c2] at h2
        obtain ⟨a1, a2⟩ := hx2.resolve_left c1
        obtain ⟨b1, b2⟩ := hy2.resolve_left c2
        obtain ⟨s, p⟩ := d
        obtain ⟨r, q⟩ := e
        simp only at a1 b1 h2
        rw [a1, b1, h2]
  rw [e1, e2]
theorem one_val : fx rational_one = 1 := fN 1
theorem kS {x : GQ} (h : QOk x) : fx (aA x) = mg x ∧ (aA x).neg = false := by
  unfold aA mg
  by_cases e : x.den = z0
  · rw [decide_eq_true (show x.den = ⟨false, 0⟩ from e), if_pos e]
    exact ⟨one_val, rfl⟩
  · rw [decide_eq_false (show ¬ x.den = ⟨false, 0⟩ from e), if_neg e, cond_false]
    obtain ⟨h1, h2⟩ := h.2.1.resolve_left e
    refine ⟨?_, h1⟩
    unfold fx
    rw [h1]; rfl
theorem mB {n d : GI} (hn : IOk n) (hdn : d.neg = false) (hd : d.mag ≠ 0) :
    QOk (bif (decide ((ar d (az n d)) = rational_one)) then (⟨(ar n (az n d)), (⟨false, 0⟩ : GI)⟩ : GQ) else (⟨(ar n (az n d)), (ar d (az n d))⟩ : GQ)) ∧
    ke (bif (decide ((ar d (az n d)) = rational_one)) then (⟨(ar n (az n d)), (⟨false, 0⟩ : GI)⟩ : GQ) else (⟨(ar n (az n d)), (ar d (az n d))⟩ : GQ)) = (fx n : Rat) / (d.mag : Rat) := by
  have hg : 0 < Nat.gcd n.mag d.mag := Nat.gcd_pos_of_pos_right _ (by omega)
  have q1 : ar d (az n d) = aB false (d.mag / Nat.gcd n.mag d.mag) := by
    have := nh (a := d) (b := az n d) rfl (by show Nat.gcd n.mag d.mag ≠ 0; omega) (Nat.gcd_dvd_right _ _)
    rw [hdn] at this
    exact this
  have q2 : ar n (az n d) = aB n.neg (n.mag / Nat.gcd n.mag d.mag) :=
    nh (a := n) (b := az n d) rfl (by show Nat.gcd n.mag d.mag ≠ 0; omega) (Nat.gcd_dvd_left _ _)
  rw [q1, q2]
  have hdp : 0 < d.mag / Nat.gcd n.mag d.mag := Nat.div_pos (Nat.le_of_dvd (by omega) (Nat.gcd_dvd_right _ _)) hg
  have hcop : Nat.Coprime (n.mag / Nat.gcd n.mag d.mag) (d.mag / Nat.gcd n.mag d.mag) := Nat.coprime_div_gcd_div_gcd hg
  have hval : (fx (aB n.neg (n.mag / Nat.gcd n.mag d.mag)) : Rat) / ((d.mag / Nat.gcd n.mag d.mag : Nat) : Rat) = (fx n : Rat) / (d.mag : Rat) := by
    have e1 : fx n = fx (aB n.neg (n.mag / Nat.gcd n.mag d.mag)) * (Nat.gcd n.mag d.mag : Int) := by
      rw [fl]
      have := Nat.div_mul_cancel (Nat.gcd_dvd_left n.mag d.mag)
      unfold fx
      cases n.neg
      · simp only [cond_false]; rw [← Int.natCast_mul, this]
      · simp only [cond_true]; rw [Int.neg_mul, ← Int.natCast_mul, this]
    have e2 : d.mag = (d.mag / Nat.gcd n.mag d.mag) * Nat.gcd n.mag d.mag := (Nat.div_mul_cancel (Nat.gcd_dvd_right n.mag d.mag)).symm
    have g0 : ((Nat.gcd n.mag d.mag : Nat) : Rat) ≠ 0 := by
      intro e
      have : Nat.gcd n.mag d.mag = 0 := by exact_mod_cast e
      omega
    have d0 : ((d.mag / Nat.gcd n.mag d.mag : Nat) : Rat) ≠ 0 := by
      intro e
      have : d.mag / Nat.gcd n.mag d.mag = 0 := by exact_mod_cast e
      omega
    rw [e1, Rat.intCast_mul, Rat.intCast_natCast]
    conv => rhs; rhs; rw [e2]
    rw [Rat.natCast_mul]
    grind
  by_cases e : d.mag / Nat.gcd n.mag d.mag = 1
  · have e' : aB false (d.mag / Nat.gcd n.mag d.mag) = rational_one := by rw [e]; rfl
    rw [decide_eq_true e', cond_true]
    refine ⟨⟨jN _ _, .inl rfl, ?_⟩, ?_⟩
    · show Nat.Coprime (n.mag / Nat.gcd n.mag d.mag) 1; exact Nat.coprime_one_right _
    · rw [← hval, e]; rfl
  · have e' : ¬ aB false (d.mag / Nat.gcd n.mag d.mag) = rational_one := fun h => e (by
      have : (aB false (d.mag / Nat.gcd n.mag d.mag)).mag = rational_one.mag := by rw [h]
      exact this)
    rw [decide_eq_false e', cond_false]
    have ez : ¬ (aB false (d.mag / Nat.gcd n.mag d.mag)) = z0 := fun h => by
      have : (aB false (d.mag / Nat.gcd n.mag d.mag)).mag = z0.mag := by rw [h]
      have : d.mag / Nat.gcd n.mag d.mag = 0 := this
      omega
    have eq : mg (⟨aB n.neg (n.mag / Nat.gcd n.mag d.mag), aB false (d.mag / Nat.gcd n.mag d.mag)⟩ : GQ) = d.mag / Nat.gcd n.mag d.mag := if_neg ez
    refine ⟨⟨jN _ _, .inr ⟨rfl, by show 1 < d.mag / Nat.gcd n.mag d.mag; omega⟩, ?_⟩, ?_⟩
    · rw [eq]; exact hcop
    · unfold ke
      rw [eq, ← hval]
theorem nJ {n d : GI} (hn : IOk n) (hd : fx d ≠ 0) : QOk (a7 n d) ∧ ke (a7 n d) = (fx n : Rat) / (fx d : Rat) := by
  have hm : d.mag ≠ 0 := fun e => hd (by unfold fx; rw [e]; cases d.neg <;> rfl)
  unfold a7
  rw [nN]
  cases hs : d.neg with
  | false =>
    have e : fx d = (d.mag : Int) := by unfold fx; rw [hs]; rfl
    rw [decide_eq_false (by rw [e]; have := sgn_nn d.mag; omega), cond_false, e, Rat.intCast_natCast]
    exact mB hn hs hm
  | true =>
    have e : fx d = -(d.mag : Int) := by unfold fx; rw [hs]; rfl
    rw [decide_eq_true (by rw [e, Int.sign_eq_neg_one_of_neg (by omega)]; decide), cond_true, e]
    have hN : (ak d).neg = false := by
      unfold ak aB; rw [hs]; rfl
    have hM : (ak d).mag = d.mag := rfl
    obtain ⟨k1, k2⟩ := mB (mF n) hN (by rw [hM]; exact hm)
    refine ⟨k1, k2.trans ?_⟩
    rw [lk, hM, Rat.intCast_neg, Rat.intCast_neg, Rat.intCast_natCast]
    have d0 : (d.mag : Rat) ≠ 0 := by
      intro e
      have : d.mag = 0 := by exact_mod_cast e
      omega
    grind
theorem ni {x : GQ} (h : QOk x) : (0 : Rat) < (mg x : Rat) := by
  have := h.pos
  exact_mod_cast this
theorem pJ {x y : GQ} (hx : QOk x) (hy : QOk y) : ∃ D : Rat, 0 < D ∧ (fx (aC x y).1 : Rat) = ke x * D ∧ (fx (aC x y).2.1 : Rat) = ke y * D ∧ (fx (aC x y).2.2 : Rat) = D ∧ IOk (aC x y).1 ∧ IOk (aC x y).2.1 := by
  have h1 := ni hx
  have h2 := ni hy
  unfold aC
  by_cases e : x.den = y.den
  · rw [decide_eq_true e, cond_true]
    have e2 : mg x = mg y := by unfold mg; rw [e]
    refine ⟨mg x, h1, ?_, ?_, ?_, hx.1, hy.1⟩
    · unfold ke; show (fx x.num : Rat) = _; grind
    · unfold ke; rw [e2]; show (fx y.num : Rat) = _; grind
    · show (fx (aA x) : Rat) = _
      rw [(kS hx).1, Rat.intCast_natCast]
  · rw [decide_eq_false e, cond_false]
    refine ⟨(mg x : Rat) * (mg y : Rat), Rat.mul_pos h1 h2, ?_, ?_, ?_, Mul_ok _ _, Mul_ok _ _⟩
    · show (fx (br x.num (aA y)) : Rat) = _
      rw [m7, Rat.intCast_mul, (kS hy).1, Rat.intCast_natCast]
      unfold ke; grind
    · show (fx (br y.num (aA x)) : Rat) = _
      rw [m7, Rat.intCast_mul, (kS hx).1, Rat.intCast_natCast]
      unfold ke; grind
    · show (fx (br (aA x) (aA y)) : Rat) = _
      rw [m7, Rat.intCast_mul, (kS hx).1, (kS hy).1, Rat.intCast_natCast, Rat.intCast_natCast]
theorem add_ok {x y : GQ} (hx : QOk x) (hy : QOk y) : QOk (bt x y) ∧ ke (bt x y) = ke x + ke y := by
  obtain ⟨D, h0, h1, h2, h3, _, _⟩ := pJ hx hy
  unfold bt
  have hd : fx (aC x y).2.2 ≠ 0 := fun e => by
    rw [e] at h3
    have h4 : (0 : Rat) = D := h3
    grind
  obtain ⟨k1, k2⟩ := nJ (Add_ok (aC x y).1 (aC x y).2.1) hd
  refine ⟨k1, ?_⟩
  rw [k2, Add_val, Rat.intCast_add, h1, h2, h3]
  grind
theorem neg_ok {x : GQ} (hx : QOk x) : QOk (bC x) ∧ ke (bC x) = - ke x := by
  refine ⟨⟨mF _, hx.2.1, hx.2.2⟩, ?_⟩
  unfold ke bC
  show (fx (ak x.num) : Rat) / (mg x : Rat) = _
  rw [lk, Rat.intCast_neg]
  grind
theorem sub_ok {x y : GQ} (hx : QOk x) (hy : QOk y) : QOk (ax x y) ∧ ke (ax x y) = ke x - ke y := by
  unfold ax
  obtain ⟨k1, k2⟩ := neg_ok hy
  obtain ⟨k3, k4⟩ := add_ok hx k1
  refine ⟨k3, ?_⟩
  rw [k4, k2]; grind
theorem jP (n : Int) : QOk (an n) ∧ ke (an n) = (n : Rat) := by
  refine ⟨⟨ll n, .inl rfl, Nat.coprime_one_right _⟩, ?_⟩
  unfold ke
  show (fx (aK n) : Rat) / ((1 : Nat) : Rat) = _
  rw [fN]
  grind
end Go.Sx
