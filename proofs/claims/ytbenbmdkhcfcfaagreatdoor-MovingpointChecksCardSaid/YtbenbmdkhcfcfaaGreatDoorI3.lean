/- A part of the proof of movingpointChecks. -/
import Derived.Test.YtbenbmdkhcfcfaaGreatDoorI2
set_option linter.unusedVariables false
set_option linter.unusedSimpArgs false
namespace Go.Sx
def eA (a : GI) : Int := bif a.neg then -(a.mag : Int) else (a.mag : Int)
def IOk (a : GI) : Prop := a.mag = 0 → a.neg = false
theorem j6 (s : Bool) (m : Nat) : IOk (aC s m) := by
  intro h
  have h : m = 0 := h
  subst h
  cases s <;> rfl
theorem fl (s : Bool) (m : Nat) : eA (aC s m) = bif s then -(m : Int) else (m : Int) := by
  unfold eA aC
  by_cases h : m = 0
  · subst h; cases s <;> rfl
  · cases s <;> simp [h]
theorem ival_inj {a b : GI} (ha : IOk a) (hb : IOk b) (h : eA a = eA b) : a = b := by
  obtain ⟨s, m⟩ := a
  obtain ⟨r, n⟩ := b
  unfold eA at h
  unfold IOk at ha hb
  simp only at ha hb h
  cases s <;> cases r <;> simp only [cond_true, cond_false] at h
  · have : m = n := by omega
    rw [this]
  · have h1 : m = 0 := by omega
    have h2 : n = 0 := by omega
    exact absurd (hb h2) (by decide)
  · have h1 : m = 0 := by omega
    exact absurd (ha h1) (by decide)
  · have : m = n := by omega
    rw [this]
theorem mn (n : Int) : IOk (aw n) := by
  unfold IOk aw
  intro h
  have h : n.natAbs = 0 := h
  exact decide_eq_false (by omega)
theorem lz (n : Int) : eA (aw n) = n := by
  unfold eA aw
  by_cases h : n < 0
  · simp only [decide_eq_true h, cond_true]; omega
  · simp only [decide_eq_false h, cond_false]; omega
theorem rV (m : Nat) : 0 ≤ ((m : Nat) : Int).sign := by
  cases m with
  | zero => decide
  | succ m => exact Int.le_of_lt (by rw [Int.sign_eq_one_of_pos (by omega)]; decide)
theorem i9 (a : GI) : bK a = (eA a).sign := by
  obtain ⟨s, m⟩ := a
  unfold bK eA
  by_cases h : m = 0
  · subst h; cases s <;> rfl
  · rw [decide_eq_false h]
    cases s
    · exact (Int.sign_eq_one_of_pos (by show (0 : Int) < (m : Int); omega)).symm
    · exact (Int.sign_eq_neg_one_of_neg (by show -(m : Int) < 0; omega)).symm
theorem mm (a : GI) : eA (an a) = - eA a := by
  unfold an
  rw [fl]
  unfold eA
  cases a.neg <;> simp
theorem pM (a b : Nat) : aY a b = if a < b then -1 else if b < a then 1 else 0 := by
  unfold aY
  rcases Nat.lt_trichotomy a b with h | h | h
  · rw [show Nat.blt a b = true by rw [Nat.blt_eq]; exact h, cond_true, if_pos h]
  · subst h
    have h1 : Nat.blt a a = false := by
      cases e : Nat.blt a a with
      | false => rfl
      | true => rw [Nat.blt_eq] at e; omega
    rw [h1, Nat.beq_refl, if_neg (Nat.lt_irrefl _), if_neg (Nat.lt_irrefl _)]; rfl
  · have h1 : Nat.blt a b = false := by
      cases e : Nat.blt a b with
      | false => rfl
      | true => rw [Nat.blt_eq] at e; omega
    have h2 : Nat.beq a b = false := by
      cases e : Nat.beq a b with
      | false => rfl
      | true => have := Nat.eq_of_beq_eq_true e; omega
    rw [h1, h2, if_neg (by omega), if_pos h]; rfl
theorem Add_val (a b : GI) : eA (aE a b) = eA a + eA b := by
  obtain ⟨s, m⟩ := a
  obtain ⟨r, n⟩ := b
  unfold aE cr bS
  simp only [pM]
  cases s <;> cases r
  · show eA (aC false (m + n)) = (m : Int) + n
    rw [fl]; simp
  · show eA (bif decide (_ ≥ (0 : Int)) then aC false (m - n) else aC true (n - m)) = (m : Int) + -n
    split <;> rename_i h1
    · simp only [show decide ((-1 : Int) ≥ 0) = false from rfl, cond_false, fl, cond_true]; omega
    · split
      · simp only [show decide ((1 : Int) ≥ 0) = true from rfl, cond_true, fl, cond_false]; omega
      · simp only [show decide ((0 : Int) ≥ 0) = true from rfl, cond_true, fl, cond_false]; omega
  · show eA (bif decide (_ ≥ (0 : Int)) then aC true (m - n) else aC false (n - m)) = -(m : Int) + n
    split <;> rename_i h1
    · simp only [show decide ((-1 : Int) ≥ 0) = false from rfl, cond_false, fl, cond_true]; omega
    · split
      · simp only [show decide ((1 : Int) ≥ 0) = true from rfl, cond_true, fl, cond_false]; omega
      · simp only [show decide ((0 : Int) ≥ 0) = true from rfl, cond_true, fl, cond_false]; omega
  · show eA (aC true (m + n)) = -(m : Int) + -n
    rw [fl, cond_true]; omega
theorem Add_ok (a b : GI) : IOk (aE a b) := by
  unfold aE
  cases (a.neg == b.neg)
  · rw [cond_false]
    cases (decide ((aY a.mag b.mag) ≥ 0)) <;> exact j6 _ _
  · exact j6 _ _
theorem qL (a b : GI) : IOk (ab a b) := j6 _ _
theorem oR (a : GI) : IOk (an a) := j6 _ _
theorem ip (a b : GI) : eA (ab a b) = eA a * eA b := by
  obtain ⟨s, m⟩ := a
  obtain ⟨r, n⟩ := b
  unfold ab dQ
  rw [fl]
  unfold eA
  cases s <;> cases r <;> simp [Int.neg_mul, Int.mul_neg]
def icmp (a b : Int) : Int := if a < b then -1 else if b < a then 1 else 0
theorem rm (a b : Int) : bD a b = icmp a b := by
  unfold bD icmp eh
  rcases Int.lt_trichotomy a b with h | h | h
  · simp [h]
  · subst h; simp
  · simp [h, show ¬ a < b by omega]
theorem lA {a b : GI} (ha : IOk a) (hb : IOk b) : ce a b = icmp (eA a) (eA b) := by
  obtain ⟨s, m⟩ := a
  obtain ⟨r, n⟩ := b
  unfold ce
  rw [rm, i9, i9, pM]
  unfold eA icmp
  unfold IOk at ha hb
  simp only at ha hb
  cases s <;> cases r
  · simp only [bne_self_eq_false, cond_false]
    rcases Nat.lt_trichotomy m n with h | h | h
    · rw [if_pos h, if_pos (by omega)]
    · subst h; simp
    · rw [if_neg (by omega), if_pos h, if_neg (by omega), if_pos (by omega)]
  · have : n ≠ 0 := fun e => absurd (hb e) (by decide)
    have e1 : (-(n : Int)).sign = -1 := Int.sign_eq_neg_one_of_neg (by omega)
    have e2 : 0 ≤ (m : Int).sign := rV m
    show (if (m : Int).sign < (-(n : Int)).sign then (-1 : Int) else if (-(n : Int)).sign < (m : Int).sign then 1 else 0) = if (m : Int) < -(n : Int) then -1 else if -(n : Int) < (m : Int) then 1 else 0
    simp only [e1, if_neg (show ¬ (m : Int).sign < -1 by omega), if_pos (show (-1 : Int) < (m : Int).sign by omega), if_neg (show ¬ (m : Int) < -(n : Int) by omega), if_pos (show -(n : Int) < (m : Int) by omega)]
  · have : m ≠ 0 := fun e => absurd (ha e) (by decide)
    have e1 : (-(m : Int)).sign = -1 := Int.sign_eq_neg_one_of_neg (by omega)
    have e2 : 0 ≤ (n : Int).sign := rV n
    show (if (-(m : Int)).sign < (n : Int).sign then (-1 : Int) else if (n : Int).sign < (-(m : Int)).sign then 1 else 0) = if -(m : Int) < (n : Int) then -1 else if (n : Int) < -(m : Int) then 1 else 0
    simp only [e1, if_pos (show (-1 : Int) < (n : Int).sign by omega), if_pos (show -(m : Int) < (n : Int) by omega)]
  · simp only [bne_self_eq_false, cond_false, cond_true]
    rcases Nat.lt_trichotomy m n with h | h | h
    · rw [if_pos h, if_neg (by omega), if_pos (by omega)]; rfl
    · subst h; simp
    · rw [if_neg (by omega), if_pos h, if_pos (by omega)]
theorem jo (a : GI) : (eA a).natAbs = a.mag := by unfold eA; cases a.neg <;> simp
theorem qk {a b : GI} (hb : b.neg = false) (h0 : b.mag ≠ 0) (hd : b.mag ∣ a.mag) : aB a b = aC a.neg (a.mag / b.mag) := by
  unfold aB aF bc
  rw [decide_eq_false h0, cond_false, Nat.mod_eq_zero_of_dvd hd, hb]
  simp
def z0 : GI := ⟨false, 0⟩
def jl (x : GQ) : Nat := if x.den = z0 then 1 else x.den.mag
def QOk (x : GQ) : Prop := IOk x.num ∧ (x.den = z0 ∨ (x.den.neg = false ∧ 1 < x.den.mag)) ∧ Nat.Coprime x.num.mag (jl x)
def a6 (x : GQ) : Rat := (eA x.num : Rat) / (jl x : Rat)
theorem QOk.pos {x : GQ} (h : QOk x) : 0 < jl x := by
  unfold jl
  split
  · decide
  · rename_i e
    rcases h.2.1 with h1 | ⟨_, h1⟩
    · exact absurd h1 e
    · omega
theorem sf {x : GQ} (h : QOk x) : a6 x = ⟨eA x.num, jl x, Nat.ne_of_gt h.pos, by rw [jo]; exact h.2.2⟩ := by
  rw [Rat.mk_eq_mkRat, Rat.mkRat_eq_div]; rfl
theorem dK {x y : GQ} (hx : QOk x) (hy : QOk y) (h : a6 x = a6 y) : x = y := by
  rw [sf hx, sf hy] at h
  injection h with h1 h2
  obtain ⟨n, d⟩ := x
  obtain ⟨m, e⟩ := y
  have e1 : n = m := ival_inj hx.1 hy.1 h1
  have e2 : d = e := by
    unfold jl at h2
    have hx2 := hx.2.1
    have hy2 := hy.2.1
    simp only at h2 hx2 hy2
    by_cases c1 : d = z0
    · by_cases c2 : e = z0
      · rw [c1, c2]
      · rw [if_pos c1, if_neg c2] at h2
        rcases hy2 with h3 | ⟨_, h3⟩
        · exact absurd h3 c2
        · omega
    · by_cases c2 : e = z0
      · rw [if_neg c1, if_pos c2] at h2
        rcases hx2 with h3 | ⟨_, h3⟩
        · exact absurd h3 c1
        · omega
      · rw [if_neg c1, if_neg c2] at h2
        obtain ⟨a1, a2⟩ := hx2.resolve_left c1
        obtain ⟨b1, b2⟩ := hy2.resolve_left c2
        obtain ⟨s, p⟩ := d
        obtain ⟨r, q⟩ := e
        simp only at a1 b1 h2
        rw [a1, b1, h2]
  rw [e1, e2]
theorem pi : eA rational_one = 1 := lz 1
theorem iq {x : GQ} (h : QOk x) : eA (aa x) = jl x ∧ (aa x).neg = false := by
  unfold aa jl
  by_cases e : x.den = z0
  · rw [decide_eq_true (show x.den = ⟨false, 0⟩ from e), if_pos e]
    exact ⟨pi, rfl⟩
  · rw [decide_eq_false (show ¬ x.den = ⟨false, 0⟩ from e), if_neg e, cond_false]
    obtain ⟨h1, h2⟩ := h.2.1.resolve_left e
    refine ⟨?_, h1⟩
    unfold eA
    rw [h1]; rfl
theorem oM {n d : GI} (hn : IOk n) (hdn : d.neg = false) (hd : d.mag ≠ 0) :
    QOk (bif (decide ((aB d (aS n d)) = rational_one)) then (⟨(aB n (aS n d)), (⟨false, 0⟩ : GI)⟩ : GQ) else (⟨(aB n (aS n d)), (aB d (aS n d))⟩ : GQ)) ∧
    a6 (bif (decide ((aB d (aS n d)) = rational_one)) then (⟨(aB n (aS n d)), (⟨false, 0⟩ : GI)⟩ : GQ) else (⟨(aB n (aS n d)), (aB d (aS n d))⟩ : GQ)) = (eA n : Rat) / (d.mag : Rat) := by
  have hg : 0 < Nat.gcd n.mag d.mag := Nat.gcd_pos_of_pos_right _ (by omega)
  have q1 : aB d (aS n d) = aC false (d.mag / Nat.gcd n.mag d.mag) := by
    have := qk (a := d) (b := aS n d) rfl (by show Nat.gcd n.mag d.mag ≠ 0; omega) (Nat.gcd_dvd_right _ _)
    rw [hdn] at this
    exact this
  have q2 : aB n (aS n d) = aC n.neg (n.mag / Nat.gcd n.mag d.mag) :=
    qk (a := n) (b := aS n d) rfl (by show Nat.gcd n.mag d.mag ≠ 0; omega) (Nat.gcd_dvd_left _ _)
  rw [q1, q2]
  have hdp : 0 < d.mag / Nat.gcd n.mag d.mag := Nat.div_pos (Nat.le_of_dvd (by omega) (Nat.gcd_dvd_right _ _)) hg
  have hcop : Nat.Coprime (n.mag / Nat.gcd n.mag d.mag) (d.mag / Nat.gcd n.mag d.mag) := Nat.coprime_div_gcd_div_gcd hg
  have hval : (eA (aC n.neg (n.mag / Nat.gcd n.mag d.mag)) : Rat) / ((d.mag / Nat.gcd n.mag d.mag : Nat) : Rat) = (eA n : Rat) / (d.mag : Rat) := by
    have e1 : eA n = eA (aC n.neg (n.mag / Nat.gcd n.mag d.mag)) * (Nat.gcd n.mag d.mag : Int) := by
      rw [fl]
      have := Nat.div_mul_cancel (Nat.gcd_dvd_left n.mag d.mag)
      unfold eA
      cases n.neg
      · simp only [cond_false]; rw [← Int.natCast_mul, this]
      · simp only [cond_true]; rw [Int.neg_mul, ← Int.natCast_mul, this]
    have e2 : d.mag = (d.mag / Nat.gcd n.mag d.mag) * Nat.gcd n.mag d.mag := (Nat.div_mul_cancel (Nat.gcd_dvd_right n.mag d.mag)).symm
    have g0 : ((Nat.gcd n.mag d.mag : Nat) : Rat) ≠ 0 := by
      intro e
      have : Nat.gcd n.mag d.mag = 0 := by exact_mod_cast e
      omega
    have d0 : ((d.mag / Nat.gcd n.mag d.mag : Nat) : Rat) ≠ 0 := by
      intro e
      have : d.mag / Nat.gcd n.mag d.mag = 0 := by exact_mod_cast e
      omega
    rw [e1, Rat.intCast_mul, Rat.intCast_natCast]
    conv => rhs; rhs; rw [e2]
    rw [Rat.natCast_mul]
    grind
  by_cases e : d.mag / Nat.gcd n.mag d.mag = 1
  · have e' : aC false (d.mag / Nat.gcd n.mag d.mag) = rational_one := by rw [e]; rfl
    rw [decide_eq_true e', cond_true]
    refine ⟨⟨j6 _ _, .inl rfl, ?_⟩, ?_⟩
    · show Nat.Coprime (n.mag / Nat.gcd n.mag d.mag) 1; exact Nat.coprime_one_right _
    · rw [← hval, e]; rfl
  · have e' : ¬ aC false (d.mag / Nat.gcd n.mag d.mag) = rational_one := fun h => e (by
      have : (aC false (d.mag / Nat.gcd n.mag d.mag)).mag = rational_one.mag := by rw [h]
      exact this)
    rw [decide_eq_false e', cond_false]
    have ez : ¬ (aC false (d.mag / Nat.gcd n.mag d.mag)) = z0 := fun h => by
      have : (aC false (d.mag / Nat.gcd n.mag d.mag)).mag = z0.mag := by rw [h]
      have : d.mag / Nat.gcd n.mag d.mag = 0 := this
      omega
    have eq : jl (⟨aC n.neg (n.mag / Nat.gcd n.mag d.mag), aC false (d.mag / Nat.gcd n.mag d.mag)⟩ : GQ) = d.mag / Nat.gcd n.mag d.mag := if_neg ez
    refine ⟨⟨j6 _ _, .inr ⟨rfl, by show 1 < d.mag / Nat.gcd n.mag d.mag; omega⟩, ?_⟩, ?_⟩
    · rw [eq]; exact hcop
    · unfold a6
      rw [eq, ← hval]
theorem ng {n d : GI} (hn : IOk n) (hd : eA d ≠ 0) : QOk (aX n d) ∧ a6 (aX n d) = (eA n : Rat) / (eA d : Rat) := by
  have hm : d.mag ≠ 0 := fun e => hd (by unfold eA; rw [e]; cases d.neg <;> rfl)
  unfold aX
  rw [i9]
  cases hs : d.neg with
  | false =>
    have e : eA d = (d.mag : Int) := by unfold eA; rw [hs]; rfl
    rw [decide_eq_false (by rw [e]; have := rV d.mag; omega), cond_false, e, Rat.intCast_natCast]
    exact oM hn hs hm
  | true =>
    have e : eA d = -(d.mag : Int) := by unfold eA; rw [hs]; rfl
    rw [decide_eq_true (by rw [e, Int.sign_eq_neg_one_of_neg (by omega)]; decide), cond_true, e]
    have hN : (an d).neg = false := by
      unfold an aC; rw [hs]; rfl
    have hM : (an d).mag = d.mag := rfl
    obtain ⟨k1, k2⟩ := oM (oR n) hN (by rw [hM]; exact hm)
    refine ⟨k1, k2.trans ?_⟩
    rw [mm, hM, Rat.intCast_neg, Rat.intCast_neg, Rat.intCast_natCast]
    have d0 : (d.mag : Rat) ≠ 0 := by
      intro e
      have : d.mag = 0 := by exact_mod_cast e
      omega
    grind
theorem mD {x : GQ} (h : QOk x) : (jl x : Rat) ≠ 0 := by
  intro e
  have : jl x = 0 := by exact_mod_cast e
  have := h.pos
  omega
theorem mC {x : GQ} (h : QOk x) : (0 : Rat) < (jl x : Rat) := by
  have := h.pos
  exact_mod_cast this
theorem oF {x y : GQ} (hx : QOk x) (hy : QOk y) : ∃ D : Rat, 0 < D ∧ (eA (aO x y).1 : Rat) = a6 x * D ∧ (eA (aO x y).2.1 : Rat) = a6 y * D ∧ (eA (aO x y).2.2 : Rat) = D ∧ IOk (aO x y).1 ∧ IOk (aO x y).2.1 := by
  have h1 := mC hx
  have h2 := mC hy
  unfold aO
  by_cases e : x.den = y.den
  · rw [decide_eq_true e, cond_true]
    have e2 : jl x = jl y := by unfold jl; rw [e]
    refine ⟨jl x, h1, ?_, ?_, ?_, hx.1, hy.1⟩
    · unfold a6; show (eA x.num : Rat) = _; grind
    · unfold a6; rw [e2]; show (eA y.num : Rat) = _; grind
    · show (eA (aa x) : Rat) = _
      rw [(iq hx).1, Rat.intCast_natCast]
  · rw [decide_eq_false e, cond_false]
    refine ⟨(jl x : Rat) * (jl y : Rat), Rat.mul_pos h1 h2, ?_, ?_, ?_, qL _ _, qL _ _⟩
    · show (eA (ab x.num (aa y)) : Rat) = _
      rw [ip, Rat.intCast_mul, (iq hy).1, Rat.intCast_natCast]
      unfold a6; grind
    · show (eA (ab y.num (aa x)) : Rat) = _
      rw [ip, Rat.intCast_mul, (iq hx).1, Rat.intCast_natCast]
      unfold a6; grind
    · show (eA (ab (aa x) (aa y)) : Rat) = _
      rw [ip, Rat.intCast_mul, (iq hx).1, (iq hy).1, Rat.intCast_natCast, Rat.intCast_natCast]
theorem gm {x y : GQ} (hx : QOk x) (hy : QOk y) : QOk (au x y) ∧ a6 (au x y) = a6 x + a6 y := by
  obtain ⟨D, h0, h1, h2, h3, _, _⟩ := oF hx hy
  unfold au
  have hd : eA (aO x y).2.2 ≠ 0 := fun e => by
    rw [e] at h3
    have h4 : (0 : Rat) = D := h3
    grind
  obtain ⟨k1, k2⟩ := ng (Add_ok (aO x y).1 (aO x y).2.1) hd
  refine ⟨k1, ?_⟩
  rw [k2, Add_val, Rat.intCast_add, h1, h2, h3]
  grind
theorem eI {x y : GQ} (hx : QOk x) (hy : QOk y) : QOk (aj x y) ∧ a6 (aj x y) = a6 x * a6 y := by
  unfold aj
  have e1 := (iq hx).1
  have e2 := (iq hy).1
  have h1 := hx.pos
  have h2 := hy.pos
  have hd : eA (ab (aa x) (aa y)) ≠ 0 := by
    rw [ip, e1, e2, ← Int.natCast_mul]
    have := Nat.mul_pos h1 h2
    omega
  obtain ⟨k1, k2⟩ := ng (qL x.num y.num) hd
  refine ⟨k1, ?_⟩
  rw [k2, ip, ip, e1, e2]
  simp only [Rat.intCast_mul, Rat.intCast_natCast]
  have d1 := mD hx
  have d2 := mD hy
  unfold a6
  grind
theorem sD {x : GQ} (hx : QOk x) : QOk (aR x) ∧ a6 (aR x) = - a6 x := by
  refine ⟨⟨oR _, hx.2.1, hx.2.2⟩, ?_⟩
  unfold a6 aR
  show (eA (an x.num) : Rat) / (jl x : Rat) = _
  rw [mm, Rat.intCast_neg]
  grind
theorem eW {x y : GQ} (hx : QOk x) (hy : QOk y) : QOk (ah x y) ∧ a6 (ah x y) = a6 x - a6 y := by
  unfold ah
  obtain ⟨k1, k2⟩ := sD hy
  obtain ⟨k3, k4⟩ := gm hx k1
  refine ⟨k3, ?_⟩
  rw [k4, k2]; grind
theorem gY (n : Int) : QOk (ak n) ∧ a6 (ak n) = (n : Rat) := by
  refine ⟨⟨mn n, .inl rfl, Nat.coprime_one_right _⟩, ?_⟩
  unfold a6
  show (eA (aw n) : Rat) / ((1 : Nat) : Rat) = _
  rw [lz]
  grind
def rsgn (x : Rat) : Int := if x < 0 then -1 else if 0 < x then 1 else 0
theorem zero_ok : QOk ⟨z0, z0⟩ ∧ a6 ⟨z0, z0⟩ = 0 := gY 0
theorem jx {x : GQ} (hx : QOk x) : ar x = rsgn (a6 x) := by
  have h1 := mC hx
  have hm : (eA x.num : Rat) = a6 x * (jl x : Rat) := by unfold a6; grind
  unfold ar rsgn
  rw [i9]
  rcases Int.lt_trichotomy (eA x.num) 0 with h | h | h
  · rw [Int.sign_eq_neg_one_of_neg h]
    have h2 : (eA x.num : Rat) < 0 := by exact_mod_cast h
    rw [if_pos]
    rcases Rat.le_total (a := 0) (b := a6 x) with h3 | h3
    · have := Rat.mul_nonneg h3 (Rat.le_of_lt h1)
      grind
    · by_cases h4 : a6 x = 0
      · rw [h4] at hm; grind
      · grind
  · rw [h]
    have h2 : (eA x.num : Rat) = 0 := by rw [h]; rfl
    have h3 : a6 x = 0 := by unfold a6; rw [h2]; grind
    rw [h3, if_neg (by decide), if_neg (by decide)]; rfl
  · rw [Int.sign_eq_one_of_pos h]
    have h2 : (0 : Rat) < (eA x.num : Rat) := by exact_mod_cast h
    have h3 : 0 < a6 x := by
      rcases Rat.le_total (a := 0) (b := a6 x) with h3 | h3
      · by_cases h4 : a6 x = 0
        · rw [h4] at hm; grind
        · grind
      · have := Rat.mul_nonneg (a := - a6 x) (by grind) (Rat.le_of_lt h1)
        grind
    rw [if_neg (by grind), if_pos h3]
def rcmp (x y : Rat) : Int := if x < y then -1 else if y < x then 1 else 0
theorem pK {x y : GQ} (hx : QOk x) (hy : QOk y) : aU x y = rcmp (a6 x) (a6 y) := by
  unfold aU rcmp
  by_cases e : x = y
  · rw [decide_eq_true e, e]
    simp
  · rw [decide_eq_false e, cond_false]
    obtain ⟨D, h0, h1, h2, h3, k1, k2⟩ := oF hx hy
    rw [lA k1 k2]
    unfold icmp
    have key : ∀ a b : Int, ∀ p q : Rat, (a : Rat) = p * D → (b : Rat) = q * D → (a < b ↔ p < q) := by
      intro a b p q e1 e2
      rw [← Rat.intCast_lt_intCast, e1, e2]
      exact Rat.mul_lt_mul_right h0
    have i1 := key _ _ _ _ h1 h2
    have i2 := key _ _ _ _ h2 h1
    by_cases c1 : a6 x < a6 y
    · rw [if_pos c1, if_pos (i1.2 c1)]
    · rw [if_neg c1, if_neg (fun h => c1 (i1.1 h))]
      by_cases c2 : a6 y < a6 x
      · rw [if_pos c2, if_pos (i2.2 c2)]
      · rw [if_neg c2, if_neg (fun h => c2 (i2.1 h))]
end Go.Sx
namespace Go.Sx
def zQ : GQ := ⟨⟨false, 0⟩, ⟨false, 0⟩⟩
theorem gD : QOk zQ ∧ a6 zQ = 0 := zero_ok
def DOk (q : Qd) : Prop := QOk q.c0 ∧ QOk q.c1 ∧ QOk q.c2
def TOk (t : GR) : Prop := QOk t.p ∧ QOk t.r
def lv (t : GR) (q : Qd) : Rat × Rat :=
  if t.r = zQ then (a6 q.c0 + a6 t.p * (a6 q.c1 + a6 t.p * a6 q.c2), 0)
  else (a6 q.c0 + a6 q.c2 * (a6 t.r - a6 t.p * a6 t.p), a6 q.c1 + (a6 q.c2 + a6 q.c2) * a6 t.p)
theorem pI {q : Qd} {t : GQ} (hq : DOk q) (ht : QOk t) : QOk (aI q t) ∧ a6 (aI q t) = a6 q.c0 + a6 t * (a6 q.c1 + a6 t * a6 q.c2) := by
  obtain ⟨h0, h1, h2⟩ := hq
  unfold aI
  obtain ⟨a1, a2⟩ := eI ht h2
  obtain ⟨b1, b2⟩ := gm h1 a1
  obtain ⟨c1, c2⟩ := eI ht b1
  obtain ⟨d1, d2⟩ := gm h0 c1
  exact ⟨d1, by rw [d2, c2, b2, a2]⟩
theorem slope_ok {q : Qd} {t : GQ} (hq : DOk q) (ht : QOk t) : QOk (aN q t) ∧ a6 (aN q t) = a6 q.c1 + (a6 q.c2 + a6 q.c2) * a6 t := by
  obtain ⟨h0, h1, h2⟩ := hq
  unfold aN
  obtain ⟨a1, a2⟩ := gm h2 h2
  obtain ⟨b1, b2⟩ := eI a1 ht
  obtain ⟨c1, c2⟩ := gm h1 b1
  exact ⟨c1, by rw [c2, b2, a2]⟩
theorem rQ {p q : Qd} (hp : DOk p) (hq : DOk q) : DOk (cv p q) ∧ a6 (cv p q).c0 = a6 p.c0 - a6 q.c0 ∧ a6 (cv p q).c1 = a6 p.c1 - a6 q.c1 ∧ a6 (cv p q).c2 = a6 p.c2 - a6 q.c2 := by
  unfold cv
  obtain ⟨a1, a2⟩ := eW hp.1 hq.1
  obtain ⟨b1, b2⟩ := eW hp.2.1 hq.2.1
  obtain ⟨c1, c2⟩ := eW hp.2.2 hq.2.2
  exact ⟨⟨a1, b1, c1⟩, a2, b2, c2⟩
theorem gW {a b : GQ} (ha : QOk a) (hb : QOk b) : DOk (aG a b) ∧ (aG a b).c0 = a ∧ (aG a b).c1 = b ∧ (aG a b).c2 = zQ := by
  unfold aG
  exact ⟨⟨ha, hb, gD.1⟩, rfl, rfl, rfl⟩
theorem fi {q : Qd} {t : GR} (hq : DOk q) (ht : TOk t) : DOk (aQ q t) ∧ a6 (aQ q t).c0 = (lv t q).1 ∧ a6 (aQ q t).c1 = (lv t q).2 ∧ (aQ q t).c2 = zQ := by
  unfold aQ cu lv
  by_cases e : t.r = zQ
  · rw [decide_eq_true (show t.r = ⟨⟨false, 0⟩, ⟨false, 0⟩⟩ from e), if_pos e]
    obtain ⟨k1, k2⟩ := pI hq ht.1
    exact ⟨⟨k1, gD.1, gD.1⟩, k2, gD.2, rfl⟩
  · rw [decide_eq_false (show ¬ t.r = ⟨⟨false, 0⟩, ⟨false, 0⟩⟩ from e), if_neg e, Bool.not_false, cond_true, cond_false]
    obtain ⟨a1, a2⟩ := eI ht.1 ht.1
    obtain ⟨b1, b2⟩ := eW ht.2 a1
    obtain ⟨c1, c2⟩ := eI hq.2.2 b1
    obtain ⟨d1, d2⟩ := gm hq.1 c1
    obtain ⟨s1, s2⟩ := slope_ok hq ht.1
    obtain ⟨l1, l2, l3, l4⟩ := gW d1 s1
    exact ⟨l1, by rw [l2, d2, c2, b2, a2], by rw [l3, s2], l4⟩
theorem qd_ext {p q : Qd} (hp : DOk p) (hq : DOk q) (h0 : a6 p.c0 = a6 q.c0) (h1 : a6 p.c1 = a6 q.c1) (h2 : a6 p.c2 = a6 q.c2) : p = q := by
  have e0 := dK hp.1 hq.1 h0
  have e1 := dK hp.2.1 hq.2.1 h1
  have e2 := dK hp.2.2 hq.2.2 h2
  obtain ⟨a, b, c⟩ := p
  obtain ⟨x, y, z⟩ := q
  simp only at e0 e1 e2
  rw [e0, e1, e2]
theorem rl1 (a b c d e f p : Rat) : (a - b) + p * ((c - d) + p * (e - f)) = (a + p * (c + p * e)) - (b + p * (d + p * f)) := by grind
theorem rl2 (a b c d x : Rat) : (a - b) + (c - d) * x = (a + c * x) - (b + d * x) := by grind
theorem rl3 (a b c d x : Rat) : (a - b) + ((c - d) + (c - d)) * x = (a + (c + c) * x) - (b + (d + d) * x) := by grind
theorem lv_sub {p q : Qd} {t : GR} (hp : DOk p) (hq : DOk q) : lv t (cv p q) = ((lv t p).1 - (lv t q).1, (lv t p).2 - (lv t q).2) := by
  obtain ⟨_, e0, e1, e2⟩ := rQ hp hq
  unfold lv
  by_cases e : t.r = zQ
  · rw [if_pos e, if_pos e, if_pos e, e0, e1, e2, rl1]
    exact Prod.ext rfl (by show (0 : Rat) = 0 - 0; grind)
  · rw [if_neg e, if_neg e, if_neg e, e0, e1, e2, rl2, rl3]
theorem p9 {p q : Qd} {t : GR} (hp : DOk p) (hq : DOk q) (ht : TOk t) : eD p q t = true ↔ lv t p = lv t q := by
  unfold eD
  rw [decide_eq_true_eq]
  obtain ⟨k1, _⟩ := rQ hp hq
  obtain ⟨r1, r2, r3, r4⟩ := fi k1 ht
  rw [lv_sub hp hq] at r2 r3
  constructor
  · intro h
    rw [h] at r2 r3
    have z := gD.2
    unfold zQ at z
    refine Prod.ext ?_ ?_
    · simp only at r2; grind
    · simp only at r3; grind
  · intro h
    refine qd_ext r1 ⟨gD.1, gD.1, gD.1⟩ ?_ ?_ ?_
    · rw [r2, h]; show _ = a6 zQ; rw [gD.2]; grind
    · rw [r3, h]; show _ = a6 zQ; rw [gD.2]; grind
    · rw [r4]; rfl
theorem jF {q : Qd} {t : GR} (hq : DOk q) (ht : TOk t) : lv t (aQ q t) = lv t q := by
  obtain ⟨r1, r2, r3, r4⟩ := fi hq ht
  have h : ∀ x : Qd, a6 x.c0 = (lv t q).1 → a6 x.c1 = (lv t q).2 → x.c2 = zQ → lv t x = lv t q := by
    intro x e0 e1 e2
    have e3 : a6 x.c2 = 0 := by rw [e2]; exact gD.2
    have e4 : t.r = zQ → (lv t q).2 = 0 := fun e => by unfold lv; rw [if_pos e]
    conv => lhs; unfold lv
    split
    · rename_i e
      rw [e4 e] at e1
      refine Prod.ext ?_ ?_
      · simp only; rw [e0, e1, e3]; grind
      · simp only; rw [e4 e]
    · refine Prod.ext ?_ ?_
      · simp only; rw [e0, e3]; grind
      · simp only; rw [e1, e3]; grind
  exact h _ r2 r3 r4
theorem nB {p q : Qd} {t : GR} (hp : DOk p) (hq : DOk q) (ht : TOk t) : aQ p t = aQ q t ↔ lv t p = lv t q := by
  obtain ⟨r1, r2, r3, r4⟩ := fi hp ht
  obtain ⟨s1, s2, s3, s4⟩ := fi hq ht
  constructor
  · intro h; rw [← jF hp ht, ← jF hq ht, h]
  · intro h; exact qd_ext r1 s1 (by rw [r2, s2, h]) (by rw [r3, s3, h]) (by rw [r4, s4])
end Go.Sx
namespace Go.Sx
open Go Go.RowKit Go.Proofs
set_option maxRecDepth 100000
set_option maxHeartbeats 40000000
attribute [local irreducible] Code.wp wpList Rd Step ObS Ent
attribute [local irreducible] ao aM ak ar aA bD
theorem bld206 : BuildF Tryz.prog 206 [.bool false, .string ⟨#[]⟩, .bool false, .string ⟨#[]⟩, .bool false, .string ⟨#[]⟩, .bool false, .string ⟨#[]⟩, .bool false, .bool false] [(0, 9), (9, 1)] := BuildF.of Tryz.zeroValue206 rfl Tryz.runUnderlying206 (by intro w; simp [Tryz.sizeOf4, Tryz.sizeOf71])
theorem bld55 : BuildF Tryz.prog 55 [] [] := BuildF.of Tryz.zeroValue55 rfl Tryz.runUnderlying55 (by intro w; simp)
theorem bld80 : BuildF Tryz.prog 80 [] [] := BuildF.of Tryz.zeroValue80 rfl Tryz.runUnderlying80 (by intro w; simp)
theorem ms : SlT Tryz.prog 66 71 9 104 [.bool false, .string ⟨#[]⟩, .bool false, .string ⟨#[]⟩, .bool false, .string ⟨#[]⟩, .bool false, .string ⟨#[]⟩, .bool false] := ⟨Tryz.underlying66, Tryz.t71, _, Tryz.type71, rfl, rfl, rfl, rfl, rfl, by decide, by decide⟩
end Go.Sx
namespace Go.Sx
open Go Go.RowKit Go.Proofs
set_option maxRecDepth 100000
set_option maxHeartbeats 40000000
attribute [local irreducible] Code.wp wpList Rd Step ObS Ent
attribute [local irreducible] ao aM ak ar aA bD
def tC (x : List Int) (x8 : Nat) : Int :=
 0
def g7 (x : List Int) (x8 : Nat) : Nx Nat Int :=
 bif (decide (((x8 : Nat) : Int) < ((x.length : Nat) : Int))) then
  bif ((gt x x8) != 0) then
   .ret (gt x x8)
  else
   .go (x8 + 1)
 else
  .out x8
def jQ (x : List Int) : Int :=
 fin (de (fun s => g7 x s) ((x.length - 0) + 1) 0) (fun s => tC x s) (fun r => r)
theorem tB (x : List Int) (xv : Value) (w0 : World) (hxv : View w0 xv x) : Calls Tryz.prog 227 #[xv] w0 (cq w0 (.int .i64 (jQ x)) (True)) := by
 refine enter (N := 18) (args := [xv]) Tryz.func227 rfl rfl ?_; intro ac h
 have hlenx := hxv.len
 obtain ⟨X1, hX1⟩ : ∃ X, de (fun s => g7 x s) ((x.length - 0) + 1) 0 = X := ⟨_, rfl⟩
 refine gz h <| (W) ?_; clear h ac; intro ac wo h
 refine wp_loop_ghost (fun n_ a_ w_ => ∃ (x8 : Nat), ((x.length - x8) < n_) ∧ (de (fun s => g7 x s) n_ x8 = X1) ∧ (x8 ≤ x.length) ∧ St w0 18 [(3, (.int .i64 0)), (6, xv), (7, (.int .i64 ((x.length : Nat) : Int))), (8, (.int .i64 ((x8 : Nat) : Int)))] [] a_ w_) ((x.length - 0) + 1) ⟨0, og, hX1, og, h.rs⟩ ?_
 clear h ac wo; rintro n1 ac wo ⟨x8, hm1, hL1, hx8, h⟩
 obtain ⟨m1, rfl⟩ : ∃ m, n1 = m + 1 := ⟨n1 - 1, by omega⟩
 refine gz h <| (ai) ?_ ?_ <;> clear h ac wo <;> intro ac wo h hc1
 ·
  have hd1 := of_decide_eq_true hc1
  refine gz h <| (ai) ?_ ?_ <;> clear h ac wo <;> intro ac wo h hc2
  ·
   have hq2 := hc2; try simp at hq2
   have hr1 := qr hL1 pt
   have hd : jQ x = (gt x x8) := pt
   refine gz h <| (W) ?_; clear h ac wo; intro ac wo h
   exact (rt h) (h.retP (by rw [hd] <;> rfl) trivial)
  ·
   have hq2 := hc2; try simp at hq2
   refine gz h <| (W) ?_; clear h ac wo; intro ac wo h
   have hg := d8 hL1 pt
   exact aL ⟨m1, og, _, og, hg, og, h.re []⟩
 ·
  have hd1 := of_decide_eq_false hc1
  have hx1 := gA hL1 pt
  have hd : jQ x = 0 := pt
  refine gz h <| (W) ?_; clear h ac wo; intro ac wo h
  exact (rt h) (h.retP (by rw [hd] <;> rfl) trivial)
attribute [irreducible] jQ
end Go.Sx
