/- A part of the proof of movingpointRestricts. -/
import Derived.Test.YtbenbmdkhcfcfaaGreatDoorL6
set_option linter.unusedVariables false
set_option linter.unusedSimpArgs false
namespace Go.Sx
def fc (a : GI) : Int := bif a.neg then -(a.mag : Int) else (a.mag : Int)
def IOk (a : GI) : Prop := a.mag = 0 → a.neg = false
theorem lE (s : Bool) (m : Nat) : IOk (aF s m) := by
  intro h
  have h : m = 0 := h
  subst h
  cases s <;> rfl
theorem gi (s : Bool) (m : Nat) : fc (aF s m) = bif s then -(m : Int) else (m : Int) := by
  unfold fc aF
  by_cases h : m = 0
  · subst h; cases s <;> rfl
  · cases s <;> simp [h]
theorem su {a b : GI} (ha : IOk a) (hb : IOk b) (h : fc a = fc b) : a = b := by
  obtain ⟨s, m⟩ := a
  obtain ⟨r, n⟩ := b
  unfold fc at h
  unfold IOk at ha hb
  simp only at ha hb h
  cases s <;> cases r <;> simp only [cond_true, cond_false] at h
  · have : m = n := by omega
    rw [this]
  · have h1 : m = 0 := by omega
    have h2 : n = 0 := by omega
    exact absurd (hb h2) (by decide)
  · have h1 : m = 0 := by omega
    exact absurd (ha h1) (by decide)
  · have : m = n := by omega
    rw [this]
theorem j5 (n : Int) : IOk (ax n) := by
  unfold IOk ax
  intro h
  have h : n.natAbs = 0 := h
  exact decide_eq_false (by omega)
theorem eW (n : Int) : fc (ax n) = n := by
  unfold fc ax
  by_cases h : n < 0
  · simp only [decide_eq_true h, cond_true]; omega
  · simp only [decide_eq_false h, cond_false]; omega
theorem uu (m : Nat) : 0 ≤ ((m : Nat) : Int).sign := by
  cases m with
  | zero => decide
  | succ m => exact Int.le_of_lt (by rw [Int.sign_eq_one_of_pos (by omega)]; decide)
theorem jp (a : GI) : bR a = (fc a).sign := by
  obtain ⟨s, m⟩ := a
  unfold bR fc
  by_cases h : m = 0
  · subst h; cases s <;> rfl
  · rw [decide_eq_false h]
    cases s
    · exact (Int.sign_eq_one_of_pos (by show (0 : Int) < (m : Int); omega)).symm
    · exact (Int.sign_eq_neg_one_of_neg (by show -(m : Int) < 0; omega)).symm
theorem n9 (a : GI) : fc (ao a) = - fc a := by
  unfold ao
  rw [gi]
  unfold fc
  cases a.neg <;> simp
theorem rL (a b : Nat) : ba a b = if a < b then -1 else if b < a then 1 else 0 := by
  unfold ba
  rcases Nat.lt_trichotomy a b with h | h | h
  · rw [show Nat.blt a b = true by rw [Nat.blt_eq]; exact h, cond_true, if_pos h]
  · subst h
    have h1 : Nat.blt a a = false := by
      cases e : Nat.blt a a with
      | false => rfl
      | true => rw [Nat.blt_eq] at e; omega
    rw [h1, Nat.beq_refl, if_neg (Nat.lt_irrefl _), if_neg (Nat.lt_irrefl _)]; rfl
  · have h1 : Nat.blt a b = false := by
      cases e : Nat.blt a b with
      | false => rfl
      | true => rw [Nat.blt_eq] at e; omega
    have h2 : Nat.beq a b = false := by
      cases e : Nat.beq a b with
      | false => rfl
      | true => have := Nat.eq_of_beq_eq_true e; omega
    rw [h1, h2, if_neg (by omega), if_pos h]; rfl
theorem Add_val (a b : GI) : fc (aI a b) = fc a + fc b := by
  obtain ⟨s, m⟩ := a
  obtain ⟨r, n⟩ := b
  unfold aI dr cK
  simp only [rL]
  cases s <;> cases r
  · show fc (aF false (m + n)) = (m : Int) + n
    rw [gi]; simp
  · show fc (bif decide (_ ≥ (0 : Int)) then aF false (m - n) else aF true (n - m)) = (m : Int) + -n
    split <;> rename_i h1
    · simp only [show decide ((-1 : Int) ≥ 0) = false from rfl, cond_false, gi, cond_true]; omega
    · split
      · simp only [show decide ((1 : Int) ≥ 0) = true from rfl, cond_true, gi, cond_false]; omega
      · simp only [show decide ((0 : Int) ≥ 0) = true from rfl, cond_true, gi, cond_false]; omega
  · show fc (bif decide (_ ≥ (0 : Int)) then aF true (m - n) else aF false (n - m)) = -(m : Int) + n
    split <;> rename_i h1
    · simp only [show decide ((-1 : Int) ≥ 0) = false from rfl, cond_false, gi, cond_true]; omega
    · split
      · simp only [show decide ((1 : Int) ≥ 0) = true from rfl, cond_true, gi, cond_false]; omega
      · simp only [show decide ((0 : Int) ≥ 0) = true from rfl, cond_true, gi, cond_false]; omega
  · show fc (aF true (m + n)) = -(m : Int) + -n
    rw [gi, cond_true]; omega
theorem Add_ok (a b : GI) : IOk (aI a b) := by
  unfold aI
  cases (a.neg == b.neg)
  · rw [cond_false]
    cases (decide ((ba a.mag b.mag) ≥ 0)) <;> exact lE _ _
  · exact lE _ _
theorem sO (a b : GI) : IOk (ab a b) := lE _ _
theorem qV (a : GI) : IOk (ao a) := lE _ _
theorem jq (a b : GI) : fc (ab a b) = fc a * fc b := by
  obtain ⟨s, m⟩ := a
  obtain ⟨r, n⟩ := b
  unfold ab en
  rw [gi]
  unfold fc
  cases s <;> cases r <;> simp [Int.neg_mul, Int.mul_neg]
def icmp (a b : Int) : Int := if a < b then -1 else if b < a then 1 else 0
theorem tM (a b : Int) : bU a b = icmp a b := by
  unfold bU icmp fm
  rcases Int.lt_trichotomy a b with h | h | h
  · simp [h]
  · subst h; simp
  · simp [h, show ¬ a < b by omega]
theorem ng {a b : GI} (ha : IOk a) (hb : IOk b) : df a b = icmp (fc a) (fc b) := by
  obtain ⟨s, m⟩ := a
  obtain ⟨r, n⟩ := b
  unfold df
  rw [tM, jp, jp, rL]
  unfold fc icmp
  unfold IOk at ha hb
  simp only at ha hb
  cases s <;> cases r
  · simp only [bne_self_eq_false, cond_false]
    rcases Nat.lt_trichotomy m n with h | h | h
    · rw [if_pos h, if_pos (by omega)]
    · subst h; simp
    · rw [if_neg (by omega), if_pos h, if_neg (by omega), if_pos (by omega)]
  · have : n ≠ 0 := fun e => absurd (hb e) (by decide)
    have e1 : (-(n : Int)).sign = -1 := Int.sign_eq_neg_one_of_neg (by omega)
    have e2 : 0 ≤ (m : Int).sign := uu m
    show (if (m : Int).sign < (-(n : Int)).sign then (-1 : Int) else if (-(n : Int)).sign < (m : Int).sign then 1 else 0) = if (m : Int) < -(n : Int) then -1 else if -(n : Int) < (m : Int) then 1 else 0
    simp only [e1, if_neg (show ¬ (m : Int).sign < -1 by omega), if_pos (show (-1 : Int) < (m : Int).sign by omega), if_neg (show ¬ (m : Int) < -(n : Int) by omega), if_pos (show -(n : Int) < (m : Int) by omega)]
  · have : m ≠ 0 := fun e => absurd (ha e) (by decide)
    have e1 : (-(m : Int)).sign = -1 := Int.sign_eq_neg_one_of_neg (by omega)
    have e2 : 0 ≤ (n : Int).sign := uu n
    show (if (-(m : Int)).sign < (n : Int).sign then (-1 : Int) else if (n : Int).sign < (-(m : Int)).sign then 1 else 0) = if -(m : Int) < (n : Int) then -1 else if (n : Int) < -(m : Int) then 1 else 0
    simp only [e1, if_pos (show (-1 : Int) < (n : Int).sign by omega), if_pos (show -(m : Int) < (n : Int) by omega)]
  · simp only [bne_self_eq_false, cond_false, cond_true]
    rcases Nat.lt_trichotomy m n with h | h | h
    · rw [if_pos h, if_neg (by omega), if_pos (by omega)]; rfl
    · subst h; simp
    · rw [if_neg (by omega), if_pos h, if_pos (by omega)]
theorem fZ (a : GI) : (fc a).natAbs = a.mag := by unfold fc; cases a.neg <;> simp
theorem sf {a b : GI} (hb : b.neg = false) (h0 : b.mag ≠ 0) (hd : b.mag ∣ a.mag) : aE a b = aF a.neg (a.mag / b.mag) := by
  unfold aE aJ bo
  rw [decide_eq_false h0, cond_false, Nat.mod_eq_zero_of_dvd hd, hb]
  simp
def z0 : GI := ⟨false, 0⟩
def j8 (x : GQ) : Nat := if x.den = z0 then 1 else x.den.mag
def QOk (x : GQ) : Prop := IOk x.num ∧ (x.den = z0 ∨ (x.den.neg = false ∧ 1 < x.den.mag)) ∧ Nat.Coprime x.num.mag (j8 x)
def bM (x : GQ) : Rat := (fc x.num : Rat) / (j8 x : Rat)
theorem QOk.pos {x : GQ} (h : QOk x) : 0 < j8 x := by
  unfold j8
  split
  · decide
  · rename_i e
    rcases h.2.1 with h1 | ⟨_, h1⟩
    · exact absurd h1 e
    · omega
theorem rj {x : GQ} (h : QOk x) : bM x = ⟨fc x.num, j8 x, Nat.ne_of_gt h.pos, by rw [fZ]; exact h.2.2⟩ := by
  rw [Rat.mk_eq_mkRat, Rat.mkRat_eq_div]; rfl
theorem fC {x y : GQ} (hx : QOk x) (hy : QOk y) (h : bM x = bM y) : x = y := by
  rw [rj hx, rj hy] at h
  injection h with h1 h2
  obtain ⟨n, d⟩ := x
  obtain ⟨m, e⟩ := y
  have e1 : n = m := su hx.1 hy.1 h1
  have e2 : d = e := by
    unfold j8 at h2
    have hx2 := hx.2.1
    have hy2 := hy.2.1
    simp only at h2 hx2 hy2
    by_cases c1 : d = z0
    · by_cases c2 : e = z0
      · rw [c1, c2]
      · rw [if_pos c1, if_neg c2] at h2
        rcases hy2 with h3 | ⟨_, h3⟩
        · exact absurd h3 c2
        · omega
    · by_cases c2 : e = z0
      · rw [if_neg c1, if_pos c2] at h2
        rcases hx2 with h3 | ⟨_, h3⟩
        · exact absurd h3 c1
        · omega
      · rw [if_neg c1, if_neg c2] at h2
        obtain ⟨a1, a2⟩ := hx2.resolve_left c1
        obtain ⟨b1, b2⟩ := hy2.resolve_left c2
        obtain ⟨s, p⟩ := d
        obtain ⟨r, q⟩ := e
        simp only at a1 b1 h2
        rw [a1, b1, h2]
  rw [e1, e2]
theorem uY : fc rational_one = 1 := eW 1
theorem iR {x : GQ} (h : QOk x) : fc (aa x) = j8 x ∧ (aa x).neg = false := by
  unfold aa j8
  by_cases e : x.den = z0
  · rw [decide_eq_true (show x.den = ⟨false, 0⟩ from e), if_pos e]
    exact ⟨uY, rfl⟩
  · rw [decide_eq_false (show ¬ x.den = ⟨false, 0⟩ from e), if_neg e, cond_false]
    obtain ⟨h1, h2⟩ := h.2.1.resolve_left e
    refine ⟨?_, h1⟩
    unfold fc
    rw [h1]; rfl
theorem qQ {n d : GI} (hn : IOk n) (hdn : d.neg = false) (hd : d.mag ≠ 0) :
    QOk (bif (decide ((aE d (aR n d)) = rational_one)) then (⟨(aE n (aR n d)), (⟨false, 0⟩ : GI)⟩ : GQ) else (⟨(aE n (aR n d)), (aE d (aR n d))⟩ : GQ)) ∧
    bM (bif (decide ((aE d (aR n d)) = rational_one)) then (⟨(aE n (aR n d)), (⟨false, 0⟩ : GI)⟩ : GQ) else (⟨(aE n (aR n d)), (aE d (aR n d))⟩ : GQ)) = (fc n : Rat) / (d.mag : Rat) := by
  have hg : 0 < Nat.gcd n.mag d.mag := Nat.gcd_pos_of_pos_right _ (by omega)
  have q1 : aE d (aR n d) = aF false (d.mag / Nat.gcd n.mag d.mag) := by
    have := sf (a := d) (b := aR n d) rfl (by show Nat.gcd n.mag d.mag ≠ 0; omega) (Nat.gcd_dvd_right _ _)
    rw [hdn] at this
    exact this
  have q2 : aE n (aR n d) = aF n.neg (n.mag / Nat.gcd n.mag d.mag) :=
    sf (a := n) (b := aR n d) rfl (by show Nat.gcd n.mag d.mag ≠ 0; omega) (Nat.gcd_dvd_left _ _)
  rw [q1, q2]
  have hdp : 0 < d.mag / Nat.gcd n.mag d.mag := Nat.div_pos (Nat.le_of_dvd (by omega) (Nat.gcd_dvd_right _ _)) hg
  have hcop : Nat.Coprime (n.mag / Nat.gcd n.mag d.mag) (d.mag / Nat.gcd n.mag d.mag) := Nat.coprime_div_gcd_div_gcd hg
  have hval : (fc (aF n.neg (n.mag / Nat.gcd n.mag d.mag)) : Rat) / ((d.mag / Nat.gcd n.mag d.mag : Nat) : Rat) = (fc n : Rat) / (d.mag : Rat) := by
    have e1 : fc n = fc (aF n.neg (n.mag / Nat.gcd n.mag d.mag)) * (Nat.gcd n.mag d.mag : Int) := by
      rw [gi]
      have := Nat.div_mul_cancel (Nat.gcd_dvd_left n.mag d.mag)
      unfold fc
      cases n.neg
      · simp only [cond_false]; rw [← Int.natCast_mul, this]
      · simp only [cond_true]; rw [Int.neg_mul, ← Int.natCast_mul, this]
    have e2 : d.mag = (d.mag / Nat.gcd n.mag d.mag) * Nat.gcd n.mag d.mag := (Nat.div_mul_cancel (Nat.gcd_dvd_right n.mag d.mag)).symm
    have g0 : ((Nat.gcd n.mag d.mag : Nat) : Rat) ≠ 0 := by
      intro e
      have : Nat.gcd n.mag d.mag = 0 := by exact_mod_cast e
      omega
    have d0 : ((d.mag / Nat.gcd n.mag d.mag : Nat) : Rat) ≠ 0 := by
      intro e
      have : d.mag / Nat.gcd n.mag d.mag = 0 := by exact_mod_cast e
      omega
    rw [e1, Rat.intCast_mul, Rat.intCast_natCast]
    conv => rhs; rhs; rw [e2]
    rw [Rat.natCast_mul]
    grind
  by_cases e : d.mag / Nat.gcd n.mag d.mag = 1
  · have e' : aF false (d.mag / Nat.gcd n.mag d.mag) = rational_one := by rw [e]; rfl
    rw [decide_eq_true e', cond_true]
    refine ⟨⟨lE _ _, .inl rfl, ?_⟩, ?_⟩
    · show Nat.Coprime (n.mag / Nat.gcd n.mag d.mag) 1; exact Nat.coprime_one_right _
    · rw [← hval, e]; rfl
  · have e' : ¬ aF false (d.mag / Nat.gcd n.mag d.mag) = rational_one := fun h => e (by
      have : (aF false (d.mag / Nat.gcd n.mag d.mag)).mag = rational_one.mag := by rw [h]
      exact this)
    rw [decide_eq_false e', cond_false]
    have ez : ¬ (aF false (d.mag / Nat.gcd n.mag d.mag)) = z0 := fun h => by
      have : (aF false (d.mag / Nat.gcd n.mag d.mag)).mag = z0.mag := by rw [h]
      have : d.mag / Nat.gcd n.mag d.mag = 0 := this
      omega
    have eq : j8 (⟨aF n.neg (n.mag / Nat.gcd n.mag d.mag), aF false (d.mag / Nat.gcd n.mag d.mag)⟩ : GQ) = d.mag / Nat.gcd n.mag d.mag := if_neg ez
    refine ⟨⟨lE _ _, .inr ⟨rfl, by show 1 < d.mag / Nat.gcd n.mag d.mag; omega⟩, ?_⟩, ?_⟩
    · rw [eq]; exact hcop
    · unfold bM
      rw [eq, ← hval]
theorem pC {n d : GI} (hn : IOk n) (hd : fc d ≠ 0) : QOk (a8 n d) ∧ bM (a8 n d) = (fc n : Rat) / (fc d : Rat) := by
  have hm : d.mag ≠ 0 := fun e => hd (by unfold fc; rw [e]; cases d.neg <;> rfl)
  unfold a8
  rw [jp]
  cases hs : d.neg with
  | false =>
    have e : fc d = (d.mag : Int) := by unfold fc; rw [hs]; rfl
    rw [decide_eq_false (by rw [e]; have := uu d.mag; omega), cond_false, e, Rat.intCast_natCast]
    exact qQ hn hs hm
  | true =>
    have e : fc d = -(d.mag : Int) := by unfold fc; rw [hs]; rfl
    rw [decide_eq_true (by rw [e, Int.sign_eq_neg_one_of_neg (by omega)]; decide), cond_true, e]
    have hN : (ao d).neg = false := by
      unfold ao aF; rw [hs]; rfl
    have hM : (ao d).mag = d.mag := rfl
    obtain ⟨k1, k2⟩ := qQ (qV n) hN (by rw [hM]; exact hm)
    refine ⟨k1, k2.trans ?_⟩
    rw [n9, hM, Rat.intCast_neg, Rat.intCast_neg, Rat.intCast_natCast]
    have d0 : (d.mag : Rat) ≠ 0 := by
      intro e
      have : d.mag = 0 := by exact_mod_cast e
      omega
    grind
theorem mM {x : GQ} (h : QOk x) : (j8 x : Rat) ≠ 0 := by
  intro e
  have : j8 x = 0 := by exact_mod_cast e
  have := h.pos
  omega
theorem oL {x : GQ} (h : QOk x) : (0 : Rat) < (j8 x : Rat) := by
  have := h.pos
  exact_mod_cast this
theorem qL {x y : GQ} (hx : QOk x) (hy : QOk y) : ∃ D : Rat, 0 < D ∧ (fc (aO x y).1 : Rat) = bM x * D ∧ (fc (aO x y).2.1 : Rat) = bM y * D ∧ (fc (aO x y).2.2 : Rat) = D ∧ IOk (aO x y).1 ∧ IOk (aO x y).2.1 := by
  have h1 := oL hx
  have h2 := oL hy
  unfold aO
  by_cases e : x.den = y.den
  · rw [decide_eq_true e, cond_true]
    have e2 : j8 x = j8 y := by unfold j8; rw [e]
    refine ⟨j8 x, h1, ?_, ?_, ?_, hx.1, hy.1⟩
    · unfold bM; show (fc x.num : Rat) = _; grind
    · unfold bM; rw [e2]; show (fc y.num : Rat) = _; grind
    · show (fc (aa x) : Rat) = _
      rw [(iR hx).1, Rat.intCast_natCast]
  · rw [decide_eq_false e, cond_false]
    refine ⟨(j8 x : Rat) * (j8 y : Rat), Rat.mul_pos h1 h2, ?_, ?_, ?_, sO _ _, sO _ _⟩
    · show (fc (ab x.num (aa y)) : Rat) = _
      rw [jq, Rat.intCast_mul, (iR hy).1, Rat.intCast_natCast]
      unfold bM; grind
    · show (fc (ab y.num (aa x)) : Rat) = _
      rw [jq, Rat.intCast_mul, (iR hx).1, Rat.intCast_natCast]
      unfold bM; grind
    · show (fc (ab (aa x) (aa y)) : Rat) = _
      rw [jq, Rat.intCast_mul, (iR hx).1, (iR hy).1, Rat.intCast_natCast, Rat.intCast_natCast]
theorem k9 {x y : GQ} (hx : QOk x) (hy : QOk y) : QOk (aC x y) ∧ bM (aC x y) = bM x + bM y := by
  obtain ⟨D, h0, h1, h2, h3, _, _⟩ := qL hx hy
  unfold aC
  have hd : fc (aO x y).2.2 ≠ 0 := fun e => by
    rw [e] at h3
    have h4 : (0 : Rat) = D := h3
    grind
  obtain ⟨k1, k2⟩ := pC (Add_ok (aO x y).1 (aO x y).2.1) hd
  refine ⟨k1, ?_⟩
  rw [k2, Add_val, Rat.intCast_add, h1, h2, h3]
  grind
theorem ig {x y : GQ} (hx : QOk x) (hy : QOk y) : QOk (ak x y) ∧ bM (ak x y) = bM x * bM y := by
  unfold ak
  have e1 := (iR hx).1
  have e2 := (iR hy).1
  have h1 := hx.pos
  have h2 := hy.pos
  have hd : fc (ab (aa x) (aa y)) ≠ 0 := by
    rw [jq, e1, e2, ← Int.natCast_mul]
    have := Nat.mul_pos h1 h2
    omega
  obtain ⟨k1, k2⟩ := pC (sO x.num y.num) hd
  refine ⟨k1, ?_⟩
  rw [k2, jq, jq, e1, e2]
  simp only [Rat.intCast_mul, Rat.intCast_natCast]
  have d1 := mM hx
  have d2 := mM hy
  unfold bM
  grind
theorem vb {x : GQ} (hx : QOk x) : QOk (aU x) ∧ bM (aU x) = - bM x := by
  refine ⟨⟨qV _, hx.2.1, hx.2.2⟩, ?_⟩
  unfold bM aU
  show (fc (ao x.num) : Rat) / (j8 x : Rat) = _
  rw [n9, Rat.intCast_neg]
  grind
theorem kt {x y : GQ} (hx : QOk x) (hy : QOk y) : QOk (aj x y) ∧ bM (aj x y) = bM x - bM y := by
  unfold aj
  obtain ⟨k1, k2⟩ := vb hy
  obtain ⟨k3, k4⟩ := k9 hx k1
  refine ⟨k3, ?_⟩
  rw [k4, k2]; grind
theorem cv (n : Int) : QOk (ah n) ∧ bM (ah n) = (n : Rat) := by
  refine ⟨⟨j5 n, .inl rfl, Nat.coprime_one_right _⟩, ?_⟩
  unfold bM
  show (fc (ax n) : Rat) / ((1 : Nat) : Rat) = _
  rw [eW]
  grind
def rsgn (x : Rat) : Int := if x < 0 then -1 else if 0 < x then 1 else 0
theorem zero_ok : QOk ⟨z0, z0⟩ ∧ bM ⟨z0, z0⟩ = 0 := cv 0
theorem iK {x : GQ} (hx : QOk x) : aw x = rsgn (bM x) := by
  have h1 := oL hx
  have hm : (fc x.num : Rat) = bM x * (j8 x : Rat) := by unfold bM; grind
  unfold aw rsgn
  rw [jp]
  rcases Int.lt_trichotomy (fc x.num) 0 with h | h | h
  · rw [Int.sign_eq_neg_one_of_neg h]
    have h2 : (fc x.num : Rat) < 0 := by exact_mod_cast h
    rw [if_pos]
    rcases Rat.le_total (a := 0) (b := bM x) with h3 | h3
    · have := Rat.mul_nonneg h3 (Rat.le_of_lt h1)
      grind
    · by_cases h4 : bM x = 0
      · rw [h4] at hm; grind
      · grind
  · rw [h]
    have h2 : (fc x.num : Rat) = 0 := by rw [h]; rfl
    have h3 : bM x = 0 := by unfold bM; rw [h2]; grind
    rw [h3, if_neg (by decide), if_neg (by decide)]; rfl
  · rw [Int.sign_eq_one_of_pos h]
    have h2 : (0 : Rat) < (fc x.num : Rat) := by exact_mod_cast h
    have h3 : 0 < bM x := by
      rcases Rat.le_total (a := 0) (b := bM x) with h3 | h3
      · by_cases h4 : bM x = 0
        · rw [h4] at hm; grind
        · grind
      · have := Rat.mul_nonneg (a := - bM x) (by grind) (Rat.le_of_lt h1)
        grind
    rw [if_neg (by grind), if_pos h3]
def rcmp (x y : Rat) : Int := if x < y then -1 else if y < x then 1 else 0
theorem rK {x y : GQ} (hx : QOk x) (hy : QOk y) : bn x y = rcmp (bM x) (bM y) := by
  unfold bn rcmp
  by_cases e : x = y
  · rw [decide_eq_true e, e]
    simp
  · rw [decide_eq_false e, cond_false]
    obtain ⟨D, h0, h1, h2, h3, k1, k2⟩ := qL hx hy
    rw [ng k1 k2]
    unfold icmp
    have key : ∀ a b : Int, ∀ p q : Rat, (a : Rat) = p * D → (b : Rat) = q * D → (a < b ↔ p < q) := by
      intro a b p q e1 e2
      rw [← Rat.intCast_lt_intCast, e1, e2]
      exact Rat.mul_lt_mul_right h0
    have i1 := key _ _ _ _ h1 h2
    have i2 := key _ _ _ _ h2 h1
    by_cases c1 : bM x < bM y
    · rw [if_pos c1, if_pos (i1.2 c1)]
    · rw [if_neg c1, if_neg (fun h => c1 (i1.1 h))]
      by_cases c2 : bM y < bM x
      · rw [if_pos c2, if_pos (i2.2 c2)]
      · rw [if_neg c2, if_neg (fun h => c2 (i2.1 h))]
end Go.Sx
namespace Go.Sx
def zQ : GQ := ⟨⟨false, 0⟩, ⟨false, 0⟩⟩
theorem iS : QOk zQ ∧ bM zQ = 0 := zero_ok
def DOk (q : Qd) : Prop := QOk q.c0 ∧ QOk q.c1 ∧ QOk q.c2
def TOk (t : GR) : Prop := QOk t.p ∧ QOk t.r
def lv (t : GR) (q : Qd) : Rat × Rat :=
  if t.r = zQ then (bM q.c0 + bM t.p * (bM q.c1 + bM t.p * bM q.c2), 0)
  else (bM q.c0 + bM q.c2 * (bM t.r - bM t.p * bM t.p), bM q.c1 + (bM q.c2 + bM q.c2) * bM t.p)
theorem eval_ok {q : Qd} {t : GQ} (hq : DOk q) (ht : QOk t) : QOk (aW q t) ∧ bM (aW q t) = bM q.c0 + bM t * (bM q.c1 + bM t * bM q.c2) := by
  obtain ⟨h0, h1, h2⟩ := hq
  unfold aW
  obtain ⟨a1, a2⟩ := ig ht h2
  obtain ⟨b1, b2⟩ := k9 h1 a1
  obtain ⟨c1, c2⟩ := ig ht b1
  obtain ⟨d1, d2⟩ := k9 h0 c1
  exact ⟨d1, by rw [d2, c2, b2, a2]⟩
theorem slope_ok {q : Qd} {t : GQ} (hq : DOk q) (ht : QOk t) : QOk (aV q t) ∧ bM (aV q t) = bM q.c1 + (bM q.c2 + bM q.c2) * bM t := by
  obtain ⟨h0, h1, h2⟩ := hq
  unfold aV
  obtain ⟨a1, a2⟩ := k9 h2 h2
  obtain ⟨b1, b2⟩ := ig a1 ht
  obtain ⟨c1, c2⟩ := k9 h1 b1
  exact ⟨c1, by rw [c2, b2, a2]⟩
theorem ui {p q : Qd} (hp : DOk p) (hq : DOk q) : DOk (dx p q) ∧ bM (dx p q).c0 = bM p.c0 - bM q.c0 ∧ bM (dx p q).c1 = bM p.c1 - bM q.c1 ∧ bM (dx p q).c2 = bM p.c2 - bM q.c2 := by
  unfold dx
  obtain ⟨a1, a2⟩ := kt hp.1 hq.1
  obtain ⟨b1, b2⟩ := kt hp.2.1 hq.2.1
  obtain ⟨c1, c2⟩ := kt hp.2.2 hq.2.2
  exact ⟨⟨a1, b1, c1⟩, a2, b2, c2⟩
theorem i9 {a b : GQ} (ha : QOk a) (hb : QOk b) : DOk (aS a b) ∧ (aS a b).c0 = a ∧ (aS a b).c1 = b ∧ (aS a b).c2 = zQ := by
  unfold aS
  exact ⟨⟨ha, hb, iS.1⟩, rfl, rfl, rfl⟩
theorem f9 {q : Qd} {t : GR} (hq : DOk q) (ht : TOk t) : DOk (aP q t) ∧ bM (aP q t).c0 = (lv t q).1 ∧ bM (aP q t).c1 = (lv t q).2 ∧ (aP q t).c2 = zQ := by
  unfold aP du lv
  by_cases e : t.r = zQ
  · rw [decide_eq_true (show t.r = ⟨⟨false, 0⟩, ⟨false, 0⟩⟩ from e), if_pos e]
    obtain ⟨k1, k2⟩ := eval_ok hq ht.1
    exact ⟨⟨k1, iS.1, iS.1⟩, k2, iS.2, rfl⟩
  · rw [decide_eq_false (show ¬ t.r = ⟨⟨false, 0⟩, ⟨false, 0⟩⟩ from e), if_neg e, Bool.not_false, cond_true, cond_false]
    obtain ⟨a1, a2⟩ := ig ht.1 ht.1
    obtain ⟨b1, b2⟩ := kt ht.2 a1
    obtain ⟨c1, c2⟩ := ig hq.2.2 b1
    obtain ⟨d1, d2⟩ := k9 hq.1 c1
    obtain ⟨s1, s2⟩ := slope_ok hq ht.1
    obtain ⟨l1, l2, l3, l4⟩ := i9 d1 s1
    exact ⟨l1, by rw [l2, d2, c2, b2, a2], by rw [l3, s2], l4⟩
theorem qd_ext {p q : Qd} (hp : DOk p) (hq : DOk q) (h0 : bM p.c0 = bM q.c0) (h1 : bM p.c1 = bM q.c1) (h2 : bM p.c2 = bM q.c2) : p = q := by
  have e0 := fC hp.1 hq.1 h0
  have e1 := fC hp.2.1 hq.2.1 h1
  have e2 := fC hp.2.2 hq.2.2 h2
  obtain ⟨a, b, c⟩ := p
  obtain ⟨x, y, z⟩ := q
  simp only at e0 e1 e2
  rw [e0, e1, e2]
theorem rl1 (a b c d e f p : Rat) : (a - b) + p * ((c - d) + p * (e - f)) = (a + p * (c + p * e)) - (b + p * (d + p * f)) := by grind
theorem rl2 (a b c d x : Rat) : (a - b) + (c - d) * x = (a + c * x) - (b + d * x) := by grind
theorem rl3 (a b c d x : Rat) : (a - b) + ((c - d) + (c - d)) * x = (a + (c + c) * x) - (b + (d + d) * x) := by grind
theorem lv_sub {p q : Qd} {t : GR} (hp : DOk p) (hq : DOk q) : lv t (dx p q) = ((lv t p).1 - (lv t q).1, (lv t p).2 - (lv t q).2) := by
  obtain ⟨_, e0, e1, e2⟩ := ui hp hq
  unfold lv
  by_cases e : t.r = zQ
  · rw [if_pos e, if_pos e, if_pos e, e0, e1, e2, rl1]
    exact Prod.ext rfl (by show (0 : Rat) = 0 - 0; grind)
  · rw [if_neg e, if_neg e, if_neg e, e0, e1, e2, rl2, rl3]
theorem r0 {p q : Qd} {t : GR} (hp : DOk p) (hq : DOk q) (ht : TOk t) : fq p q t = true ↔ lv t p = lv t q := by
  unfold fq
  rw [decide_eq_true_eq]
  obtain ⟨k1, _⟩ := ui hp hq
  obtain ⟨r1, r2, r3, r4⟩ := f9 k1 ht
  rw [lv_sub hp hq] at r2 r3
  constructor
  · intro h
    rw [h] at r2 r3
    have z := iS.2
    unfold zQ at z
    refine Prod.ext ?_ ?_
    · simp only at r2; grind
    · simp only at r3; grind
  · intro h
    refine qd_ext r1 ⟨iS.1, iS.1, iS.1⟩ ?_ ?_ ?_
    · rw [r2, h]; show _ = bM zQ; rw [iS.2]; grind
    · rw [r3, h]; show _ = bM zQ; rw [iS.2]; grind
    · rw [r4]; rfl
theorem kM {q : Qd} {t : GR} (hq : DOk q) (ht : TOk t) : lv t (aP q t) = lv t q := by
  obtain ⟨r1, r2, r3, r4⟩ := f9 hq ht
  have h : ∀ x : Qd, bM x.c0 = (lv t q).1 → bM x.c1 = (lv t q).2 → x.c2 = zQ → lv t x = lv t q := by
    intro x e0 e1 e2
    have e3 : bM x.c2 = 0 := by rw [e2]; exact iS.2
    have e4 : t.r = zQ → (lv t q).2 = 0 := fun e => by unfold lv; rw [if_pos e]
    conv => lhs; unfold lv
    split
    · rename_i e
      rw [e4 e] at e1
      refine Prod.ext ?_ ?_
      · simp only; rw [e0, e1, e3]; grind
      · simp only; rw [e4 e]
    · refine Prod.ext ?_ ?_
      · simp only; rw [e0, e3]; grind
      · simp only; rw [e1, e3]; grind
  exact h _ r2 r3 r4
theorem pZ {p q : Qd} {t : GR} (hp : DOk p) (hq : DOk q) (ht : TOk t) : aP p t = aP q t ↔ lv t p = lv t q := by
  obtain ⟨r1, r2, r3, r4⟩ := f9 hp ht
  obtain ⟨s1, s2, s3, s4⟩ := f9 hq ht
  constructor
  · intro h; rw [← kM hp ht, ← kM hq ht, h]
  · intro h; exact qd_ext r1 s1 (by rw [r2, s2, h]) (by rw [r3, s3, h]) (by rw [r4, s4])
end Go.Sx
namespace Go.Sx
open Go Go.RowKit Go.Proofs
set_option maxRecDepth 100000
set_option maxHeartbeats 40000000
attribute [local irreducible] Code.wp wpList Rd Step ObS Ent
attribute [local irreducible] am aQ ah aw aD bU
theorem bld206 : BuildF Tryz.prog 206 [.bool false, .string ⟨#[]⟩, .bool false, .string ⟨#[]⟩, .bool false, .string ⟨#[]⟩, .bool false, .string ⟨#[]⟩, .bool false, .bool false] [(0, 9), (9, 1)] := BuildF.of Tryz.zeroValue206 rfl Tryz.runUnderlying206 (by intro w; simp [Tryz.sizeOf4, Tryz.sizeOf71])
theorem qS : BuildF Tryz.prog 321 [.bool false, .string ⟨#[]⟩, .bool false, .string ⟨#[]⟩, .bool false, .string ⟨#[]⟩, .bool false, .string ⟨#[]⟩, .bool false, .bool false, .int .i64 0, .int .i64 0] [(0, 10), (10, 2)] := BuildF.of Tryz.zeroValue321 rfl Tryz.runUnderlying321 (by intro w; simp [Tryz.sizeOf206, Tryz.sizeOf319])
theorem bld55 : BuildF Tryz.prog 55 [] [] := BuildF.of Tryz.zeroValue55 rfl Tryz.runUnderlying55 (by intro w; simp)
theorem bld80 : BuildF Tryz.prog 80 [] [] := BuildF.of Tryz.zeroValue80 rfl Tryz.runUnderlying80 (by intro w; simp)
theorem ou : SlT Tryz.prog 66 71 9 104 [.bool false, .string ⟨#[]⟩, .bool false, .string ⟨#[]⟩, .bool false, .string ⟨#[]⟩, .bool false, .string ⟨#[]⟩, .bool false] := ⟨Tryz.underlying66, Tryz.t71, _, Tryz.type71, rfl, rfl, rfl, rfl, rfl, by decide, by decide⟩
end Go.Sx
namespace Go.Sx
open Go Go.RowKit Go.Proofs
set_option maxRecDepth 100000
set_option maxHeartbeats 40000000
attribute [local irreducible] Code.wp wpList Rd Step ObS Ent
attribute [local irreducible] am aQ ah aw aD bU
def v6 (x : List Int) (x8 : Nat) : Int :=
 0
def ja (x : List Int) (x8 : Nat) : Nx Nat Int :=
 bif (decide (((x8 : Nat) : Int) < ((x.length : Nat) : Int))) then
  bif ((gt x x8) != 0) then
   .ret (gt x x8)
  else
   .go (x8 + 1)
 else
  .out x8
def kV (x : List Int) : Int :=
 fin (dW (fun s => ja x s) ((x.length - 0) + 1) 0) (fun s => v6 x s) (fun r => r)
theorem vZ (x : List Int) (xv : Value) (w0 : World) (hxv : View w0 xv x) : Calls Tryz.prog 227 #[xv] w0 (dA w0 (.int .i64 (kV x)) (True)) := by
 refine enter (N := 18) (args := [xv]) Tryz.func227 rfl rfl ?_; intro ac h
 have hlenx := hxv.len
 obtain ⟨X1, hX1⟩ : ∃ X, dW (fun s => ja x s) ((x.length - 0) + 1) 0 = X := ⟨_, rfl⟩
 refine gz h <| (W) ?_; clear h ac; intro ac wo h
 refine wp_loop_ghost (fun n_ a_ w_ => ∃ (x8 : Nat), ((x.length - x8) < n_) ∧ (dW (fun s => ja x s) n_ x8 = X1) ∧ (x8 ≤ x.length) ∧ St w0 18 [(3, (.int .i64 0)), (6, xv), (7, (.int .i64 ((x.length : Nat) : Int))), (8, (.int .i64 ((x8 : Nat) : Int)))] [] a_ w_) ((x.length - 0) + 1) ⟨0, og, hX1, og, h.rs⟩ ?_
 clear h ac wo; rintro n1 ac wo ⟨x8, hm1, hL1, hx8, h⟩
 obtain ⟨m1, rfl⟩ : ∃ m, n1 = m + 1 := ⟨n1 - 1, by omega⟩
 refine gz h <| (ai) ?_ ?_ <;> clear h ac wo <;> intro ac wo h hc1
 ·
  have hd1 := of_decide_eq_true hc1
  refine gz h <| (ai) ?_ ?_ <;> clear h ac wo <;> intro ac wo h hc2
  ·
   have hq2 := hc2; try simp at hq2
   have hr1 := sn hL1 pt
   have hd : kV x = (gt x x8) := pt
   refine gz h <| (W) ?_; clear h ac wo; intro ac wo h
   exact (rt h) (h.retP (by rw [hd] <;> rfl) trivial)
  ·
   have hq2 := hc2; try simp at hq2
   refine gz h <| (W) ?_; clear h ac wo; intro ac wo h
   have hg := eL hL1 pt
   exact aK ⟨m1, og, _, og, hg, og, h.re []⟩
 ·
  have hd1 := of_decide_eq_false hc1
  have hx1 := gV hL1 pt
  have hd : kV x = 0 := pt
  refine gz h <| (W) ?_; clear h ac wo; intro ac wo h
  exact (rt h) (h.retP (by rw [hd] <;> rfl) trivial)
attribute [irreducible] kV
end Go.Sx
