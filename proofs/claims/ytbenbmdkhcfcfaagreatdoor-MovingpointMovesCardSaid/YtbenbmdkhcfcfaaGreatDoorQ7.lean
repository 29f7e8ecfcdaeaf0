/- A part of the proof of movingpointMoves. -/
import Derived.Test.YtbenbmdkhcfcfaaGreatDoorQ6
set_option linter.unusedVariables false
set_option linter.unusedSimpArgs false
namespace Go.Sx
def eU (a : GI) : Int := bif a.neg then -(a.mag : Int) else (a.mag : Int)
def IOk (a : GI) : Prop := a.mag = 0 → a.neg = false
theorem lR (s : Bool) (m : Nat) : IOk (aG s m) := by
  intro h
  have h : m = 0 := h
  subst h
  cases s <;> rfl
theorem gw (s : Bool) (m : Nat) : eU (aG s m) = bif s then -(m : Int) else (m : Int) := by
  unfold eU aG
  by_cases h : m = 0
  · subst h; cases s <;> rfl
  · cases s <;> simp [h]
theorem sU {a b : GI} (ha : IOk a) (hb : IOk b) (h : eU a = eU b) : a = b := by
  obtain ⟨s, m⟩ := a
  obtain ⟨r, n⟩ := b
  unfold eU at h
  unfold IOk at ha hb
  simp only at ha hb h
  cases s <;> cases r <;> simp only [cond_true, cond_false] at h
  · have : m = n := by omega
    rw [this]
  · have h1 : m = 0 := by omega
    have h2 : n = 0 := by omega
    exact absurd (hb h2) (by decide)
  · have h1 : m = 0 := by omega
    exact absurd (ha h1) (by decide)
  · have : m = n := by omega
    rw [this]
theorem jo (n : Int) : IOk (au n) := by
  unfold IOk au
  intro h
  have h : n.natAbs = 0 := h
  exact decide_eq_false (by omega)
theorem eZ (n : Int) : eU (au n) = n := by
  unfold eU au
  by_cases h : n < 0
  · simp only [decide_eq_true h, cond_true]; omega
  · simp only [decide_eq_false h, cond_false]; omega
theorem u4 (m : Nat) : 0 ≤ ((m : Nat) : Int).sign := by
  cases m with
  | zero => decide
  | succ m => exact Int.le_of_lt (by rw [Int.sign_eq_one_of_pos (by omega)]; decide)
theorem jz (a : GI) : bW a = (eU a).sign := by
  obtain ⟨s, m⟩ := a
  unfold bW eU
  by_cases h : m = 0
  · subst h; cases s <;> rfl
  · rw [decide_eq_false h]
    cases s
    · exact (Int.sign_eq_one_of_pos (by show (0 : Int) < (m : Int); omega)).symm
    · exact (Int.sign_eq_neg_one_of_neg (by show -(m : Int) < 0; omega)).symm
theorem ot (a : GI) : eU (aq a) = - eU a := by
  unfold aq
  rw [gw]
  unfold eU
  cases a.neg <;> simp
theorem sc (a b : Nat) : ba a b = if a < b then -1 else if b < a then 1 else 0 := by
  unfold ba
  rcases Nat.lt_trichotomy a b with h | h | h
  · rw [show Nat.blt a b = true by rw [Nat.blt_eq]; exact h, cond_true, if_pos h]
  · subst h
    have h1 : Nat.blt a a = false := by
      cases e : Nat.blt a a with
      | false => rfl
      | true => rw [Nat.blt_eq] at e; omega
    rw [h1, Nat.beq_refl, if_neg (Nat.lt_irrefl _), if_neg (Nat.lt_irrefl _)]; rfl
  · have h1 : Nat.blt a b = false := by
      cases e : Nat.blt a b with
      | false => rfl
      | true => rw [Nat.blt_eq] at e; omega
    have h2 : Nat.beq a b = false := by
      cases e : Nat.beq a b with
      | false => rfl
      | true => have := Nat.eq_of_beq_eq_true e; omega
    rw [h1, h2, if_neg (by omega), if_pos h]; rfl
theorem Add_val (a b : GI) : eU (aI a b) = eU a + eU b := by
  obtain ⟨s, m⟩ := a
  obtain ⟨r, n⟩ := b
  unfold aI dp cz
  simp only [sc]
  cases s <;> cases r
  · show eU (aG false (m + n)) = (m : Int) + n
    rw [gw]; simp
  · show eU (bif decide (_ ≥ (0 : Int)) then aG false (m - n) else aG true (n - m)) = (m : Int) + -n
    split <;> rename_i h1
    · simp only [show decide ((-1 : Int) ≥ 0) = false from rfl, cond_false, gw, cond_true]; omega
    · split
      · simp only [show decide ((1 : Int) ≥ 0) = true from rfl, cond_true, gw, cond_false]; omega
      · simp only [show decide ((0 : Int) ≥ 0) = true from rfl, cond_true, gw, cond_false]; omega
  · show eU (bif decide (_ ≥ (0 : Int)) then aG true (m - n) else aG false (n - m)) = -(m : Int) + n
    split <;> rename_i h1
    · simp only [show decide ((-1 : Int) ≥ 0) = false from rfl, cond_false, gw, cond_true]; omega
    · split
      · simp only [show decide ((1 : Int) ≥ 0) = true from rfl, cond_true, gw, cond_false]; omega
      · simp only [show decide ((0 : Int) ≥ 0) = true from rfl, cond_true, gw, cond_false]; omega
  · show eU (aG true (m + n)) = -(m : Int) + -n
    rw [gw, cond_true]; omega
theorem Add_ok (a b : GI) : IOk (aI a b) := by
  unfold aI
  cases (a.neg == b.neg)
  · rw [cond_false]
    cases (decide ((ba a.mag b.mag) ≥ 0)) <;> exact lR _ _
  · exact lR _ _
theorem tx (a b : GI) : IOk (ab a b) := lR _ _
theorem rl (a : GI) : IOk (aq a) := lR _ _
theorem jA (a b : GI) : eU (ab a b) = eU a * eU b := by
  obtain ⟨s, m⟩ := a
  obtain ⟨r, n⟩ := b
  unfold ab er
  rw [gw]
  unfold eU
  cases s <;> cases r <;> simp [Int.neg_mul, Int.mul_neg]
def icmp (a b : Int) : Int := if a < b then -1 else if b < a then 1 else 0
theorem uj (a b : Int) : bP a b = icmp a b := by
  unfold bP icmp fw
  rcases Int.lt_trichotomy a b with h | h | h
  · simp [h]
  · subst h; simp
  · simp [h, show ¬ a < b by omega]
theorem kJ {a b : GI} (ha : IOk a) (hb : IOk b) : cL a b = icmp (eU a) (eU b) := by
  obtain ⟨s, m⟩ := a
  obtain ⟨r, n⟩ := b
  unfold cL
  rw [uj, jz, jz, sc]
  unfold eU icmp
  unfold IOk at ha hb
  simp only at ha hb
  cases s <;> cases r
  · simp only [bne_self_eq_false, cond_false]
    rcases Nat.lt_trichotomy m n with h | h | h
    · rw [if_pos h, if_pos (by omega)]
    · subst h; simp
    · rw [if_neg (by omega), if_pos h, if_neg (by omega), if_pos (by omega)]
  · have : n ≠ 0 := fun e => absurd (hb e) (by decide)
    have e1 : (-(n : Int)).sign = -1 := Int.sign_eq_neg_one_of_neg (by omega)
    have e2 : 0 ≤ (m : Int).sign := u4 m
    show (if (m : Int).sign < (-(n : Int)).sign then (-1 : Int) else if (-(n : Int)).sign < (m : Int).sign then 1 else 0) = if (m : Int) < -(n : Int) then -1 else if -(n : Int) < (m : Int) then 1 else 0
    simp only [e1, if_neg (show ¬ (m : Int).sign < -1 by omega), if_pos (show (-1 : Int) < (m : Int).sign by omega), if_neg (show ¬ (m : Int) < -(n : Int) by omega), if_pos (show -(n : Int) < (m : Int) by omega)]
  · have : m ≠ 0 := fun e => absurd (ha e) (by decide)
    have e1 : (-(m : Int)).sign = -1 := Int.sign_eq_neg_one_of_neg (by omega)
    have e2 : 0 ≤ (n : Int).sign := u4 n
    show (if (-(m : Int)).sign < (n : Int).sign then (-1 : Int) else if (n : Int).sign < (-(m : Int)).sign then 1 else 0) = if -(m : Int) < (n : Int) then -1 else if (n : Int) < -(m : Int) then 1 else 0
    simp only [e1, if_pos (show (-1 : Int) < (n : Int).sign by omega), if_pos (show -(m : Int) < (n : Int) by omega)]
  · simp only [bne_self_eq_false, cond_false, cond_true]
    rcases Nat.lt_trichotomy m n with h | h | h
    · rw [if_pos h, if_neg (by omega), if_pos (by omega)]; rfl
    · subst h; simp
    · rw [if_neg (by omega), if_pos h, if_pos (by omega)]
theorem gh (a : GI) : (eU a).natAbs = a.mag := by unfold eU; cases a.neg <;> simp
theorem sJ {a b : GI} (hb : b.neg = false) (h0 : b.mag ≠ 0) (hd : b.mag ∣ a.mag) : aF a b = aG a.neg (a.mag / b.mag) := by
  unfold aF aL bq
  rw [decide_eq_false h0, cond_false, Nat.mod_eq_zero_of_dvd hd, hb]
  simp
def z0 : GI := ⟨false, 0⟩
def jN (x : GQ) : Nat := if x.den = z0 then 1 else x.den.mag
def QOk (x : GQ) : Prop := IOk x.num ∧ (x.den = z0 ∨ (x.den.neg = false ∧ 1 < x.den.mag)) ∧ Nat.Coprime x.num.mag (jN x)
def bH (x : GQ) : Rat := (eU x.num : Rat) / (jN x : Rat)
theorem QOk.pos {x : GQ} (h : QOk x) : 0 < jN x := by
  unfold jN
  split
  · decide
  · rename_i e
    rcases h.2.1 with h1 | ⟨_, h1⟩
    · exact absurd h1 e
    · omega
theorem rK {x : GQ} (h : QOk x) : bH x = ⟨eU x.num, jN x, Nat.ne_of_gt h.pos, by rw [gh]; exact h.2.2⟩ := by
  rw [Rat.mk_eq_mkRat, Rat.mkRat_eq_div]; rfl
theorem dr {x y : GQ} (hx : QOk x) (hy : QOk y) (h : bH x = bH y) : x = y := by
  rw [rK hx, rK hy] at h
  injection h with h1 h2
  obtain ⟨n, d⟩ := x
  obtain ⟨m, e⟩ := y
  have e1 : n = m := sU hx.1 hy.1 h1
  have e2 : d = e := by
    unfold jN at h2
    have hx2 := hx.2.1
    have hy2 := hy.2.1
    simp only at h2 hx2 hy2
    by_cases c1 : d = z0
    · by_cases c2 : e = z0
      · rw [c1, c2]
      · rw [if_pos c1, if_neg c2] at h2
        rcases hy2 with h3 | ⟨_, h3⟩
        · exact absurd h3 c2
        · omega
    · by_cases c2 : e = z0
      · rw [if_neg c1, if_pos c2] at h2
        rcases hx2 with h3 | ⟨_, h3⟩
        · exact absurd h3 c1
        · omega
      · rw [if_neg c1, if_neg c2] at h2
        obtain ⟨a1, a2⟩ := hx2.resolve_left c1
        obtain ⟨b1, b2⟩ := hy2.resolve_left c2
        obtain ⟨s, p⟩ := d
        obtain ⟨r, q⟩ := e
        simp only at a1 b1 h2
        rw [a1, b1, h2]
  rw [e1, e2]
theorem oV : eU rational_one = 1 := eZ 1
theorem i6 {x : GQ} (h : QOk x) : eU (aa x) = jN x ∧ (aa x).neg = false := by
  unfold aa jN
  by_cases e : x.den = z0
  · rw [decide_eq_true (show x.den = ⟨false, 0⟩ from e), if_pos e]
    exact ⟨oV, rfl⟩
  · rw [decide_eq_false (show ¬ x.den = ⟨false, 0⟩ from e), if_neg e, cond_false]
    obtain ⟨h1, h2⟩ := h.2.1.resolve_left e
    refine ⟨?_, h1⟩
    unfold eU
    rw [h1]; rfl
theorem ra {n d : GI} (hn : IOk n) (hdn : d.neg = false) (hd : d.mag ≠ 0) :
    QOk (bif (decide ((aF d (aS n d)) = rational_one)) then (⟨(aF n (aS n d)), (⟨false, 0⟩ : GI)⟩ : GQ) else (⟨(aF n (aS n d)), (aF d (aS n d))⟩ : GQ)) ∧
    bH (bif (decide ((aF d (aS n d)) = rational_one)) then (⟨(aF n (aS n d)), (⟨false, 0⟩ : GI)⟩ : GQ) else (⟨(aF n (aS n d)), (aF d (aS n d))⟩ : GQ)) = (eU n : Rat) / (d.mag : Rat) := by
  have hg : 0 < Nat.gcd n.mag d.mag := Nat.gcd_pos_of_pos_right _ (by omega)
  have q1 : aF d (aS n d) = aG false (d.mag / Nat.gcd n.mag d.mag) := by
    have := sJ (a := d) (b := aS n d) rfl (by show Nat.gcd n.mag d.mag ≠ 0; omega) (Nat.gcd_dvd_right _ _)
    rw [hdn] at this
    exact this
  have q2 : aF n (aS n d) = aG n.neg (n.mag / Nat.gcd n.mag d.mag) :=
    sJ (a := n) (b := aS n d) rfl (by show Nat.gcd n.mag d.mag ≠ 0; omega) (Nat.gcd_dvd_left _ _)
  rw [q1, q2]
  have hdp : 0 < d.mag / Nat.gcd n.mag d.mag := Nat.div_pos (Nat.le_of_dvd (by omega) (Nat.gcd_dvd_right _ _)) hg
  have hcop : Nat.Coprime (n.mag / Nat.gcd n.mag d.mag) (d.mag / Nat.gcd n.mag d.mag) := Nat.coprime_div_gcd_div_gcd hg
  have hval : (eU (aG n.neg (n.mag / Nat.gcd n.mag d.mag)) : Rat) / ((d.mag / Nat.gcd n.mag d.mag : Nat) : Rat) = (eU n : Rat) / (d.mag : Rat) := by
    have e1 : eU n = eU (aG n.neg (n.mag / Nat.gcd n.mag d.mag)) * (Nat.gcd n.mag d.mag : Int) := by
      rw [gw]
      have := Nat.div_mul_cancel (Nat.gcd_dvd_left n.mag d.mag)
      unfold eU
      cases n.neg
      · simp only [cond_false]; rw [← Int.natCast_mul, this]
      · simp only [cond_true]; rw [Int.neg_mul, ← Int.natCast_mul, this]
    have e2 : d.mag = (d.mag / Nat.gcd n.mag d.mag) * Nat.gcd n.mag d.mag := (Nat.div_mul_cancel (Nat.gcd_dvd_right n.mag d.mag)).symm
    have g0 : ((Nat.gcd n.mag d.mag : Nat) : Rat) ≠ 0 := by
      intro e
      have : Nat.gcd n.mag d.mag = 0 := by exact_mod_cast e
      omega
    have d0 : ((d.mag / Nat.gcd n.mag d.mag : Nat) : Rat) ≠ 0 := by
      intro e
      have : d.mag / Nat.gcd n.mag d.mag = 0 := by exact_mod_cast e
      omega
    rw [e1, Rat.intCast_mul, Rat.intCast_natCast]
    conv => rhs; rhs; rw [e2]
    rw [Rat.natCast_mul]
    grind
  by_cases e : d.mag / Nat.gcd n.mag d.mag = 1
  · have e' : aG false (d.mag / Nat.gcd n.mag d.mag) = rational_one := by rw [e]; rfl
    rw [decide_eq_true e', cond_true]
    refine ⟨⟨lR _ _, .inl rfl, ?_⟩, ?_⟩
    · show Nat.Coprime (n.mag / Nat.gcd n.mag d.mag) 1; exact Nat.coprime_one_right _
    · rw [← hval, e]; rfl
  · have e' : ¬ aG false (d.mag / Nat.gcd n.mag d.mag) = rational_one := fun h => e (by
      have : (aG false (d.mag / Nat.gcd n.mag d.mag)).mag = rational_one.mag := by rw [h]
      exact this)
    rw [decide_eq_false e', cond_false]
    have ez : ¬ (aG false (d.mag / Nat.gcd n.mag d.mag)) = z0 := fun h => by
      have : (aG false (d.mag / Nat.gcd n.mag d.mag)).mag = z0.mag := by rw [h]
      have : d.mag / Nat.gcd n.mag d.mag = 0 := this
      omega
    have eq : jN (⟨aG n.neg (n.mag / Nat.gcd n.mag d.mag), aG false (d.mag / Nat.gcd n.mag d.mag)⟩ : GQ) = d.mag / Nat.gcd n.mag d.mag := if_neg ez
    refine ⟨⟨lR _ _, .inr ⟨rfl, by show 1 < d.mag / Nat.gcd n.mag d.mag; omega⟩, ?_⟩, ?_⟩
    · rw [eq]; exact hcop
    · unfold bH
      rw [eq, ← hval]
theorem pG {n d : GI} (hn : IOk n) (hd : eU d ≠ 0) : QOk (a8 n d) ∧ bH (a8 n d) = (eU n : Rat) / (eU d : Rat) := by
  have hm : d.mag ≠ 0 := fun e => hd (by unfold eU; rw [e]; cases d.neg <;> rfl)
  unfold a8
  rw [jz]
  cases hs : d.neg with
  | false =>
    have e : eU d = (d.mag : Int) := by unfold eU; rw [hs]; rfl
    rw [decide_eq_false (by rw [e]; have := u4 d.mag; omega), cond_false, e, Rat.intCast_natCast]
    exact ra hn hs hm
  | true =>
    have e : eU d = -(d.mag : Int) := by unfold eU; rw [hs]; rfl
    rw [decide_eq_true (by rw [e, Int.sign_eq_neg_one_of_neg (by omega)]; decide), cond_true, e]
    have hN : (aq d).neg = false := by
      unfold aq aG; rw [hs]; rfl
    have hM : (aq d).mag = d.mag := rfl
    obtain ⟨k1, k2⟩ := ra (rl n) hN (by rw [hM]; exact hm)
    refine ⟨k1, k2.trans ?_⟩
    rw [ot, hM, Rat.intCast_neg, Rat.intCast_neg, Rat.intCast_natCast]
    have d0 : (d.mag : Rat) ≠ 0 := by
      intro e
      have : d.mag = 0 := by exact_mod_cast e
      omega
    grind
theorem mW {x : GQ} (h : QOk x) : (jN x : Rat) ≠ 0 := by
  intro e
  have : jN x = 0 := by exact_mod_cast e
  have := h.pos
  omega
theorem oT {x : GQ} (h : QOk x) : (0 : Rat) < (jN x : Rat) := by
  have := h.pos
  exact_mod_cast this
theorem q5 {x y : GQ} (hx : QOk x) (hy : QOk y) : ∃ D : Rat, 0 < D ∧ (eU (aT x y).1 : Rat) = bH x * D ∧ (eU (aT x y).2.1 : Rat) = bH y * D ∧ (eU (aT x y).2.2 : Rat) = D ∧ IOk (aT x y).1 ∧ IOk (aT x y).2.1 := by
  have h1 := oT hx
  have h2 := oT hy
  unfold aT
  by_cases e : x.den = y.den
  · rw [decide_eq_true e, cond_true]
    have e2 : jN x = jN y := by unfold jN; rw [e]
    refine ⟨jN x, h1, ?_, ?_, ?_, hx.1, hy.1⟩
    · unfold bH; show (eU x.num : Rat) = _; grind
    · unfold bH; rw [e2]; show (eU y.num : Rat) = _; grind
    · show (eU (aa x) : Rat) = _
      rw [(i6 hx).1, Rat.intCast_natCast]
  · rw [decide_eq_false e, cond_false]
    refine ⟨(jN x : Rat) * (jN y : Rat), Rat.mul_pos h1 h2, ?_, ?_, ?_, tx _ _, tx _ _⟩
    · show (eU (ab x.num (aa y)) : Rat) = _
      rw [jA, Rat.intCast_mul, (i6 hy).1, Rat.intCast_natCast]
      unfold bH; grind
    · show (eU (ab y.num (aa x)) : Rat) = _
      rw [jA, Rat.intCast_mul, (i6 hx).1, Rat.intCast_natCast]
      unfold bH; grind
    · show (eU (ab (aa x) (aa y)) : Rat) = _
      rw [jA, Rat.intCast_mul, (i6 hx).1, (i6 hy).1, Rat.intCast_natCast, Rat.intCast_natCast]
theorem fo {x y : GQ} (hx : QOk x) (hy : QOk y) : QOk (an x y) ∧ bH (an x y) = bH x + bH y := by
  obtain ⟨D, h0, h1, h2, h3, _, _⟩ := q5 hx hy
  unfold an
  have hd : eU (aT x y).2.2 ≠ 0 := fun e => by
    rw [e] at h3
    have h4 : (0 : Rat) = D := h3
    grind
  obtain ⟨k1, k2⟩ := pG (Add_ok (aT x y).1 (aT x y).2.1) hd
  refine ⟨k1, ?_⟩
  rw [k2, Add_val, Rat.intCast_add, h1, h2, h3]
  grind
theorem fG {x y : GQ} (hx : QOk x) (hy : QOk y) : QOk (ak x y) ∧ bH (ak x y) = bH x * bH y := by
  unfold ak
  have e1 := (i6 hx).1
  have e2 := (i6 hy).1
  have h1 := hx.pos
  have h2 := hy.pos
  have hd : eU (ab (aa x) (aa y)) ≠ 0 := by
    rw [jA, e1, e2, ← Int.natCast_mul]
    have := Nat.mul_pos h1 h2
    omega
  obtain ⟨k1, k2⟩ := pG (tx x.num y.num) hd
  refine ⟨k1, ?_⟩
  rw [k2, jA, jA, e1, e2]
  simp only [Rat.intCast_mul, Rat.intCast_natCast]
  have d1 := mW hx
  have d2 := mW hy
  unfold bH
  grind
theorem iI {x : GQ} (hx : QOk x) : QOk (aD x) ∧ bH (aD x) = - bH x := by
  refine ⟨⟨rl _, hx.2.1, hx.2.2⟩, ?_⟩
  unfold bH aD
  show (eU (aq x.num) : Rat) / (jN x : Rat) = _
  rw [ot, Rat.intCast_neg]
  grind
theorem iE {x y : GQ} (hx : QOk x) (hy : QOk y) : QOk (aj x y) ∧ bH (aj x y) = bH x - bH y := by
  unfold aj
  obtain ⟨k1, k2⟩ := iI hy
  obtain ⟨k3, k4⟩ := fo hx k1
  refine ⟨k3, ?_⟩
  rw [k4, k2]; grind
theorem cu (n : Int) : QOk (ah n) ∧ bH (ah n) = (n : Rat) := by
  refine ⟨⟨jo n, .inl rfl, Nat.coprime_one_right _⟩, ?_⟩
  unfold bH
  show (eU (au n) : Rat) / ((1 : Nat) : Rat) = _
  rw [eZ]
  grind
def rsgn (x : Rat) : Int := if x < 0 then -1 else if 0 < x then 1 else 0
theorem zero_ok : QOk ⟨z0, z0⟩ ∧ bH ⟨z0, z0⟩ = 0 := cu 0
theorem iU {x : GQ} (hx : QOk x) : aw x = rsgn (bH x) := by
  have h1 := oT hx
  have hm : (eU x.num : Rat) = bH x * (jN x : Rat) := by unfold bH; grind
  unfold aw rsgn
  rw [jz]
  rcases Int.lt_trichotomy (eU x.num) 0 with h | h | h
  · rw [Int.sign_eq_neg_one_of_neg h]
    have h2 : (eU x.num : Rat) < 0 := by exact_mod_cast h
    rw [if_pos]
    rcases Rat.le_total (a := 0) (b := bH x) with h3 | h3
    · have := Rat.mul_nonneg h3 (Rat.le_of_lt h1)
      grind
    · by_cases h4 : bH x = 0
      · rw [h4] at hm; grind
      · grind
  · rw [h]
    have h2 : (eU x.num : Rat) = 0 := by rw [h]; rfl
    have h3 : bH x = 0 := by unfold bH; rw [h2]; grind
    rw [h3, if_neg (by decide), if_neg (by decide)]; rfl
  · rw [Int.sign_eq_one_of_pos h]
    have h2 : (0 : Rat) < (eU x.num : Rat) := by exact_mod_cast h
    have h3 : 0 < bH x := by
      rcases Rat.le_total (a := 0) (b := bH x) with h3 | h3
      · by_cases h4 : bH x = 0
        · rw [h4] at hm; grind
        · grind
      · have := Rat.mul_nonneg (a := - bH x) (by grind) (Rat.le_of_lt h1)
        grind
    rw [if_neg (by grind), if_pos h3]
def rcmp (x y : Rat) : Int := if x < y then -1 else if y < x then 1 else 0
theorem r9 {x y : GQ} (hx : QOk x) (hy : QOk y) : aY x y = rcmp (bH x) (bH y) := by
  unfold aY rcmp
  by_cases e : x = y
  · rw [decide_eq_true e, e]
    simp
  · rw [decide_eq_false e, cond_false]
    obtain ⟨D, h0, h1, h2, h3, k1, k2⟩ := q5 hx hy
    rw [kJ k1 k2]
    unfold icmp
    have key : ∀ a b : Int, ∀ p q : Rat, (a : Rat) = p * D → (b : Rat) = q * D → (a < b ↔ p < q) := by
      intro a b p q e1 e2
      rw [← Rat.intCast_lt_intCast, e1, e2]
      exact Rat.mul_lt_mul_right h0
    have i1 := key _ _ _ _ h1 h2
    have i2 := key _ _ _ _ h2 h1
    by_cases c1 : bH x < bH y
    · rw [if_pos c1, if_pos (i1.2 c1)]
    · rw [if_neg c1, if_neg (fun h => c1 (i1.1 h))]
      by_cases c2 : bH y < bH x
      · rw [if_pos c2, if_pos (i2.2 c2)]
      · rw [if_neg c2, if_neg (fun h => c2 (i2.1 h))]
end Go.Sx
namespace Go.Sx
def zQ : GQ := ⟨⟨false, 0⟩, ⟨false, 0⟩⟩
theorem ff : QOk zQ ∧ bH zQ = 0 := zero_ok
def DOk (q : Qd) : Prop := QOk q.c0 ∧ QOk q.c1 ∧ QOk q.c2
def TOk (t : GR) : Prop := QOk t.p ∧ QOk t.r
def lv (t : GR) (q : Qd) : Rat × Rat :=
  if t.r = zQ then (bH q.c0 + bH t.p * (bH q.c1 + bH t.p * bH q.c2), 0)
  else (bH q.c0 + bH q.c2 * (bH t.r - bH t.p * bH t.p), bH q.c1 + (bH q.c2 + bH q.c2) * bH t.p)
theorem wF {q : Qd} {t : GQ} (hq : DOk q) (ht : QOk t) : QOk (aU q t) ∧ bH (aU q t) = bH q.c0 + bH t * (bH q.c1 + bH t * bH q.c2) := by
  obtain ⟨h0, h1, h2⟩ := hq
  unfold aU
  obtain ⟨a1, a2⟩ := fG ht h2
  obtain ⟨b1, b2⟩ := fo h1 a1
  obtain ⟨c1, c2⟩ := fG ht b1
  obtain ⟨d1, d2⟩ := fo h0 c1
  exact ⟨d1, by rw [d2, c2, b2, a2]⟩
theorem slope_ok {q : Qd} {t : GQ} (hq : DOk q) (ht : QOk t) : QOk (aR q t) ∧ bH (aR q t) = bH q.c1 + (bH q.c2 + bH q.c2) * bH t := by
  obtain ⟨h0, h1, h2⟩ := hq
  unfold aR
  obtain ⟨a1, a2⟩ := fo h2 h2
  obtain ⟨b1, b2⟩ := fG a1 ht
  obtain ⟨c1, c2⟩ := fo h1 b1
  exact ⟨c1, by rw [c2, b2, a2]⟩
theorem uO {p q : Qd} (hp : DOk p) (hq : DOk q) : DOk (du p q) ∧ bH (du p q).c0 = bH p.c0 - bH q.c0 ∧ bH (du p q).c1 = bH p.c1 - bH q.c1 ∧ bH (du p q).c2 = bH p.c2 - bH q.c2 := by
  unfold du
  obtain ⟨a1, a2⟩ := iE hp.1 hq.1
  obtain ⟨b1, b2⟩ := iE hp.2.1 hq.2.1
  obtain ⟨c1, c2⟩ := iE hp.2.2 hq.2.2
  exact ⟨⟨a1, b1, c1⟩, a2, b2, c2⟩
theorem ji {a b : GQ} (ha : QOk a) (hb : QOk b) : DOk (aM a b) ∧ (aM a b).c0 = a ∧ (aM a b).c1 = b ∧ (aM a b).c2 = zQ := by
  unfold aM
  exact ⟨⟨ha, hb, ff.1⟩, rfl, rfl, rfl⟩
theorem fK {q : Qd} {t : GR} (hq : DOk q) (ht : TOk t) : DOk (aV q t) ∧ bH (aV q t).c0 = (lv t q).1 ∧ bH (aV q t).c1 = (lv t q).2 ∧ (aV q t).c2 = zQ := by
  unfold aV dq lv
  by_cases e : t.r = zQ
  · rw [decide_eq_true (show t.r = ⟨⟨false, 0⟩, ⟨false, 0⟩⟩ from e), if_pos e]
    obtain ⟨k1, k2⟩ := wF hq ht.1
    exact ⟨⟨k1, ff.1, ff.1⟩, k2, ff.2, rfl⟩
  · rw [decide_eq_false (show ¬ t.r = ⟨⟨false, 0⟩, ⟨false, 0⟩⟩ from e), if_neg e, Bool.not_false, cond_true, cond_false]
    obtain ⟨a1, a2⟩ := fG ht.1 ht.1
    obtain ⟨b1, b2⟩ := iE ht.2 a1
    obtain ⟨c1, c2⟩ := fG hq.2.2 b1
    obtain ⟨d1, d2⟩ := fo hq.1 c1
    obtain ⟨s1, s2⟩ := slope_ok hq ht.1
    obtain ⟨l1, l2, l3, l4⟩ := ji d1 s1
    exact ⟨l1, by rw [l2, d2, c2, b2, a2], by rw [l3, s2], l4⟩
theorem qd_ext {p q : Qd} (hp : DOk p) (hq : DOk q) (h0 : bH p.c0 = bH q.c0) (h1 : bH p.c1 = bH q.c1) (h2 : bH p.c2 = bH q.c2) : p = q := by
  have e0 := dr hp.1 hq.1 h0
  have e1 := dr hp.2.1 hq.2.1 h1
  have e2 := dr hp.2.2 hq.2.2 h2
  obtain ⟨a, b, c⟩ := p
  obtain ⟨x, y, z⟩ := q
  simp only at e0 e1 e2
  rw [e0, e1, e2]
theorem rl1 (a b c d e f p : Rat) : (a - b) + p * ((c - d) + p * (e - f)) = (a + p * (c + p * e)) - (b + p * (d + p * f)) := by grind
theorem rl2 (a b c d x : Rat) : (a - b) + (c - d) * x = (a + c * x) - (b + d * x) := by grind
theorem rl3 (a b c d x : Rat) : (a - b) + ((c - d) + (c - d)) * x = (a + (c + c) * x) - (b + (d + d) * x) := by grind
theorem lv_sub {p q : Qd} {t : GR} (hp : DOk p) (hq : DOk q) : lv t (du p q) = ((lv t p).1 - (lv t q).1, (lv t p).2 - (lv t q).2) := by
  obtain ⟨_, e0, e1, e2⟩ := uO hp hq
  unfold lv
  by_cases e : t.r = zQ
  · rw [if_pos e, if_pos e, if_pos e, e0, e1, e2, rl1]
    exact Prod.ext rfl (by show (0 : Rat) = 0 - 0; grind)
  · rw [if_neg e, if_neg e, if_neg e, e0, e1, e2, rl2, rl3]
theorem sA {p q : Qd} {t : GR} (hp : DOk p) (hq : DOk q) (ht : TOk t) : fC p q t = true ↔ lv t p = lv t q := by
  unfold fC
  rw [decide_eq_true_eq]
  obtain ⟨k1, _⟩ := uO hp hq
  obtain ⟨r1, r2, r3, r4⟩ := fK k1 ht
  rw [lv_sub hp hq] at r2 r3
  constructor
  · intro h
    rw [h] at r2 r3
    have z := ff.2
    unfold zQ at z
    refine Prod.ext ?_ ?_
    · simp only at r2; grind
    · simp only at r3; grind
  · intro h
    refine qd_ext r1 ⟨ff.1, ff.1, ff.1⟩ ?_ ?_ ?_
    · rw [r2, h]; show _ = bH zQ; rw [ff.2]; grind
    · rw [r3, h]; show _ = bH zQ; rw [ff.2]; grind
    · rw [r4]; rfl
theorem ll {q : Qd} {t : GR} (hq : DOk q) (ht : TOk t) : lv t (aV q t) = lv t q := by
  obtain ⟨r1, r2, r3, r4⟩ := fK hq ht
  have h : ∀ x : Qd, bH x.c0 = (lv t q).1 → bH x.c1 = (lv t q).2 → x.c2 = zQ → lv t x = lv t q := by
    intro x e0 e1 e2
    have e3 : bH x.c2 = 0 := by rw [e2]; exact ff.2
    have e4 : t.r = zQ → (lv t q).2 = 0 := fun e => by unfold lv; rw [if_pos e]
    conv => lhs; unfold lv
    split
    · rename_i e
      rw [e4 e] at e1
      refine Prod.ext ?_ ?_
      · simp only; rw [e0, e1, e3]; grind
      · simp only; rw [e4 e]
    · refine Prod.ext ?_ ?_
      · simp only; rw [e0, e3]; grind
      · simp only; rw [e1, e3]; grind
  exact h _ r2 r3 r4
theorem qd {p q : Qd} {t : GR} (hp : DOk p) (hq : DOk q) (ht : TOk t) : aV p t = aV q t ↔ lv t p = lv t q := by
  obtain ⟨r1, r2, r3, r4⟩ := fK hp ht
  obtain ⟨s1, s2, s3, s4⟩ := fK hq ht
  constructor
  · intro h; rw [← ll hp ht, ← ll hq ht, h]
  · intro h; exact qd_ext r1 s1 (by rw [r2, s2, h]) (by rw [r3, s3, h]) (by rw [r4, s4])
end Go.Sx
namespace Go.Sx
open Go Go.RowKit Go.Proofs
set_option maxRecDepth 100000
set_option maxHeartbeats 40000000
attribute [local irreducible] Code.wp wpList Rd Step ObS Ent
attribute [local irreducible] ao aN ah aw ay bP
theorem bld206 : BuildF Tryz.prog 206 [.bool false, .string ⟨#[]⟩, .bool false, .string ⟨#[]⟩, .bool false, .string ⟨#[]⟩, .bool false, .string ⟨#[]⟩, .bool false, .bool false] [(0, 9), (9, 1)] := BuildF.of Tryz.zeroValue206 rfl Tryz.runUnderlying206 (by intro w; simp [Tryz.sizeOf4, Tryz.sizeOf71])
theorem rh : BuildF Tryz.prog 321 [.bool false, .string ⟨#[]⟩, .bool false, .string ⟨#[]⟩, .bool false, .string ⟨#[]⟩, .bool false, .string ⟨#[]⟩, .bool false, .bool false, .int .i64 0, .int .i64 0] [(0, 10), (10, 2)] := BuildF.of Tryz.zeroValue321 rfl Tryz.runUnderlying321 (by intro w; simp [Tryz.sizeOf206, Tryz.sizeOf319])
theorem bld55 : BuildF Tryz.prog 55 [] [] := BuildF.of Tryz.zeroValue55 rfl Tryz.runUnderlying55 (by intro w; simp)
theorem bld80 : BuildF Tryz.prog 80 [] [] := BuildF.of Tryz.zeroValue80 rfl Tryz.runUnderlying80 (by intro w; simp)
theorem oI : SlT Tryz.prog 66 71 9 104 [.bool false, .string ⟨#[]⟩, .bool false, .string ⟨#[]⟩, .bool false, .string ⟨#[]⟩, .bool false, .string ⟨#[]⟩, .bool false] := ⟨Tryz.underlying66, Tryz.t71, _, Tryz.type71, rfl, rfl, rfl, rfl, rfl, by decide, by decide⟩
end Go.Sx
namespace Go.Sx
open Go Go.RowKit Go.Proofs
set_option maxRecDepth 100000
set_option maxHeartbeats 40000000
attribute [local irreducible] Code.wp wpList Rd Step ObS Ent
attribute [local irreducible] ao aN ah aw ay bP
def wX (x : List Int) (x8 : Nat) : Int :=
 0
def jj (x : List Int) (x8 : Nat) : Nx Nat Int :=
 bif (decide (((x8 : Nat) : Int) < ((x.length : Nat) : Int))) then
  bif ((gt x x8) != 0) then
   .ret (gt x x8)
  else
   .go (x8 + 1)
 else
  .out x8
def kz (x : List Int) : Int :=
 fin (dZ (fun s => jj x s) ((x.length - 0) + 1) 0) (fun s => wX x s) (fun r => r)
theorem wW (x : List Int) (xv : Value) (w0 : World) (hxv : View w0 xv x) : Calls Tryz.prog 227 #[xv] w0 (dh w0 (.int .i64 (kz x)) (True)) := by
 refine enter (N := 18) (args := [xv]) Tryz.func227 rfl rfl ?_; intro ac h
 have hlenx := hxv.len
 obtain ⟨X1, hX1⟩ : ∃ X, dZ (fun s => jj x s) ((x.length - 0) + 1) 0 = X := ⟨_, rfl⟩
 refine gz h <| (W) ?_; clear h ac; intro ac wo h
 refine wp_loop_ghost (fun n_ a_ w_ => ∃ (x8 : Nat), ((x.length - x8) < n_) ∧ (dZ (fun s => jj x s) n_ x8 = X1) ∧ (x8 ≤ x.length) ∧ St w0 18 [(3, (.int .i64 0)), (6, xv), (7, (.int .i64 ((x.length : Nat) : Int))), (8, (.int .i64 ((x8 : Nat) : Int)))] [] a_ w_) ((x.length - 0) + 1) ⟨0, og, hX1, og, h.rs⟩ ?_
 clear h ac wo; rintro n1 ac wo ⟨x8, hm1, hL1, hx8, h⟩
 obtain ⟨m1, rfl⟩ : ∃ m, n1 = m + 1 := ⟨n1 - 1, by omega⟩
 refine gz h <| (ai) ?_ ?_ <;> clear h ac wo <;> intro ac wo h hc1
 ·
  have hd1 := of_decide_eq_true hc1
  refine gz h <| (ai) ?_ ?_ <;> clear h ac wo <;> intro ac wo h hc2
  ·
   have hq2 := hc2; try simp at hq2
   have hr1 := sR hL1 pt
   have hd : kz x = (gt x x8) := pt
   refine gz h <| (W) ?_; clear h ac wo; intro ac wo h
   exact (rt h) (h.retP (by rw [hd] <;> rfl) trivial)
  ·
   have hq2 := hc2; try simp at hq2
   refine gz h <| (W) ?_; clear h ac wo; intro ac wo h
   have hg := eK hL1 pt
   exact aK ⟨m1, og, _, og, hg, og, h.re []⟩
 ·
  have hd1 := of_decide_eq_false hc1
  have hx1 := g8 hL1 pt
  have hd : kz x = 0 := pt
  refine gz h <| (W) ?_; clear h ac wo; intro ac wo h
  exact (rt h) (h.retP (by rw [hd] <;> rfl) trivial)
attribute [irreducible] kz
end Go.Sx
