/- A part of the proof of movingpointNumbers. -/
import Derived.Test.YtbenbmdkhcfcfaaGreatDoorG7
set_option linter.unusedVariables false
set_option linter.unusedSimpArgs false
namespace Go.Sx
def fP (a : GI) : Int := bif a.neg then -(a.mag : Int) else (a.mag : Int)
def IOk (a : GI) : Prop := a.mag = 0 → a.neg = false
theorem mV (s : Bool) (m : Nat) : IOk (aH s m) := by
  intro h
  have h : m = 0 := h
  subst h
  cases s <;> rfl
theorem iD (s : Bool) (m : Nat) : fP (aH s m) = bif s then -(m : Int) else (m : Int) := by
  unfold fP aH
  by_cases h : m = 0
  · subst h; cases s <;> rfl
  · cases s <;> simp [h]
theorem tR {a b : GI} (ha : IOk a) (hb : IOk b) (h : fP a = fP b) : a = b := by
  obtain ⟨s, m⟩ := a
  obtain ⟨r, n⟩ := b
  unfold fP at h
  unfold IOk at ha hb
  simp only at ha hb h
  cases s <;> cases r <;> simp only [cond_true, cond_false] at h
  · have : m = n := by omega
    rw [this]
  · have h1 : m = 0 := by omega
    have h2 : n = 0 := by omega
    exact absurd (hb h2) (by decide)
  · have h1 : m = 0 := by omega
    exact absurd (ha h1) (by decide)
  · have : m = n := by omega
    rw [this]
theorem lJ (n : Int) : IOk (ay n) := by
  unfold IOk ay
  intro h
  have h : n.natAbs = 0 := h
  exact decide_eq_false (by omega)
theorem fJ (n : Int) : fP (ay n) = n := by
  unfold fP ay
  by_cases h : n < 0
  · simp only [decide_eq_true h, cond_true]; omega
  · simp only [decide_eq_false h, cond_false]; omega
theorem vJ (m : Nat) : 0 ≤ ((m : Nat) : Int).sign := by
  cases m with
  | zero => decide
  | succ m => exact Int.le_of_lt (by rw [Int.sign_eq_one_of_pos (by omega)]; decide)
theorem kI (a : GI) : cz a = (fP a).sign := by
  obtain ⟨s, m⟩ := a
  unfold cz fP
  by_cases h : m = 0
  · subst h; cases s <;> rfl
  · rw [decide_eq_false h]
    cases s
    · exact (Int.sign_eq_one_of_pos (by show (0 : Int) < (m : Int); omega)).symm
    · exact (Int.sign_eq_neg_one_of_neg (by show -(m : Int) < 0; omega)).symm
theorem pQ (a : GI) : fP (aq a) = - fP a := by
  unfold aq
  rw [iD]
  unfold fP
  cases a.neg <;> simp
theorem sY (a b : Nat) : bp a b = if a < b then -1 else if b < a then 1 else 0 := by
  unfold bp
  rcases Nat.lt_trichotomy a b with h | h | h
  · rw [show Nat.blt a b = true by rw [Nat.blt_eq]; exact h, cond_true, if_pos h]
  · subst h
    have h1 : Nat.blt a a = false := by
      cases e : Nat.blt a a with
      | false => rfl
      | true => rw [Nat.blt_eq] at e; omega
    rw [h1, Nat.beq_refl, if_neg (Nat.lt_irrefl _), if_neg (Nat.lt_irrefl _)]; rfl
  · have h1 : Nat.blt a b = false := by
      cases e : Nat.blt a b with
      | false => rfl
      | true => rw [Nat.blt_eq] at e; omega
    have h2 : Nat.beq a b = false := by
      cases e : Nat.beq a b with
      | false => rfl
      | true => have := Nat.eq_of_beq_eq_true e; omega
    rw [h1, h2, if_neg (by omega), if_pos h]; rfl
theorem Add_val (a b : GI) : fP (aK a b) = fP a + fP b := by
  obtain ⟨s, m⟩ := a
  obtain ⟨r, n⟩ := b
  unfold aK dL dh
  simp only [sY]
  cases s <;> cases r
  · show fP (aH false (m + n)) = (m : Int) + n
    rw [iD]; simp
  · show fP (bif decide (_ ≥ (0 : Int)) then aH false (m - n) else aH true (n - m)) = (m : Int) + -n
    split <;> rename_i h1
    · simp only [show decide ((-1 : Int) ≥ 0) = false from rfl, cond_false, iD, cond_true]; omega
    · split
      · simp only [show decide ((1 : Int) ≥ 0) = true from rfl, cond_true, iD, cond_false]; omega
      · simp only [show decide ((0 : Int) ≥ 0) = true from rfl, cond_true, iD, cond_false]; omega
  · show fP (bif decide (_ ≥ (0 : Int)) then aH true (m - n) else aH false (n - m)) = -(m : Int) + n
    split <;> rename_i h1
    · simp only [show decide ((-1 : Int) ≥ 0) = false from rfl, cond_false, iD, cond_true]; omega
    · split
      · simp only [show decide ((1 : Int) ≥ 0) = true from rfl, cond_true, iD, cond_false]; omega
      · simp only [show decide ((0 : Int) ≥ 0) = true from rfl, cond_true, iD, cond_false]; omega
  · show fP (aH true (m + n)) = -(m : Int) + -n
    rw [iD, cond_true]; omega
theorem Add_ok (a b : GI) : IOk (aK a b) := by
  unfold aK
  cases (a.neg == b.neg)
  · rw [cond_false]
    cases (decide ((bp a.mag b.mag) ≥ 0)) <;> exact mV _ _
  · exact mV _ _
theorem uf (a b : GI) : IOk (ab a b) := mV _ _
theorem sf (a : GI) : IOk (aq a) := mV _ _
theorem kJ (a b : GI) : fP (ab a b) = fP a * fP b := by
  obtain ⟨s, m⟩ := a
  obtain ⟨r, n⟩ := b
  unfold ab e5
  rw [iD]
  unfold fP
  cases s <;> cases r <;> simp [Int.neg_mul, Int.mul_neg]
def icmp (a b : Int) : Int := if a < b then -1 else if b < a then 1 else 0
theorem uU (a b : Int) : bO a b = icmp a b := by
  unfold bO icmp gc
  rcases Int.lt_trichotomy a b with h | h | h
  · simp [h]
  · subst h; simp
  · simp [h, show ¬ a < b by omega]
theorem oO {a b : GI} (ha : IOk a) (hb : IOk b) : dB a b = icmp (fP a) (fP b) := by
  obtain ⟨s, m⟩ := a
  obtain ⟨r, n⟩ := b
  unfold dB
  rw [uU, kI, kI, sY]
  unfold fP icmp
  unfold IOk at ha hb
  simp only at ha hb
  cases s <;> cases r
  · simp only [bne_self_eq_false, cond_false]
    rcases Nat.lt_trichotomy m n with h | h | h
    · rw [if_pos h, if_pos (by omega)]
    · subst h; simp
    · rw [if_neg (by omega), if_pos h, if_neg (by omega), if_pos (by omega)]
  · have : n ≠ 0 := fun e => absurd (hb e) (by decide)
    have e1 : (-(n : Int)).sign = -1 := Int.sign_eq_neg_one_of_neg (by omega)
    have e2 : 0 ≤ (m : Int).sign := vJ m
    show (if (m : Int).sign < (-(n : Int)).sign then (-1 : Int) else if (-(n : Int)).sign < (m : Int).sign then 1 else 0) = if (m : Int) < -(n : Int) then -1 else if -(n : Int) < (m : Int) then 1 else 0
    simp only [e1, if_neg (show ¬ (m : Int).sign < -1 by omega), if_pos (show (-1 : Int) < (m : Int).sign by omega), if_neg (show ¬ (m : Int) < -(n : Int) by omega), if_pos (show -(n : Int) < (m : Int) by omega)]
  · have : m ≠ 0 := fun e => absurd (ha e) (by decide)
    have e1 : (-(m : Int)).sign = -1 := Int.sign_eq_neg_one_of_neg (by omega)
    have e2 : 0 ≤ (n : Int).sign := vJ n
    show (if (-(m : Int)).sign < (n : Int).sign then (-1 : Int) else if (n : Int).sign < (-(m : Int)).sign then 1 else 0) = if -(m : Int) < (n : Int) then -1 else if (n : Int) < -(m : Int) then 1 else 0
    simp only [e1, if_pos (show (-1 : Int) < (n : Int).sign by omega), if_pos (show -(m : Int) < (n : Int) by omega)]
  · simp only [bne_self_eq_false, cond_false, cond_true]
    rcases Nat.lt_trichotomy m n with h | h | h
    · rw [if_pos h, if_neg (by omega), if_pos (by omega)]; rfl
    · subst h; simp
    · rw [if_neg (by omega), if_pos h, if_pos (by omega)]
theorem i4 (a : GI) : (fP a).natAbs = a.mag := by unfold fP; cases a.neg <;> simp
theorem tK {a b : GI} (hb : b.neg = false) (h0 : b.mag ≠ 0) (hd : b.mag ∣ a.mag) : aG a b = aH a.neg (a.mag / b.mag) := by
  unfold aG aM bB
  rw [decide_eq_false h0, cond_false, Nat.mod_eq_zero_of_dvd hd, hb]
  simp
def z0 : GI := ⟨false, 0⟩
def l5 (x : GQ) : Nat := if x.den = z0 then 1 else x.den.mag
def QOk (x : GQ) : Prop := IOk x.num ∧ (x.den = z0 ∨ (x.den.neg = false ∧ 1 < x.den.mag)) ∧ Nat.Coprime x.num.mag (l5 x)
def ce (x : GQ) : Rat := (fP x.num : Rat) / (l5 x : Rat)
theorem QOk.pos {x : GQ} (h : QOk x) : 0 < l5 x := by
  unfold l5
  split
  · decide
  · rename_i e
    rcases h.2.1 with h1 | ⟨_, h1⟩
    · exact absurd h1 e
    · omega
theorem sD {x : GQ} (h : QOk x) : ce x = ⟨fP x.num, l5 x, Nat.ne_of_gt h.pos, by rw [i4]; exact h.2.2⟩ := by
  rw [Rat.mk_eq_mkRat, Rat.mkRat_eq_div]; rfl
theorem gA {x y : GQ} (hx : QOk x) (hy : QOk y) (h : ce x = ce y) : x = y := by
  rw [sD hx, sD hy] at h
  injection h with h1 h2
  obtain ⟨n, d⟩ := x
  obtain ⟨m, e⟩ := y
  have e1 : n = m := tR hx.1 hy.1 h1
  have e2 : d = e := by
    unfold l5 at h2
    have hx2 := hx.2.1
    have hy2 := hy.2.1
    simp only at h2 hx2 hy2
    by_cases c1 : d = z0
    · by_cases c2 : e = z0
      · rw [c1, c2]
      · rw [if_pos c1, if_neg c2] at h2
        rcases hy2 with h3 | ⟨_, h3⟩
        · exact absurd h3 c2
        · omega
    · by_cases c2 : e = z0
      · rw [if_neg c1, if_pos c2] at h2
        rcases hx2 with h3 | ⟨_, h3⟩
        · exact absurd h3 c1
        · omega
      · rw [if_neg c1, if_neg c2] at h2
        obtain ⟨a1, a2⟩ := hx2.resolve_left c1
        obtain ⟨b1, b2⟩ := hy2.resolve_left c2
        obtain ⟨s, p⟩ := d
        obtain ⟨r, q⟩ := e
        simp only at a1 b1 h2
        rw [a1, b1, h2]
  rw [e1, e2]
theorem wB : fP rational_one = 1 := fJ 1
theorem j4 {x : GQ} (h : QOk x) : fP (aa x) = l5 x ∧ (aa x).neg = false := by
  unfold aa l5
  by_cases e : x.den = z0
  · rw [decide_eq_true (show x.den = ⟨false, 0⟩ from e), if_pos e]
    exact ⟨wB, rfl⟩
  · rw [decide_eq_false (show ¬ x.den = ⟨false, 0⟩ from e), if_neg e, cond_false]
    obtain ⟨h1, h2⟩ := h.2.1.resolve_left e
    refine ⟨?_, h1⟩
    unfold fP
    rw [h1]; rfl
theorem r7 {n d : GI} (hn : IOk n) (hdn : d.neg = false) (hd : d.mag ≠ 0) :
    QOk (bif (decide ((aG d (aW n d)) = rational_one)) then (⟨(aG n (aW n d)), (⟨false, 0⟩ : GI)⟩ : GQ) else (⟨(aG n (aW n d)), (aG d (aW n d))⟩ : GQ)) ∧
    ce (bif (decide ((aG d (aW n d)) = rational_one)) then (⟨(aG n (aW n d)), (⟨false, 0⟩ : GI)⟩ : GQ) else (⟨(aG n (aW n d)), (aG d (aW n d))⟩ : GQ)) = (fP n : Rat) / (d.mag : Rat) := by
  have hg : 0 < Nat.gcd n.mag d.mag := Nat.gcd_pos_of_pos_right _ (by omega)
  have q1 : aG d (aW n d) = aH false (d.mag / Nat.gcd n.mag d.mag) := by
    have := tK (a := d) (b := aW n d) rfl (by show Nat.gcd n.mag d.mag ≠ 0; omega) (Nat.gcd_dvd_right _ _)
    rw [hdn] at this
    exact this
  have q2 : aG n (aW n d) = aH n.neg (n.mag / Nat.gcd n.mag d.mag) :=
    tK (a := n) (b := aW n d) rfl (by show Nat.gcd n.mag d.mag ≠ 0; omega) (Nat.gcd_dvd_left _ _)
  rw [q1, q2]
  have hdp : 0 < d.mag / Nat.gcd n.mag d.mag := Nat.div_pos (Nat.le_of_dvd (by omega) (Nat.gcd_dvd_right _ _)) hg
  have hcop : Nat.Coprime (n.mag / Nat.gcd n.mag d.mag) (d.mag / Nat.gcd n.mag d.mag) := Nat.coprime_div_gcd_div_gcd hg
  have hval : (fP (aH n.neg (n.mag / Nat.gcd n.mag d.mag)) : Rat) / ((d.mag / Nat.gcd n.mag d.mag : Nat) : Rat) = (fP n : Rat) / (d.mag : Rat) := by
    have e1 : fP n = fP (aH n.neg (n.mag / Nat.gcd n.mag d.mag)) * (Nat.gcd n.mag d.mag : Int) := by
      rw [iD]
      have := Nat.div_mul_cancel (Nat.gcd_dvd_left n.mag d.mag)
      unfold fP
      cases n.neg
      · simp only [cond_false]; rw [← Int.natCast_mul, this]
      · simp only [cond_true]; rw [Int.neg_mul, ← Int.natCast_mul, this]
    have e2 : d.mag = (d.mag / Nat.gcd n.mag d.mag) * Nat.gcd n.mag d.mag := (Nat.div_mul_cancel (Nat.gcd_dvd_right n.mag d.mag)).symm
    have g0 : ((Nat.gcd n.mag d.mag : Nat) : Rat) ≠ 0 := by
      intro e
      have : Nat.gcd n.mag d.mag = 0 := by exact_mod_cast e
      omega
    have d0 : ((d.mag / Nat.gcd n.mag d.mag : Nat) : Rat) ≠ 0 := by
      intro e
      have : d.mag / Nat.gcd n.mag d.mag = 0 := by exact_mod_cast e
      omega
    rw [e1, Rat.intCast_mul, Rat.intCast_natCast]
    conv => rhs; rhs; rw [e2]
    rw [Rat.natCast_mul]
    grind
  by_cases e : d.mag / Nat.gcd n.mag d.mag = 1
  · have e' : aH false (d.mag / Nat.gcd n.mag d.mag) = rational_one := by rw [e]; rfl
    rw [decide_eq_true e', cond_true]
    refine ⟨⟨mV _ _, .inl rfl, ?_⟩, ?_⟩
    · show Nat.Coprime (n.mag / Nat.gcd n.mag d.mag) 1; exact Nat.coprime_one_right _
    · rw [← hval, e]; rfl
  · have e' : ¬ aH false (d.mag / Nat.gcd n.mag d.mag) = rational_one := fun h => e (by
      have : (aH false (d.mag / Nat.gcd n.mag d.mag)).mag = rational_one.mag := by rw [h]
      exact this)
    rw [decide_eq_false e', cond_false]
    have ez : ¬ (aH false (d.mag / Nat.gcd n.mag d.mag)) = z0 := fun h => by
      have : (aH false (d.mag / Nat.gcd n.mag d.mag)).mag = z0.mag := by rw [h]
      have : d.mag / Nat.gcd n.mag d.mag = 0 := this
      omega
    have eq : l5 (⟨aH n.neg (n.mag / Nat.gcd n.mag d.mag), aH false (d.mag / Nat.gcd n.mag d.mag)⟩ : GQ) = d.mag / Nat.gcd n.mag d.mag := if_neg ez
    refine ⟨⟨mV _ _, .inr ⟨rfl, by show 1 < d.mag / Nat.gcd n.mag d.mag; omega⟩, ?_⟩, ?_⟩
    · rw [eq]; exact hcop
    · unfold ce
      rw [eq, ← hval]
theorem qL {n d : GI} (hn : IOk n) (hd : fP d ≠ 0) : QOk (bo n d) ∧ ce (bo n d) = (fP n : Rat) / (fP d : Rat) := by
  have hm : d.mag ≠ 0 := fun e => hd (by unfold fP; rw [e]; cases d.neg <;> rfl)
  unfold bo
  rw [kI]
  cases hs : d.neg with
  | false =>
    have e : fP d = (d.mag : Int) := by unfold fP; rw [hs]; rfl
    rw [decide_eq_false (by rw [e]; have := vJ d.mag; omega), cond_false, e, Rat.intCast_natCast]
    exact r7 hn hs hm
  | true =>
    have e : fP d = -(d.mag : Int) := by unfold fP; rw [hs]; rfl
    rw [decide_eq_true (by rw [e, Int.sign_eq_neg_one_of_neg (by omega)]; decide), cond_true, e]
    have hN : (aq d).neg = false := by
      unfold aq aH; rw [hs]; rfl
    have hM : (aq d).mag = d.mag := rfl
    obtain ⟨k1, k2⟩ := r7 (sf n) hN (by rw [hM]; exact hm)
    refine ⟨k1, k2.trans ?_⟩
    rw [pQ, hM, Rat.intCast_neg, Rat.intCast_neg, Rat.intCast_natCast]
    have d0 : (d.mag : Rat) ≠ 0 := by
      intro e
      have : d.mag = 0 := by exact_mod_cast e
      omega
    grind
theorem nV {x : GQ} (h : QOk x) : (l5 x : Rat) ≠ 0 := by
  intro e
  have : l5 x = 0 := by exact_mod_cast e
  have := h.pos
  omega
theorem qf {x : GQ} (h : QOk x) : (0 : Rat) < (l5 x : Rat) := by
  have := h.pos
  exact_mod_cast this
theorem rW {x y : GQ} (hx : QOk x) (hy : QOk y) : ∃ D : Rat, 0 < D ∧ (fP (aT x y).1 : Rat) = ce x * D ∧ (fP (aT x y).2.1 : Rat) = ce y * D ∧ (fP (aT x y).2.2 : Rat) = D ∧ IOk (aT x y).1 ∧ IOk (aT x y).2.1 := by
  have h1 := qf hx
  have h2 := qf hy
  unfold aT
  by_cases e : x.den = y.den
  · rw [decide_eq_true e, cond_true]
    have e2 : l5 x = l5 y := by unfold l5; rw [e]
    refine ⟨l5 x, h1, ?_, ?_, ?_, hx.1, hy.1⟩
    · unfold ce; show (fP x.num : Rat) = _; grind
    · unfold ce; rw [e2]; show (fP y.num : Rat) = _; grind
    · show (fP (aa x) : Rat) = _
      rw [(j4 hx).1, Rat.intCast_natCast]
  · rw [decide_eq_false e, cond_false]
    refine ⟨(l5 x : Rat) * (l5 y : Rat), Rat.mul_pos h1 h2, ?_, ?_, ?_, uf _ _, uf _ _⟩
    · show (fP (ab x.num (aa y)) : Rat) = _
      rw [kJ, Rat.intCast_mul, (j4 hy).1, Rat.intCast_natCast]
      unfold ce; grind
    · show (fP (ab y.num (aa x)) : Rat) = _
      rw [kJ, Rat.intCast_mul, (j4 hx).1, Rat.intCast_natCast]
      unfold ce; grind
    · show (fP (ab (aa x) (aa y)) : Rat) = _
      rw [kJ, Rat.intCast_mul, (j4 hx).1, (j4 hy).1, Rat.intCast_natCast, Rat.intCast_natCast]
theorem mJ {x y : GQ} (hx : QOk x) (hy : QOk y) : QOk (aE x y) ∧ ce (aE x y) = ce x + ce y := by
  obtain ⟨D, h0, h1, h2, h3, _, _⟩ := rW hx hy
  unfold aE
  have hd : fP (aT x y).2.2 ≠ 0 := fun e => by
    rw [e] at h3
    have h4 : (0 : Rat) = D := h3
    grind
  obtain ⟨k1, k2⟩ := qL (Add_ok (aT x y).1 (aT x y).2.1) hd
  refine ⟨k1, ?_⟩
  rw [k2, Add_val, Rat.intCast_add, h1, h2, h3]
  grind
theorem jk {x y : GQ} (hx : QOk x) (hy : QOk y) : QOk (an x y) ∧ ce (an x y) = ce x * ce y := by
  unfold an
  have e1 := (j4 hx).1
  have e2 := (j4 hy).1
  have h1 := hx.pos
  have h2 := hy.pos
  have hd : fP (ab (aa x) (aa y)) ≠ 0 := by
    rw [kJ, e1, e2, ← Int.natCast_mul]
    have := Nat.mul_pos h1 h2
    omega
  obtain ⟨k1, k2⟩ := qL (uf x.num y.num) hd
  refine ⟨k1, ?_⟩
  rw [k2, kJ, kJ, e1, e2]
  simp only [Rat.intCast_mul, Rat.intCast_natCast]
  have d1 := nV hx
  have d2 := nV hy
  unfold ce
  grind
theorem wK {x : GQ} (hx : QOk x) : QOk (aZ x) ∧ ce (aZ x) = - ce x := by
  refine ⟨⟨sf _, hx.2.1, hx.2.2⟩, ?_⟩
  unfold ce aZ
  show (fP (aq x.num) : Rat) / (l5 x : Rat) = _
  rw [pQ, Rat.intCast_neg]
  grind
theorem mh {x y : GQ} (hx : QOk x) (hy : QOk y) : QOk (am x y) ∧ ce (am x y) = ce x - ce y := by
  unfold am
  obtain ⟨k1, k2⟩ := wK hy
  obtain ⟨k3, k4⟩ := mJ hx k1
  refine ⟨k3, ?_⟩
  rw [k4, k2]; grind
theorem c8 (n : Int) : QOk (ak n) ∧ ce (ak n) = (n : Rat) := by
  refine ⟨⟨lJ n, .inl rfl, Nat.coprime_one_right _⟩, ?_⟩
  unfold ce
  show (fP (ay n) : Rat) / ((1 : Nat) : Rat) = _
  rw [fJ]
  grind
def rsgn (x : Rat) : Int := if x < 0 then -1 else if 0 < x then 1 else 0
theorem zero_ok : QOk ⟨z0, z0⟩ ∧ ce ⟨z0, z0⟩ = 0 := c8 0
theorem jU {x : GQ} (hx : QOk x) : au x = rsgn (ce x) := by
  have h1 := qf hx
  have hm : (fP x.num : Rat) = ce x * (l5 x : Rat) := by unfold ce; grind
  unfold au rsgn
  rw [kI]
  rcases Int.lt_trichotomy (fP x.num) 0 with h | h | h
  · rw [Int.sign_eq_neg_one_of_neg h]
    have h2 : (fP x.num : Rat) < 0 := by exact_mod_cast h
    rw [if_pos]
    rcases Rat.le_total (a := 0) (b := ce x) with h3 | h3
    · have := Rat.mul_nonneg h3 (Rat.le_of_lt h1)
      grind
    · by_cases h4 : ce x = 0
      · rw [h4] at hm; grind
      · grind
  · rw [h]
    have h2 : (fP x.num : Rat) = 0 := by rw [h]; rfl
    have h3 : ce x = 0 := by unfold ce; rw [h2]; grind
    rw [h3, if_neg (by decide), if_neg (by decide)]; rfl
  · rw [Int.sign_eq_one_of_pos h]
    have h2 : (0 : Rat) < (fP x.num : Rat) := by exact_mod_cast h
    have h3 : 0 < ce x := by
      rcases Rat.le_total (a := 0) (b := ce x) with h3 | h3
      · by_cases h4 : ce x = 0
        · rw [h4] at hm; grind
        · grind
      · have := Rat.mul_nonneg (a := - ce x) (by grind) (Rat.le_of_lt h1)
        grind
    rw [if_neg (by grind), if_pos h3]
def rcmp (x y : Rat) : Int := if x < y then -1 else if y < x then 1 else 0
theorem sX {x y : GQ} (hx : QOk x) (hy : QOk y) : br x y = rcmp (ce x) (ce y) := by
  unfold br rcmp
  by_cases e : x = y
  · rw [decide_eq_true e, e]
    simp
  · rw [decide_eq_false e, cond_false]
    obtain ⟨D, h0, h1, h2, h3, k1, k2⟩ := rW hx hy
    rw [oO k1 k2]
    unfold icmp
    have key : ∀ a b : Int, ∀ p q : Rat, (a : Rat) = p * D → (b : Rat) = q * D → (a < b ↔ p < q) := by
      intro a b p q e1 e2
      rw [← Rat.intCast_lt_intCast, e1, e2]
      exact Rat.mul_lt_mul_right h0
    have i1 := key _ _ _ _ h1 h2
    have i2 := key _ _ _ _ h2 h1
    by_cases c1 : ce x < ce y
    · rw [if_pos c1, if_pos (i1.2 c1)]
    · rw [if_neg c1, if_neg (fun h => c1 (i1.1 h))]
      by_cases c2 : ce y < ce x
      · rw [if_pos c2, if_pos (i2.2 c2)]
      · rw [if_neg c2, if_neg (fun h => c2 (i2.1 h))]
end Go.Sx
namespace Go.Sx
def zQ : GQ := ⟨⟨false, 0⟩, ⟨false, 0⟩⟩
theorem j5 : QOk zQ ∧ ce zQ = 0 := zero_ok
def DOk (q : Qd) : Prop := QOk q.c0 ∧ QOk q.c1 ∧ QOk q.c2
def TOk (t : GR) : Prop := QOk t.p ∧ QOk t.r
def lv (t : GR) (q : Qd) : Rat × Rat :=
  if t.r = zQ then (ce q.c0 + ce t.p * (ce q.c1 + ce t.p * ce q.c2), 0)
  else (ce q.c0 + ce q.c2 * (ce t.r - ce t.p * ce t.p), ce q.c1 + (ce q.c2 + ce q.c2) * ce t.p)
theorem eval_ok {q : Qd} {t : GQ} (hq : DOk q) (ht : QOk t) : QOk (a8 q t) ∧ ce (a8 q t) = ce q.c0 + ce t * (ce q.c1 + ce t * ce q.c2) := by
  obtain ⟨h0, h1, h2⟩ := hq
  unfold a8
  obtain ⟨a1, a2⟩ := jk ht h2
  obtain ⟨b1, b2⟩ := mJ h1 a1
  obtain ⟨c1, c2⟩ := jk ht b1
  obtain ⟨d1, d2⟩ := mJ h0 c1
  exact ⟨d1, by rw [d2, c2, b2, a2]⟩
theorem slope_ok {q : Qd} {t : GQ} (hq : DOk q) (ht : QOk t) : QOk (aY q t) ∧ ce (aY q t) = ce q.c1 + (ce q.c2 + ce q.c2) * ce t := by
  obtain ⟨h0, h1, h2⟩ := hq
  unfold aY
  obtain ⟨a1, a2⟩ := mJ h2 h2
  obtain ⟨b1, b2⟩ := jk a1 ht
  obtain ⟨c1, c2⟩ := mJ h1 b1
  exact ⟨c1, by rw [c2, b2, a2]⟩
theorem vu {p q : Qd} (hp : DOk p) (hq : DOk q) : DOk (dN p q) ∧ ce (dN p q).c0 = ce p.c0 - ce q.c0 ∧ ce (dN p q).c1 = ce p.c1 - ce q.c1 ∧ ce (dN p q).c2 = ce p.c2 - ce q.c2 := by
  unfold dN
  obtain ⟨a1, a2⟩ := mh hp.1 hq.1
  obtain ⟨b1, b2⟩ := mh hp.2.1 hq.2.1
  obtain ⟨c1, c2⟩ := mh hp.2.2 hq.2.2
  exact ⟨⟨a1, b1, c1⟩, a2, b2, c2⟩
theorem ku {a b : GQ} (ha : QOk a) (hb : QOk b) : DOk (aV a b) ∧ (aV a b).c0 = a ∧ (aV a b).c1 = b ∧ (aV a b).c2 = zQ := by
  unfold aV
  exact ⟨⟨ha, hb, j5.1⟩, rfl, rfl, rfl⟩
theorem iA {q : Qd} {t : GR} (hq : DOk q) (ht : TOk t) : DOk (aQ q t) ∧ ce (aQ q t).c0 = (lv t q).1 ∧ ce (aQ q t).c1 = (lv t q).2 ∧ (aQ q t).c2 = zQ := by
  unfold aQ dM lv
  by_cases e : t.r = zQ
  · rw [decide_eq_true (show t.r = ⟨⟨false, 0⟩, ⟨false, 0⟩⟩ from e), if_pos e]
    obtain ⟨k1, k2⟩ := eval_ok hq ht.1
    exact ⟨⟨k1, j5.1, j5.1⟩, k2, j5.2, rfl⟩
  · rw [decide_eq_false (show ¬ t.r = ⟨⟨false, 0⟩, ⟨false, 0⟩⟩ from e), if_neg e, Bool.not_false, cond_true, cond_false]
    obtain ⟨a1, a2⟩ := jk ht.1 ht.1
    obtain ⟨b1, b2⟩ := mh ht.2 a1
    obtain ⟨c1, c2⟩ := jk hq.2.2 b1
    obtain ⟨d1, d2⟩ := mJ hq.1 c1
    obtain ⟨s1, s2⟩ := slope_ok hq ht.1
    obtain ⟨l1, l2, l3, l4⟩ := ku d1 s1
    exact ⟨l1, by rw [l2, d2, c2, b2, a2], by rw [l3, s2], l4⟩
theorem qd_ext {p q : Qd} (hp : DOk p) (hq : DOk q) (h0 : ce p.c0 = ce q.c0) (h1 : ce p.c1 = ce q.c1) (h2 : ce p.c2 = ce q.c2) : p = q := by
  have e0 := gA hp.1 hq.1 h0
  have e1 := gA hp.2.1 hq.2.1 h1
  have e2 := gA hp.2.2 hq.2.2 h2
  obtain ⟨a, b, c⟩ := p
  obtain ⟨x, y, z⟩ := q
  simp only at e0 e1 e2
  rw [e0, e1, e2]
theorem rl1 (a b c d e f p : Rat) : (a - b) + p * ((c - d) + p * (e - f)) = (a + p * (c + p * e)) - (b + p * (d + p * f)) := by grind
theorem rl2 (a b c d x : Rat) : (a - b) + (c - d) * x = (a + c * x) - (b + d * x) := by grind
theorem rl3 (a b c d x : Rat) : (a - b) + ((c - d) + (c - d)) * x = (a + (c + c) * x) - (b + (d + d) * x) := by grind
theorem lv_sub {p q : Qd} {t : GR} (hp : DOk p) (hq : DOk q) : lv t (dN p q) = ((lv t p).1 - (lv t q).1, (lv t p).2 - (lv t q).2) := by
  obtain ⟨_, e0, e1, e2⟩ := vu hp hq
  unfold lv
  by_cases e : t.r = zQ
  · rw [if_pos e, if_pos e, if_pos e, e0, e1, e2, rl1]
    exact Prod.ext rfl (by show (0 : Rat) = 0 - 0; grind)
  · rw [if_neg e, if_neg e, if_neg e, e0, e1, e2, rl2, rl3]
theorem tB {p q : Qd} {t : GR} (hp : DOk p) (hq : DOk q) (ht : TOk t) : fH p q t = true ↔ lv t p = lv t q := by
  unfold fH
  rw [decide_eq_true_eq]
  obtain ⟨k1, _⟩ := vu hp hq
  obtain ⟨r1, r2, r3, r4⟩ := iA k1 ht
  rw [lv_sub hp hq] at r2 r3
  constructor
  · intro h
    rw [h] at r2 r3
    have z := j5.2
    unfold zQ at z
    refine Prod.ext ?_ ?_
    · simp only at r2; grind
    · simp only at r3; grind
  · intro h
    refine qd_ext r1 ⟨j5.1, j5.1, j5.1⟩ ?_ ?_ ?_
    · rw [r2, h]; show _ = ce zQ; rw [j5.2]; grind
    · rw [r3, h]; show _ = ce zQ; rw [j5.2]; grind
    · rw [r4]; rfl
theorem my {q : Qd} {t : GR} (hq : DOk q) (ht : TOk t) : lv t (aQ q t) = lv t q := by
  obtain ⟨r1, r2, r3, r4⟩ := iA hq ht
  have h : ∀ x : Qd, ce x.c0 = (lv t q).1 → ce x.c1 = (lv t q).2 → x.c2 = zQ → lv t x = lv t q := by
    intro x e0 e1 e2
    have e3 : ce x.c2 = 0 := by rw [e2]; exact j5.2
    have e4 : t.r = zQ → (lv t q).2 = 0 := fun e => by unfold lv; rw [if_pos e]
    conv => lhs; unfold lv
    split
    · rename_i e
      rw [e4 e] at e1
      refine Prod.ext ?_ ?_
      · simp only; rw [e0, e1, e3]; grind
      · simp only; rw [e4 e]
    · refine Prod.ext ?_ ?_
      · simp only; rw [e0, e3]; grind
      · simp only; rw [e1, e3]; grind
  exact h _ r2 r3 r4
theorem q9 {p q : Qd} {t : GR} (hp : DOk p) (hq : DOk q) (ht : TOk t) : aQ p t = aQ q t ↔ lv t p = lv t q := by
  obtain ⟨r1, r2, r3, r4⟩ := iA hp ht
  obtain ⟨s1, s2, s3, s4⟩ := iA hq ht
  constructor
  · intro h; rw [← my hp ht, ← my hq ht, h]
  · intro h; exact qd_ext r1 s1 (by rw [r2, s2, h]) (by rw [r3, s3, h]) (by rw [r4, s4])
end Go.Sx
namespace Go.Sx
open Go Go.RowKit Go.Proofs
set_option maxRecDepth 100000
set_option maxHeartbeats 40000000
attribute [local irreducible] Code.wp wpList Rd Step ObS Ent
attribute [local irreducible] ap aN ak au aA bO
theorem bld206 : BuildF Tryz.prog 206 [.bool false, .string ⟨#[]⟩, .bool false, .string ⟨#[]⟩, .bool false, .string ⟨#[]⟩, .bool false, .string ⟨#[]⟩, .bool false, .bool false] [(0, 9), (9, 1)] := BuildF.of Tryz.zeroValue206 rfl Tryz.runUnderlying206 (by intro w; simp [Tryz.sizeOf4, Tryz.sizeOf71])
theorem r9 : BuildF Tryz.prog 321 [.bool false, .string ⟨#[]⟩, .bool false, .string ⟨#[]⟩, .bool false, .string ⟨#[]⟩, .bool false, .string ⟨#[]⟩, .bool false, .bool false, .int .i64 0, .int .i64 0] [(0, 10), (10, 2)] := BuildF.of Tryz.zeroValue321 rfl Tryz.runUnderlying321 (by intro w; simp [Tryz.sizeOf206, Tryz.sizeOf319])
theorem bld55 : BuildF Tryz.prog 55 [] [] := BuildF.of Tryz.zeroValue55 rfl Tryz.runUnderlying55 (by intro w; simp)
theorem bld80 : BuildF Tryz.prog 80 [] [] := BuildF.of Tryz.zeroValue80 rfl Tryz.runUnderlying80 (by intro w; simp)
theorem pY : SlT Tryz.prog 66 71 9 104 [.bool false, .string ⟨#[]⟩, .bool false, .string ⟨#[]⟩, .bool false, .string ⟨#[]⟩, .bool false, .string ⟨#[]⟩, .bool false] := ⟨Tryz.underlying66, Tryz.t71, _, Tryz.type71, rfl, rfl, rfl, rfl, rfl, by decide, by decide⟩
end Go.Sx
namespace Go.Sx
open Go Go.RowKit Go.Proofs
set_option maxRecDepth 100000
set_option maxHeartbeats 40000000
attribute [local irreducible] Code.wp wpList Rd Step ObS Ent
attribute [local irreducible] ap aN ak au aA bO
def xw (x : List Int) (x8 : Nat) : Int :=
 0
def kv (x : List Int) (x8 : Nat) : Nx Nat Int :=
 bif (decide (((x8 : Nat) : Int) < ((x.length : Nat) : Int))) then
  bif ((gt x x8) != 0) then
   .ret (gt x x8)
  else
   .go (x8 + 1)
 else
  .out x8
def lz (x : List Int) : Int :=
 fin (cr (fun s => kv x s) ((x.length - 0) + 1) 0) (fun s => xw x s) (fun r => r)
theorem r5 (x : List Int) (xv : Value) (w0 : World) (hxv : View w0 xv x) : Calls Tryz.prog 227 #[xv] w0 (dI w0 (.int .i64 (lz x)) (True)) := by
 refine enter (N := 18) (args := [xv]) Tryz.func227 rfl rfl ?_; intro ac h
 have hlenx := hxv.len
 obtain ⟨X1, hX1⟩ : ∃ X, cr (fun s => kv x s) ((x.length - 0) + 1) 0 = X := ⟨_, rfl⟩
 refine gz h <| (W) ?_; clear h ac; intro ac wo h
 refine wp_loop_ghost (fun n_ a_ w_ => ∃ (x8 : Nat), ((x.length - x8) < n_) ∧ (cr (fun s => kv x s) n_ x8 = X1) ∧ (x8 ≤ x.length) ∧ St w0 18 [(3, (.int .i64 0)), (6, xv), (7, (.int .i64 ((x.length : Nat) : Int))), (8, (.int .i64 ((x8 : Nat) : Int)))] [] a_ w_) ((x.length - 0) + 1) ⟨0, og, hX1, og, h.rs⟩ ?_
 clear h ac wo; rintro n1 ac wo ⟨x8, hm1, hL1, hx8, h⟩
 obtain ⟨m1, rfl⟩ : ∃ m, n1 = m + 1 := ⟨n1 - 1, by omega⟩
 refine gz h <| (ai) ?_ ?_ <;> clear h ac wo <;> intro ac wo h hc1
 ·
  have hd1 := of_decide_eq_true hc1
  refine gz h <| (ai) ?_ ?_ <;> clear h ac wo <;> intro ac wo h hc2
  ·
   have hq2 := hc2; try simp at hq2
   have hr1 := qw hL1 pt
   have hd : lz x = (gt x x8) := pt
   refine gz h <| (W) ?_; clear h ac wo; intro ac wo h
   exact (rt h) (h.retP (by rw [hd] <;> rfl) trivial)
  ·
   have hq2 := hc2; try simp at hq2
   refine gz h <| (W) ?_; clear h ac wo; intro ac wo h
   have hg := bZ hL1 pt
   exact az ⟨m1, og, _, og, hg, og, h.re []⟩
 ·
  have hd1 := of_decide_eq_false hc1
  have hx1 := dK hL1 pt
  have hd : lz x = 0 := pt
  refine gz h <| (W) ?_; clear h ac wo; intro ac wo h
  exact (rt h) (h.retP (by rw [hd] <;> rfl) trivial)
attribute [irreducible] lz
end Go.Sx
