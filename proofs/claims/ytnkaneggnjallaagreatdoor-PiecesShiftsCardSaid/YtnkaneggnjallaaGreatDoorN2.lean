/- A part of the proof that the law PiecesShifts answers true at every input and leaves its arguments as they were. -/
import Derived.Test.YtnkaneggnjallaaGreatDoorN1
import Derived.Test.YtnkaneggnjallaaGreatDoorM4
import Derived.Test.YtnkaneggnjallaaGreatDoorY
set_option linter.unusedVariables false
set_option linter.unusedSimpArgs false
namespace Go.Sx
theorem pg : ∀ (f n : Nat), n ≤ f → n ≠ 0 → ((leF f n).reverse.headD 0).toNat ≠ 0
  | 0, n, h, h0 => absurd (by omega) h0
  | f + 1, n, h, h0 => by
    unfold leF
    have hb : Nat.beq n 0 = false := by
      cases e : Nat.beq n 0 with
      | false => rfl
      | true => exact absurd (Nat.eq_of_beq_eq_true e) h0
    rw [hb, cond_false, List.reverse_cons]
    by_cases e : n / 256 = 0
    · rw [e, ju]
      show (UInt8.ofNat (n % 256)).toNat ≠ 0
      rw [UInt8.toNat_ofNat']
      omega
    · have ih := pg f (n / 256) (by omega) e
      cases hr : (leF f (n / 256)).reverse with
      | nil =>
        rw [hr] at ih
        exact absurd rfl ih
      | cons x q =>
        rw [hr] at ih
        exact ih
theorem topb_ne {m : Nat} (h : m ≠ 0) : qj m ≠ 0 := pg m m (Nat.le_refl m) h
theorem icheck {a : GI} (h : IOk a) : eC a = 0 := by
  unfold eC
  by_cases e : a.mag = 0
  · rw [decide_eq_true e, h e]; rfl
  · rw [decide_eq_false e, show ((((qj a.mag) : Nat) : Int) == (((0 : Nat) : Int))) = false from beq_eq_false_iff_ne.2 (by have := topb_ne e; omega)]
    rfl
theorem nA {a : GQ} (h : QOk a) : cN a = 0 := by
  obtain ⟨h1, h2, h3⟩ := h
  have hd : IOk a.den := by
    rcases h2 with e | ⟨e, _⟩
    · rw [e]; intro _; rfl
    · intro _; exact e
  unfold cN
  rw [icheck h1, icheck hd]
  by_cases e : a.den = z0
  · rw [decide_eq_true (show a.den = ⟨false, 0⟩ from e)]; rfl
  · rw [decide_eq_false (show ¬ a.den = ⟨false, 0⟩ from e)]
    obtain ⟨n1, n2⟩ := h2.resolve_left e
    have h3 : Nat.Coprime a.num.mag a.den.mag := by unfold ks at h3; rwa [if_neg e] at h3
    have hv : fu a.den = (a.den.mag : Int) := by unfold fu; rw [n1]; rfl
    have c1 : aR a.den rational_one = 1 := by
      rw [oK (b := rational_one) hd (kN 1), hv, qP]
      unfold icmp
      rw [if_neg (by omega), if_pos (by omega)]
    have c2 : aB a.num a.den = rational_one := by
      unfold aB
      rw [show Nat.gcd a.num.mag a.den.mag = 1 from h3]; rfl
    rw [c1, decide_eq_true c2]; rfl
theorem dcheck {q : Qd} (h : DOk q) : cG q = 0 := by
  unfold cG eK
  obtain ⟨h0, h1, h2⟩ := h
  have e : ∀ i, i < 3 → df q i = .go (i + 1) := fun i hi => by
    unfold df
    rw [decide_eq_true (by omega : ((i : Nat) : Int) < 3), cond_true]
    have : i = 0 ∨ i = 1 ∨ i = 2 := by omega
    rcases this with rfl | rfl | rfl
    · show (bif (cN q.c0 != 0) then _ else _) = _; rw [nA h0]; rfl
    · show (bif (cN q.c1 != 0) then _ else _) = _; rw [nA h1]; rfl
    · show (bif (cN q.c2 != 0) then _ else _) = _; rw [nA h2]; rfl
  have e3 : df q 3 = .out 3 := rfl
  refine (eQ (s := 3) ?_).trans rfl
  rw [fO _ (e 0 (by decide)), fO _ (e 1 (by decide)), fO _ (e 2 (by decide)), hH _ e3]
theorem oO {p : GR → Bool} (h : ((List.range 45).all fun i => p (ad (Int.ofNat i) false) && p (ad (Int.ofNat i) true)) = true) {x : GR} (hx : Tm x) : p x = true := by
  obtain ⟨n, r, hn, rfl⟩ := hx
  have h1 := List.all_eq_true.1 h n (List.mem_range.2 hn)
  rw [Bool.and_eq_true] at h1
  cases r
  · exact h1.1
  · exact h1.2
theorem oN {x : GR} (hx : Tm x) : dE x = 0 := by
  have := oO (p := fun x => dE x == 0) (by decide +kernel) hx
  exact eq_of_beq this
theorem rc (n : Int) : ad n false = ⟨ah n, zQ, false⟩ := by
  unfold ad bA bN; rfl
theorem rb (n : Int) : ad n true = ⟨ah n, ah 2, false⟩ := by
  unfold ad; rfl
theorem tm_rt {x : GR} (hx : Tm x) : RtR x := by
  obtain ⟨n, r, hn, rfl⟩ := hx
  cases r
  · rw [rc]; exact .inl rfl
  · rw [rb]; exact .inr rfl
theorem jB {x : GR} (hx : Tm x) : TOk x := by
  obtain ⟨n, r, hn, rfl⟩ := hx
  cases r
  · rw [rc]; exact ⟨(eY _).1, i5.1⟩
  · rw [rb]; exact ⟨(eY _).1, (eY 2).1⟩
theorem vcheck {i : Iv} (h : Wv i) : bF i = 0 := by
  unfold bF
  rw [oN h.1.1, oN h.1.2]
  have hc : cH (di i) (dB i) = -1 := by
    unfold cH di dB
    show (bif ((aD i.lo i.hi) != 0) then (aD i.lo i.hi) else bif (i.openLo == !i.openHi) then 0 else bif !i.openHi then (-1) else 1) = -1
    rw [h.1.1.cmp h.1.2]
    rcases Nat.lt_trichotomy (tk i.lo) (tk i.hi) with e | e | e
    · rw [g7 e]; rfl
    · obtain ⟨o1, o2⟩ := h.2.2 e
      rw [e, fi, o1, o2]; rfl
    · have := h.2.1; omega
  rw [hc]; rfl
theorem fE (a b : Qd) : aY a b = true ↔ a = b := by
  unfold aY
  simp
theorem quads_ru : Ru DOk aI ax := by
  have s : ∀ f g t, aI f g t = bt f g t := fun _ _ _ => by unfold aI; rfl
  have r : ∀ f t, ax f t = aN f t := fun _ _ => by unfold ax; rfl
  refine ⟨fun t ht f hf => ?_, fun t ht f g hf hg h => ?_, fun t ht f g e hf hg he h1 h2 => ?_, fun t ht f hf => ?_, fun t ht f hf => ?_, fun t ht f hf => ?_⟩
  · rw [s, gQ hf hf (jB ht)]
  · rw [s, gQ hf hg (jB ht)] at h
    rw [s, gQ hg hf (jB ht), h]
  · rw [s, gQ hf hg (jB ht)] at h1
    rw [s, gQ hg he (jB ht)] at h2
    rw [s, gQ hf he (jB ht), h1, h2]
  · rw [r]; exact (fq hf (jB ht)).1
  · rw [s, r, gQ (fq hf (jB ht)).1 hf (jB ht)]; exact kb hf (jB ht)
  · rw [r, r, qF (fq hf (jB ht)).1 hf (jB ht)]; exact kb hf (jB ht)
theorem fs_ok {f : Qd} (h : Fs f) : DOk f := by
  rcases h with rfl | ⟨s, rfl⟩ | ⟨c, rfl⟩
  · exact ⟨i5.1, i5.1, i5.1⟩
  · unfold ag
    exact ⟨(eY _).1, (eY _).1, (eY _).1⟩
  · unfold aF
    exact ⟨(eY _).1, i5.1, i5.1⟩
theorem km {α : Type} : ∀ (u : List (U α)) (a : At α), (ic u a).has = true → a.has = true ∧ (ic u a).f = a.f ∨ ∃ x ∈ u, (ic u a).f = x.f
  | [], a, h => .inl ⟨h, rfl⟩
  | x :: u, a, h => by
    rcases km u (iJ x a) h with ⟨h1, h2⟩ | ⟨y, hy, h2⟩
    · have h2 : (ic (x :: u) a).f = (iJ x a).f := h2
      unfold iJ at h1 h2
      cases hi : aQ x.iv a.frm a.til a.gap with
      | true => rw [hi] at h2; exact .inr ⟨x, List.mem_cons_self .., h2⟩
      | false => rw [hi] at h1 h2; exact .inl ⟨h1, h2⟩
    · exact .inr ⟨y, List.mem_cons_of_mem _ hy, h2⟩
theorem qS {u : List (U Qd)} (hW : ∀ x ∈ u, Wv x.iv ∧ DOk x.f) : NF aY aI ax (ay u) ∧ ∀ x ∈ ay u, DOk x.f := by
  have hE := (ko (l := u.map (·.iv)) (fun i hi => by obtain ⟨x, hx, rfl⟩ := List.mem_map.1 hi; exact (hW x hx).1.1)).1
  unfold ay
  rw [gX, kn, jy]
  have hA := lp (z := (default : Qd)) (u := u) hE
  have hl : (fl (default : Qd) u (il (u.map (·.iv)))).length = (et (default : Qd) (il (u.map (·.iv)))).length := by unfold fl; rw [List.length_map]
  refine pa quads_ru (fun a b => (fE a b).1) hA (fun i hi => ?_) (fun i hi hh => ?_) _ (Nat.le_refl _)
  · rw [iX hi, (eI u _).1, (eI u _).2.2]
    have := nj (z := (default : Qd)) hE (a := gt (et default (il (u.map (·.iv)))) i) (by rw [f7 (hl ▸ hi)]; exact List.getElem_mem _)
    exact ⟨this.1, this.2.1⟩
  · rw [iX hi] at hh ⊢
    rcases km u _ hh with ⟨h1, _⟩ | ⟨x, hx, h2⟩
    · have hb : gt (et (default : Qd) (il (u.map (·.iv)))) i ∈ et (default : Qd) (il (u.map (·.iv))) := by rw [f7 (hl ▸ hi)]; exact List.getElem_mem _
      rcases gW.1 hb with ⟨t, _, e⟩ | ⟨t, t', _, e⟩
      · rw [e] at h1; cases h1
      · rw [e] at h1; cases h1
    · rw [h2]; exact (hW x hx).2
end Go.Sx
namespace Go.Sx
section
variable {α : Type} [Inhabited α] {eqf : α → α → Bool} {same : α → α → GR → Bool} {red : α → GR → α} {L out : List (U α)} {x : Nat} {t t' : GR} {f : α}
def Vl (out : List (U α)) : Prop := ∀ u ∈ out, Tv u.iv ∧ tk u.iv.lo ≤ tk u.iv.hi
omit [Inhabited α] in
theorem Vl.app {y : U α} (h : Vl out) (h1 : Tv y.iv) (h2 : tk y.iv.lo ≤ tk y.iv.hi) : Vl (out ++ [y]) := fun u hu => by
  rcases List.mem_append.1 hu with hu | hu
  · exact h u hu
  · rw [List.mem_singleton.1 hu]; exact ⟨h1, h2⟩
omit [Inhabited α] in
theorem Vl.set {y : U α} {i : Nat} (h : Vl out) (h1 : Tv y.iv) (h2 : tk y.iv.lo ≤ tk y.iv.hi) : Vl (out.set i y) := fun u hu => by
  rcases List.mem_or_eq_of_mem_set hu with hu | rfl
  · exact h u hu
  · exact ⟨h1, h2⟩
theorem newPt_or : gD same red L out x = out ∨ gD same red L out x = out ++ [⟨(gt L x).iv, red (gt L x).f (gt L x).iv.lo⟩] := by
  unfold gD
  cases (((decide (((x + 1 : Nat) : Int) < ((L.length : Nat) : Int))) && (decide (((gt L (x + 1)).iv).lo = ((gt L x).iv).lo))) && (same ((gt L (x + 1)).f) ((gt L x).f) (((gt L x).iv).lo)))
  · exact .inr rfl
  · exact .inl rfl
theorem pt_any (hx : gt L x = ptU t f) (ht : Tm t) (h : Vl out) : Vl (dg eqf same red L out x) ∧ (dg eqf same red L out x).length ≤ out.length + 1 := by
  have hn : Vl (gD same red L out x) ∧ (gD same red L out x).length ≤ out.length + 1 := by
    rcases newPt_or (same := same) (red := red) (L := L) (out := out) (x := x) with e | e
    · rw [e]; exact ⟨h, Nat.le_succ _⟩
    · rw [e, hx]; exact ⟨h.app ⟨ht, ht⟩ (Nat.le_refl _), by simp⟩
  unfold dg
  rw [hx, show ar (ptU t f).iv = true from decide_eq_true rfl, Bool.not_true, cond_false, cond_false]
  cases hb : mb L out x with
  | false => exact hn
  | true =>
    rw [cond_true]
    cases same (gt out (out.length - 1)).f (ptU t f).f (ptU t f).iv.lo with
    | false => exact hn
    | true =>
      obtain ⟨b1, _, _⟩ := fz.1 hb
      have hm := h _ (iy b1)
      exact ⟨h.set hm.1 hm.2, by rw [cond_true, List.length_set]; exact Nat.le_succ _⟩
theorem pt_left (hx : gt L x = ptU t f) (ht : Tm t) (h : Vl out) (hn : x + 1 < L.length) (h2 : (gt L (x + 1)).iv.lo = t) (h3 : same (gt L (x + 1)).f f t = true) : Vl (dg eqf same red L out x) ∧ (dg eqf same red L out x).length ≤ out.length := by
  have hp : gD same red L out x = out := by
    unfold gD
    rw [hx]
    show (bif (((decide (((x + 1 : Nat) : Int) < ((L.length : Nat) : Int))) && (decide ((gt L (x + 1)).iv.lo = t))) && (same ((gt L (x + 1)).f) f t)) then out else _) = out
    rw [decide_eq_true (by omega : ((x + 1 : Nat) : Int) < ((L.length : Nat) : Int)), h2, decide_eq_true rfl, h3]
    rfl
  unfold dg
  rw [hp, hx, show ar (ptU t f).iv = true from decide_eq_true rfl, Bool.not_true, cond_false, cond_false]
  cases hb : mb L out x with
  | false => exact ⟨h, Nat.le_refl _⟩
  | true =>
    rw [cond_true]
    cases same (gt out (out.length - 1)).f (ptU t f).f (ptU t f).iv.lo with
    | false => exact ⟨h, Nat.le_refl _⟩
    | true =>
      obtain ⟨b1, _, _⟩ := fz.1 hb
      have hm := h _ (iy b1)
      exact ⟨h.set hm.1 hm.2, by rw [cond_true, List.length_set]; exact Nat.le_refl _⟩
theorem qW (hx : gt L x = l9 t t' f) : ∃ b, ft L out x = out ++ [⟨⟨t, t', b, true⟩, f⟩] := by
  unfold ft
  rw [hx]
  cases ((((decide (((x : Nat) : Int) > 0)) && (ar ((gt L (x - 1)).iv))) && (decide (((gt L (x - 1)).iv).lo = ((l9 t t' f).iv).lo))) && (!(iI out (((l9 t t' f).iv).lo))))
  · exact ⟨true, rfl⟩
  · exact ⟨false, rfl⟩
theorem gap_any (heq : ∀ a b, eqf a b = true → a = b) (hx : gt L x = l9 t t' f) (ht : Tm t) (ht' : Tm t') (hlt : tk t < tk t') (h : Vl out) :
    Vl (dg eqf same red L out x) ∧ (dg eqf same red L out x).length ≤ out.length + 1 ∧ 0 < (dg eqf same red L out x).length ∧ (lst (dg eqf same red L out x)).iv.hi = t' ∧ (lst (dg eqf same red L out x)).iv.lo ≠ t' ∧ (lst (dg eqf same red L out x)).f = f := by
  have hne : t ≠ t' := fun e => by rw [e] at hlt; omega
  have hn : Vl (ft L out x) ∧ (ft L out x).length ≤ out.length + 1 ∧ 0 < (ft L out x).length ∧ (lst (ft L out x)).iv.hi = t' ∧ (lst (ft L out x)).iv.lo ≠ t' ∧ (lst (ft L out x)).f = f := by
    obtain ⟨b, e⟩ := qW (out := out) hx
    rw [e, iU]
    exact ⟨h.app ⟨ht, ht'⟩ (Nat.le_of_lt hlt), by simp, by simp, rfl, hne, rfl⟩
  unfold dg
  rw [show ar (gt L x).iv = false by rw [hx]; exact decide_eq_false hne, Bool.not_false, cond_true, cond_true]
  cases hb : mb L out x with
  | false => exact hn
  | true =>
    rw [cond_true]
    cases hq : ((!((gt out (out.length - 1)).iv).openHi) && (eqf ((gt out (out.length - 1)).f) ((gt L x).f))) with
    | false => exact hn
    | true =>
      obtain ⟨b1, b2, b3⟩ := fz.1 hb
      have hm := h _ (iy b1)
      rw [Bool.and_eq_true] at hq
      have e := heq _ _ hq.2
      rw [hx] at b2 e ⊢
      have b2 : (lst out).iv.hi = t := b2
      have hl : tk (lst out).iv.lo < tk t' := by rw [b2] at hm; omega
      rw [cond_true]
      show Vl (out.set (out.length - 1) ⟨⟨(lst out).iv.lo, t', (lst out).iv.openLo, true⟩, (lst out).f⟩) ∧ (out.set (out.length - 1) (⟨⟨(lst out).iv.lo, t', (lst out).iv.openLo, true⟩, (lst out).f⟩ : U α)).length ≤ _ ∧ 0 < (out.set (out.length - 1) (⟨⟨(lst out).iv.lo, t', (lst out).iv.openLo, true⟩, (lst out).f⟩ : U α)).length ∧ (lst (out.set (out.length - 1) ⟨⟨(lst out).iv.lo, t', (lst out).iv.openLo, true⟩, (lst out).f⟩)).iv.hi = t' ∧ (lst (out.set (out.length - 1) ⟨⟨(lst out).iv.lo, t', (lst out).iv.openLo, true⟩, (lst out).f⟩)).iv.lo ≠ t' ∧ (lst (out.set (out.length - 1) ⟨⟨(lst out).iv.lo, t', (lst out).iv.openLo, true⟩, (lst out).f⟩)).f = f
      rw [ot b1, List.length_set]
      exact ⟨h.set ⟨hm.1.1, ht'⟩ (Nat.le_of_lt hl), Nat.le_succ _, b1, rfl, fun e => by
        have e : (lst out).iv.lo = t' := e
        rw [e] at hl; omega, e⟩
theorem len_le (heq : ∀ a b, eqf a b = true → a = b) {n : List (U α)} (hw : ∀ u ∈ n, Wv u.iv) (hr : ∀ u ∈ n, ∀ t, Tm t → same u.f u.f t = true) :
    ∀ (s p : List (U α)), n = p ++ s → (Vl (dR (dg eqf same red (n.flatMap atU)) [] (p.flatMap atU).length) ∧ (dR (dg eqf same red (n.flatMap atU)) [] (p.flatMap atU).length).length ≤ p.length) → (dR (dg eqf same red (n.flatMap atU)) [] (n.flatMap atU).length).length ≤ n.length
  | [], p, hn, hp => by
    rw [List.append_nil] at hn
    rw [← hn] at hp
    exact hp.2
  | y :: s, p, hn, hp => by
    refine len_le heq hw hr s (p ++ [y]) (by rw [hn]; simp) ?_
    have hL : n.flatMap atU = p.flatMap atU ++ (atU y ++ s.flatMap atU) := by rw [hn]; simp
    have hy : y ∈ n := by rw [hn]; simp
    have hwy := hw y hy
    have hc : ((p ++ [y]).flatMap atU).length = (p.flatMap atU).length + (atU y).length := by simp
    rw [hc, List.length_append, List.length_singleton]
    generalize hcc : (p.flatMap atU).length = c at *
    generalize hLL : n.flatMap atU = L at *
    have hLl : L.length = c + ((atU y).length + (s.flatMap atU).length) := by rw [hL, List.length_append, List.length_append, hcc]
    have hI : ∀ k, dR (dg eqf same red L) [] (c + (k + 1)) = dg eqf same red L (dR (dg eqf same red L) [] (c + k)) (c + k) := fun _ => rfl
    have hgt : ∀ k, k < (atU y).length → gt L (c + k) = gt (atU y) k := fun k hk => by
      rw [hL, ← hcc]
      have : ∀ (A B : List (U α)), gt (A ++ B) (A.length + k) = gt B k := fun A B => by simp [gt, List.getD, List.getElem?_append_right]
      rw [this, eW hk]
    by_cases hi : y.iv.lo = y.iv.hi
    · obtain ⟨o1, o2⟩ := hwy.2.2 (by rw [hi])
      have ea : atU y = [ptU y.iv.lo y.f] := by
        unfold atU ar
        rw [o1, decide_eq_true hi]; rfl
      have hx0 : gt L (c + 0) = ptU y.iv.lo y.f := by rw [hgt 0 (by rw [ea]; simp), ea]; rfl
      rw [ea]
      show Vl (dR _ [] (c + (0 + 1))) ∧ (dR _ [] (c + (0 + 1))).length ≤ _
      rw [hI 0]
      have := pt_any (eqf := eqf) (same := same) (red := red) hx0 hwy.1.1 hp.1
      exact ⟨this.1, Nat.le_trans this.2 (Nat.succ_le_succ hp.2)⟩
    · have hini : ar y.iv = false := decide_eq_false hi
      have hlt : tk y.iv.lo < tk y.iv.hi := by
        have := hwy.2.1
        by_cases e : tk y.iv.lo = tk y.iv.hi
        · exact absurd ((hwy.1.1.inj hwy.1.2).1 e) hi
        · omega
      have hE : ∀ (k : Nat), (Vl (dR (dg eqf same red L) [] (c + k)) ∧ (dR (dg eqf same red L) [] (c + k)).length ≤ p.length) → gt L (c + k) = l9 y.iv.lo y.iv.hi y.f → (y.iv.openHi = false → gt L (c + (k + 1)) = ptU y.iv.hi y.f) →
          (Vl (dR (dg eqf same red L) [] (c + (k + 1 + (bif y.iv.openHi then 0 else 1)))) ∧ (dR (dg eqf same red L) [] (c + (k + 1 + (bif y.iv.openHi then 0 else 1)))).length ≤ p.length + 1) := fun k h1 h2 h3 => by
        obtain ⟨g1, g2, g3, g4, g5, g6⟩ := gap_any (eqf := eqf) (same := same) (red := red) heq h2 hwy.1.1 hwy.1.2 hlt h1.1
        rw [← hI k] at g1 g2 g3 g4 g5 g6
        cases ho : y.iv.openHi with
        | true => exact ⟨g1, Nat.le_trans g2 (Nat.succ_le_succ h1.2)⟩
        | false =>
          show Vl (dR _ [] (c + (k + 1 + 1))) ∧ (dR _ [] (c + (k + 1 + 1))).length ≤ _
          rw [hI (k + 1)]
          rw [sn_end (h3 ho) g3 g4 (by rw [g4]; exact g5) (by rw [g6]; exact hr y hy _ hwy.1.2)]
          have hm := g1 _ (iy g3)
          exact ⟨g1.set hm.1 hm.2, by rw [List.length_set]; exact Nat.le_trans g2 (Nat.succ_le_succ h1.2)⟩
      cases hol : y.iv.openLo with
      | false =>
        have ea : atU y = ptU y.iv.lo y.f :: l9 y.iv.lo y.iv.hi y.f :: (bif y.iv.openHi then [] else [ptU y.iv.hi y.f]) := by
          unfold atU; rw [hol, hini]; rfl
        have hl2 : (atU y).length = 1 + 1 + (bif y.iv.openHi then 0 else 1) := by rw [ea]; cases y.iv.openHi <;> rfl
        have hx0 : gt L (c + 0) = ptU y.iv.lo y.f := by rw [hgt 0 (by rw [hl2]; omega), ea]; rfl
        have hx1 : gt L (c + 1) = l9 y.iv.lo y.iv.hi y.f := by rw [hgt 1 (by rw [hl2]; omega), ea]; rfl
        rw [hl2]
        have st1 := pt_left (eqf := eqf) (same := same) (red := red) (out := dR (dg eqf same red L) [] c) hx0 hwy.1.1 hp.1 (by rw [hl2] at hLl; omega) (by show (gt L (c + 1)).iv.lo = _; rw [hx1]; rfl) (by show same (gt L (c + 1)).f _ _ = true; rw [hx1]; exact hr y hy _ hwy.1.1)
        exact hE 1 ⟨st1.1, Nat.le_trans st1.2 hp.2⟩ hx1 (fun e => by rw [hgt 2 (by rw [hl2, e]; decide), ea, e]; rfl)
      | true =>
        have ea : atU y = l9 y.iv.lo y.iv.hi y.f :: (bif y.iv.openHi then [] else [ptU y.iv.hi y.f]) := by
          unfold atU; rw [hol, hini]; rfl
        have hl2 : (atU y).length = 0 + 1 + (bif y.iv.openHi then 0 else 1) := by rw [ea]; cases y.iv.openHi <;> rfl
        have hx0 : gt L (c + 0) = l9 y.iv.lo y.iv.hi y.f := by rw [hgt 0 (by rw [hl2]; omega), ea]; rfl
        rw [hl2]
        exact hE 0 hp hx0 (fun e => by rw [hgt 1 (by rw [hl2, e]; decide), ea, e]; rfl)
theorem oH {A : List (At α)} : ∀ k, k ≤ A.length → ∀ u ∈ dR (dS eqf same red A) [] k, ∃ i, i < A.length ∧ (gt A i).has = true ∧ (u.f = (gt A i).f ∨ u.f = red (gt A i).f (gt A i).frm)
  | 0, _, u, hu => by cases hu
  | k + 1, hk, u, hu => by
    have ih : ∀ u ∈ dR (dS eqf same red A) [] k, ∃ i, i < A.length ∧ (gt A i).has = true ∧ (u.f = (gt A i).f ∨ u.f = red (gt A i).f (gt A i).frm) := oH k (by omega)
    have hu : u ∈ dS eqf same red A (dR (dS eqf same red A) [] k) k := hu
    generalize dR (dS eqf same red A) [] k = out at *
    have hset : ∀ (y : U α), 0 < out.length → y.f = (lst out).f → u ∈ out.set (out.length - 1) y → ∃ i, i < A.length ∧ (gt A i).has = true ∧ (u.f = (gt A i).f ∨ u.f = red (gt A i).f (gt A i).frm) := fun y h0 e hu => by
      rcases mM hu with hu | rfl
      · exact ih u hu
      · rw [e]; exact ih _ (iy h0)
    have hset : ∀ (y : U α), y.f = (lst out).f → u ∈ out.set (out.length - 1) y → ∃ i, i < A.length ∧ (gt A i).has = true ∧ (u.f = (gt A i).f ∨ u.f = red (gt A i).f (gt A i).frm) := fun y e hu => by
      by_cases h0 : 0 < out.length
      · exact hset y h0 e hu
      · rw [List.eq_nil_of_length_eq_zero (by omega : out.length = 0)] at hu; cases hu
    cases hh : (gt A k).has with
    | false =>
      unfold dS at hu
      rw [hh] at hu; exact ih u hu
    | true =>
      have happ : ∀ (y : U α), (y.f = (gt A k).f ∨ y.f = red (gt A k).f (gt A k).frm) → u ∈ out ++ [y] → ∃ i, i < A.length ∧ (gt A i).has = true ∧ (u.f = (gt A i).f ∨ u.f = red (gt A i).f (gt A i).frm) := fun y e hu => by
        rcases List.mem_append.1 hu with hu | hu
        · exact ih u hu
        · rw [List.mem_singleton.1 hu]; exact ⟨k, by omega, hh, e⟩
      unfold dS at hu
      rw [hh, Bool.not_true, cond_false] at hu
      cases hg : (gt A k).gap with
      | true =>
        rw [hg, cond_true] at hu
        revert hu
        generalize (((((decide (((k : Nat) : Int) ≥ 2)) && (gt A (k - 2)).has) && (gt A (k - 1)).has) && (same ((gt A (k - 2)).f) ((gt A (k - 1)).f) ((gt A k).frm))) && (eqf ((gt A (k - 2)).f) ((gt A k).f))) = c
        intro hu
        cases c
        · exact happ _ (.inl rfl) hu
        · rw [cond_true] at hu; exact hset ⟨⟨(lst out).iv.lo, (gt A k).til, (lst out).iv.openLo, true⟩, (lst out).f⟩ rfl hu
      | false =>
        rw [hg, cond_false] at hu
        revert hu
        generalize (((decide (((k : Nat) : Int) > 0)) && (gt A (k - 1)).has) && (same ((gt A (k - 1)).f) ((gt A k).f) ((gt A k).frm))) = c
        generalize (((decide (((k + 1 : Nat) : Int) < ((A.length : Nat) : Int))) && (gt A (k + 1)).has) && (same ((gt A (k + 1)).f) ((gt A k).f) ((gt A k).frm))) = c2
        intro hu
        cases c
        · cases c2
          · exact happ _ (.inr rfl) hu
          · exact ih u hu
        · rw [cond_true] at hu; exact hset ⟨⟨(lst out).iv.lo, (lst out).iv.hi, (lst out).iv.openLo, false⟩, (lst out).f⟩ rfl hu
end
end Go.Sx
namespace Go.Sx
theorem jr {α : Type} {n : List (U α)} (hW : ∀ x ∈ n, Wv x.iv) (h : n.Pairwise fun a b => gY a.iv < (e7 b.iv : Int)) : n.Pairwise fun a b => e7 a.iv < e7 b.iv :=
  h.imp_of_mem fun {a b} ha _ h => by have := (hW a ha).le; omega
theorem qR {n : List (U Qd)} (h : NF aY aI ax n) (hD : ∀ x ∈ n, DOk x.f) : aV n = (n, 0) := by
  obtain ⟨s1, s2⟩ := iN (fun x hx => (h.wv x hx).1)
  have hDj : n.Pairwise fun a b => Dj a.iv b.iv := h.ord.imp fun h => .inl h
  have hWs : ∀ x ∈ aa n, Wv x.iv := fun x hx => h.wv x (s1.mem_iff.1 hx)
  have hs := lq h.wv hDj s1 s2
  have e : aa n = n := jX (k := fun w => e7 w.iv) (jr hWs hs) (jr h.wv h.ord) fun x => s1.mem_iff
  rw [gi s1.length_eq fun i h0 h1 => (ll h.wv s1 s2).2 hDj i h0 (by rw [s1.length_eq]; exact h1), gj, iS, e]
  rw [qT h (fun x hx t ht => quads_ru.refl t ht _ (hD x hx)) n [] rfl rfl]
theorem py (l : List Stp) : ∀ x ∈ aw l, Wv x.iv ∧ DOk x.f := fun x hx => ⟨((jx l).1 x hx).1, fs_ok ((jx l).1 x hx).2⟩
theorem la (l : List Stp) : NF aY aI ax (ay (aw l)) ∧ ∀ x ∈ ay (aw l), DOk x.f := qS (py l)
theorem bn_again (l : List Stp) : aV (ay (aw l)) = (ay (aw l), 0) := qR (la l).1 (la l).2
theorem bn_len (l : List Stp) : (ay (aw l)).length ≤ (aw l).length := by
  have hb := py l
  obtain ⟨s1, s2⟩ := iN (fun x hx => (hb x hx).1.1)
  have h := l6 (fun a b => (fE a b).1) (List.Perm.refl (aw l)) (fun x hx => (hb x hx).1) (jx l).2
  rw [gi s1.length_eq fun i h0 h1 => (ll (fun x hx => (hb x hx).1) s1 s2).2 (jx l).2 i h0 (by rw [s1.length_eq]; exact h1), gj, iS] at h
  injection h with h1 h2
  rw [← h1, ← s1.length_eq]
  exact len_le (fun a b => (fE a b).1) (fun x hx => (hb x (s1.mem_iff.1 hx)).1) (fun x hx t ht => quads_ru.refl t ht _ (hb x (s1.mem_iff.1 hx)).2) _ [] rfl ⟨fun _ h => (by cases h), Nat.le_refl 0⟩
theorem nZ {k m : Nat} (hm : m < 18446744073709551616) (hk : k ≤ 43) : SzB k m := by
  have h8 : (le m).length ≤ 8 := (dp 8 m).2 hm
  have h2 : 2 ^ k ≤ 2 ^ 43 := Nat.pow_le_pow_right (by decide) hk
  unfold SzB
  exact Nat.le_trans (Nat.mul_le_mul h8 h2) (by decide)
def smI (a : GI) : Bool := decide (a.mag < 18446744073709551616)
def smQ (a : GQ) : Bool := smI a.num && smI a.den
def smD (f : Qd) : Bool := smQ f.c0 && (smQ f.c1 && smQ f.c2)
theorem mg {a : GQ} (h : smQ a = true) : SzQ 40 a := by
  unfold smQ smI at h
  rw [Bool.and_eq_true, decide_eq_true_eq, decide_eq_true_eq] at h
  exact ⟨nZ h.1 (by decide), nZ h.2 (by decide)⟩
theorem qt {f : Qd} (h : smD f = true) : SzD 40 f := by
  unfold smD at h
  rw [Bool.and_eq_true, Bool.and_eq_true] at h
  exact ⟨mg h.1, mg h.2.1, mg h.2.2⟩
theorem tm_sz {x : GR} (h : Tm x) : SzR 40 x := by
  have := oO (p := fun x => smQ x.p && smQ x.r) (by decide +kernel) h
  rw [Bool.and_eq_true] at this
  exact ⟨mg this.1, mg this.2⟩
def J3 : List Int := [-3, -2, -1, 0, 1, 2, 3]
def J2 : List Int := [-2, -1, 0, 1, 2]
def J1 : List Int := [-1, 0, 1]
def qd (a b c : Int) : Qd := ⟨ah a, ah b, ah c⟩
theorem j3 (x : Int) : Int.tmod x 4 ∈ J3 := by
  have := oa x 4 (by decide)
  generalize Int.tmod x 4 = y at *
  simp [J3]; omega
theorem j2 (x : Int) : Int.tmod x 3 ∈ J2 := by
  have := oa x 3 (by decide)
  generalize Int.tmod x 3 = y at *
  simp [J2]; omega
theorem j1 (x : Int) : Int.tmod x 2 ∈ J1 := by
  have := oa x 2 (by decide)
  generalize Int.tmod x 2 = y at *
  simp [J1]; omega
theorem fs_qd {f : Qd} (h : Fs f) : ∃ a ∈ J3, ∃ b ∈ J2, ∃ c ∈ J1, f = qd a b c := by
  rcases h with rfl | ⟨s, rfl⟩ | ⟨c, rfl⟩
  · exact ⟨0, by decide, 0, by decide, 0, by decide, rfl⟩
  · refine ⟨_, j3 s.c0, _, j2 s.c1, _, j1 s.c2, ?_⟩
    unfold ag; rfl
  · refine ⟨_, j3 c, 0, by decide, 0, by decide, ?_⟩
    unfold aF; rfl
def smAll (x : GR) : Bool := J3.all fun a => J2.all fun b => J1.all fun c => smD (aN (qd a b c) x)
theorem red_sz {f : Qd} {x : GR} (hf : Fs f) (hx : Tm x) : SzD 40 (ax f x) := by
  obtain ⟨a, ha, b, hb, c, hc, rfl⟩ := fs_qd hf
  have h := oO (p := smAll) (by decide +kernel) hx
  unfold smAll at h
  have := List.all_eq_true.1 (List.all_eq_true.1 (List.all_eq_true.1 h a ha) b hb) c hc
  unfold ax
  exact qt this
theorem fs_sz {f : Qd} (hf : Fs f) : SzD 40 f := by
  obtain ⟨a, ha, b, hb, c, hc, rfl⟩ := fs_qd hf
  have h : (J3.all fun a => J2.all fun b => J1.all fun c => smD (qd a b c)) = true := by decide +kernel
  exact qt (List.all_eq_true.1 (List.all_eq_true.1 (List.all_eq_true.1 h a ha) b hb) c hc)
theorem bn_sz (l : List Stp) : All (fI 30) (ay (aw l)) := fun x hx => by
  have hw := (la l).1.wv x hx
  refine ⟨⟨cz (tm_sz hw.1.1) (by decide), cz (tm_sz hw.1.2) (by decide)⟩, cA (j := 30) (k := 40) ?_ (by decide)⟩
  have hE := (ko (l := (aw l).map (·.iv)) (fun i hi => by obtain ⟨x, hx, rfl⟩ := List.mem_map.1 hi; exact (py l x hx).1.1)).1
  unfold ay at hx
  rw [gX, kn, jy] at hx
  obtain ⟨i, hi, hh, hf⟩ := oH _ (Nat.le_refl _) x hx
  have hl : (fl (default : Qd) (aw l) (il ((aw l).map (·.iv)))).length = (et (default : Qd) (il ((aw l).map (·.iv)))).length := by unfold fl; rw [List.length_map]
  have hb : gt (et (default : Qd) (il ((aw l).map (·.iv)))) i ∈ et (default : Qd) (il ((aw l).map (·.iv))) := by rw [f7 (hl ▸ hi)]; exact List.getElem_mem _
  have hT := (nj hE hb).1
  rw [iX hi] at hh hf
  have hfs : Fs (ic (aw l) (gt (et default (il ((aw l).map (·.iv)))) i)).f := by
    rcases km _ _ hh with ⟨h1, _⟩ | ⟨y, hy, h2⟩
    · rcases gW.1 hb with ⟨t, _, e⟩ | ⟨t, t', _, e⟩
      · rw [e] at h1; cases h1
      · rw [e] at h1; cases h1
    · rw [h2]; exact ((jx l).1 y hy).2
  rcases hf with e | e
  · rw [e]; exact fs_sz hfs
  · rw [e, (eI _ _).1]; exact red_sz hfs hT
theorem nf_rt {n : List (U Qd)} (h : ∀ x ∈ n, Wv x.iv) (j : Nat) : RtV (gt n j).iv := by
  by_cases hj : j < n.length
  · have := h (gt n j) (by rw [f7 hj]; exact List.getElem_mem _)
    exact ⟨tm_rt this.1.1, tm_rt this.1.2⟩
  · have : gt n j = default := by unfold gt; rw [List.getD_eq_getElem?_getD, List.getElem?_eq_none (by omega)]; rfl
    rw [this]; exact ⟨.inl rfl, .inl rfl⟩
theorem pV (n : List (U Qd)) : d4 n n = true := by
  unfold d4 eqUQ
  rw [show ((((n.length : Nat) : Int)) != (((n.length : Nat) : Int))) = false by simp, cond_false]
  refine (eQ (kv (n := n.length) (r := false) (bad := fun i => !(dh (gt n i) (gt n i))) (fun i hi => by
    unfold jl
    rw [decide_eq_true (by omega : ((i : Nat) : Int) < ((n.length : Nat) : Int)), cond_true]) (by
    unfold jl
    rw [decide_eq_false (by omega : ¬ ((n.length : Nat) : Int) < ((n.length : Nat) : Int))]
    rfl) (n.length - 0 + 1) 0 (Nat.zero_le _) (by omega) fun i _ _ => ?_)).trans rfl
  show (!(dh (gt n i) (gt n i))) = false
  unfold dh
  rw [decide_eq_true rfl, (fE _ _).2 rfl]; rfl
end Go.Sx
