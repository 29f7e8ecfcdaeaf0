/- A part of the proof of movingpointAt. -/
import Derived.Test.YtpfdaoajcnophaaGreatDoorB9
import Derived.Test.YtpfdaoajcnophaaGreatDoorC2
set_option linter.unusedVariables false
set_option linter.unusedSimpArgs false
namespace Go.Sx
theorem qS (l : List (U Ln)) : ae l = rE dM l 0 l.length := by
  unfold ae a8 aY bZ
  show bh l 0 l.length = _
  unfold bh
  rfl
theorem th (a b : U Ln) : dM a b = cU a b := by
  unfold dM aO cU ci
  rfl
theorem ss [K : Key] {d : List (U Ln)} (hd : ∀ u ∈ d, Tv u.iv) : (ae d).Perm d ∧ (ae d).Pairwise fun a b => kU a.iv ≤ kU b.iv := by
  rw [qS]
  exact uF th hd
theorem sL (l : List (U Ln)) : af l = l.flatMap atU := by
  unfold af
  have h := pu (R := List (U Ln)) (f := fun o u => o ++ atU u) l (I := fun _ => True) (B := fun s => dz l s.1 s.2)
    (fun _ _ h => h)
    (fun o i _ hi => by
      show dz l i o = _
      unfold dz atU ptU nu
      rw [decide_eq_true (by omega : ((i : Nat) : Int) < ((l.length : Nat) : Int)), cond_true]
      cases (gt l i).iv.openLo <;> cases aP (gt l i).iv <;> cases (gt l i).iv.openHi <;> simp)
    (fun o => by
      show dz l l.length o = _
      unfold dz
      rw [decide_eq_false (by omega : ¬ ((l.length : Nat) : Int) < ((l.length : Nat) : Int))]
      rfl) l [] [] (l.length - 0 + 1) trivial rfl (by omega)
  refine (rM h).trans ?_
  show gA l l.length _ = _
  unfold gA
  rw [rL, List.nil_append]
theorem oH {l : List (U Ln)} (hl : (ae l).length = l.length) (h : ∀ i, 0 < i → i < l.length → en (gt (ae l) (i - 1)).iv (gt (ae l) i).iv = true) : aW l = fD l l.length := by
  unfold aW
  refine (rM (v7 (n := l.length) (r := (([], 11) : List (U Ln) × Int)) (bad := fun x => decide (((x : Nat) : Int) > 0) && !(en (gt (ae l) (x - 1)).iv (gt (ae l) x).iv)) (fun x hx => by
    unfold eM
    rw [hl, decide_eq_true (by omega : ((x : Nat) : Int) < ((l.length : Nat) : Int)), cond_true]) (by
    unfold eM
    rw [hl, decide_eq_false (by omega : ¬ ((l.length : Nat) : Int) < ((l.length : Nat) : Int))]
    rfl) (l.length - 0 + 1) 0 (Nat.zero_le _) (by omega) fun i _ h2 => ?_)).trans rfl
  by_cases e : 0 < i
  · show (decide (((i : Nat) : Int) > 0) && !(en (gt (ae l) (i - 1)).iv (gt (ae l) i).iv)) = false
    rw [h i e h2, Bool.not_true, Bool.and_false]
  · show (decide (((i : Nat) : Int) > 0) && _) = false
    rw [decide_eq_false (by omega : ¬ ((i : Nat) : Int) > 0), Bool.false_and]
theorem oM (l : List (U Ln)) (x18 : Nat) (out : List (U Ln)) (x : Nat) (hx : x < (af (ae l)).length) :
    dp l x18 out x = .go (eU cG bt aG (af (ae l)) out x, x + 1) := by
  unfold dp eU iQ kh sc jt fA
  rw [decide_eq_true (by omega : ((x : Nat) : Int) < (((af (ae l)).length : Nat) : Int)), cond_true]
  generalize af (ae l) = L
  repeat' (first | refine cond_go ?_ ?_ | rfl)
theorem oL (l : List (U Ln)) (n : Nat) : fD l n = (jf (eU cG bt aG (af (ae l))) [] (af (ae l)).length, 0) := by
  unfold fD
  refine (rM (rB (o := ([] : List (U Ln))) (st := eU cG bt aG (af (ae l))) (n := (af (ae l)).length) (B := fun s => dp l n s.1 s.2)
    (fun o i hi => oM l n o i hi) (fun o => by
      show dp l n o _ = _
      unfold dp
      rw [decide_eq_false (by omega : ¬ (((af (ae l)).length : Nat) : Int) < (((af (ae l)).length : Nat) : Int))]
      rfl) _ 0 (Nat.zero_le _) (by omega))).trans ?_
  rfl
end Go.Sx
namespace Go.Sx
section
variable {α : Type} [Inhabited α] (eqf : α → α → Bool) (same : α → α → GR → Bool) (red : α → GR → α)
def Lk (x y : U α) : Prop :=
  x.iv.hi = y.iv.lo →
    (x.iv.lo = x.iv.hi → same y.f x.f y.iv.lo = false) ∧
    (x.iv.lo ≠ x.iv.hi → (x.iv.openHi = false → eqf x.f y.f = false) ∧ (x.iv.openHi = true → y.iv.openLo = false → same x.f y.f y.iv.lo = false))
structure NF [K : Key] (n : List (U α)) : Prop where
  wv : ∀ x ∈ n, Wv x.iv
  ord : n.Pairwise fun a b => fl a.iv < (e6 b.iv : Int)
  lk : ∀ i, i + 1 < n.length → Lk eqf same (gt n i) (gt n (i + 1))
  inst : ∀ x ∈ n, x.iv.lo = x.iv.hi → red x.f x.iv.lo = x.f
variable {eqf same red} {L out : List (U α)} {x : Nat} {t t' : GR} {f : α}
theorem sn_left (hx : gt L x = ptU t f) (hb : 0 < out.length → (lst out).iv.hi = t → (lst out).iv.lo ≠ (lst out).iv.hi → same (lst out).f f t = false) (hn : x + 1 < L.length) (h2 : (gt L (x + 1)).iv.lo = t) (h3 : same (gt L (x + 1)).f f t = true) :
    eU eqf same red L out x = out := by
  have hp : kh same red L out x = out := by
    unfold kh
    rw [hx]
    show (bif (((decide (((x + 1 : Nat) : Int) < ((L.length : Nat) : Int))) && (decide ((gt L (x + 1)).iv.lo = t))) && (same ((gt L (x + 1)).f) f t)) then out else _) = out
    rw [decide_eq_true (by omega : ((x + 1 : Nat) : Int) < ((L.length : Nat) : Int)), h2, decide_eq_true rfl, h3]
    rfl
  unfold eU
  rw [hp, hx]
  show (bif sc L out x then bif (!(decide (t = t))) then _ else bif (same (gt out (out.length - 1)).f f t) then _ else out else bif (!(decide (t = t))) then _ else out) = out
  rw [decide_eq_true rfl]
  cases hbf : sc L out x with
  | false => rfl
  | true =>
    obtain ⟨b1, b2, b3⟩ := jg.1 hbf
    rw [hx] at b2
    have hs : same (gt out (out.length - 1)).f f t = false := hb b1 b2 b3
    rw [hs]; rfl
theorem sn_app (hx : gt L x = ptU t f) (hb : 0 < out.length → (lst out).iv.hi = t → (lst out).iv.lo ≠ (lst out).iv.hi → same (lst out).f f t = false) (hn : x + 1 < L.length → (gt L (x + 1)).iv.lo = t → same (gt L (x + 1)).f f t = false) :
    eU eqf same red L out x = out ++ [ptU t (red f t)] := by
  have hp : kh same red L out x = out ++ [ptU t (red f t)] := by
    unfold kh
    rw [hx]
    show (bif (((decide (((x + 1 : Nat) : Int) < ((L.length : Nat) : Int))) && (decide ((gt L (x + 1)).iv.lo = t))) && (same ((gt L (x + 1)).f) f t)) then out else out ++ [ptU t (red f t)]) = _
    cases hq : (((decide (((x + 1 : Nat) : Int) < ((L.length : Nat) : Int))) && (decide ((gt L (x + 1)).iv.lo = t))) && (same ((gt L (x + 1)).f) f t)) with
    | false => rfl
    | true =>
      simp only [Bool.and_eq_true, decide_eq_true_eq] at hq
      rw [hn (by omega) hq.1.2] at hq
      exact absurd hq.2 (by decide)
  unfold eU
  rw [hp, hx]
  show (bif sc L out x then bif (!(decide (t = t))) then _ else bif (same (gt out (out.length - 1)).f f t) then _ else _ else bif (!(decide (t = t))) then _ else _) = _
  rw [decide_eq_true rfl]
  cases hbf : sc L out x with
  | false => rfl
  | true =>
    obtain ⟨b1, b2, b3⟩ := jg.1 hbf
    rw [hx] at b2
    have hs : same (gt out (out.length - 1)).f f t = false := hb b1 b2 b3
    rw [hs]; rfl
theorem sn_gap (hx : gt L x = nu t t' f) (hne : t ≠ t') (hb : 0 < out.length → (lst out).iv.hi = t → (lst out).iv.lo ≠ (lst out).iv.hi → (lst out).iv.openHi = false → eqf (lst out).f f = false)
    (own : Bool) (ho : own = true ↔ (0 < x ∧ (gt L (x - 1)).iv.lo = (gt L (x - 1)).iv.hi ∧ (gt L (x - 1)).iv.lo = t ∧ jt out t = false)) :
    eU eqf same red L out x = out ++ [⟨⟨t, t', !own, true⟩, f⟩] := by
  have hp : iQ L out x = out ++ [⟨⟨t, t', !own, true⟩, f⟩] := by
    unfold iQ
    rw [hx]
    have hc : ((((decide (((x : Nat) : Int) > 0)) && (aP ((gt L (x - 1)).iv))) && (decide (((gt L (x - 1)).iv).lo = t))) && (!(jt out t))) = own := by
      cases own with
      | true =>
        obtain ⟨a1, a2, a3, a4⟩ := ho.1 rfl
        rw [a4, decide_eq_true a3, decide_eq_true (by omega : ((x : Nat) : Int) > 0)]
        unfold aP
        rw [decide_eq_true a2]; rfl
      | false =>
        cases hq : ((((decide (((x : Nat) : Int) > 0)) && (aP ((gt L (x - 1)).iv))) && (decide (((gt L (x - 1)).iv).lo = t))) && (!(jt out t))) with
        | false => rfl
        | true =>
          simp only [Bool.and_eq_true, decide_eq_true_eq, Bool.not_eq_true'] at hq
          unfold aP at hq
          exact absurd (ho.2 ⟨by omega, of_decide_eq_true hq.1.1.2, hq.1.2, hq.2⟩) (by decide)
    show (bif ((((decide (((x : Nat) : Int) > 0)) && (aP ((gt L (x - 1)).iv))) && (decide (((gt L (x - 1)).iv).lo = t))) && (!(jt out t))) then _ else _) = _
    rw [hc]
    cases own <;> rfl
  unfold eU
  rw [hp, hx]
  show (bif sc L out x then bif (!(decide (t = t'))) then bif ((!((gt out (out.length - 1)).iv).openHi) && (eqf ((gt out (out.length - 1)).f) f)) then _ else _ else _ else bif (!(decide (t = t'))) then _ else _) = _
  rw [decide_eq_false hne]
  cases hbf : sc L out x with
  | false => rfl
  | true =>
    obtain ⟨b1, b2, b3⟩ := jg.1 hbf
    rw [hx] at b2
    cases hoh : (gt out (out.length - 1)).iv.openHi with
    | true => rfl
    | false =>
      rw [show eqf (gt out (out.length - 1)).f f = false from hb b1 b2 b3 hoh]; rfl
theorem sn_end (hx : gt L x = ptU t f) (h0 : 0 < out.length) (h1 : (lst out).iv.hi = t) (h2 : (lst out).iv.lo ≠ (lst out).iv.hi) (hs : same (lst out).f f t = true) :
    eU eqf same red L out x = out.set (out.length - 1) ⟨⟨(lst out).iv.lo, (lst out).iv.hi, (lst out).iv.openLo, false⟩, (lst out).f⟩ := by
  unfold eU
  rw [jg.2 ⟨h0, by rw [hx]; exact h1, h2⟩, hx]
  show (bif true then bif (!(decide (t = t))) then _ else bif (same (gt out (out.length - 1)).f f t) then _ else _ else _) = _
  rw [decide_eq_true rfl, show same (gt out (out.length - 1)).f f t = true from hs]
  rfl
omit [Inhabited α] in
theorem pS {p : List (U α)} {y z : U α} : (p ++ [y]).set ((p ++ [y]).length - 1) z = p ++ [z] := by
  rw [List.length_append, List.length_singleton, Nat.add_sub_cancel, List.set_append_right _ _ (Nat.le_refl _), Nat.sub_self]; rfl
theorem fZ {p : List (U α)} (h : 0 < p.length) : lst p ∈ p := by
  unfold lst
  rw [fU (by omega)]; exact List.getElem_mem _
omit [Inhabited α] in
end
end Go.Sx
namespace Go.Sx
section
variable {α : Type} [Inhabited α] {eqf : α → α → Bool} {same : α → α → GR → Bool} {red : α → GR → α} {A : List (At α)} {out : List (U α)} {i : Nat}
structure Ru [K : Key] (D : α → Prop) (same : α → α → GR → Bool) (red : α → GR → α) : Prop where
  refl : ∀ t, Tm t → ∀ f, D f → same f f t = true
  symm : ∀ t, Tm t → ∀ f g, D f → D g → same f g t = true → same g f t = true
  trans : ∀ t, Tm t → ∀ f g h, D f → D g → D h → same f g t = true → same g h t = true → same f h t = true
  redD : ∀ t, Tm t → ∀ f, D f → D (red f t)
  redS : ∀ t, Tm t → ∀ f, D f → same (red f t) f t = true
  redR : ∀ t, Tm t → ∀ f, D f → red (red f t) t = red f t
theorem NF.snoc [K : Key] (h : NF eqf same red out) {y : U α} (hy : Wv y.iv) (hl : 0 < out.length → fl (lst out).iv < (e6 y.iv : Int) ∧ Lk eqf same (lst out) y) (hi : y.iv.lo = y.iv.hi → red y.f y.iv.lo = y.f) : NF eqf same red (out ++ [y]) := by
  refine ⟨fun x hx => ?_, ?_, fun j hj => ?_, fun x hx => ?_⟩
  · rcases List.mem_append.1 hx with hx | hx
    · exact h.wv x hx
    · rw [List.mem_singleton.1 hx]; exact hy
  · rw [List.pairwise_append]
    refine ⟨h.ord, List.pairwise_singleton _ _, fun a ha b hb => ?_⟩
    rw [List.mem_singleton.1 hb]
    have h0 : 0 < out.length := List.length_pos_of_mem ha
    obtain ⟨k1, _⟩ := hl h0
    obtain ⟨q, hq⟩ := List.getElem_of_mem ha
    obtain ⟨hq1, hq2⟩ := hq
    by_cases e : q = out.length - 1
    · have : a = lst out := by
        unfold lst
        rw [fU (by omega)]
        subst e
        exact hq2.symm
      rw [this]; exact k1
    · have := List.pairwise_iff_getElem.1 h.ord q (out.length - 1) hq1 (by omega) (by omega)
      rw [hq2] at this
      have e2 : out[out.length - 1]'(by omega) = lst out := by unfold lst; rw [fU (by omega)]
      rw [e2] at this
      have := (h.wv _ (fZ h0)).le
      omega
  · rw [List.length_append, List.length_singleton] at hj
    by_cases e : j + 1 < out.length
    · rw [iS (by omega), iS e]; exact h.lk j e
    · have e1 : j + 1 = out.length := by omega
      rw [iS (by omega), e1, qr]
      have := (hl (by omega)).2
      unfold lst at this
      rwa [show out.length - 1 = j by omega] at this
  · rcases List.mem_append.1 hx with hx | hx
    · exact h.inst x hx
    · rw [List.mem_singleton.1 hx]; exact hi
theorem NF.setl [K : Key] (h : NF eqf same red out) (h0 : 0 < out.length) {T : GR} {o : Bool} (hT : Tm T) (hlt : tk (lst out).iv.lo < tk T) : NF eqf same red (out.set (out.length - 1) ⟨⟨(lst out).iv.lo, T, (lst out).iv.openLo, o⟩, (lst out).f⟩) := by
  obtain ⟨q, z, rfl⟩ : ∃ q z, out = q ++ [z] := ⟨out.dropLast, out.getLast (by intro e; rw [e] at h0; simp at h0), (List.dropLast_concat_getLast _).symm⟩
  rw [mD] at hlt ⊢
  rw [pS]
  have hz := h.wv z (by simp)
  have hq : NF eqf same red q := by
    have ho := h.ord
    rw [List.pairwise_append] at ho
    refine ⟨fun x hx => h.wv x (List.mem_append_left _ hx), ho.1, fun j hj => ?_, fun x hx => h.inst x (List.mem_append_left _ hx)⟩
    have := h.lk j (by simp; omega)
    rwa [iS (by omega), iS hj] at this
  refine hq.snoc ⟨⟨hz.1.1, hT⟩, Nat.le_of_lt hlt, fun e => ?_⟩ (fun hq0 => ?_) fun e => ?_
  · have e : tk z.iv.lo = tk T := e
    omega
  · have ho := h.ord
    rw [List.pairwise_append] at ho
    refine ⟨ho.2.2 _ (fZ hq0) z (by simp), ?_⟩
    have := h.lk (q.length - 1) (by simp; omega)
    rw [iS (by omega), show q.length - 1 + 1 = q.length by omega, qr] at this
    exact this
  · have e : z.iv.lo = T := e
    rw [e] at hlt; omega
omit [Inhabited α] in
end
end Go.Sx
namespace Go.Sx
def Bq (m : Nat) (q : GQ) : Prop := QOk q ∧ ∃ (a : Int) (b : Nat), 0 < b ∧ b < 2 ^ m ∧ a.natAbs < 2 ^ m ∧ a6 q = (a : Rat) / (b : Rat)
theorem gW {b : Nat} (h : 0 < b) : (b : Rat) ≠ 0 := by
  have : ((b : Nat) : Rat) ≠ ((0 : Nat) : Rat) := fun e => by rw [Rat.natCast_inj] at e; omega
  exact this
theorem Bq.mag {m : Nat} {q : GQ} (h : Bq m q) : q.num.mag < 2 ^ m ∧ q.den.mag < 2 ^ m := by
  obtain ⟨hq, a, b, b0, b1, a1, e⟩ := h
  have hp := hq.pos
  have hc := hq.2.2
  have e2 : fi q.num * (b : Int) = a * (je q : Int) := by
    have h1 := gW b0
    have h2 := gW hp
    have : (fi q.num : Rat) * (b : Rat) = (a : Rat) * (je q : Rat) := by
      unfold a6 at e; grind
    exact_mod_cast this
  have e3 : q.num.mag * b = a.natAbs * je q := by
    have := congrArg Int.natAbs e2
    rw [Int.natAbs_mul, Int.natAbs_mul, fP] at this
    simpa using this
  have d1 : je q ∣ b := Nat.Coprime.dvd_of_dvd_mul_left hc.symm (m := q.num.mag) ⟨a.natAbs, by rw [e3, Nat.mul_comm]⟩
  have d2 : q.num.mag ∣ a.natAbs := Nat.Coprime.dvd_of_dvd_mul_right hc (n := je q) ⟨b, by rw [← e3]⟩
  constructor
  · rcases Nat.eq_zero_or_pos a.natAbs with h | h
    · rw [h, Nat.zero_mul] at e3
      rcases Nat.mul_eq_zero.1 e3 with h | h
      · rw [h]; exact Nat.pow_pos (by decide)
      · omega
    · exact Nat.lt_of_le_of_lt (Nat.le_of_dvd h d2) a1
  · have h1 := Nat.le_of_dvd b0 d1
    unfold je at h1
    split at h1
    · rename_i h; rw [h]; exact Nat.pow_pos (by decide)
    · omega
theorem Bq.le {m n : Nat} {q : GQ} (h : Bq m q) (hn : m ≤ n) : Bq n q := by
  obtain ⟨hq, a, b, b0, b1, a1, e⟩ := h
  have := Nat.pow_le_pow_right (show 0 < 2 by decide) hn
  exact ⟨hq, a, b, b0, by omega, by omega, e⟩
theorem Bq.sz {m : Nat} {q : GQ} (h : Bq m q) (hm : m ≤ 240) : SzQ 40 q := by
  have h2 := (h.le hm).mag
  have e : (2 : Nat) ^ 240 = 256 ^ 30 := by rw [show (256 : Nat) = 2 ^ 8 from rfl, ← Nat.pow_mul]
  rw [e] at h2
  have := (cP 30 _).2 h2.1
  have := (cP 30 _).2 h2.2
  constructor
  · show SzB 40 _; unfold SzB; omega
  · show SzB 40 _; unfold SzB; omega
theorem Bq.of {q : GQ} (hq : QOk q) {m : Nat} (a : Int) (b : Nat) (b0 : 0 < b) (b1 : b < 2 ^ m) (a1 : a.natAbs < 2 ^ m) (e : a6 q = (a : Rat) / (b : Rat)) : Bq m q := ⟨hq, a, b, b0, b1, a1, e⟩
theorem Bq.self {q : GQ} (hq : QOk q) {m : Nat} (h1 : q.num.mag < 2 ^ m) (h2 : je q < 2 ^ m) : Bq m q := ⟨hq, fi q.num, je q, hq.pos, h2, by rw [fP]; exact h1, rfl⟩
theorem pw (m n : Nat) : 2 ^ (m + n) = 2 ^ m * 2 ^ n := Nat.pow_add 2 m n
theorem Bq.add {m n : Nat} {p q : GQ} (hp : Bq m p) (hq : Bq n q) : Bq (m + n + 1) (az p q) := by
  obtain ⟨op, a, b, b0, b1, a1, e⟩ := hp
  obtain ⟨oq, c, d, d0, d1, c1, f⟩ := hq
  obtain ⟨o, v⟩ := gL op oq
  have h1 : a.natAbs * d ≤ 2 ^ m * 2 ^ n := Nat.mul_le_mul (Nat.le_of_lt a1) (Nat.le_of_lt d1)
  have h2 : c.natAbs * b < 2 ^ m * 2 ^ n := by
    rw [Nat.mul_comm (2 ^ m)]
    exact Nat.lt_of_lt_of_le (Nat.mul_lt_mul_of_pos_right c1 b0) (Nat.mul_le_mul_left _ (Nat.le_of_lt b1))
  refine ⟨o, a * d + c * b, b * d, Nat.mul_pos b0 d0, ?_, ?_, ?_⟩
  · rw [Nat.pow_succ, pw]
    have := Nat.mul_lt_mul_of_lt_of_le b1 (Nat.le_of_lt d1) (Nat.pow_pos (n := n) (show 0 < 2 by decide))
    omega
  · rw [Nat.pow_succ, pw]
    have := Int.natAbs_add_le (a * d) (c * b)
    rw [Int.natAbs_mul, Int.natAbs_mul] at this
    simp only [Int.natAbs_natCast] at this
    omega
  · rw [v, e, f]
    have h1 := gW b0
    have h2 := gW d0
    push_cast
    grind
theorem Bq.mul {m n : Nat} {p q : GQ} (hp : Bq m p) (hq : Bq n q) : Bq (m + n) (am p q) := by
  obtain ⟨op, a, b, b0, b1, a1, e⟩ := hp
  obtain ⟨oq, c, d, d0, d1, c1, f⟩ := hq
  obtain ⟨o, v⟩ := fE op oq
  have hN := Nat.pow_pos (n := n) (show 0 < 2 by decide)
  refine ⟨o, a * c, b * d, Nat.mul_pos b0 d0, ?_, ?_, ?_⟩
  · rw [pw]; exact Nat.mul_lt_mul_of_lt_of_le b1 (Nat.le_of_lt d1) hN
  · rw [pw, Int.natAbs_mul]; exact Nat.mul_lt_mul_of_lt_of_le a1 (Nat.le_of_lt c1) hN
  · rw [v, e, f]
    have h1 := gW b0
    have h2 := gW d0
    push_cast
    grind
theorem Bq.neg {m : Nat} {p : GQ} (hp : Bq m p) : Bq m (aR p) := by
  obtain ⟨op, a, b, b0, b1, a1, e⟩ := hp
  obtain ⟨o, v⟩ := w4 op
  refine ⟨o, -a, b, b0, b1, by omega, ?_⟩
  rw [v, e]
  have h1 := gW b0
  push_cast
  grind
theorem sub_is (p q : GQ) : aj p q = az p (aR q) := by unfold aj; rfl
theorem Bq.sub {m n : Nat} {p q : GQ} (hp : Bq m p) (hq : Bq n q) : Bq (m + n + 1) (aj p q) := by
  rw [sub_is]; exact hp.add hq.neg
theorem Bq.int {m : Nat} (n : Int) (h : n.natAbs < 2 ^ m) (hm : 0 < m) : Bq m (ak n) := by
  obtain ⟨o, v⟩ := cM n
  refine ⟨o, n, 1, by decide, Nat.one_lt_two_pow (by omega), h, ?_⟩
  rw [v]; show (n : Rat) = (n : Rat) / ((1 : Nat) : Rat); rw [show ((1 : Nat) : Rat) = 1 from rfl]; grind
theorem Bq.zero {m : Nat} (hm : 0 < m) : Bq m zQ := Bq.int 0 (Nat.pow_pos (by decide)) hm
def LOk (f : Ln) : Prop := QOk f.x0 ∧ QOk f.x1 ∧ QOk f.y0 ∧ QOk f.y1
def BL (m : Nat) (f : Ln) : Prop := Bq m f.x0 ∧ Bq m f.x1 ∧ Bq m f.y0 ∧ Bq m f.y1
theorem BL.ok {m : Nat} {f : Ln} (h : BL m f) : LOk f := ⟨h.1.1, h.2.1.1, h.2.2.1.1, h.2.2.2.1⟩
theorem BL.le {m n : Nat} {f : Ln} (h : BL m f) (hn : m ≤ n) : BL n f := ⟨h.1.le hn, h.2.1.le hn, h.2.2.1.le hn, h.2.2.2.le hn⟩
theorem BL.sz {m : Nat} {f : Ln} (h : BL m f) (hm : m ≤ 240) : SzN 40 f := ⟨h.1.sz hm, h.2.1.sz hm, h.2.2.1.sz hm, h.2.2.2.sz hm⟩
def lX (f : Ln) : Qd := aQ f.x0 f.x1
def lY (f : Ln) : Qd := aQ f.y0 f.y1
theorem qz (f : Ln) : aN f = (lX f, lY f) := by unfold aN lX lY; rfl
theorem LOk.X {f : Ln} (h : LOk f) : DOk (lX f) ∧ (lX f).c0 = f.x0 ∧ (lX f).c1 = f.x1 ∧ (lX f).c2 = zQ := jW h.1 h.2.1
theorem LOk.Y {f : Ln} (h : LOk f) : DOk (lY f) ∧ (lY f).c0 = f.y0 ∧ (lY f).c1 = f.y1 ∧ (lY f).c2 = zQ := jW h.2.2.1 h.2.2.2
def lvN (t : GR) (f : Ln) : (Rat × Rat) × (Rat × Rat) := (lv t (lX f), lv t (lY f))
theorem Ln.ext4 {f g : Ln} (h1 : f.x0 = g.x0) (h2 : f.x1 = g.x1) (h3 : f.y0 = g.y0) (h4 : f.y1 = g.y1) : f = g := by cases f; cases g; simp_all
theorem gk {f g : Ln} {t : GR} (hf : LOk f) (hg : LOk g) (ht : TOk t) : bt f g t = true ↔ lvN t f = lvN t g := by
  unfold bt lvN
  rw [qz, qz, Bool.and_eq_true, tJ hf.X.1 hg.X.1 ht, tJ hf.Y.1 hg.Y.1 ht]
  exact ⟨fun h => Prod.ext h.1 h.2, fun h => ⟨congrArg Prod.fst h, congrArg Prod.snd h⟩⟩
def redX (f : Ln) (t : GR) : Qd := aV (lX f) t
def redY (f : Ln) (t : GR) : Qd := aV (lY f) t
theorem iR (f : Ln) (t : GR) : aG f t = ⟨(redX f t).c0, (redX f t).c1, (redY f t).c0, (redY f t).c1⟩ := by
  unfold aG redX redY
  rw [qz]
theorem ww {q : Qd} {t : GR} (hq : DOk q) (ht : TOk t) : aQ (aV q t).c0 (aV q t).c1 = aV q t := by
  obtain ⟨h1, _, _, h4⟩ := g8 hq ht
  obtain ⟨_, a2, a3, a4⟩ := jW h1.1 h1.2.1
  generalize aV q t = r at *
  obtain ⟨x, y, z⟩ := r
  simp only at h4 a2 a3 a4
  generalize aQ x y = s at *
  obtain ⟨x', y', z'⟩ := s
  simp only at a2 a3 a4
  rw [a2, a3, a4, h4]
theorem kC {f : Ln} {t : GR} (hf : LOk f) (ht : TOk t) : LOk (aG f t) ∧ lX (aG f t) = redX f t ∧ lY (aG f t) = redY f t := by
  obtain ⟨h1, _⟩ := g8 hf.X.1 ht
  obtain ⟨h2, _⟩ := g8 hf.Y.1 ht
  rw [iR]
  exact ⟨⟨h1.1, h1.2.1, h2.1, h2.2.1⟩, ww hf.X.1 ht, ww hf.Y.1 ht⟩
theorem mR {f : Ln} {t : GR} (hf : LOk f) (ht : TOk t) : lvN t (aG f t) = lvN t f := by
  obtain ⟨_, h2, h3⟩ := kC hf ht
  unfold lvN
  rw [h2, h3]
  exact Prod.ext (lZ hf.X.1 ht) (lZ hf.Y.1 ht)
theorem mQ {f g : Ln} {t : GR} (hf : LOk f) (hg : LOk g) (ht : TOk t) (h : lvN t f = lvN t g) : aG f t = aG g t := by
  rw [iR, iR]
  have h1 : redX f t = redX g t := (q6 hf.X.1 hg.X.1 ht).2 (congrArg Prod.fst h)
  have h2 : redY f t = redY g t := (q6 hf.Y.1 hg.Y.1 ht).2 (congrArg Prod.snd h)
  rw [h1, h2]
theorem l5 {f : Ln} {t : GR} (hf : LOk f) (ht : TOk t) (e : t.r = zQ) :
    (aG f t).x1 = zQ ∧ (aG f t).y1 = zQ ∧ a6 (aG f t).x0 = a6 f.x0 + a6 t.p * a6 f.x1 ∧ a6 (aG f t).y0 = a6 f.y0 + a6 t.p * a6 f.y1 := by
  rw [iR]
  have key : ∀ q : Qd, DOk q → q.c2 = zQ → (aV q t).c1 = zQ ∧ a6 (aV q t).c0 = a6 q.c0 + a6 t.p * a6 q.c1 := by
    intro q hq h2
    obtain ⟨k1, k2, k3, _⟩ := g8 hq ht
    unfold lv at k2 k3
    rw [if_pos e] at k2 k3
    refine ⟨eC k1.2.1 iU.1 (by rw [k3, iU.2]), ?_⟩
    rw [k2, h2, iU.2]; grind
  obtain ⟨x, xa, xb, xc⟩ := hf.X
  obtain ⟨y, ya, yb, yc⟩ := hf.Y
  obtain ⟨a1, a2⟩ := key _ x xc
  obtain ⟨b1, b2⟩ := key _ y yc
  rw [xa, xb] at a2
  rw [ya, yb] at b2
  exact ⟨a1, b1, a2, b2⟩
theorem l6 {f : Ln} {t : GR} (hf : LOk f) (ht : TOk t) (e : t.r ≠ zQ) : aG f t = f := by
  rw [iR]
  have key : ∀ q : Qd, DOk q → q.c2 = zQ → (aV q t).c0 = q.c0 ∧ (aV q t).c1 = q.c1 := by
    intro q hq h2
    obtain ⟨k1, k2, k3, _⟩ := g8 hq ht
    unfold lv at k2 k3
    rw [if_neg e] at k2 k3
    simp only [h2, iU.2] at k2 k3
    exact ⟨eC k1.1 hq.1 (by rw [k2]; grind), eC k1.2.1 hq.2.1 (by rw [k3]; grind)⟩
  obtain ⟨x, xa, xb, xc⟩ := hf.X
  obtain ⟨y, ya, yb, yc⟩ := hf.Y
  obtain ⟨a1, a2⟩ := key _ x xc
  obtain ⟨b1, b2⟩ := key _ y yc
  exact Ln.ext4 (a1.trans xa) (a2.trans xb) (b1.trans ya) (b2.trans yb)
theorem kA {f : Ln} {t : GR} (hf : LOk f) (ht : TOk t) (h1 : f.x1 = zQ) (h2 : f.y1 = zQ) : aG f t = f := by
  by_cases e : t.r = zQ
  · obtain ⟨a, b, c, d⟩ := l5 hf ht e
    obtain ⟨o1, _, o3, _⟩ := (kC hf ht).1
    refine Ln.ext4 (eC o1 hf.1 ?_) (a.trans h1.symm) (eC o3 hf.2.2.1 ?_) (b.trans h2.symm)
    · rw [c, h1, iU.2]; grind
    · rw [d, h2, iU.2]; grind
  · exact l6 hf ht e
def DL (m M : Nat) (f : Ln) : Prop := BL m f ∨ (f.x1 = zQ ∧ f.y1 = zQ ∧ BL M f)
theorem DL.ok {m M : Nat} {f : Ln} (h : DL m M f) : LOk f := by rcases h with h | h; exact h.ok; exact h.2.2.ok
theorem DL.bl {m M : Nat} {f : Ln} (h : DL m M f) (hm : m ≤ M) : BL M f := by rcases h with h | h; exact h.le hm; exact h.2.2
section
variable [K : Key]
theorem tZ {m M n : Nat} (hb : ∀ t : GR, Tm t → Bq n t.p) (hM : m + (n + m) + 1 ≤ M) (h0 : 0 < m) : Ru (DL m M) bt aG where
  refl t ht f hf := (gk hf.ok hf.ok ht.ok.tok).2 rfl
  symm t ht f g hf hg h := (gk hg.ok hf.ok ht.ok.tok).2 ((gk hf.ok hg.ok ht.ok.tok).1 h).symm
  trans t ht f g k hf hg hk h h' := (gk hf.ok hk.ok ht.ok.tok).2 (((gk hf.ok hg.ok ht.ok.tok).1 h).trans ((gk hg.ok hk.ok ht.ok.tok).1 h'))
  redD t ht f hf := by
    rcases hf with hf | ⟨h1, h2, h3⟩
    · by_cases e : t.r = zQ
      · obtain ⟨a, b, c, d⟩ := l5 hf.ok ht.ok.tok e
        obtain ⟨o1, _, o3, _⟩ := (kC hf.ok ht.ok.tok).1
        have hp := hb t ht
        obtain ⟨b1, b2, b3, b4⟩ := hf
        have key : ∀ {u v q : GQ}, Bq m u → Bq m v → QOk q → a6 q = a6 u + a6 t.p * a6 v → Bq M q := by
          intro u v q hu hv hq e
          have h := (hu.add (hp.mul hv)).le hM
          have : q = az u (am t.p v) := eC hq h.1 (by rw [e, (gL hu.1 (fE hp.1 hv.1).1).2, (fE hp.1 hv.1).2])
          rw [this]; exact h
        refine Or.inr ⟨a, b, key b1 b2 o1 c, ?_, key b3 b4 o3 d, ?_⟩
        · rw [a]; exact Bq.zero (by omega)
        · rw [b]; exact Bq.zero (by omega)
      · rw [l6 hf.ok ht.ok.tok e]; exact Or.inl hf
    · rw [kA h3.ok ht.ok.tok h1 h2]; exact Or.inr ⟨h1, h2, h3⟩
  redS t ht f hf := (gk (kC hf.ok ht.ok.tok).1 hf.ok ht.ok.tok).2 (mR hf.ok ht.ok.tok)
  redR t ht f hf := mQ (kC hf.ok ht.ok.tok).1 hf.ok ht.ok.tok (mR hf.ok ht.ok.tok)
end
theorem lB (a b : Ln) : cG a b = true ↔ a = b := by unfold cG; exact decide_eq_true_iff
end Go.Sx
namespace Go.Sx
set_option maxRecDepth 100000
section
variable {α : Type} [Inhabited α] {eqf : α → α → Bool} {same : α → α → GR → Bool} {red : α → GR → α} {D : α → Prop} {L out p : List (U α)} {x : Nat} {z zz y : U α}
def inU [K : Key] (i : Iv) (q : Nat) : Prop := e6 i ≤ q ∧ (q : Int) ≤ fl i
omit [Inhabited α] in
theorem ki [K : Key] {t : GR} {f : α} {q : Nat} : inU (ptU t f).iv q ↔ q = 2 * tk t := by
  have h1 : e6 (ptU t f).iv = 2 * tk t := rfl
  have h2 : fl (ptU t f).iv = 2 * (tk t : Int) - 0 := rfl
  unfold inU
  rw [h1, h2]; omega
omit [Inhabited α] in
theorem nQ [K : Key] {t t' : GR} {f : α} {q : Nat} : inU (nu t t' f).iv q ↔ 2 * tk t < q ∧ q < 2 * tk t' := by
  have h1 : e6 (nu t t' f).iv = 2 * tk t + 1 := rfl
  have h2 : fl (nu t t' f).iv = 2 * (tk t' : Int) - 1 := rfl
  unfold inU
  rw [h1, h2]; omega
def Atm [K : Key] (D : α → Prop) (y : U α) : Prop := D y.f ∧ ((∃ t, Tm t ∧ y = ptU t y.f) ∨ ∃ t t', Tm t ∧ Tm t' ∧ tk t < tk t' ∧ y = nu t t' y.f)
structure Ats [K : Key] (D : α → Prop) (L : List (U α)) : Prop where
  at_ : ∀ k, k < L.length → Atm D (gt L k)
  ord : ∀ i j, i < j → j < L.length → fl (gt L i).iv < (e6 (gt L j).iv : Int)
def Lft (same : α → α → GR → Bool) (L out : List (U α)) (x : Nat) (t : GR) : Prop := jt out t = false ∧ x < L.length ∧ (gt L x).iv.lo = t ∧ same (gt L x).f (gt L (x - 1)).f t = true
def LpC (same : α → α → GR → Bool) (red : α → GR → α) (L out : List (U α)) (x : Nat) (t : GR) : Prop :=
  (0 < out.length ∧ (lst out).iv.hi = t ∧ (lst out).iv.lo ≠ (lst out).iv.hi ∧ (lst out).iv.openHi = false) ∨
  (Lft same L out x t ∧ (0 < out.length → (lst out).iv.hi = t → (lst out).iv.lo ≠ (lst out).iv.hi → same (lst out).f (gt L (x - 1)).f t = false)) ∨
  (0 < out.length ∧ lst out = ptU t (red (gt L (x - 1)).f t) ∧ (x < L.length → (gt L x).iv.lo = t → same (gt L x).f (gt L (x - 1)).f t = false))
structure NI [K : Key] (eqf : α → α → Bool) (same : α → α → GR → Bool) (red : α → GR → α) (D : α → Prop) (L out : List (U α)) (x : Nat) : Prop where
  nf : NF eqf same red out
  dd : ∀ u ∈ out, D u.f
  bel : ∀ u ∈ out, ∀ k, x ≤ k → k < L.length → fl u.iv < (e6 (gt L k).iv : Int)
  s1 : ∀ t, Tm t → ∀ u ∈ out, inU u.iv (2 * tk t) → ∃ k, k < x ∧ inU (gt L k).iv (2 * tk t) ∧ same u.f (gt L k).f t = true
  s2 : ∀ q, ∀ u ∈ out, inU u.iv (2 * q + 1) → ∃ k, k < x ∧ inU (gt L k).iv (2 * q + 1) ∧ u.f = (gt L k).f
  c1 : ∀ t, Tm t → ∀ k, k < x → inU (gt L k).iv (2 * tk t) → (∃ u ∈ out, inU u.iv (2 * tk t) ∧ same u.f (gt L k).f t = true) ∨ (k + 1 = x ∧ Lft same L out x t)
  c2 : ∀ q k, k < x → inU (gt L k).iv (2 * q + 1) → ∃ u ∈ out, inU u.iv (2 * q + 1) ∧ u.f = (gt L k).f
  lp : 0 < x → ∀ t, gt L (x - 1) = ptU t (gt L (x - 1)).f → LpC same red L out x t
theorem NI.app [K : Key] (h : NI eqf same red D L out x) (hD : D y.f) (hn : NF eqf same red (out ++ [y])) (hb : ∀ k, x + 1 ≤ k → k < L.length → fl y.iv < (e6 (gt L k).iv : Int))
    (p1 : ∀ t, Tm t → inU y.iv (2 * tk t) → ∃ k, k < x + 1 ∧ inU (gt L k).iv (2 * tk t) ∧ same y.f (gt L k).f t = true)
    (p2 : ∀ q, inU y.iv (2 * q + 1) → ∃ k, k < x + 1 ∧ inU (gt L k).iv (2 * q + 1) ∧ y.f = (gt L k).f)
    (q1 : ∀ t, Tm t → inU (gt L x).iv (2 * tk t) → inU y.iv (2 * tk t) ∧ same y.f (gt L x).f t = true)
    (q2 : ∀ q, inU (gt L x).iv (2 * q + 1) → inU y.iv (2 * q + 1) ∧ y.f = (gt L x).f)
    (ql : ∀ t, Tm t → 0 < x → inU (gt L (x - 1)).iv (2 * tk t) → Lft same L out x t → inU y.iv (2 * tk t) ∧ same y.f (gt L (x - 1)).f t = true)
    (lp : ∀ t, gt L x = ptU t (gt L x).f → LpC same red L (out ++ [y]) (x + 1) t) : NI eqf same red D L (out ++ [y]) (x + 1) := by
  have hy : y ∈ out ++ [y] := by simp
  have ho : ∀ u ∈ out, u ∈ out ++ [y] := fun u hu => List.mem_append_left _ hu
  refine ⟨hn, fun u hu => ?_, fun u hu k h1 h2 => ?_, fun t ht u hu hi => ?_, fun q u hu hi => ?_, fun t ht k hk hi => ?_, fun q k hk hi => ?_, fun _ t e => lp t e⟩
  · rcases List.mem_append.1 hu with hu | hu
    · exact h.dd u hu
    · rw [List.mem_singleton.1 hu]; exact hD
  · rcases List.mem_append.1 hu with hu | hu
    · exact h.bel u hu k (by omega) h2
    · rw [List.mem_singleton.1 hu]; exact hb k h1 h2
  · rcases List.mem_append.1 hu with hu | hu
    · obtain ⟨k, h1, h2⟩ := h.s1 t ht u hu hi
      exact ⟨k, by omega, h2⟩
    · rw [List.mem_singleton.1 hu] at hi ⊢; exact p1 t ht hi
  · rcases List.mem_append.1 hu with hu | hu
    · obtain ⟨k, h1, h2⟩ := h.s2 q u hu hi
      exact ⟨k, by omega, h2⟩
    · rw [List.mem_singleton.1 hu] at hi ⊢; exact p2 q hi
  · by_cases e : k = x
    · subst e
      exact .inl ⟨y, hy, q1 t ht hi⟩
    · rcases h.c1 t ht k (by omega) hi with ⟨u, hu, h1⟩ | ⟨h1, h2⟩
      · exact .inl ⟨u, ho u hu, h1⟩
      · have e2 : k = x - 1 := by omega
        subst e2
        exact .inl ⟨y, hy, ql t ht (by omega) hi h2⟩
  · by_cases e : k = x
    · subst e
      exact ⟨y, hy, q2 q hi⟩
    · obtain ⟨u, hu, h1⟩ := h.c2 q k (by omega) hi
      exact ⟨u, ho u hu, h1⟩
theorem NI.rep [K : Key] (h : NI eqf same red D L (p ++ [z]) x) (hf : zz.f = z.f) (hn : NF eqf same red (p ++ [zz])) (hb : ∀ k, x + 1 ≤ k → k < L.length → fl zz.iv < (e6 (gt L k).iv : Int))
    (hz : ∀ q, inU z.iv q → inU zz.iv q)
    (p1 : ∀ q, inU zz.iv q → inU z.iv q ∨ inU (gt L x).iv q)
    (q0 : ∀ q, inU (gt L x).iv q → inU zz.iv q)
    (r1 : ∀ t, Tm t → inU (gt L x).iv (2 * tk t) → same z.f (gt L x).f t = true)
    (r2 : ∀ q, inU (gt L x).iv (2 * q + 1) → z.f = (gt L x).f)
    (ql : ∀ t, Tm t → 0 < x → inU (gt L (x - 1)).iv (2 * tk t) → ¬ Lft same L (p ++ [z]) x t)
    (lp : ∀ t, gt L x = ptU t (gt L x).f → LpC same red L (p ++ [zz]) (x + 1) t) : NI eqf same red D L (p ++ [zz]) (x + 1) := by
  have hy : zz ∈ p ++ [zz] := by simp
  have hzm : z ∈ p ++ [z] := by simp
  have hp : ∀ u ∈ p, u ∈ p ++ [z] := fun u hu => List.mem_append_left _ hu
  have ho : ∀ u ∈ p ++ [z], ∀ q, inU u.iv q → ∃ w ∈ p ++ [zz], inU w.iv q ∧ w.f = u.f := fun u hu q hq => by
    rcases List.mem_append.1 hu with hu | hu
    · exact ⟨u, List.mem_append_left _ hu, hq, rfl⟩
    · rw [List.mem_singleton.1 hu] at hq ⊢; exact ⟨zz, hy, hz q hq, hf⟩
  refine ⟨hn, fun u hu => ?_, fun u hu k h1 h2 => ?_, fun t ht u hu hi => ?_, fun q u hu hi => ?_, fun t ht k hk hi => ?_, fun q k hk hi => ?_, fun _ t e => lp t e⟩
  · rcases List.mem_append.1 hu with hu | hu
    · exact h.dd u (hp u hu)
    · rw [List.mem_singleton.1 hu, hf]; exact h.dd z hzm
  · rcases List.mem_append.1 hu with hu | hu
    · exact h.bel u (hp u hu) k (by omega) h2
    · rw [List.mem_singleton.1 hu]; exact hb k h1 h2
  · rcases List.mem_append.1 hu with hu | hu
    · obtain ⟨k, h1, h2⟩ := h.s1 t ht u (hp u hu) hi
      exact ⟨k, by omega, h2⟩
    · rw [List.mem_singleton.1 hu] at hi ⊢
      rw [hf]
      rcases p1 _ hi with h1 | h1
      · obtain ⟨k, h3, h2⟩ := h.s1 t ht z hzm h1
        exact ⟨k, by omega, h2⟩
      · exact ⟨x, by omega, h1, r1 t ht h1⟩
  · rcases List.mem_append.1 hu with hu | hu
    · obtain ⟨k, h1, h2⟩ := h.s2 q u (hp u hu) hi
      exact ⟨k, by omega, h2⟩
    · rw [List.mem_singleton.1 hu] at hi ⊢
      rw [hf]
      rcases p1 _ hi with h1 | h1
      · obtain ⟨k, h3, h2⟩ := h.s2 q z hzm h1
        exact ⟨k, by omega, h2⟩
      · exact ⟨x, by omega, h1, r2 q h1⟩
  · by_cases e : k = x
    · subst e
      exact .inl ⟨zz, hy, q0 _ hi, by rw [hf]; exact r1 t ht hi⟩
    · rcases h.c1 t ht k (by omega) hi with ⟨u, hu, h1, h2⟩ | ⟨h1, h2⟩
      · obtain ⟨w, hw, h3, h4⟩ := ho u hu _ h1
        exact .inl ⟨w, hw, h3, by rw [h4]; exact h2⟩
      · have e2 : k = x - 1 := by omega
        subst e2
        exact absurd h2 (ql t ht (by omega) hi)
  · by_cases e : k = x
    · subst e
      exact ⟨zz, hy, q0 _ hi, by rw [hf]; exact r2 q hi⟩
    · obtain ⟨u, hu, h1, h2⟩ := h.c2 q k (by omega) hi
      obtain ⟨w, hw, h3, h4⟩ := ho u hu _ h1
      exact ⟨w, hw, h3, h4.trans h2⟩
theorem NI.leave [K : Key] (h : NI eqf same red D L out x) {t : GR} (hx : gt L x = ptU t (gt L x).f) (ql : ∀ t, Tm t → 0 < x → inU (gt L (x - 1)).iv (2 * tk t) → ¬ Lft same L out x t)
    (hl : Lft same L out (x + 1) t) (hs : 0 < out.length → (lst out).iv.hi = t → (lst out).iv.lo ≠ (lst out).iv.hi → same (lst out).f (gt L x).f t = false) (ht : Tm t) : NI eqf same red D L out (x + 1) := by
  refine ⟨h.nf, h.dd, fun u hu k h1 h2 => h.bel u hu k (by omega) h2, fun t ht u hu hi => ?_, fun q u hu hi => ?_, fun s hs_ k hk hi => ?_, fun q k hk hi => ?_, fun _ s e => ?_⟩
  · obtain ⟨k, h1, h2⟩ := h.s1 t ht u hu hi
    exact ⟨k, by omega, h2⟩
  · obtain ⟨k, h1, h2⟩ := h.s2 q u hu hi
    exact ⟨k, by omega, h2⟩
  · by_cases e : k = x
    · subst e
      rw [hx, ki] at hi
      have e2 : s = t := (hs_.inj ht).1 (by omega)
      subst e2
      exact .inr ⟨rfl, hl⟩
    · rcases h.c1 s hs_ k (by omega) hi with h1 | ⟨h1, h2⟩
      · exact .inl h1
      · have e2 : k = x - 1 := by omega
        subst e2
        exact absurd h2 (ql s hs_ (by omega) hi)
  · by_cases e : k = x
    · subst e
      rw [hx, ki] at hi
      omega
    · exact h.c2 q k (by omega) hi
  · have e : gt L x = ptU s (gt L x).f := e
    have e2 : s = t := by
      have := congrArg (fun u : U α => u.iv.lo) (e.symm.trans hx)
      exact this
    subst e2
    exact .inr (.inl ⟨hl, hs⟩)
omit [Inhabited α] in
theorem xD (h : 0 < out.length) : ∃ q z, out = q ++ [z] := ⟨out.dropLast, out.getLast (by intro e; rw [e] at h; simp at h), (List.dropLast_concat_getLast _).symm⟩
omit [Inhabited α] in
theorem lo_eq [K : Key] {t : GR} (h : Wv z.iv) (he : z.iv.lo = z.iv.hi) (hh : z.iv.hi = t) : z = ptU t z.f := by
  obtain ⟨o1, o2⟩ := h.2.2 (by rw [he])
  obtain ⟨⟨lo, hi, ol, oh⟩, f⟩ := z
  simp only at he hh o1 o2
  subst hh he o1 o2
  rfl
theorem ni_point [K : Key] (R : Ru D same red) (hL : Ats D L) (hxl : x < L.length) {t : GR} (ht : Tm t) (hx : gt L x = ptU t (gt L x).f) (h : NI eqf same red D L out x) : NI eqf same red D L (eU eqf same red L out x) (x + 1) := by
  have hDf : D (gt L x).f := (hL.at_ x hxl).1
  have hpl : fl (gt L x).iv = 2 * (tk t : Int) := by rw [hx]; show 2 * (tk t : Int) - 0 = _; omega
  have hpf : e6 (gt L x).iv = 2 * tk t := by rw [hx]; rfl
  have hlo : (gt L x).iv.lo = t := by rw [hx]; rfl
  have ql : ∀ s, Tm s → 0 < x → inU (gt L (x - 1)).iv (2 * tk s) → ¬ Lft same L out x s := fun s hs h0 hi hl => by
    have h1 := hL.ord (x - 1) x (by omega) hxl
    have e : t = s := hlo.symm.trans hl.2.2.1
    subst e
    have := hi.2
    rw [hpf] at h1
    omega
  have hbx : ∀ k, x + 1 ≤ k → k < L.length → 2 * (tk t : Int) < (e6 (gt L k).iv : Int) := fun k h1 h2 => by
    have := hL.ord x k (by omega) h2
    omega
  by_cases hM : 0 < out.length ∧ (lst out).iv.hi = t ∧ (lst out).iv.lo ≠ (lst out).iv.hi ∧ same (lst out).f (gt L x).f t = true
  · obtain ⟨m1, m2, m3, m4⟩ := hM
    rw [sn_end hx m1 m2 m3 m4]
    obtain ⟨p, z, rfl⟩ := xD m1
    have hset := h.nf.setl m1 (T := (lst (p ++ [z])).iv.hi) (o := false) (by rw [m2]; exact ht) (by
      have hw := h.nf.wv _ (fZ m1)
      have := hw.2.1
      by_cases e : tk (lst (p ++ [z])).iv.lo = tk (lst (p ++ [z])).iv.hi
      · exact absurd ((hw.1.1.inj hw.1.2).1 e) m3
      · omega)
    rw [mD] at m2 m3 m4 hset ⊢
    rw [pS] at hset ⊢
    have hwz := h.nf.wv z (by simp)
    have hlz : fl z.iv = 2 * (tk z.iv.hi : Int) - (bif z.iv.openHi then 1 else 0) := rfl
    have hlzz : fl (⟨z.iv.lo, z.iv.hi, z.iv.openLo, false⟩ : Iv) = 2 * (tk t : Int) - 0 := by rw [← m2]; rfl
    have hb1 : (bif z.iv.openHi then 1 else 0 : Int) = 0 ∨ (bif z.iv.openHi then 1 else 0 : Int) = 1 := by cases z.iv.openHi <;> simp
    have hzb := h.bel z (by simp) x (Nat.le_refl x) hxl
    rw [m2] at hlz
    refine h.rep rfl hset (fun k h1 h2 => ?_) (fun q hq => ?_) (fun q hq => ?_) (fun q hq => ?_) (fun s hs hi => ?_) (fun q hi => ?_) ql (fun s e => ?_)
    · have := hbx k h1 h2
      show fl (⟨z.iv.lo, z.iv.hi, z.iv.openLo, false⟩ : Iv) < _
      omega
    · exact ⟨hq.1, by show _ ≤ fl (⟨z.iv.lo, z.iv.hi, z.iv.openLo, false⟩ : Iv); have := hq.2; omega⟩
    · have h2 : (q : Int) ≤ fl (⟨z.iv.lo, z.iv.hi, z.iv.openLo, false⟩ : Iv) := hq.2
      by_cases e : q = 2 * tk t
      · right; rw [hx, ki]; exact e
      · left; exact ⟨hq.1, by rcases hb1 with h3 | h3 <;> omega⟩
    · rw [hx, ki] at hq
      refine ⟨?_, ?_⟩
      · show e6 z.iv ≤ q
        have := hwz.le
        omega
      · show _ ≤ fl (⟨z.iv.lo, z.iv.hi, z.iv.openLo, false⟩ : Iv)
        omega
    · rw [hx, ki] at hi
      have e2 : s = t := (hs.inj ht).1 (by omega)
      rw [e2]; exact m4
    · rw [hx, ki] at hi
      omega
    · have e2 : s = t := congrArg (fun u : U α => u.iv.lo) (e.symm.trans hx)
      rw [e2]
      refine .inl ⟨by simp, ?_⟩
      rw [mD]
      exact ⟨m2, m3, rfl⟩
  · have hb : 0 < out.length → (lst out).iv.hi = t → (lst out).iv.lo ≠ (lst out).iv.hi → same (lst out).f (gt L x).f t = false := fun h1 h2 h3 => by
      cases e : same (lst out).f (gt L x).f t with
      | false => rfl
      | true => exact absurd ⟨h1, h2, h3, e⟩ hM
    have hnh : jt out t = false := by
      cases e : jt out t with
      | false => rfl
      | true =>
        obtain ⟨h1, h2, h3⟩ := js.1 e
        have := h.bel _ (fZ h1) x (Nat.le_refl x) hxl
        have hl : fl (lst out).iv = 2 * (tk (lst out).iv.hi : Int) - (bif (lst out).iv.openHi then 1 else 0) := rfl
        rw [h2, h3] at hl
        have hl : fl (lst out).iv = 2 * (tk t : Int) - 0 := hl
        omega
    by_cases hN : x + 1 < L.length ∧ (gt L (x + 1)).iv.lo = t ∧ same (gt L (x + 1)).f (gt L x).f t = true
    · obtain ⟨n1, n2, n3⟩ := hN
      rw [sn_left hx hb n1 n2 n3]
      exact h.leave hx ql ⟨hnh, n1, n2, n3⟩ hb ht
    · rw [sn_app hx hb (fun n1 n2 => by
        cases e : same (gt L (x + 1)).f (gt L x).f t with
        | false => rfl
        | true => exact absurd ⟨n1, n2, e⟩ hN)]
      have hrs := R.redS t ht _ hDf
      refine h.app (R.redD t ht _ hDf) (h.nf.snoc (y := ptU t (red (gt L x).f t)) ⟨⟨ht, ht⟩, Nat.le_refl _, fun _ => ⟨rfl, rfl⟩⟩ (fun h0 => ⟨?_, fun hh => ⟨fun hi => ?_, fun hi => ⟨fun ho => ?_, fun ho _ => ?_⟩⟩⟩) fun _ => R.redR t ht _ hDf) (fun k h1 h2 => ?_) (fun s hs hi => ?_) (fun q hi => ?_) (fun s hs hi => ?_) (fun q hi => ?_) (fun s hs h0 hi hl => absurd hl (ql s hs h0 hi)) (fun s e => ?_)
      · have := h.bel _ (fZ h0) x (Nat.le_refl x) hxl
        rw [hpf] at this
        exact this
      · have hh : (lst out).iv.hi = t := hh
        have e := lo_eq (h.nf.wv _ (fZ h0)) hi hh
        have := h.bel _ (fZ h0) x (Nat.le_refl x) hxl
        rw [hpf, e] at this
        have hl : fl (ptU t (lst out).f).iv = 2 * (tk t : Int) - 0 := rfl
        omega
      · have hh : (lst out).iv.hi = t := hh
        have := js.2 ⟨h0, hh, ho⟩
        rw [hnh] at this; cases this
      · have hh : (lst out).iv.hi = t := hh
        have h1 := hb h0 hh hi
        cases e : same (lst out).f (red (gt L x).f t) t with
        | false => exact e
        | true =>
          have := R.trans t ht _ _ _ (h.dd _ (fZ h0)) (R.redD t ht _ hDf) hDf e hrs
          rw [h1] at this; cases this
      · have hl : fl (ptU t (red (gt L x).f t)).iv = 2 * (tk t : Int) - 0 := rfl
        have := hbx k h1 h2
        omega
      · rw [ki] at hi
        have e2 : s = t := (hs.inj ht).1 (by omega)
        subst e2
        exact ⟨x, by omega, by rw [hx, ki], hrs⟩
      · rw [ki] at hi; omega
      · rw [hx, ki] at hi
        have e2 : s = t := (hs.inj ht).1 (by omega)
        subst e2
        exact ⟨ki.2 rfl, hrs⟩
      · rw [hx, ki] at hi; omega
      · have e2 : s = t := congrArg (fun u : U α => u.iv.lo) (e.symm.trans hx)
        rw [e2]
        refine .inr (.inr ⟨by simp, ?_, fun n1 n2 => ?_⟩)
        · rw [mD]; rfl
        · show same (gt L (x + 1)).f (gt L x).f t = false
          cases e : same (gt L (x + 1)).f (gt L x).f t with
          | false => rfl
          | true => exact absurd ⟨n1, n2, e⟩ hN
theorem sn_join {t t' : GR} {f : α} (hx : gt L x = nu t t' f) (hne : t ≠ t') (h0 : 0 < out.length) (h1 : (lst out).iv.hi = t) (h2 : (lst out).iv.lo ≠ (lst out).iv.hi) (h3 : (lst out).iv.openHi = false) (he : eqf (lst out).f f = true) :
    eU eqf same red L out x = out.set (out.length - 1) ⟨⟨(lst out).iv.lo, t', (lst out).iv.openLo, true⟩, (lst out).f⟩ := by
  unfold eU
  rw [jg.2 ⟨h0, by rw [hx]; exact h1, h2⟩, hx]
  show (bif true then bif (!(decide (t = t'))) then bif ((!((gt out (out.length - 1)).iv).openHi) && (eqf ((gt out (out.length - 1)).f) f)) then _ else _ else _ else _) = _
  rw [decide_eq_false hne, show (gt out (out.length - 1)).iv.openHi = false from h3, show eqf (gt out (out.length - 1)).f f = true from he]
  rfl
omit [Inhabited α] in
theorem Atm.le [K : Key] (h : Atm D y) : (e6 y.iv : Int) ≤ fl y.iv := by
  rcases h.2 with ⟨t, _, e⟩ | ⟨t, t', _, _, hl, e⟩
  · rw [e]
    have h1 : e6 (ptU t y.f).iv = 2 * tk t := rfl
    have h2 : fl (ptU t y.f).iv = 2 * (tk t : Int) - 0 := rfl
    omega
  · rw [e]
    have h1 : e6 (nu t t' y.f).iv = 2 * tk t + 1 := rfl
    have h2 : fl (nu t t' y.f).iv = 2 * (tk t' : Int) - 1 := rfl
    omega
theorem wK [K : Key] (hL : Ats D L) (hxl : x < L.length) {t t' : GR} (ht : Tm t) (hx : gt L x = nu t t' (gt L x).f) {k : Nat} (hk : k < x) (hi : inU (gt L k).iv (2 * tk t)) : k = x - 1 ∧ gt L k = ptU t (gt L k).f := by
  have hpf : e6 (gt L x).iv = 2 * tk t + 1 := by rw [hx]; rfl
  have h1 := hL.ord k x hk hxl
  have h2 := hi.2
  refine ⟨?_, ?_⟩
  · refine Classical.byContradiction fun hn => ?_
    have h3 := hL.ord k (x - 1) (by omega) (by omega)
    have h4 := hL.ord (x - 1) x (by omega) hxl
    have h5 := (hL.at_ (x - 1) (by omega)).le
    omega
  · rcases (hL.at_ k (by omega)).2 with ⟨s, hs, e⟩ | ⟨s, s', _, _, hl, e⟩
    · rw [e, ki] at hi
      have e2 : t = s := (ht.inj hs).1 (by omega)
      rw [e2]; exact e
    · rw [e] at h1 h2
      have h3 : fl (nu s s' (gt L k).f).iv = 2 * (tk s' : Int) - 1 := rfl
      omega
omit [Inhabited α] in
theorem atm_pt [K : Key] {t : GR} (h : Atm D y) (he : y.iv.lo = y.iv.hi) (hl : y.iv.lo = t) : y = ptU t y.f := by
  rcases h.2 with ⟨s, hs, e⟩ | ⟨s, s', _, _, hlt, e⟩
  · have : s = t := by rw [← hl, e]; rfl
    rw [← this]; exact e
  · rw [e] at he
    have he : s = s' := he
    rw [he] at hlt; omega
theorem ni_gap [K : Key] (R : Ru D same red) (heq : ∀ a b, eqf a b = true → a = b) (hL : Ats D L) (hxl : x < L.length) {t t' : GR} (ht : Tm t) (ht' : Tm t') (hlt : tk t < tk t') (hx : gt L x = nu t t' (gt L x).f) (h : NI eqf same red D L out x) :
    NI eqf same red D L (eU eqf same red L out x) (x + 1) := by
  have hDf : D (gt L x).f := (hL.at_ x hxl).1
  have hpl : fl (gt L x).iv = 2 * (tk t' : Int) - 1 := by rw [hx]; rfl
  have hpf : e6 (gt L x).iv = 2 * tk t + 1 := by rw [hx]; rfl
  have hlo : (gt L x).iv.lo = t := by rw [hx]; rfl
  have hne : t ≠ t' := fun e => by rw [e] at hlt; omega
  have nopt : ∀ s, gt L x ≠ ptU s (gt L x).f := fun s e => hne (by
    have e1 : t = s := congrArg (fun u : U α => u.iv.lo) (hx.symm.trans e)
    have e2 : t' = s := congrArg (fun u : U α => u.iv.hi) (hx.symm.trans e)
    rw [e1, e2])
  have hbx : ∀ k, x + 1 ≤ k → k < L.length → 2 * (tk t' : Int) - 1 < (e6 (gt L k).iv : Int) := fun k h1 h2 => by
    have := hL.ord x k (by omega) h2
    omega
  by_cases hJ : 0 < out.length ∧ (lst out).iv.hi = t ∧ (lst out).iv.lo ≠ (lst out).iv.hi ∧ (lst out).iv.openHi = false ∧ eqf (lst out).f (gt L x).f = true
  · obtain ⟨m1, m2, m3, m4, m5⟩ := hJ
    rw [sn_join hx hne m1 m2 m3 m4 m5]
    have hheld : jt out t = true := js.2 ⟨m1, m2, m4⟩
    obtain ⟨p, z, rfl⟩ := xD m1
    have hw := h.nf.wv _ (fZ m1)
    have hlz0 : tk (lst (p ++ [z])).iv.lo < tk t := by
      have := hw.2.1
      by_cases e : tk (lst (p ++ [z])).iv.lo = tk (lst (p ++ [z])).iv.hi
      · exact absurd ((hw.1.1.inj hw.1.2).1 e) m3
      · rw [m2] at this e; omega
    have hset := h.nf.setl m1 (T := t') (o := true) ht' (by omega)
    rw [mD] at m2 m3 m4 m5 hset hw hlz0 ⊢
    rw [pS] at hset ⊢
    have hlz : fl z.iv = 2 * (tk z.iv.hi : Int) - (bif z.iv.openHi then 1 else 0) := rfl
    rw [m2, m4] at hlz
    have hlz : fl z.iv = 2 * (tk t : Int) - 0 := hlz
    have hlzz : fl (⟨z.iv.lo, t', z.iv.openLo, true⟩ : Iv) = 2 * (tk t' : Int) - 1 := rfl
    have hle := hw.le
    refine h.rep rfl hset (fun k h1 h2 => ?_) (fun q hq => ?_) (fun q hq => ?_) (fun q hq => ?_) (fun s hs _ => ?_) (fun q _ => heq _ _ m5) (fun s hs h0 hi hl => ?_) (fun s e => absurd e (nopt s))
    · have := hbx k h1 h2
      show fl (⟨z.iv.lo, t', z.iv.openLo, true⟩ : Iv) < _
      omega
    · exact ⟨hq.1, by show _ ≤ fl (⟨z.iv.lo, t', z.iv.openLo, true⟩ : Iv); have := hq.2; omega⟩
    · have h2 : (q : Int) ≤ fl (⟨z.iv.lo, t', z.iv.openLo, true⟩ : Iv) := hq.2
      by_cases e : q ≤ 2 * tk t
      · left; exact ⟨hq.1, by omega⟩
      · right; rw [hx, nQ]; omega
    · rw [hx, nQ] at hq
      refine ⟨?_, ?_⟩
      · show e6 z.iv ≤ q
        omega
      · show _ ≤ fl (⟨z.iv.lo, t', z.iv.openLo, true⟩ : Iv)
        omega
    · rw [heq _ _ m5]; exact R.refl s hs _ hDf
    · have e : t = s := hlo.symm.trans hl.2.2.1
      rw [← e] at hl
      rw [hl.1] at hheld; cases hheld
  · have hb : 0 < out.length → (lst out).iv.hi = t → (lst out).iv.lo ≠ (lst out).iv.hi → (lst out).iv.openHi = false → eqf (lst out).f (gt L x).f = false := fun h1 h2 h3 h4 => by
      cases e : eqf (lst out).f (gt L x).f with
      | false => rfl
      | true => exact absurd ⟨h1, h2, h3, h4, e⟩ hJ
    obtain ⟨own, ho⟩ : ∃ own : Bool, own = true ↔ (0 < x ∧ (gt L (x - 1)).iv.lo = (gt L (x - 1)).iv.hi ∧ (gt L (x - 1)).iv.lo = t ∧ jt out t = false) := ⟨decide (0 < x ∧ (gt L (x - 1)).iv.lo = (gt L (x - 1)).iv.hi ∧ (gt L (x - 1)).iv.lo = t ∧ jt out t = false), decide_eq_true_iff⟩
    rw [sn_gap hx hne hb own ho]
    have hown : own = true → 0 < x ∧ gt L (x - 1) = ptU t (gt L (x - 1)).f ∧ same (gt L x).f (gt L (x - 1)).f t = true ∧ jt out t = false ∧ (0 < out.length → (lst out).iv.hi = t → (lst out).iv.lo ≠ (lst out).iv.hi → same (lst out).f (gt L (x - 1)).f t = false) := fun e => by
      obtain ⟨o1, o2, o3, o4⟩ := ho.1 e
      have hp := atm_pt (hL.at_ (x - 1) (by omega)) o2 o3
      rcases h.lp o1 t hp with ⟨a1, a2, _, a4⟩ | ⟨a1, a2⟩ | ⟨a1, a2, _⟩
      · rw [js.2 ⟨a1, a2, a4⟩] at o4; cases o4
      · exact ⟨o1, hp, a1.2.2.2, o4, a2⟩
      · rw [js.2 ⟨a1, by rw [a2]; rfl, by rw [a2]; rfl⟩] at o4; cases o4
    have hyf : e6 (⟨t, t', !own, true⟩ : Iv) = 2 * tk t + (bif !own then 1 else 0) := rfl
    have hyl : fl (⟨t, t', !own, true⟩ : Iv) = 2 * (tk t' : Int) - 1 := rfl
    have hbv : (own = true ∧ (bif !own then 1 else 0 : Nat) = 0) ∨ (own = false ∧ (bif !own then 1 else 0 : Nat) = 1) := by cases own <;> simp
    have hlast : 0 < out.length → fl (lst out).iv < (e6 (⟨t, t', !own, true⟩ : Iv) : Int) := fun h0 => by
      have h1 := h.bel _ (fZ h0) x (Nat.le_refl x) hxl
      rcases hbv with ⟨e, e1⟩ | ⟨e, e1⟩
      · have hh := (hown e).2.2.2.1
        have hl : fl (lst out).iv = 2 * (tk (lst out).iv.hi : Int) - (bif (lst out).iv.openHi then 1 else 0) := rfl
        cases hoh : (lst out).iv.openHi with
        | true =>
          rw [hoh] at hl
          have hl : fl (lst out).iv = 2 * (tk (lst out).iv.hi : Int) - 1 := hl
          omega
        | false =>
          rw [hoh] at hl
          have hl : fl (lst out).iv = 2 * (tk (lst out).iv.hi : Int) - 0 := hl
          by_cases e2 : tk (lst out).iv.hi = tk t
          · have e3 := ((h.nf.wv _ (fZ h0)).1.2.inj ht).1 e2
            rw [js.2 ⟨h0, e3, hoh⟩] at hh; cases hh
          · omega
      · omega
    refine h.app (y := ⟨⟨t, t', !own, true⟩, (gt L x).f⟩) hDf (h.nf.snoc ⟨⟨ht, ht'⟩, Nat.le_of_lt hlt, fun e => ?_⟩ (fun h0 => ⟨hlast h0, fun hh => ⟨fun hi => ?_, fun hi => ⟨fun hoh => ?_, fun hoh hol => ?_⟩⟩⟩) fun e => absurd e hne) (fun k h1 h2 => ?_) (fun s hs hi => ?_) (fun q hi => ?_) (fun s hs hi => ?_) (fun q hi => ?_) (fun s hs h0 hi hl => ?_) (fun s e => absurd e (nopt s))
    · have e : tk t = tk t' := e
      omega
    · have hh : (lst out).iv.hi = t := hh
      have hwl := h.nf.wv _ (fZ h0)
      have e := lo_eq hwl hi hh
      obtain ⟨k, k1, k2, k3⟩ := h.s1 t ht _ (fZ h0) (by rw [e]; exact ki.2 rfl)
      obtain ⟨e1, e2⟩ := wK hL hxl ht hx k1 k2
      subst e1
      rcases h.lp (by omega) t e2 with ⟨a1, a2, a3, a4⟩ | ⟨a1, a2⟩ | ⟨a1, a2, a3⟩
      · exact absurd hi a3
      · have := a1.1
        rw [js.2 ⟨h0, hh, by rw [e]; rfl⟩] at this; cases this
      · show same (gt L x).f (lst out).f t = false
        have hDp : D (gt L (x - 1)).f := (hL.at_ (x - 1) (by omega)).1
        have e3 : (lst out).f = red (gt L (x - 1)).f t := congrArg (fun u : U α => u.f) a2
        rw [e3]
        have h3 := a3 hxl hlo
        cases e4 : same (gt L x).f (red (gt L (x - 1)).f t) t with
        | false => rfl
        | true =>
          have := R.trans t ht _ _ _ hDf (R.redD t ht _ hDp) hDp e4 (R.redS t ht _ hDp)
          rw [h3] at this; cases this
    · exact hb h0 hh hi hoh
    · have hh : (lst out).iv.hi = t := hh
      have hol : (!own) = false := hol
      have eo : own = true := by cases own <;> first | rfl | cases hol
      obtain ⟨o1, o2, o3, o4, o5⟩ := hown eo
      have h3 := o5 h0 hh hi
      show same (lst out).f (gt L x).f t = false
      cases e4 : same (lst out).f (gt L x).f t with
      | false => rfl
      | true =>
        have := R.trans t ht _ _ _ (h.dd _ (fZ h0)) hDf (hL.at_ (x - 1) (by omega)).1 e4 o3
        rw [h3] at this; cases this
    · have := hbx k h1 h2
      show fl (⟨t, t', !own, true⟩ : Iv) < _
      omega
    · have h1 : e6 (⟨t, t', !own, true⟩ : Iv) ≤ 2 * tk s := hi.1
      have h2 : ((2 * tk s : Nat) : Int) ≤ fl (⟨t, t', !own, true⟩ : Iv) := hi.2
      by_cases e : tk s = tk t
      · have e1 := (hs.inj ht).1 e
        subst e1
        rcases hbv with ⟨eo, _⟩ | ⟨eo, e2⟩
        · obtain ⟨o1, o2, o3, o4, o5⟩ := hown eo
          exact ⟨x - 1, by omega, by rw [o2, ki], o3⟩
        · omega
      · refine ⟨x, by omega, ?_, R.refl s hs _ hDf⟩
        rw [hx, nQ]; omega
    · have h1 : e6 (⟨t, t', !own, true⟩ : Iv) ≤ 2 * q + 1 := hi.1
      have h2 : ((2 * q + 1 : Nat) : Int) ≤ fl (⟨t, t', !own, true⟩ : Iv) := hi.2
      refine ⟨x, by omega, ?_, rfl⟩
      rw [hx, nQ]; omega
    · rw [hx, nQ] at hi
      refine ⟨⟨?_, ?_⟩, R.refl s hs _ hDf⟩
      · show e6 (⟨t, t', !own, true⟩ : Iv) ≤ _
        omega
      · show _ ≤ fl (⟨t, t', !own, true⟩ : Iv)
        omega
    · rw [hx, nQ] at hi
      refine ⟨⟨?_, ?_⟩, rfl⟩
      · show e6 (⟨t, t', !own, true⟩ : Iv) ≤ _
        omega
      · show _ ≤ fl (⟨t, t', !own, true⟩ : Iv)
        omega
    · have e : t = s := hlo.symm.trans hl.2.2.1
      subst e
      obtain ⟨_, e2⟩ := wK hL hxl ht hx (by omega) hi
      have eo : own = true := ho.2 ⟨h0, by rw [e2]; rfl, by rw [e2]; rfl, hl.1⟩
      refine ⟨⟨?_, ?_⟩, hl.2.2.2⟩
      · show e6 (⟨t, t', !own, true⟩ : Iv) ≤ _
        rcases hbv with ⟨_, e3⟩ | ⟨e3, _⟩
        · omega
        · rw [eo] at e3; cases e3
      · show _ ≤ fl (⟨t, t', !own, true⟩ : Iv)
        omega
theorem ni_all [K : Key] (R : Ru D same red) (heq : ∀ a b, eqf a b = true → a = b) (hL : Ats D L) : ∀ x, x ≤ L.length → NI eqf same red D L (jf (eU eqf same red L) [] x) x
  | 0, _ => ⟨⟨fun _ h => (by cases h), List.Pairwise.nil, fun _ h => (by cases h), fun _ h => (by cases h)⟩, fun _ h => (by cases h), fun _ h => (by cases h), fun _ _ _ h => (by cases h), fun _ _ h => (by cases h), fun _ _ _ h => (by omega), fun _ _ h => (by omega), fun h => (by omega)⟩
  | x + 1, hx => by
    have h := ni_all R heq hL x (by omega)
    show NI eqf same red D L (eU eqf same red L (jf (eU eqf same red L) [] x) x) (x + 1)
    rcases (hL.at_ x hx).2 with ⟨t, ht, e⟩ | ⟨t, t', ht, ht', hlt, e⟩
    · exact ni_point R hL hx ht e h
    · exact ni_gap R heq hL hx ht ht' hlt e h
structure Sem [K : Key] (same : α → α → GR → Bool) (n N : List (U α)) : Prop where
  s1 : ∀ t, Tm t → ∀ u ∈ N, inU u.iv (2 * tk t) → ∃ w ∈ n, inU w.iv (2 * tk t) ∧ same u.f w.f t = true
  s2 : ∀ q, ∀ u ∈ N, inU u.iv (2 * q + 1) → ∃ w ∈ n, inU w.iv (2 * q + 1) ∧ u.f = w.f
  c1 : ∀ t, Tm t → ∀ w ∈ n, inU w.iv (2 * tk t) → ∃ u ∈ N, inU u.iv (2 * tk t) ∧ same u.f w.f t = true
  c2 : ∀ q, ∀ w ∈ n, inU w.iv (2 * q + 1) → ∃ u ∈ N, inU u.iv (2 * q + 1) ∧ u.f = w.f
omit [Inhabited α] in
theorem at_f {u a : U α} (h : a ∈ atU u) : a.f = u.f := by
  unfold atU at h
  cases h1 : u.iv.openLo <;> cases h2 : aP u.iv <;> cases h3 : u.iv.openHi <;> rw [h1, h2, h3] at h <;> simp at h <;> (try rcases h with h | h | h) <;> (try rcases h with h | h) <;> (try subst h) <;> first | rfl | (exact absurd h (by simp)) | skip
omit [Inhabited α] in
theorem cov [K : Key] {u : U α} (hw : Wv u.iv) {q : Nat} : inU u.iv q ↔ ∃ a ∈ atU u, inU a.iv q := by
  have hf : e6 u.iv = 2 * tk u.iv.lo + (bif u.iv.openLo then 1 else 0) := rfl
  have hl : fl u.iv = 2 * (tk u.iv.hi : Int) - (bif u.iv.openHi then 1 else 0) := rfl
  have hwl := hw.2.1
  by_cases hi : u.iv.lo = u.iv.hi
  · obtain ⟨o1, o2⟩ := hw.2.2 (by rw [hi])
    have ea : atU u = [ptU u.iv.lo u.f] := by
      unfold atU aP
      rw [o1, decide_eq_true hi]; rfl
    rw [ea]
    rw [o1] at hf; rw [o2] at hl
    have hf : e6 u.iv = 2 * tk u.iv.lo + 0 := hf
    have hl : fl u.iv = 2 * (tk u.iv.hi : Int) - 0 := hl
    rw [← hi] at hl
    simp only [List.mem_singleton, exists_eq_left, ki]
    unfold inU
    omega
  · have hini : aP u.iv = false := decide_eq_false hi
    have hlt : tk u.iv.lo < tk u.iv.hi := by
      by_cases e : tk u.iv.lo = tk u.iv.hi
      · exact absurd ((hw.1.1.inj hw.1.2).1 e) hi
      · omega
    unfold atU
    rw [hini]
    unfold inU
    rw [hf, hl]
    cases u.iv.openLo <;> cases u.iv.openHi <;> simp only [cond_true, cond_false, List.nil_append, List.cons_append, List.mem_cons, List.not_mem_nil, or_false, exists_eq_or_imp, exists_eq_left] <;>
      (have h1 := @ki α _ u.iv.lo u.f q; have h2 := @nQ α _ u.iv.lo u.iv.hi u.f q; have h3 := @ki α _ u.iv.hi u.f q; unfold inU at h1 h2 h3; simp only [h1, h2, h3]; omega)
omit [Inhabited α] in
theorem yo [K : Key] {u a : U α} (hw : Wv u.iv) (hD : D u.f) (h : a ∈ atU u) : Atm D a ∧ e6 u.iv ≤ e6 a.iv ∧ fl a.iv ≤ fl u.iv := by
  have hf := at_f h
  have hA : Atm D a := by
    refine ⟨by rw [hf]; exact hD, ?_⟩
    rw [hf]
    unfold atU at h
    rcases List.mem_append.1 h with h | h
    · cases ho : u.iv.openLo <;> rw [ho] at h
      · exact .inl ⟨_, hw.1.1, List.mem_singleton.1 h⟩
      · cases h
    · cases hi : aP u.iv <;> rw [hi] at h
      · rcases List.mem_cons.1 h with h | h
        · have hne : u.iv.lo ≠ u.iv.hi := of_decide_eq_false hi
          refine .inr ⟨_, _, hw.1.1, hw.1.2, ?_, h⟩
          have := hw.2.1
          by_cases e : tk u.iv.lo = tk u.iv.hi
          · exact absurd ((hw.1.1.inj hw.1.2).1 e) hne
          · omega
        · cases ho : u.iv.openHi <;> rw [ho] at h
          · exact .inl ⟨_, hw.1.2, List.mem_singleton.1 h⟩
          · cases h
      · cases h
  refine ⟨hA, ?_, ?_⟩
  · exact ((cov hw).2 ⟨a, h, Nat.le_refl _, hA.le⟩).1
  · have h0 : ∃ k : Nat, (k : Int) = fl a.iv := ⟨(fl a.iv).toNat, by have := hA.le; omega⟩
    obtain ⟨k, hk⟩ := h0
    have := ((cov hw).2 ⟨a, h, (by have := hA.le; omega : e6 a.iv ≤ k), (by omega)⟩).2
    omega
theorem ats_of [K : Key] {n : List (U α)} (hw : ∀ u ∈ n, Wv u.iv ∧ D u.f) (ho : n.Pairwise fun a b => fl a.iv < (e6 b.iv : Int)) : Ats D (n.flatMap atU) := by
  refine ⟨fun k hk => ?_, fun i j hij hj => ?_⟩
  · have hm : gt (n.flatMap atU) k ∈ n.flatMap atU := by rw [fU hk]; exact List.getElem_mem _
    obtain ⟨u, hu, ha⟩ := List.mem_flatMap.1 hm
    exact (yo (hw u hu).1 (hw u hu).2 ha).1
  · have hp : (n.flatMap atU).Pairwise fun a b => fl a.iv < (e6 b.iv : Int) := by
      rw [List.pairwise_flatMap]
      refine ⟨fun u hu => ?_, ho.imp_of_mem fun {a b} ha hb h x hx y hy => ?_⟩
      · have hwu := (hw u hu).1
        have hlt : u.iv.lo ≠ u.iv.hi → tk u.iv.lo < tk u.iv.hi := fun hi => by
          have := hwu.2.1
          by_cases e : tk u.iv.lo = tk u.iv.hi
          · exact absurd ((hwu.1.1.inj hwu.1.2).1 e) hi
          · omega
        have p1 : e6 (ptU u.iv.lo u.f).iv = 2 * tk u.iv.lo := rfl
        have p2 : fl (ptU u.iv.lo u.f).iv = 2 * (tk u.iv.lo : Int) - 0 := rfl
        have p3 : e6 (ptU u.iv.hi u.f).iv = 2 * tk u.iv.hi := rfl
        have p4 : e6 (nu u.iv.lo u.iv.hi u.f).iv = 2 * tk u.iv.lo + 1 := rfl
        have p5 : fl (nu u.iv.lo u.iv.hi u.f).iv = 2 * (tk u.iv.hi : Int) - 1 := rfl
        unfold atU
        cases hi : aP u.iv with
        | true => cases u.iv.openLo <;> simp
        | false =>
          have := hlt (of_decide_eq_false hi)
          cases u.iv.openLo <;> cases u.iv.openHi <;> simp <;> omega
      · have a1 := (yo (hw a ha).1 (hw a ha).2 hx).2.2
        have a2 := (yo (hw b hb).1 (hw b hb).2 hy).2.1
        omega
    have := List.pairwise_iff_getElem.1 hp i j (by omega) hj hij
    rw [fU (by omega), fU hj]
    exact this
theorem sem_loop [K : Key] {n : List (U α)} (R : Ru D same red) (heq : ∀ a b, eqf a b = true → a = b) (hw : ∀ u ∈ n, Wv u.iv ∧ D u.f) (ho : n.Pairwise fun a b => fl a.iv < (e6 b.iv : Int)) :
    NF eqf same red (jf (eU eqf same red (n.flatMap atU)) [] (n.flatMap atU).length) ∧ (∀ u ∈ jf (eU eqf same red (n.flatMap atU)) [] (n.flatMap atU).length, D u.f) ∧ Sem same n (jf (eU eqf same red (n.flatMap atU)) [] (n.flatMap atU).length) := by
  have hL := ats_of hw ho
  have h := ni_all (eqf := eqf) R heq hL _ (Nat.le_refl _)
  generalize jf (eU eqf same red (n.flatMap atU)) [] (n.flatMap atU).length = N at h
  have inn : ∀ {k q}, k < (n.flatMap atU).length → inU (gt (n.flatMap atU) k).iv q → ∃ w ∈ n, inU w.iv q ∧ w.f = (gt (n.flatMap atU) k).f := fun {k q} hk hi => by
    have hm : gt (n.flatMap atU) k ∈ n.flatMap atU := by rw [fU hk]; exact List.getElem_mem _
    obtain ⟨u, hu, ha⟩ := List.mem_flatMap.1 hm
    exact ⟨u, hu, (cov (hw u hu).1).2 ⟨_, ha, hi⟩, (at_f ha).symm⟩
  have out_ : ∀ {w q}, w ∈ n → inU w.iv q → ∃ k, k < (n.flatMap atU).length ∧ inU (gt (n.flatMap atU) k).iv q ∧ w.f = (gt (n.flatMap atU) k).f := fun {w q} hw_ hi => by
    obtain ⟨a, ha, h1⟩ := (cov (hw w hw_).1).1 hi
    have hm : a ∈ n.flatMap atU := List.mem_flatMap.2 ⟨w, hw_, ha⟩
    obtain ⟨k, hk, e⟩ := List.getElem_of_mem hm
    exact ⟨k, hk, by rw [fU hk, e]; exact h1, by rw [fU hk, e]; exact (at_f ha).symm⟩
  refine ⟨h.nf, h.dd, fun t ht u hu hi => ?_, fun q u hu hi => ?_, fun t ht w hw_ hi => ?_, fun q w hw_ hi => ?_⟩
  · obtain ⟨k, h1, h2, h3⟩ := h.s1 t ht u hu hi
    obtain ⟨w, hw_, h4, h5⟩ := inn h1 h2
    exact ⟨w, hw_, h4, by rw [h5]; exact h3⟩
  · obtain ⟨k, h1, h2, h3⟩ := h.s2 q u hu hi
    obtain ⟨w, hw_, h4, h5⟩ := inn h1 h2
    exact ⟨w, hw_, h4, by rw [h5]; exact h3⟩
  · obtain ⟨k, h1, h2, h3⟩ := out_ hw_ hi
    rcases h.c1 t ht k h1 h2 with ⟨u, hu, h4, h5⟩ | ⟨_, h4⟩
    · exact ⟨u, hu, h4, by rw [h3]; exact h5⟩
    · exact absurd h4.2.1 (Nat.lt_irrefl _)
  · obtain ⟨k, h1, h2, h3⟩ := out_ hw_ hi
    obtain ⟨u, hu, h4, h5⟩ := h.c2 q k h1 h2
    exact ⟨u, hu, h4, by rw [h3]; exact h5⟩
end
end Go.Sx
namespace Go.Sx
set_option maxRecDepth 100000
section
variable {α : Type} [Inhabited α] {eqf : α → α → Bool} {same : α → α → GR → Bool} {red : α → GR → α} {D : α → Prop} {n m : List (U α)} {u w : U α}
theorem NF.tail [K : Key] (h : NF eqf same red (u :: n)) : NF eqf same red n ∧ (∀ v ∈ n, fl u.iv < (e6 v.iv : Int)) := by
  have ho := List.pairwise_cons.1 h.ord
  refine ⟨⟨fun x hx => h.wv x (List.mem_cons_of_mem _ hx), ho.2, fun i hi => ?_, fun x hx => h.inst x (List.mem_cons_of_mem _ hx)⟩, ho.1⟩
  exact h.lk (i + 1) (by simp only [List.length_cons]; omega)
theorem NF.nextLk [K : Key] (h : NF eqf same red (u :: n)) (hw : w ∈ n) (hk : (e6 w.iv : Int) = fl u.iv + 1) : Lk eqf same u w := by
  cases n with
  | nil => cases hw
  | cons v n =>
    obtain ⟨h1, h2⟩ := h.tail
    rcases List.mem_cons.1 hw with e | hw
    · rw [e]; exact h.lk 0 (by simp)
    · have a1 := h2 v (List.mem_cons_self ..)
      have a2 := h1.tail.2 w hw
      have a3 := (h1.wv v (List.mem_cons_self ..)).le
      omega
theorem NF.one [K : Key] (h : NF eqf same red n) (hu : u ∈ n) (hw : w ∈ n) {q : Nat} (h1 : inU u.iv q) (h2 : inU w.iv q) : u = w := by
  induction n with
  | nil => cases hu
  | cons v n ih =>
    obtain ⟨t1, t2⟩ := h.tail
    rcases List.mem_cons.1 hu with e1 | hu2 <;> rcases List.mem_cons.1 hw with e2 | hw2
    · rw [e1, e2]
    · have := t2 w hw2
      rw [e1] at h1
      have b1 := h1.2; have b2 := h2.1
      omega
    · have := t2 u hu2
      rw [e2] at h2
      have b1 := h1.1; have b2 := h2.2
      omega
    · exact ih t1 hu2 hw2
omit [Inhabited α] in
theorem Sem.symm [K : Key] (R : Ru D same red) (hn : ∀ u ∈ n, D u.f) (hm : ∀ u ∈ m, D u.f) (h : Sem same n m) : Sem same m n := by
  refine ⟨fun t ht u hu hi => ?_, fun q u hu hi => ?_, fun t ht w hw hi => ?_, fun q w hw hi => ?_⟩
  · obtain ⟨w, h1, h2, h3⟩ := h.c1 t ht u hu hi
    exact ⟨w, h1, h2, R.symm t ht _ _ (hm w h1) (hn u hu) h3⟩
  · obtain ⟨w, h1, h2, h3⟩ := h.c2 q u hu hi
    exact ⟨w, h1, h2, h3.symm⟩
  · obtain ⟨u, h1, h2, h3⟩ := h.s1 t ht w hw hi
    exact ⟨u, h1, h2, R.symm t ht _ _ (hm w hw) (hn u h1) h3⟩
  · obtain ⟨u, h1, h2, h3⟩ := h.s2 q w hw hi
    exact ⟨u, h1, h2, h3.symm⟩
omit [Inhabited α] in
theorem Sem.trans [K : Key] {k : List (U α)} (R : Ru D same red) (hn : ∀ u ∈ n, D u.f) (hm : ∀ u ∈ m, D u.f) (hk : ∀ u ∈ k, D u.f) (h : Sem same n m) (h' : Sem same m k) : Sem same n k := by
  refine ⟨fun t ht u hu hi => ?_, fun q u hu hi => ?_, fun t ht w hw hi => ?_, fun q w hw hi => ?_⟩
  · obtain ⟨w, h1, h2, h3⟩ := h'.s1 t ht u hu hi
    obtain ⟨x, h4, h5, h6⟩ := h.s1 t ht w h1 h2
    exact ⟨x, h4, h5, R.trans t ht _ _ _ (hk u hu) (hm w h1) (hn x h4) h3 h6⟩
  · obtain ⟨w, h1, h2, h3⟩ := h'.s2 q u hu hi
    obtain ⟨x, h4, h5, h6⟩ := h.s2 q w h1 h2
    exact ⟨x, h4, h5, h3.trans h6⟩
  · obtain ⟨u, h1, h2, h3⟩ := h.c1 t ht w hw hi
    obtain ⟨x, h4, h5, h6⟩ := h'.c1 t ht u h1 h2
    exact ⟨x, h4, h5, R.trans t ht _ _ _ (hk x h4) (hm u h1) (hn w hw) h6 h3⟩
  · obtain ⟨u, h1, h2, h3⟩ := h.c2 q w hw hi
    obtain ⟨x, h4, h5, h6⟩ := h'.c2 q u h1 h2
    exact ⟨x, h4, h5, h6.trans h3⟩
omit [Inhabited α] in
theorem gC [K : Key] (i : Iv) : (i.openLo = false ∧ e6 i = 2 * tk i.lo) ∨ (i.openLo = true ∧ e6 i = 2 * tk i.lo + 1) := by
  unfold e6; cases i.openLo <;> simp
omit [Inhabited α] in
theorem lA [K : Key] (i : Iv) : (i.openHi = false ∧ fl i = 2 * (tk i.hi : Int)) ∨ (i.openHi = true ∧ fl i = 2 * (tk i.hi : Int) - 1) := by
  unfold fl; cases i.openHi <;> simp
omit [Inhabited α] in
theorem mT [K : Key] {i : Iv} (h : Wv i) : inU i (e6 i) := ⟨Nat.le_refl _, h.le⟩
theorem fst_le [K : Key] (hw : Wv w.iv) (hm : NF eqf same red (u :: n)) (hS : Sem same (u :: n) m) (h : w ∈ m) : e6 u.iv ≤ e6 w.iv := by
  have key : ∃ v ∈ u :: n, inU v.iv (e6 w.iv) := by
    rcases gC w.iv with ⟨_, e⟩ | ⟨_, e⟩
    · have hi := mT hw
      rw [e] at hi ⊢
      obtain ⟨v, h1, h2, _⟩ := hS.s1 _ hw.1.1 w h hi
      exact ⟨v, h1, h2⟩
    · have hi := mT hw
      rw [e] at hi ⊢
      obtain ⟨v, h1, h2, _⟩ := hS.s2 _ w h hi
      exact ⟨v, h1, h2⟩
  obtain ⟨v, h1, h2⟩ := key
  have h3 := h2.1
  rcases List.mem_cons.1 h1 with e | h1
  · rw [← e]; exact h3
  · have := hm.tail.2 v h1
    have := (hm.wv u (List.mem_cons_self ..)).le
    omega
theorem lst_le [K : Key] (R : Ru D same red) (hee : ∀ a, eqf a a = true) (hn : NF eqf same red (u :: n)) (hm : NF eqf same red (w :: m)) (hDn : ∀ v ∈ u :: n, D v.f) (hDm : ∀ v ∈ w :: m, D v.f)
    (hS : Sem same (u :: n) (w :: m)) (hf : e6 u.iv = e6 w.iv) : fl w.iv ≤ fl u.iv := by
  refine Classical.byContradiction fun hlt => ?_
  have hlt : fl u.iv < fl w.iv := by omega
  have hum : u ∈ u :: n := List.mem_cons_self ..
  have hwm : w ∈ w :: m := List.mem_cons_self ..
  have hwu := hn.wv u hum
  have hww := hm.wv w hwm
  have hle := hwu.le
  have nxt : ∀ {v : U α}, v ∈ u :: n → ∀ {q : Nat}, (q : Int) = fl u.iv + 1 → inU v.iv q → v ∈ n ∧ e6 v.iv = q := fun {v} hv {q} hq hi => by
    rcases List.mem_cons.1 hv with e | hv
    · rw [e] at hi; have := hi.2; omega
    · have := hn.tail.2 v hv; have := hi.1; exact ⟨hv, by omega⟩
  have ev : ∀ t, Tm t → inU u.iv (2 * tk t) → inU w.iv (2 * tk t) → same w.f u.f t = true := fun t ht h1 h2 => by
    obtain ⟨v, k1, k2, k3⟩ := hS.s1 t ht w hwm h2
    rw [hn.one hum k1 h1 k2]; exact k3
  have od : ∀ q, inU u.iv (2 * q + 1) → inU w.iv (2 * q + 1) → w.f = u.f := fun q h1 h2 => by
    obtain ⟨v, k1, k2, k3⟩ := hS.s2 q w hwm h2
    rw [hn.one hum k1 h1 k2]; exact k3
  by_cases hi : u.iv.lo = u.iv.hi
  · obtain ⟨o1, o2⟩ := hwu.2.2 (by rw [hi])
    have f1 : e6 u.iv = 2 * tk u.iv.lo := by rcases gC u.iv with ⟨_, e⟩ | ⟨e, _⟩; exact e; rw [o1] at e; cases e
    have l1 : fl u.iv = 2 * (tk u.iv.lo : Int) := by rcases lA u.iv with ⟨_, e⟩ | ⟨e, _⟩; rw [hi]; exact e; rw [o2] at e; cases e
    obtain ⟨v, k1, k2, k3⟩ := hS.s2 (tk u.iv.lo) w hwm ⟨by omega, by omega⟩
    obtain ⟨k4, k5⟩ := nxt k1 (q := 2 * tk u.iv.lo + 1) (by omega) k2
    have hlk := hn.nextLk k4 (by omega)
    have hvlo : v.iv.lo = u.iv.lo := by
      rcases gC v.iv with ⟨_, e⟩ | ⟨_, e⟩
      · omega
      · exact ((hn.wv v k1).1.1.inj hwu.1.1).1 (by omega)
    have h1 := (hlk (by rw [hvlo, hi])).1 hi
    rw [hvlo] at h1
    have h2 := ev _ hwu.1.1 ⟨by omega, by omega⟩ ⟨by omega, by omega⟩
    rw [k3, h1] at h2; cases h2
  · have hlh : tk u.iv.lo < tk u.iv.hi := by
      have := hwu.2.1
      by_cases e : tk u.iv.lo = tk u.iv.hi
      · exact absurd ((hwu.1.1.inj hwu.1.2).1 e) hi
      · omega
    have hfu := gC u.iv
    have hfe : w.f = u.f := by
      rcases lA u.iv with ⟨_, e⟩ | ⟨_, e⟩ <;> rcases hfu with ⟨_, e2⟩ | ⟨_, e2⟩ <;> exact od (tk u.iv.lo) ⟨by omega, by omega⟩ ⟨by omega, by omega⟩
    rcases lA u.iv with ⟨o, e⟩ | ⟨o, e⟩
    · have hin : inU w.iv (2 * tk u.iv.hi + 1) := ⟨by rcases hfu with ⟨_, e2⟩ | ⟨_, e2⟩ <;> omega, by omega⟩
      obtain ⟨v, k1, k2, k3⟩ := hS.s2 (tk u.iv.hi) w hwm hin
      obtain ⟨k4, k5⟩ := nxt k1 (q := 2 * tk u.iv.hi + 1) (by omega) k2
      have hlk := hn.nextLk k4 (by omega)
      have hvlo : v.iv.lo = u.iv.hi := by
        rcases gC v.iv with ⟨_, e⟩ | ⟨_, e⟩
        · omega
        · exact ((hn.wv v k1).1.1.inj hwu.1.2).1 (by omega)
      have h1 := ((hlk hvlo.symm).2 hi).1 o
      rw [← k3, hfe, hee] at h1; cases h1
    · have hin : inU w.iv (2 * tk u.iv.hi) := ⟨by rcases hfu with ⟨_, e2⟩ | ⟨_, e2⟩ <;> omega, by omega⟩
      obtain ⟨v, k1, k2, k3⟩ := hS.s1 _ hwu.1.2 w hwm hin
      obtain ⟨k4, k5⟩ := nxt k1 (q := 2 * tk u.iv.hi) (by omega) k2
      have hlk := hn.nextLk k4 (by omega)
      obtain ⟨vo, hvlo⟩ : v.iv.openLo = false ∧ v.iv.lo = u.iv.hi := by
        rcases gC v.iv with ⟨e1, e⟩ | ⟨_, e⟩
        · exact ⟨e1, ((hn.wv v k1).1.1.inj hwu.1.2).1 (by omega)⟩
        · omega
      have h1 := ((hlk hvlo.symm).2 hi).2 o vo
      rw [hvlo, ← hfe, k3] at h1; cases h1
theorem head_eq [K : Key] (R : Ru D same red) (hrc : ∀ t, Tm t → ∀ f g, D f → D g → same f g t = true → red f t = red g t) (hn : NF eqf same red (u :: n)) (hm : NF eqf same red (w :: m)) (hDn : ∀ v ∈ u :: n, D v.f) (hDm : ∀ v ∈ w :: m, D v.f)
    (hS : Sem same (u :: n) (w :: m)) (hf : e6 u.iv = e6 w.iv) (hl : fl u.iv = fl w.iv) : u = w := by
  have hum : u ∈ u :: n := List.mem_cons_self ..
  have hwm : w ∈ w :: m := List.mem_cons_self ..
  have hwu := hn.wv u hum
  have hww := hm.wv w hwm
  have e1 : u.iv.lo = w.iv.lo ∧ u.iv.openLo = w.iv.openLo := by
    rcases gC u.iv with ⟨o, e⟩ | ⟨o, e⟩ <;> rcases gC w.iv with ⟨o', e'⟩ | ⟨o', e'⟩
    · exact ⟨(hwu.1.1.inj hww.1.1).1 (by omega), by rw [o, o']⟩
    · omega
    · omega
    · exact ⟨(hwu.1.1.inj hww.1.1).1 (by omega), by rw [o, o']⟩
  have e2 : u.iv.hi = w.iv.hi ∧ u.iv.openHi = w.iv.openHi := by
    rcases lA u.iv with ⟨o, e⟩ | ⟨o, e⟩ <;> rcases lA w.iv with ⟨o', e'⟩ | ⟨o', e'⟩
    · exact ⟨(hwu.1.2.inj hww.1.2).1 (by omega), by rw [o, o']⟩
    · omega
    · omega
    · exact ⟨(hwu.1.2.inj hww.1.2).1 (by omega), by rw [o, o']⟩
  have e3 : u.f = w.f := by
    by_cases hi : u.iv.lo = u.iv.hi
    · obtain ⟨o1, o2⟩ := hwu.2.2 (by rw [hi])
      have f1 : e6 u.iv = 2 * tk u.iv.lo := by rcases gC u.iv with ⟨_, e⟩ | ⟨e, _⟩; exact e; rw [o1] at e; cases e
      have hle := hwu.le
      have h1 := hn.inst u hum hi
      have h2 := hm.inst w hwm (by rw [← e1.1, ← e2.1]; exact hi)
      obtain ⟨v, k1, k2, k3⟩ := hS.s1 _ hwu.1.1 w hwm ⟨by omega, by omega⟩
      rw [hn.one k1 hum k2 ⟨by omega, by omega⟩] at k3
      have := hrc _ hwu.1.1 _ _ (hDm w hwm) (hDn u hum) k3
      rw [← e1.1, this, h1] at h2
      exact h2
    · have hlh : tk u.iv.lo < tk u.iv.hi := by
        have := hwu.2.1
        by_cases e : tk u.iv.lo = tk u.iv.hi
        · exact absurd ((hwu.1.1.inj hwu.1.2).1 e) hi
        · omega
      have hin : inU u.iv (2 * tk u.iv.lo + 1) := by
        rcases gC u.iv with ⟨_, e⟩ | ⟨_, e⟩ <;> rcases lA u.iv with ⟨_, e'⟩ | ⟨_, e'⟩ <;> exact ⟨by omega, by omega⟩
      have hin2 : inU w.iv (2 * tk u.iv.lo + 1) := by
        have a1 := hin.1; have a2 := hin.2; exact ⟨by omega, by omega⟩
      obtain ⟨v, k1, k2, k3⟩ := hS.s2 _ w hwm hin2
      rw [hn.one k1 hum k2 hin] at k3
      exact k3.symm
  obtain ⟨⟨lo, hi, ol, oh⟩, f⟩ := u
  obtain ⟨⟨lo2, hi2, ol2, oh2⟩, f2⟩ := w
  simp only at e1 e2 e3
  obtain ⟨rfl, rfl⟩ := e1
  obtain ⟨rfl, rfl⟩ := e2
  rw [e3]
theorem wW [K : Key] (R : Ru D same red) (hrc : ∀ t, Tm t → ∀ f g, D f → D g → same f g t = true → red f t = red g t) (hee : ∀ a, eqf a a = true) :
    ∀ {n m : List (U α)}, NF eqf same red n → NF eqf same red m → (∀ v ∈ n, D v.f) → (∀ v ∈ m, D v.f) → Sem same n m → n = m
  | [], [], _, _, _, _, _ => rfl
  | [], w :: m, _, hm, _, _, hS => by
    have hw := hm.wv w (List.mem_cons_self ..)
    have hi := mT hw
    rcases gC w.iv with ⟨_, e⟩ | ⟨_, e⟩
    · rw [e] at hi
      obtain ⟨v, h1, _⟩ := hS.s1 _ hw.1.1 w (List.mem_cons_self ..) hi
      cases h1
    · rw [e] at hi
      obtain ⟨v, h1, _⟩ := hS.s2 _ w (List.mem_cons_self ..) hi
      cases h1
  | u :: n, [], hn, _, _, _, hS => by
    have hw := hn.wv u (List.mem_cons_self ..)
    have hi := mT hw
    rcases gC u.iv with ⟨_, e⟩ | ⟨_, e⟩
    · rw [e] at hi
      obtain ⟨v, h1, _⟩ := hS.c1 _ hw.1.1 u (List.mem_cons_self ..) hi
      cases h1
    · rw [e] at hi
      obtain ⟨v, h1, _⟩ := hS.c2 _ u (List.mem_cons_self ..) hi
      cases h1
  | u :: n, w :: m, hn, hm, hDn, hDm, hS => by
    have hum : u ∈ u :: n := List.mem_cons_self ..
    have hwm : w ∈ w :: m := List.mem_cons_self ..
    have hS' := hS.symm R hDn hDm
    have f1 := fst_le (hm.wv w hwm) hn hS hwm
    have f2 := fst_le (hn.wv u hum) hm hS' hum
    have hf : e6 u.iv = e6 w.iv := by omega
    have l1 := lst_le R hee hn hm hDn hDm hS hf
    have l2 := lst_le R hee hm hn hDm hDn hS' hf.symm
    have he := head_eq R hrc hn hm hDn hDm hS hf (by omega)
    subst he
    obtain ⟨tn, on⟩ := hn.tail
    obtain ⟨tm, om⟩ := hm.tail
    rw [wW R hrc hee tn tm (fun v hv => hDn v (List.mem_cons_of_mem _ hv)) (fun v hv => hDm v (List.mem_cons_of_mem _ hv)) ?_]
    refine ⟨fun t ht v hv hi => ?_, fun q v hv hi => ?_, fun t ht v hv hi => ?_, fun q v hv hi => ?_⟩
    · obtain ⟨x, h1, h2, h3⟩ := hS.s1 t ht v (List.mem_cons_of_mem _ hv) hi
      rcases List.mem_cons.1 h1 with e | h1
      · rw [e] at h2; have a1 := om v hv; have a2 := hi.1; have a3 := h2.2; omega
      · exact ⟨x, h1, h2, h3⟩
    · obtain ⟨x, h1, h2, h3⟩ := hS.s2 q v (List.mem_cons_of_mem _ hv) hi
      rcases List.mem_cons.1 h1 with e | h1
      · rw [e] at h2; have a1 := om v hv; have a2 := hi.1; have a3 := h2.2; omega
      · exact ⟨x, h1, h2, h3⟩
    · obtain ⟨x, h1, h2, h3⟩ := hS.c1 t ht v (List.mem_cons_of_mem _ hv) hi
      rcases List.mem_cons.1 h1 with e | h1
      · rw [e] at h2; have a1 := on v hv; have a2 := hi.1; have a3 := h2.2; omega
      · exact ⟨x, h1, h2, h3⟩
    · obtain ⟨x, h1, h2, h3⟩ := hS.c2 q v (List.mem_cons_of_mem _ hv) hi
      rcases List.mem_cons.1 h1 with e | h1
      · rw [e] at h2; have a1 := on v hv; have a2 := hi.1; have a3 := h2.2; omega
      · exact ⟨x, h1, h2, h3⟩
end
end Go.Sx
