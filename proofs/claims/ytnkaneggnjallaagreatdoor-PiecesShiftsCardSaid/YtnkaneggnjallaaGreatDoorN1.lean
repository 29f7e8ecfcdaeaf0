/- A part of the proof that the law PiecesShifts answers true at every input and leaves its arguments as they were. -/
import Derived.Test.YtnkaneggnjallaaGreatDoorM3
set_option linter.unusedVariables false
set_option linter.unusedSimpArgs false
namespace Go.Sx
section
variable {α : Type} [Inhabited α] (eqf : α → α → Bool) (same : α → α → GR → Bool) (red : α → GR → α)
def Lk (x y : U α) : Prop :=
  x.iv.hi = y.iv.lo →
    (x.iv.lo = x.iv.hi → same y.f x.f y.iv.lo = false) ∧
    (x.iv.lo ≠ x.iv.hi → (x.iv.openHi = false → eqf x.f y.f = false) ∧ (x.iv.openHi = true → y.iv.openLo = false → same x.f y.f y.iv.lo = false))
structure NF (n : List (U α)) : Prop where
  wv : ∀ x ∈ n, Wv x.iv
  ord : n.Pairwise fun a b => gY a.iv < (e7 b.iv : Int)
  lk : ∀ i, i + 1 < n.length → Lk eqf same (gt n i) (gt n (i + 1))
  inst : ∀ x ∈ n, x.iv.lo = x.iv.hi → red x.f x.iv.lo = x.f
variable {eqf same red} {L out : List (U α)} {x : Nat} {t t' : GR} {f : α}
theorem sn_left (hx : gt L x = ptU t f) (hb : 0 < out.length → (lst out).iv.hi = t → (lst out).iv.lo ≠ (lst out).iv.hi → same (lst out).f f t = false) (hn : x + 1 < L.length) (h2 : (gt L (x + 1)).iv.lo = t) (h3 : same (gt L (x + 1)).f f t = true) :
    dg eqf same red L out x = out := by
  have hp : gD same red L out x = out := by
    unfold gD
    rw [hx]
    show (bif (((decide (((x + 1 : Nat) : Int) < ((L.length : Nat) : Int))) && (decide ((gt L (x + 1)).iv.lo = t))) && (same ((gt L (x + 1)).f) f t)) then out else _) = out
    rw [decide_eq_true (by omega : ((x + 1 : Nat) : Int) < ((L.length : Nat) : Int)), h2, decide_eq_true rfl, h3]
    rfl
  unfold dg
  rw [hp, hx]
  show (bif mb L out x then bif (!(decide (t = t))) then _ else bif (same (gt out (out.length - 1)).f f t) then _ else out else bif (!(decide (t = t))) then _ else out) = out
  rw [decide_eq_true rfl]
  cases hbf : mb L out x with
  | false => rfl
  | true =>
    obtain ⟨b1, b2, b3⟩ := fz.1 hbf
    rw [hx] at b2
    have hs : same (gt out (out.length - 1)).f f t = false := hb b1 b2 b3
    rw [hs]; rfl
theorem sn_app (hx : gt L x = ptU t f) (hb : 0 < out.length → (lst out).iv.hi = t → (lst out).iv.lo ≠ (lst out).iv.hi → same (lst out).f f t = false) (hn : x + 1 < L.length → (gt L (x + 1)).iv.lo = t → same (gt L (x + 1)).f f t = false) :
    dg eqf same red L out x = out ++ [ptU t (red f t)] := by
  have hp : gD same red L out x = out ++ [ptU t (red f t)] := by
    unfold gD
    rw [hx]
    show (bif (((decide (((x + 1 : Nat) : Int) < ((L.length : Nat) : Int))) && (decide ((gt L (x + 1)).iv.lo = t))) && (same ((gt L (x + 1)).f) f t)) then out else out ++ [ptU t (red f t)]) = _
    cases hq : (((decide (((x + 1 : Nat) : Int) < ((L.length : Nat) : Int))) && (decide ((gt L (x + 1)).iv.lo = t))) && (same ((gt L (x + 1)).f) f t)) with
    | false => rfl
    | true =>
      simp only [Bool.and_eq_true, decide_eq_true_eq] at hq
      rw [hn (by omega) hq.1.2] at hq
      exact absurd hq.2 (by decide)
  unfold dg
  rw [hp, hx]
  show (bif mb L out x then bif (!(decide (t = t))) then _ else bif (same (gt out (out.length - 1)).f f t) then _ else _ else bif (!(decide (t = t))) then _ else _) = _
  rw [decide_eq_true rfl]
  cases hbf : mb L out x with
  | false => rfl
  | true =>
    obtain ⟨b1, b2, b3⟩ := fz.1 hbf
    rw [hx] at b2
    have hs : same (gt out (out.length - 1)).f f t = false := hb b1 b2 b3
    rw [hs]; rfl
theorem sn_gap (hx : gt L x = l9 t t' f) (hne : t ≠ t') (hb : 0 < out.length → (lst out).iv.hi = t → (lst out).iv.lo ≠ (lst out).iv.hi → (lst out).iv.openHi = false → eqf (lst out).f f = false)
    (own : Bool) (ho : own = true ↔ (0 < x ∧ (gt L (x - 1)).iv.lo = (gt L (x - 1)).iv.hi ∧ (gt L (x - 1)).iv.lo = t ∧ iI out t = false)) :
    dg eqf same red L out x = out ++ [⟨⟨t, t', !own, true⟩, f⟩] := by
  have hp : ft L out x = out ++ [⟨⟨t, t', !own, true⟩, f⟩] := by
    unfold ft
    rw [hx]
    have hc : ((((decide (((x : Nat) : Int) > 0)) && (ar ((gt L (x - 1)).iv))) && (decide (((gt L (x - 1)).iv).lo = t))) && (!(iI out t))) = own := by
      cases own with
      | true =>
        obtain ⟨a1, a2, a3, a4⟩ := ho.1 rfl
        rw [a4, decide_eq_true a3, decide_eq_true (by omega : ((x : Nat) : Int) > 0)]
        unfold ar
        rw [decide_eq_true a2]; rfl
      | false =>
        cases hq : ((((decide (((x : Nat) : Int) > 0)) && (ar ((gt L (x - 1)).iv))) && (decide (((gt L (x - 1)).iv).lo = t))) && (!(iI out t))) with
        | false => rfl
        | true =>
          simp only [Bool.and_eq_true, decide_eq_true_eq, Bool.not_eq_true'] at hq
          unfold ar at hq
          exact absurd (ho.2 ⟨by omega, of_decide_eq_true hq.1.1.2, hq.1.2, hq.2⟩) (by decide)
    show (bif ((((decide (((x : Nat) : Int) > 0)) && (ar ((gt L (x - 1)).iv))) && (decide (((gt L (x - 1)).iv).lo = t))) && (!(iI out t))) then _ else _) = _
    rw [hc]
    cases own <;> rfl
  unfold dg
  rw [hp, hx]
  show (bif mb L out x then bif (!(decide (t = t'))) then bif ((!((gt out (out.length - 1)).iv).openHi) && (eqf ((gt out (out.length - 1)).f) f)) then _ else _ else _ else bif (!(decide (t = t'))) then _ else _) = _
  rw [decide_eq_false hne]
  cases hbf : mb L out x with
  | false => rfl
  | true =>
    obtain ⟨b1, b2, b3⟩ := fz.1 hbf
    rw [hx] at b2
    cases hoh : (gt out (out.length - 1)).iv.openHi with
    | true => rfl
    | false =>
      rw [show eqf (gt out (out.length - 1)).f f = false from hb b1 b2 b3 hoh]; rfl
theorem sn_end (hx : gt L x = ptU t f) (h0 : 0 < out.length) (h1 : (lst out).iv.hi = t) (h2 : (lst out).iv.lo ≠ (lst out).iv.hi) (hs : same (lst out).f f t = true) :
    dg eqf same red L out x = out.set (out.length - 1) ⟨⟨(lst out).iv.lo, (lst out).iv.hi, (lst out).iv.openLo, false⟩, (lst out).f⟩ := by
  unfold dg
  rw [fz.2 ⟨h0, by rw [hx]; exact h1, h2⟩, hx]
  show (bif true then bif (!(decide (t = t))) then _ else bif (same (gt out (out.length - 1)).f f t) then _ else _ else _) = _
  rw [decide_eq_true rfl, show same (gt out (out.length - 1)).f f t = true from hs]
  rfl
omit [Inhabited α] in
theorem oT {p : List (U α)} {y z : U α} : (p ++ [y]).set ((p ++ [y]).length - 1) z = p ++ [z] := by
  rw [List.length_append, List.length_singleton, Nat.add_sub_cancel, List.set_append_right _ _ (Nat.le_refl _), Nat.sub_self]; rfl
theorem iy {p : List (U α)} (h : 0 < p.length) : lst p ∈ p := by
  unfold lst
  rw [f7 (by omega)]; exact List.getElem_mem _
omit [Inhabited α] in
theorem atU_ne {u : U α} : atU u = [] → ar u.iv = true ∧ u.iv.openLo = true := by
  unfold atU
  cases u.iv.openLo <;> cases ar u.iv <;> simp
theorem qT {n : List (U α)} (h : NF eqf same red n) (hr : ∀ x ∈ n, ∀ t, Tm t → same x.f x.f t = true) :
    ∀ (s p : List (U α)), n = p ++ s → dR (dg eqf same red (n.flatMap atU)) [] (p.flatMap atU).length = p → dR (dg eqf same red (n.flatMap atU)) [] (n.flatMap atU).length = n
  | [], p, hn, hp => by
    rw [List.append_nil] at hn
    rw [← hn] at hp
    exact hp
  | y :: s, p, hn, hp => by
    refine qT h hr s (p ++ [y]) (by rw [hn]; simp) ?_
    have hL : n.flatMap atU = p.flatMap atU ++ (atU y ++ s.flatMap atU) := by rw [hn]; simp
    have hy : y ∈ n := by rw [hn]; simp
    have hwy := h.wv y hy
    have hc : ((p ++ [y]).flatMap atU).length = (p.flatMap atU).length + (atU y).length := by simp
    rw [hc]
    generalize hcc : (p.flatMap atU).length = c at *
    generalize hLL : n.flatMap atU = L at *
    have hLl : L.length = c + ((atU y).length + (s.flatMap atU).length) := by rw [hL, List.length_append, List.length_append, hcc]
    have hI : ∀ k, dR (dg eqf same red L) [] (c + (k + 1)) = dg eqf same red L (dR (dg eqf same red L) [] (c + k)) (c + k) := fun _ => rfl
    have hprev : 0 < p.length → lst p ∈ n ∧ gY (lst p).iv < (e7 y.iv : Int) ∧ Lk eqf same (lst p) y := fun h0 => by
      have e1 : gt n (p.length - 1) = lst p := by
        rw [hn]; unfold lst; rw [eW (by omega)]
      have e2 : gt n (p.length - 1 + 1) = y := by
        rw [show p.length - 1 + 1 = p.length by omega, hn]; exact kH rfl
      have hl := h.lk (p.length - 1) (by rw [hn]; simp; omega)
      rw [e1, e2] at hl
      have ho := h.ord
      rw [hn, List.pairwise_append] at ho
      exact ⟨by rw [hn]; exact List.mem_append_left _ (iy h0), ho.2.2 _ (iy h0) y (List.mem_cons_self ..), hl⟩
    have hat : 0 < c → 0 < p.length ∧ ((lst p).iv.lo ≠ (lst p).iv.hi → (lst p).iv.openHi = true → gt L (c - 1) = l9 (lst p).iv.lo (lst p).iv.hi (lst p).f) ∧
        (((lst p).iv.lo = (lst p).iv.hi ∨ (lst p).iv.openHi = false) → gt L (c - 1) = ptU (lst p).iv.hi (lst p).f) := fun h0 => by
      have hpl : 0 < p.length := by
        cases p with
        | nil =>
          have hcc : 0 = c := hcc
          omega
        | cons _ _ => simp
      obtain ⟨q, z, rfl⟩ : ∃ q z, p = q ++ [z] := ⟨p.dropLast, p.getLast (by intro e; rw [e] at hpl; simp at hpl), (List.dropLast_concat_getLast _).symm⟩
      have hzm : z ∈ n := by rw [hn]; simp
      have hwz := h.wv z hzm
      rw [iU]
      refine ⟨hpl, ?_⟩
      have hz : gt L (c - 1) = gt (atU z) ((atU z).length - 1) ∨ atU z = [] := by
        by_cases e : atU z = []
        · exact .inr e
        · left
          have hl0 : 0 < (atU z).length := List.length_pos_iff.2 e
          have e3 : c = (q.flatMap atU).length + (atU z).length := by rw [← hcc]; simp
          have e4 : L = q.flatMap atU ++ (atU z ++ (atU y ++ s.flatMap atU)) := by rw [hL]; simp
          rw [e4, e3]
          have e5 : gt (q.flatMap atU ++ (atU z ++ (atU y ++ s.flatMap atU))) ((q.flatMap atU).length + (atU z).length - 1) = gt (atU z ++ (atU y ++ s.flatMap atU)) ((atU z).length - 1) := by
            rw [show (q.flatMap atU).length + (atU z).length - 1 = (q.flatMap atU).length + ((atU z).length - 1) by omega]
            simp [gt, List.getD, List.getElem?_append_right]
          rw [e5, eW (by omega)]
      have hz : gt L (c - 1) = gt (atU z) ((atU z).length - 1) := by
        rcases hz with hz | hz
        · exact hz
        · obtain ⟨a1, a2⟩ := atU_ne hz
          unfold ar at a1
          have := (hwz.2.2 (by rw [of_decide_eq_true a1])).1
          rw [this] at a2; cases a2
      rw [hz]
      refine ⟨fun a1 a2 => ?_, fun a1 => ?_⟩
      · unfold atU ar
        rw [decide_eq_false a1, a2]
        cases z.iv.openLo <;> rfl
      · by_cases e : z.iv.lo = z.iv.hi
        · have e1 := (hwz.2.2 (by rw [e])).1
          unfold atU ar
          rw [decide_eq_true e, e1, ← e]
          rfl
        · rcases a1 with a1 | a1
          · exact absurd a1 e
          · unfold atU ar
            rw [decide_eq_false e, a1]
            cases z.iv.openLo <;> rfl
    have hnx : c + (atU y).length < L.length → ∃ z ∈ n, gt L (c + (atU y).length) = gt (atU z) 0 ∧ (gt (atU z) 0).iv.lo = z.iv.lo ∧ (gt (atU z) 0).f = z.f ∧ gY y.iv < (e7 z.iv : Int) ∧ Lk eqf same y z := fun h0 => by
      cases s with
      | nil =>
        have e0 : (List.flatMap (atU (α := α)) []).length = 0 := rfl
        rw [e0] at hLl
        omega
      | cons z s =>
        have hzm : z ∈ n := by rw [hn]; simp
        have hwz := h.wv z hzm
        have ho := h.ord
        rw [hn, List.pairwise_append, List.pairwise_cons] at ho
        have hlz := h.lk p.length (by rw [hn]; simp)
        have e1 : gt n p.length = y := by rw [hn]; exact kH rfl
        have e2 : gt n (p.length + 1) = z := by rw [hn, show p ++ y :: z :: s = (p ++ [y]) ++ z :: s by simp]; exact kH (by simp)
        rw [e1, e2] at hlz
        have hne : atU z ≠ [] := fun e => by
          obtain ⟨a1, a2⟩ := atU_ne e
          unfold ar at a1
          have := (hwz.2.2 (by rw [of_decide_eq_true a1])).1
          rw [this] at a2; cases a2
        have e3 : gt L (c + (atU y).length) = gt (atU z) 0 := by
          have e4 : L = (p.flatMap atU ++ atU y) ++ (atU z ++ s.flatMap atU) := by rw [hL, List.flatMap_cons, List.append_assoc]
          rw [e4]
          have hl0 : 0 < (atU z).length := List.length_pos_iff.2 hne
          have : c + (atU y).length = (p.flatMap atU ++ atU y).length + 0 := by rw [List.length_append, hcc, Nat.add_zero]
          rw [this]
          have : ∀ (A B : List (U α)), gt (A ++ B) (A.length + 0) = gt B 0 := fun A B => by simp [gt, List.getD, List.getElem?_append_right]
          rw [this, eW hl0]
        refine ⟨z, hzm, e3, ?_, ?_, ho.2.1.1 z (List.mem_cons_self ..), hlz⟩
        · revert hne
          unfold atU
          intro hne
          revert hne
          cases z.iv.openLo <;> cases ar z.iv <;> first | (intro _; rfl) | (intro hne; exact absurd rfl hne)
        · revert hne
          unfold atU
          intro hne
          revert hne
          cases z.iv.openLo <;> cases ar z.iv <;> first | (intro _; rfl) | (intro hne; exact absurd rfl hne)
    have hgt : ∀ k, k < (atU y).length → gt L (c + k) = gt (atU y) k := fun k hk => by
      rw [hL, ← hcc]
      have : ∀ (A B : List (U α)), gt (A ++ B) (A.length + k) = gt B k := fun A B => by simp [gt, List.getD, List.getElem?_append_right]
      rw [this, eW hk]
    have hlen : c + (atU y).length ≤ L.length := by omega
    have hpf : 0 < p.length → (lst p).iv.hi = y.iv.lo → (lst p).iv.lo ≠ (lst p).iv.hi → y.iv.openLo = false → (lst p).iv.openHi = true ∧ same (lst p).f y.f y.iv.lo = false := fun h0 h1 h2 h3 => by
      obtain ⟨_, a2, a3⟩ := hprev h0
      have : (lst p).iv.openHi = true := by
        cases e : (lst p).iv.openHi with
        | true => rfl
        | false =>
          unfold gY e7 at a2
          rw [e, h3, h1] at a2
          simp at a2
      exact ⟨this, ((a3 h1).2 h2).2 this h3⟩
    by_cases hi : y.iv.lo = y.iv.hi
    · 
      obtain ⟨o1, o2⟩ := hwy.2.2 (by rw [hi])
      have ea : atU y = [ptU y.iv.lo y.f] := by
        unfold atU ar
        rw [o1, decide_eq_true hi]; rfl
      have hx0 : gt L (c + 0) = ptU y.iv.lo y.f := by rw [hgt 0 (by rw [ea]; simp), ea]; rfl
      rw [ea] at hnx ⊢
      show dR _ [] (c + (0 + 1)) = _
      rw [hI 0]
      show dg eqf same red L (dR _ [] c) (c + 0) = _
      rw [hp, sn_app hx0 (fun a1 a2 a3 => (hpf a1 a2 a3 o1).2) fun a1 a2 => ?_, h.inst y hy hi]
      · have : ptU y.iv.lo y.f = y := by
          obtain ⟨⟨lo, hi', ol, oh⟩, f⟩ := y
          simp only at hi o1 o2
          unfold ptU
          simp only
          rw [o1, o2, ← hi]
        rw [this]
      · obtain ⟨z, hz, e1, e2, e3, e4, e5⟩ := hnx a1
        have a2 : (gt L (c + 1)).iv.lo = y.iv.lo := a2
        have e1 : gt L (c + 1) = gt (atU z) 0 := e1
        rw [e1, e2] at a2
        show same (gt L (c + 1)).f y.f y.iv.lo = false
        rw [e1, e3]
        have := (e5 (by rw [a2, hi])).1 hi
        rwa [a2] at this
    · 
      have hini : ar y.iv = false := decide_eq_false hi
      have hE : ∀ (k : Nat) (o : List (U α)) (b : Bool), dR (dg eqf same red L) [] (c + k) = p ++ [⟨⟨y.iv.lo, y.iv.hi, b, true⟩, y.f⟩] → b = y.iv.openLo → (y.iv.openHi = false → gt L (c + k) = ptU y.iv.hi y.f) →
          dR (dg eqf same red L) [] (c + (k + (bif y.iv.openHi then 0 else 1))) = p ++ [y] := fun k o b e1 e2 e3 => by
        cases ho : y.iv.openHi with
        | true =>
          show dR _ [] (c + k) = _
          rw [e1, e2, ← ho]
        | false =>
          show dR _ [] (c + (k + 1)) = _
          rw [hI k, e1, sn_end (e3 ho) (by simp) (by rw [iU]) (by rw [iU]; exact hi) (by rw [iU]; exact hr y hy _ hwy.1.2), iU, oT, e2]
          show p ++ [(⟨⟨y.iv.lo, y.iv.hi, y.iv.openLo, false⟩, y.f⟩ : U α)] = _
          rw [← ho]
      cases hol : y.iv.openLo with
      | false =>
        have ea : atU y = ptU y.iv.lo y.f :: l9 y.iv.lo y.iv.hi y.f :: (bif y.iv.openHi then [] else [ptU y.iv.hi y.f]) := by
          unfold atU; rw [hol, hini]; rfl
        have hl2 : (atU y).length = 2 + (bif y.iv.openHi then 0 else 1) := by rw [ea]; cases y.iv.openHi <;> rfl
        have hx0 : gt L (c + 0) = ptU y.iv.lo y.f := by rw [hgt 0 (by rw [hl2]; omega), ea]; rfl
        have hx1 : gt L (c + 1) = l9 y.iv.lo y.iv.hi y.f := by rw [hgt 1 (by rw [hl2]; omega), ea]; rfl
        rw [hl2]
        have st1 : dR (dg eqf same red L) [] (c + 1) = p := by
          show dg eqf same red L (dR _ [] c) (c + 0) = _
          rw [hp]
          exact sn_left hx0 (fun a1 a2 a3 => (hpf a1 a2 a3 hol).2) (by rw [hl2] at hlen; omega) (by show (gt L (c + 1)).iv.lo = _; rw [hx1]; rfl) (by show same (gt L (c + 1)).f _ _ = true; rw [hx1]; exact hr y hy _ hwy.1.1)
        refine hE 2 [] false ?_ hol.symm (fun e => by rw [hgt 2 (by rw [hl2, e]; decide), ea, e]; rfl)
        show dR _ [] (c + (1 + 1)) = _
        rw [hI 1, st1]
        refine sn_gap hx1 hi (fun a1 a2 a3 a4 => by have := (hpf a1 a2 a3 hol).1; rw [this] at a4; cases a4) true ⟨fun _ => ⟨by omega, ?_, ?_, ?_⟩, fun _ => rfl⟩
        · rw [Nat.add_sub_cancel]; show (gt L (c + 0)).iv.lo = (gt L (c + 0)).iv.hi; rw [hx0]; rfl
        · rw [Nat.add_sub_cancel]; show (gt L (c + 0)).iv.lo = _; rw [hx0]; rfl
        · cases hh : iI p y.iv.lo with
          | false => rfl
          | true =>
            obtain ⟨b1, b2, b3⟩ := jk.1 hh
            obtain ⟨_, a2, _⟩ := hprev b1
            unfold gY e7 at a2
            rw [b3, b2, hol] at a2
            simp at a2
      | true =>
        have ea : atU y = l9 y.iv.lo y.iv.hi y.f :: (bif y.iv.openHi then [] else [ptU y.iv.hi y.f]) := by
          unfold atU; rw [hol, hini]; rfl
        have hl2 : (atU y).length = 1 + (bif y.iv.openHi then 0 else 1) := by rw [ea]; cases y.iv.openHi <;> rfl
        have hx0 : gt L (c + 0) = l9 y.iv.lo y.iv.hi y.f := by rw [hgt 0 (by rw [hl2]; omega), ea]; rfl
        rw [hl2]
        refine hE 1 [] true ?_ hol.symm (fun e => by rw [hgt 1 (by rw [hl2, e]; decide), ea, e]; rfl)
        show dR _ [] (c + (0 + 1)) = _
        rw [hI 0]
        show dg eqf same red L (dR _ [] c) (c + 0) = _
        rw [hp]
        refine sn_gap hx0 hi (fun a1 a2 a3 a4 => (((hprev a1).2.2 a2).2 a3).1 a4) false ⟨fun e => (by cases e), fun ⟨a1, a2, a3, a4⟩ => ?_⟩
        rw [Nat.add_zero] at a2 a3
        obtain ⟨b1, b2, b3⟩ := hat (by omega)
        by_cases e : (lst p).iv.lo ≠ (lst p).iv.hi ∧ (lst p).iv.openHi = true
        · rw [b2 e.1 e.2] at a2
          exact absurd a2 e.1
        · have e' : (lst p).iv.lo = (lst p).iv.hi ∨ (lst p).iv.openHi = false := by
            by_cases e1 : (lst p).iv.lo = (lst p).iv.hi
            · exact .inl e1
            · cases e2 : (lst p).iv.openHi with
              | false => exact .inr rfl
              | true => exact absurd ⟨e1, e2⟩ e
          rw [b3 e'] at a3
          have a3 : (lst p).iv.hi = y.iv.lo := a3
          have hoh : (lst p).iv.openHi = false := by
            rcases e' with e1 | e1
            · exact ((h.wv _ (hprev b1).1).2.2 (by rw [e1])).2
            · exact e1
          rw [jk.2 ⟨b1, a3, hoh⟩] at a4
          cases a4
end
end Go.Sx
namespace Go.Sx
section
variable {α : Type} [Inhabited α] {eqf : α → α → Bool} {same : α → α → GR → Bool} {red : α → GR → α} {A : List (At α)} {out : List (U α)} {i : Nat}
structure Ru (D : α → Prop) (same : α → α → GR → Bool) (red : α → GR → α) : Prop where
  refl : ∀ t, Tm t → ∀ f, D f → same f f t = true
  symm : ∀ t, Tm t → ∀ f g, D f → D g → same f g t = true → same g f t = true
  trans : ∀ t, Tm t → ∀ f g h, D f → D g → D h → same f g t = true → same g h t = true → same f h t = true
  redD : ∀ t, Tm t → ∀ f, D f → D (red f t)
  redS : ∀ t, Tm t → ∀ f, D f → same (red f t) f t = true
  redR : ∀ t, Tm t → ∀ f, D f → red (red f t) t = red f t
theorem NF.snoc (h : NF eqf same red out) {y : U α} (hy : Wv y.iv) (hl : 0 < out.length → gY (lst out).iv < (e7 y.iv : Int) ∧ Lk eqf same (lst out) y) (hi : y.iv.lo = y.iv.hi → red y.f y.iv.lo = y.f) : NF eqf same red (out ++ [y]) := by
  refine ⟨fun x hx => ?_, ?_, fun j hj => ?_, fun x hx => ?_⟩
  · rcases List.mem_append.1 hx with hx | hx
    · exact h.wv x hx
    · rw [List.mem_singleton.1 hx]; exact hy
  · rw [List.pairwise_append]
    refine ⟨h.ord, List.pairwise_singleton _ _, fun a ha b hb => ?_⟩
    rw [List.mem_singleton.1 hb]
    have h0 : 0 < out.length := List.length_pos_of_mem ha
    obtain ⟨k1, _⟩ := hl h0
    obtain ⟨q, hq⟩ := List.getElem_of_mem ha
    obtain ⟨hq1, hq2⟩ := hq
    by_cases e : q = out.length - 1
    · have : a = lst out := by
        unfold lst
        rw [f7 (by omega)]
        subst e
        exact hq2.symm
      rw [this]; exact k1
    · have := List.pairwise_iff_getElem.1 h.ord q (out.length - 1) hq1 (by omega) (by omega)
      rw [hq2] at this
      have e2 : out[out.length - 1]'(by omega) = lst out := by unfold lst; rw [f7 (by omega)]
      rw [e2] at this
      have := (h.wv _ (iy h0)).le
      omega
  · rw [List.length_append, List.length_singleton] at hj
    by_cases e : j + 1 < out.length
    · rw [eW (by omega), eW e]; exact h.lk j e
    · have e1 : j + 1 = out.length := by omega
      rw [eW (by omega), e1, mW]
      have := (hl (by omega)).2
      unfold lst at this
      rwa [show out.length - 1 = j by omega] at this
  · rcases List.mem_append.1 hx with hx | hx
    · exact h.inst x hx
    · rw [List.mem_singleton.1 hx]; exact hi
theorem NF.setl (h : NF eqf same red out) (h0 : 0 < out.length) {T : GR} {o : Bool} (hT : Tm T) (hlt : tk (lst out).iv.lo < tk T) : NF eqf same red (out.set (out.length - 1) ⟨⟨(lst out).iv.lo, T, (lst out).iv.openLo, o⟩, (lst out).f⟩) := by
  obtain ⟨q, z, rfl⟩ : ∃ q z, out = q ++ [z] := ⟨out.dropLast, out.getLast (by intro e; rw [e] at h0; simp at h0), (List.dropLast_concat_getLast _).symm⟩
  rw [iU] at hlt ⊢
  rw [oT]
  have hz := h.wv z (by simp)
  have hq : NF eqf same red q := by
    have ho := h.ord
    rw [List.pairwise_append] at ho
    refine ⟨fun x hx => h.wv x (List.mem_append_left _ hx), ho.1, fun j hj => ?_, fun x hx => h.inst x (List.mem_append_left _ hx)⟩
    have := h.lk j (by simp; omega)
    rwa [eW (by omega), eW hj] at this
  refine hq.snoc ⟨⟨hz.1.1, hT⟩, Nat.le_of_lt hlt, fun e => ?_⟩ (fun hq0 => ?_) fun e => ?_
  · have e : tk z.iv.lo = tk T := e
    omega
  · have ho := h.ord
    rw [List.pairwise_append] at ho
    refine ⟨ho.2.2 _ (iy hq0) z (by simp), ?_⟩
    have := h.lk (q.length - 1) (by simp; omega)
    rw [eW (by omega), show q.length - 1 + 1 = q.length by omega, mW] at this
    exact this
  · have e : z.iv.lo = T := e
    rw [e] at hlt; omega
theorem b_pt (hg : (gt A i).gap = false) (hp : (gt A i).til = (gt A i).frm) (hh : (gt A i).has = true) :
    (mgd same A i → dS eqf same red A out i = out.set (out.length - 1) ⟨⟨(lst out).iv.lo, (lst out).iv.hi, (lst out).iv.openLo, false⟩, (lst out).f⟩) ∧
    (¬ mgd same A i → lft same A i → dS eqf same red A out i = out) ∧
    (¬ mgd same A i → ¬ lft same A i → dS eqf same red A out i = out ++ [⟨⟨(gt A i).frm, (gt A i).frm, false, false⟩, red (gt A i).f (gt A i).frm⟩]) := by
  have hmb : ¬ mgd same A i → ((decide (((i : Nat) : Int) > 0) && (gt A (i - 1)).has) && same (gt A (i - 1)).f (gt A i).f (gt A i).frm) = false := fun m => by
    cases hq : ((decide (((i : Nat) : Int) > 0) && (gt A (i - 1)).has) && same (gt A (i - 1)).f (gt A i).f (gt A i).frm) with
    | false => rfl
    | true =>
      simp only [Bool.and_eq_true, decide_eq_true_eq] at hq
      exact absurd ⟨hh, by omega, hq.1.2, hq.2⟩ m
  refine ⟨fun ⟨_, m2, m3, m4⟩ => ?_, fun m l => ?_, fun m l => ?_⟩
  · unfold dS
    rw [hh, Bool.not_true, cond_false, hg, cond_false, decide_eq_true (by omega : ((i : Nat) : Int) > 0), m3, m4, Bool.and_self, Bool.and_self, cond_true]
    rfl
  · unfold dS
    rw [hh, Bool.not_true, cond_false, hg, cond_false, hmb m, cond_false, decide_eq_true (by have := l.1; omega : ((i + 1 : Nat) : Int) < ((A.length : Nat) : Int)), l.2.1, l.2.2]
    rfl
  · have hlb : (decide (((i + 1 : Nat) : Int) < ((A.length : Nat) : Int)) && (gt A (i + 1)).has && same (gt A (i + 1)).f (gt A i).f (gt A i).frm) = false := by
      cases hq : (decide (((i + 1 : Nat) : Int) < ((A.length : Nat) : Int)) && (gt A (i + 1)).has && same (gt A (i + 1)).f (gt A i).f (gt A i).frm) with
      | false => rfl
      | true =>
        simp only [Bool.and_eq_true, decide_eq_true_eq] at hq
        exact absurd ⟨by omega, hq.1.2, hq.2⟩ l
    unfold dS
    rw [hh, Bool.not_true, cond_false, hg, cond_false, hmb m, cond_false, hlb, hp]
    rfl
theorem b_gap (hg : (gt A (i + 1)).gap = true) (hf : (gt A (i + 1)).frm = (gt A i).frm) (hh : (gt A (i + 1)).has = true) :
    (mgd same A i → eqf (gt A (i - 1)).f (gt A (i + 1)).f = true → dS eqf same red A out (i + 1) = out.set (out.length - 1) ⟨⟨(lst out).iv.lo, (gt A (i + 1)).til, (lst out).iv.openLo, true⟩, (lst out).f⟩) ∧
    (mgd same A i → eqf (gt A (i - 1)).f (gt A (i + 1)).f = false → dS eqf same red A out (i + 1) = out ++ [⟨⟨(gt A i).frm, (gt A (i + 1)).til, true, true⟩, (gt A (i + 1)).f⟩]) ∧
    (¬ mgd same A i → dS eqf same red A out (i + 1) = out ++ [⟨⟨(gt A i).frm, (gt A (i + 1)).til, !((gt A i).has && same (gt A (i + 1)).f (gt A i).f (gt A i).frm), true⟩, (gt A (i + 1)).f⟩]) := by
  have hi2 : (decide (((i + 1 : Nat) : Int) ≥ 2)) = decide (0 < i) := decide_eq_decide.2 (by omega)
  refine ⟨fun ⟨m1, m2, m3, m4⟩ hq => ?_, fun ⟨m1, m2, m3, m4⟩ hq => ?_, fun m => ?_⟩
  · unfold dS
    rw [hh, Bool.not_true, cond_false, hg, cond_true, hi2, decide_eq_true m2, show i + 1 - 2 = i - 1 by omega, Nat.add_sub_cancel, m3, m1, hf, m4, hq]
    rfl
  · unfold dS
    rw [hh, Bool.not_true, cond_false, hg, cond_true, hi2, decide_eq_true m2, show i + 1 - 2 = i - 1 by omega, Nat.add_sub_cancel, m3, m1, hf, m4, hq]
    simp
  · have hmb : ((((decide (((i + 1 : Nat) : Int) ≥ 2)) && (gt A (i + 1 - 2)).has) && (gt A (i + 1 - 1)).has) && same (gt A (i + 1 - 2)).f (gt A (i + 1 - 1)).f (gt A (i + 1)).frm) = false := by
      cases hq : ((((decide (((i + 1 : Nat) : Int) ≥ 2)) && (gt A (i + 1 - 2)).has) && (gt A (i + 1 - 1)).has) && same (gt A (i + 1 - 2)).f (gt A (i + 1 - 1)).f (gt A (i + 1)).frm) with
      | false => rfl
      | true =>
        rw [hi2, show i + 1 - 2 = i - 1 by omega, Nat.add_sub_cancel, hf] at hq
        simp only [Bool.and_eq_true, decide_eq_true_eq] at hq
        exact absurd ⟨hq.1.2, hq.1.1.1, hq.1.1.2, hq.2⟩ m
    unfold dS
    rw [hh, Bool.not_true, cond_false, hg, cond_true, hmb, Bool.false_and, cond_false]
    cases hp : (gt A (i + 1 - 1)).has with
    | false => rw [show (gt A i).has = false from hp, hf]; simp
    | true =>
      rw [hp, Bool.and_true] at hmb
      rw [hmb, show (gt A i).has = true from hp, hf]; simp
omit [Inhabited α] in
theorem mM {y z : U α} (h : z ∈ out.set (out.length - 1) y) : z ∈ out ∨ z = y := List.mem_or_eq_of_mem_set h
theorem pa {D : α → Prop} (R : Ru D same red) (heq : ∀ a b, eqf a b = true → a = b) (hA : Turns tk A) (hT : ∀ i, i < A.length → Tm (gt A i).frm ∧ Tm (gt A i).til) (hD : ∀ i, i < A.length → (gt A i).has = true → D (gt A i).f) :
    ∀ i, i ≤ A.length → NF eqf same red (dR (dS eqf same red A) [] i) ∧ ∀ x ∈ dR (dS eqf same red A) [] i, D x.f
  | 0, _ => ⟨⟨fun _ h => (by cases h), List.Pairwise.nil, fun i h => absurd h (Nat.not_lt_zero _), fun _ h => (by cases h)⟩, fun _ h => by cases h⟩
  | i + 1, hi => by
    obtain ⟨hN, hDo⟩ := pa R heq hA hT hD i (by omega)
    obtain ⟨_, hE, hO⟩ := nD (same := same) (red := red) heq hA i (by omega)
    show NF eqf same red (dS eqf same red A (dR (dS eqf same red A) [] i) i) ∧ ∀ x ∈ dS eqf same red A (dR (dS eqf same red A) [] i) i, D x.f
    generalize dR (dS eqf same red A) [] i = out at *
    have hlD : 0 < out.length → D (lst out).f := fun h0 => hDo _ (iy h0)
    cases hh : (gt A i).has with
    | false =>
      have : dS eqf same red A out i = out := by unfold dS; rw [hh]; rfl
      rw [this]; exact ⟨hN, hDo⟩
    | true =>
      have hDi := hD i hi hh
      rcases Nat.mod_two_eq_zero_or_one i with he | ho
      · 
        have hE := hE he
        have hg := hA.even hi he
        have hp := hA.pt i hi hg
        have hTi := (hT i hi).1
        obtain ⟨b1, b2, b3⟩ := b_pt (eqf := eqf) (same := same) (red := red) (out := out) hg hp hh
        by_cases m : mgd same A i
        · obtain ⟨m1, m2, m3, m4⟩ := m
          obtain ⟨a1, a2, a3, a4, a5⟩ := hE.1 ⟨m2, m3⟩
          rw [b1 ⟨m1, m2, m3, m4⟩]
          refine ⟨hN.setl a1 (by rw [a2]; exact (hT (i - 1) (by omega)).2) a4, fun x hx => ?_⟩
          rcases mM hx with hx | rfl
          · exact hDo x hx
          · exact hlD a1
        · by_cases l : lft same A i
          · rw [b2 m l]; exact ⟨hN, hDo⟩
          · rw [b3 m l]
            refine ⟨hN.snoc ⟨⟨hTi, hTi⟩, Nat.le_refl _, fun _ => ⟨rfl, rfl⟩⟩ (fun h0 => ?_) (fun _ => R.redR _ hTi _ hDi), fun x hx => ?_⟩
            · have hf2 : e7 (⟨(gt A i).frm, (gt A i).frm, false, false⟩ : Iv) = 2 * tk (gt A i).frm := by unfold e7; simp
              by_cases c : 0 < i ∧ (gt A (i - 1)).has = true
              · obtain ⟨a1, a2, a3, a4, a5⟩ := hE.1 c
                have ea := hA.adj (i - 1) (by omega)
                rw [show i - 1 + 1 = i by omega] at ea
                rw [← ea] at a2
                refine ⟨?_, fun e => ⟨fun e2 => ?_, fun e2 => ⟨fun e3 => ?_, fun _ _ => ?_⟩⟩⟩
                · rw [hf2]; unfold gY; rw [a3, a2, cond_true]; omega
                · rw [e2] at a4; omega
                · rw [a3] at e3; cases e3
                · show same (lst out).f (red (gt A i).f (gt A i).frm) (gt A i).frm = false
                  cases hs : same (lst out).f (red (gt A i).f (gt A i).frm) (gt A i).frm with
                  | false => rfl
                  | true =>
                    have := R.trans _ hTi _ _ _ (hlD h0) (R.redD _ hTi _ hDi) hDi hs (R.redS _ hTi _ hDi)
                    rw [a5] at this
                    exact absurd ⟨hh, c.1, c.2, this⟩ m
              · rcases hE.2 c with h1 | ⟨h1, h2⟩
                · omega
                · have q1 := hA.lt (i - 1) (by omega) (hA.odd (by omega) (by omega))
                  have q2 := hA.adj (i - 1) (by omega)
                  rw [show i - 1 + 1 = i by omega] at q2
                  rw [← q2] at q1
                  have := q7 (lst out).iv
                  refine ⟨by rw [hf2]; omega, fun e => ?_⟩
                  have e : (lst out).iv.hi = (gt A i).frm := e
                  rw [e] at h2; omega
            · rcases List.mem_append.1 hx with hx | hx
              · exact hDo x hx
              · rw [List.mem_singleton.1 hx]; exact R.redD _ hTi _ hDi
      · 
        obtain ⟨i, rfl⟩ : ∃ j, i = j + 1 := ⟨i - 1, by omega⟩
        have hO := hO ho
        rw [Nat.add_sub_cancel] at hO
        have hg := hA.odd (by omega : i + 1 < A.length) ho
        have hgp := hA.even (by omega : i < A.length) (by omega)
        have hpp := hA.pt i (by omega) hgp
        have ea := hA.adj i (by omega)
        rw [hpp] at ea
        have hlt := hA.lt (i + 1) (by omega) hg
        rw [ea] at hlt
        have hTi := (hT i (by omega)).1
        have hTt := (hT (i + 1) (by omega)).2
        have hwv : ∀ b : Bool, Wv (⟨(gt A i).frm, (gt A (i + 1)).til, b, true⟩ : Iv) := fun b => ⟨⟨hTi, hTt⟩, Nat.le_of_lt hlt, fun e => by have e : tk (gt A i).frm = tk (gt A (i + 1)).til := e; omega⟩
        have hni : (gt A i).frm = (gt A (i + 1)).til → red (gt A (i + 1)).f (gt A i).frm = (gt A (i + 1)).f := fun e => by rw [e] at hlt; omega
        obtain ⟨b1, b2, b3⟩ := b_gap (eqf := eqf) (same := same) (red := red) (out := out) hg ea hh
        have hmem : ∀ b : Bool, ∀ x ∈ out ++ [(⟨⟨(gt A i).frm, (gt A (i + 1)).til, b, true⟩, (gt A (i + 1)).f⟩ : U α)], D x.f := fun b x hx => by
          rcases List.mem_append.1 hx with hx | hx
          · exact hDo x hx
          · rw [List.mem_singleton.1 hx]; exact hDi
        have hlb := q7 (lst out).iv
        by_cases m : mgd same A i
        · obtain ⟨a1, a2, a3, a4, a5⟩ := hO.1 m
          cases hq : eqf (gt A (i - 1)).f (gt A (i + 1)).f with
          | true =>
            rw [b1 m hq]
            refine ⟨hN.setl a1 hTt (by rw [a2] at a4; omega), fun x hx => ?_⟩
            rcases mM hx with hx | rfl
            · exact hDo x hx
            · exact hlD a1
          | false =>
            rw [b2 m hq]
            refine ⟨hN.snoc (hwv true) (fun h0 => ⟨?_, fun e => ⟨fun e2 => ?_, fun e2 => ⟨fun _ => ?_, fun e3 => ?_⟩⟩⟩) hni, hmem true⟩
            · unfold gY e7; rw [a3, a2]; simp <;> omega
            · rw [e2] at a4; omega
            · show eqf (lst out).f (gt A (i + 1)).f = false
              rw [a5]; exact hq
            · rw [a3] at e3; cases e3
        · rw [b3 m]
          by_cases c : (gt A i).has = false ∨ lft same A i
          · have hE := hO.2.1 m c
            have hle := hE.le hA (by omega : i < A.length)
            cases hpb : ((gt A i).has && same (gt A (i + 1)).f (gt A i).f (gt A i).frm) with
            | false =>
              refine ⟨hN.snoc (hwv _) (fun h0 => ?_) hni, hmem _⟩
              have hle : tk (lst out).iv.hi ≤ tk (gt A i).frm := hle.resolve_left (by omega)
              refine ⟨by unfold e7; simp only [Bool.not_false, cond_true]; omega, fun e => ⟨fun e2 => ?_, fun e2 => ⟨fun e3 => ?_, fun _ e3 => (by cases e3)⟩⟩⟩
              · by_cases c2 : 0 < i ∧ (gt A (i - 1)).has = true
                · have := (hE.1 c2).2.2.2.1
                  rw [e2] at this; omega
                · rcases hE.2 c2 with h1 | ⟨h1, h2⟩
                  · omega
                  · have q1 := hA.lt (i - 1) (by omega) (hA.odd (by omega) (by omega))
                    have q2 := hA.adj (i - 1) (by omega)
                    rw [show i - 1 + 1 = i by omega] at q2
                    rw [← q2] at q1
                    have e : (lst out).iv.hi = (gt A i).frm := e
                    rw [e] at h2; omega
              · by_cases c2 : 0 < i ∧ (gt A (i - 1)).has = true
                · rw [(hE.1 c2).2.2.1] at e3; cases e3
                · rcases hE.2 c2 with h1 | ⟨h1, h2⟩
                  · omega
                  · have q1 := hA.lt (i - 1) (by omega) (hA.odd (by omega) (by omega))
                    have q2 := hA.adj (i - 1) (by omega)
                    rw [show i - 1 + 1 = i by omega] at q2
                    rw [← q2] at q1
                    have e : (lst out).iv.hi = (gt A i).frm := e
                    rw [e] at h2; omega
            | true =>
              rw [Bool.and_eq_true] at hpb
              have hDp := hD i (by omega) hpb.1
              refine ⟨hN.snoc (hwv _) (fun h0 => ?_) hni, hmem _⟩
              have hf2 : e7 (⟨(gt A i).frm, (gt A (i + 1)).til, !true, true⟩ : Iv) = 2 * tk (gt A i).frm := by unfold e7; simp
              by_cases c2 : 0 < i ∧ (gt A (i - 1)).has = true
              · obtain ⟨a1, a2, a3, a4, a5⟩ := hE.1 c2
                have q2 := hA.adj (i - 1) (by omega)
                rw [show i - 1 + 1 = i by omega] at q2
                rw [← q2] at a2
                refine ⟨by rw [hf2]; unfold gY; rw [a3, a2, cond_true]; omega, fun e => ⟨fun e2 => ?_, fun e2 => ⟨fun e3 => ?_, fun _ _ => ?_⟩⟩⟩
                · rw [e2] at a4; omega
                · rw [a3] at e3; cases e3
                · show same (lst out).f (gt A (i + 1)).f (gt A i).frm = false
                  cases hs : same (lst out).f (gt A (i + 1)).f (gt A i).frm with
                  | false => rfl
                  | true =>
                    have := R.trans _ hTi _ _ _ (hlD h0) hDi hDp hs hpb.2
                    rw [a5] at this
                    exact absurd ⟨hpb.1, c2.1, c2.2, this⟩ m
              · rcases hE.2 c2 with h1 | ⟨h1, h2⟩
                · omega
                · have q1 := hA.lt (i - 1) (by omega) (hA.odd (by omega) (by omega))
                  have q2 := hA.adj (i - 1) (by omega)
                  rw [show i - 1 + 1 = i by omega] at q2
                  rw [← q2] at q1
                  refine ⟨by rw [hf2]; omega, fun e => ?_⟩
                  have e : (lst out).iv.hi = (gt A i).frm := e
                  rw [e] at h2; omega
          · have hpi : (gt A i).has = true := by cases hx : (gt A i).has with
              | true => rfl
              | false => exact absurd (.inl hx) c
            have hnl : ¬ lft same A i := fun l => c (.inr l)
            have hDp := hD i (by omega) hpi
            obtain ⟨k1, k2, k3, k4, k5⟩ := hO.2.2 m hpi hnl
            have hsf : same (gt A (i + 1)).f (gt A i).f (gt A i).frm = false := by
              cases hs : same (gt A (i + 1)).f (gt A i).f (gt A i).frm with
              | false => rfl
              | true => exact absurd ⟨by omega, hh, hs⟩ hnl
            rw [hsf, Bool.and_false]
            refine ⟨hN.snoc (hwv _) (fun h0 => ⟨?_, fun e => ⟨fun _ => ?_, fun e2 => absurd (k2.trans k3.symm) e2⟩⟩) hni, hmem _⟩
            · unfold gY e7; rw [k4, k3]; simp <;> omega
            · show same (gt A (i + 1)).f (lst out).f (gt A i).frm = false
              cases hs : same (gt A (i + 1)).f (lst out).f (gt A i).frm with
              | false => rfl
              | true =>
                rw [k5] at hs
                have := R.trans _ hTi _ _ _ hDi (R.redD _ hTi _ hDp) hDp hs (R.redS _ hTi _ hDp)
                rw [this] at hsf; cases hsf
end
end Go.Sx
