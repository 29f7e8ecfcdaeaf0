/- A part of the proof of movingpointRestricts. -/
import Derived.Test.YtbenbmdkhcfcfaaGreatDoorM4
import Derived.Test.YtbenbmdkhcfcfaaGreatDoorM5
import Derived.Test.YtbenbmdkhcfcfaaGreatDoorProg
set_option linter.unusedVariables false
set_option linter.unusedSimpArgs false
open Go.Proofs.Tryz renaming runUnderlying254 → uu254, runUnderlying3 → uu3, sizeOf321 → zz321
namespace Go.Sx
theorem fr_p (q : GQ) : (au q).p = q ∧ (au q).r = zQ ∧ (au q).neg = false := by unfold au; exact ⟨rfl, rfl, rfl⟩
theorem tG {q : GQ} (h : QOk q) : ROk (au q) := by
  obtain ⟨e1, e2, e3⟩ := fr_p q
  unfold ROk
  rw [e1, e2, e3]
  exact ⟨h, iS.1, Or.inl ⟨iS.2, rfl⟩⟩
theorem fr_rv (q : GQ) (k : Nat) : rv (au q) k = bM q := by
  obtain ⟨e1, e2, e3⟩ := fr_p q
  unfold rv
  rw [e1, e2, iS.2, r6]; grind
theorem fr_cmp {p q : GQ} (hp : QOk p) (hq : QOk q) : am (au p) (au q) = rsg (bM p - bM q) :=
  (ma (tG hp) (tG hq)).uniq ((Sg.const _).congr fun k => by rw [fr_rv, fr_rv])
def inZ (n : Nat) : GR := au (ah (n : Int))
theorem inZ_ok (n : Nat) : ROk (inZ n) := tG (cv _).1
theorem inZ_lt {m n : Nat} (h : m < n) : am (inZ m) (inZ n) = -1 := by
  unfold inZ
  rw [fr_cmp (cv _).1 (cv _).1, (cv _).2, (cv _).2]
  unfold rsg
  rw [if_pos]
  have : (((m : Nat) : Int) : Rat) < (((n : Nat) : Int) : Rat) := by rw [Rat.intCast_lt_intCast]; omega
  grind
theorem vj {n d : GI} (hn : IOk n) (hd : fc d ≠ 0) : QOk (bZ n d).1 ∧ bM (bZ n d).1 = (fc n : Rat) / (fc d : Rat) := by
  have h : (bR d == 0) = false := by
    rw [jp]
    simp
    exact hd
  have e : bZ n d = (a8 n d, 0) := by unfold bZ; rw [h]; rfl
  rw [e]
  exact pC hn hd
theorem div_ok {a b : GQ} (ha : QOk a) (hb : QOk b) (h : bM b ≠ 0) : QOk (bA a b).1 ∧ bM (bA a b).1 = bM a / bM b ∧ (bA a b).2 = 0 := by
  obtain ⟨da, _⟩ := iR ha
  obtain ⟨db, _⟩ := iR hb
  have pa := mM ha
  have pb := mM hb
  have hbn : fc b.num ≠ 0 := fun e => h (by unfold bM; rw [e]; grind)
  have hd : fc (ab (aa a) b.num) ≠ 0 := by
    rw [jq, da]
    refine Int.mul_ne_zero ?_ hbn
    have := ha.pos
    omega
  have h2 : (bR (ab (aa a) b.num) == 0) = false := by
    rw [jp]; simp; exact hd
  obtain ⟨o, v⟩ := vj (sO a.num (aa b)) hd
  unfold bA
  refine ⟨o, ?_, by unfold bZ; rw [h2]; rfl⟩
  rw [v, jq, jq, da, db]
  have hb2 : (fc b.num : Rat) ≠ 0 := fun e => hbn (by exact_mod_cast e)
  unfold bM
  push_cast
  grind
theorem n8 {t v u w : GQ} (ht : QOk t) (hv : QOk v) (hu : QOk u) (hw : QOk w) (h : bM t ≠ bM u) :
    ∃ c s, (bV t v u w).1 = aS c s ∧ QOk c ∧ QOk s ∧ bM s = (bM w - bM v) / (bM u - bM t) ∧ bM c = bM v - (bM w - bM v) / (bM u - bM t) * bM t := by
  obtain ⟨a1, a2⟩ := kt hw hv
  obtain ⟨b1, b2⟩ := kt hu ht
  obtain ⟨d1, d2, d3⟩ := div_ok a1 b1 (by rw [b2]; grind)
  obtain ⟨m1, m2⟩ := ig d1 ht
  obtain ⟨c1, c2⟩ := kt hv m1
  refine ⟨_, _, ?_, c1, d1, by rw [d2, a2, b2], by rw [c2, m2, d2, a2, b2]⟩
  unfold bV
  rw [d3]; rfl
theorem sU {a b : Smp} (ha : QOk a.t ∧ QOk a.p.x ∧ QOk a.p.y) (hb : QOk b.t ∧ QOk b.p.x ∧ QOk b.p.y) (h : bM a.t ≠ bM b.t) :
    LOk (eF a b) ∧ bM (eF a b).x1 = (bM b.p.x - bM a.p.x) / (bM b.t - bM a.t) ∧ bM (eF a b).x0 = bM a.p.x - (bM b.p.x - bM a.p.x) / (bM b.t - bM a.t) * bM a.t ∧
      bM (eF a b).y1 = (bM b.p.y - bM a.p.y) / (bM b.t - bM a.t) ∧ bM (eF a b).y0 = bM a.p.y - (bM b.p.y - bM a.p.y) / (bM b.t - bM a.t) * bM a.t := by
  obtain ⟨c, s, e1, k1, k2, k3, k4⟩ := n8 ha.1 ha.2.1 hb.1 hb.2.1 h
  obtain ⟨c', s', e1', k1', k2', k3', k4'⟩ := n8 ha.1 ha.2.2 hb.1 hb.2.2 h
  obtain ⟨_, l1, l2, _⟩ := i9 k1 k2
  obtain ⟨_, l1', l2', _⟩ := i9 k1' k2'
  unfold eF lnOf LOk
  rw [e1, e1']
  simp only [l1, l2, l1', l2']
  exact ⟨⟨k1, k2, k1', k2'⟩, k3, k4, k3', k4'⟩
theorem rZ (t x y : Int) : (QOk (dP t x y).t ∧ QOk (dP t x y).p.x ∧ QOk (dP t x y).p.y) ∧ bM (dP t x y).t = (t : Rat) ∧ bM (dP t x y).p.x = (x : Rat) ∧ bM (dP t x y).p.y = (y : Rat) := by
  unfold dP
  exact ⟨⟨(cv t).1, (cv x).1, (cv y).1⟩, (cv t).2, (cv x).2, (cv y).2⟩
theorem rY {q : GQ} (hq : QOk q) {v w t u : Nat} (hv : v < 64) (hw : w < 64) (ht : t < u) (hu : u ≤ t + 8) (e : bM q = (((w : Int) : Rat) - ((v : Int) : Rat)) / (((u : Int) : Rat) - ((t : Int) : Rat))) : Bq 16 q := by
  refine Bq.of hq ((w : Int) - v) (u - t) (by omega) (by omega) (by omega) ?_
  rw [e]
  have : (((u - t : Nat) : Nat) : Rat) = ((u : Int) : Rat) - ((t : Int) : Rat) := by
    have : ((u - t : Nat) : Int) = (u : Int) - t := by omega
    have h2 : (((u - t : Nat) : Int) : Rat) = (((u : Int) - t : Int) : Rat) := by rw [this]
    push_cast at h2 ⊢
    exact h2
  rw [this]
  push_cast
  rfl
theorem wA {q : GQ} (hq : QOk q) {v w t u : Nat} (hv : v < 64) (hw : w < 64) (ht : t < u) (hu : u ≤ t + 8) (ht2 : t ≤ 80) (e : bM q = ((v : Int) : Rat) - (((w : Int) : Rat) - ((v : Int) : Rat)) / (((u : Int) : Rat) - ((t : Int) : Rat)) * ((t : Int) : Rat)) : Bq 16 q := by
  obtain ⟨d, rfl⟩ : ∃ d, u = t + d := ⟨u - t, by omega⟩
  have h1 : v * d ≤ 63 * 8 := Nat.mul_le_mul (by omega) (by omega)
  have h2 : v * t ≤ 63 * 80 := Nat.mul_le_mul (by omega) ht2
  have h3 : w * t ≤ 63 * 80 := Nat.mul_le_mul (by omega) ht2
  refine Bq.of hq ((v : Int) * d - (w - v) * t) d (by omega) (by omega) ?_ ?_
  · rw [Int.sub_mul]
    have e1 : ((v : Int) * d) = ((v * d : Nat) : Int) := by push_cast; rfl
    have e2 : ((v : Int) * t) = ((v * t : Nat) : Int) := by push_cast; rfl
    have e3 : ((w : Int) * t) = ((w * t : Nat) : Int) := by push_cast; rfl
    rw [e1, e2, e3]
    generalize v * d = a at *
    generalize v * t = b at *
    generalize w * t = c at *
    omega
  · rw [e]
    have hd : (d : Rat) ≠ 0 := jT (by omega)
    push_cast
    grind
theorem nH {t u x y x' y' : Nat} (hx : x < 64) (hy : y < 64) (hx' : x' < 64) (hy' : y' < 64) (ht : t < u) (hu : u ≤ t + 8) (ht2 : t ≤ 80) : BL 16 (eF (dP t x y) (dP u x' y')) := by
  obtain ⟨a1, a2, a3, a4⟩ := rZ t x y
  obtain ⟨b1, b2, b3, b4⟩ := rZ u x' y'
  obtain ⟨⟨o1, o2, o3, o4⟩, h1, h2, h3, h4⟩ := sU a1 b1 (by
    rw [a2, b2]; intro e
    have : (t : Int) = (u : Int) := by exact_mod_cast e
    omega)
  rw [a2, a3, b2, b3] at h1 h2
  rw [a2, a4, b2, b4] at h3 h4
  exact ⟨wA o1 hx hx' ht hu ht2 h2, rY o2 hx hx' ht hu h1, wA o3 hy hy' ht hu ht2 h4, rY o4 hy hy' ht hu h3⟩
theorem still_bl {x y t : Nat} (hx : x < 64) (hy : y < 64) : BL 16 (j6 (dP t x y).p) := by
  have h1 : Bq 16 (ah (x : Int)) := Bq.int _ (by omega) (by decide)
  have h2 : Bq 16 (ah (y : Int)) := Bq.int _ (by omega) (by decide)
  exact ⟨h1, Bq.zero (by decide), h2, Bq.zero (by decide)⟩
structure Stq where
  time : Nat
  x : Nat
  y : Nat
  kind : Nat
  deriving DecidableEq
instance yM6_1 : Inhabited Stq := ⟨⟨0, 0, 0, 0⟩⟩
structure Crq where
  time : Nat
  x : Nat
  y : Nat
structure TS where
  t : Nat
  x : Nat
  y : Nat
  alone : Bool
  out : List (U Ln)
def tsU (s : TS) (q : Stq) : U Ln :=
  ⟨⟨inZ s.t, inZ (s.t + 1 + q.time % 8), decide (((s.out.length : Nat) : Int) > 0) && !s.alone, false⟩,
    eF (bif decide (q.kind % 8 = 1) then dP s.t ((q.y % 64 : Nat) : Int) ((q.x % 64 : Nat) : Int) else dP s.t s.x s.y) (dP ((s.t + 1 + q.time % 8 : Nat) : Int) ((q.x % 64 : Nat) : Int) ((q.y % 64 : Nat) : Int))⟩
def tsF (s : TS) (q : Stq) : TS := ⟨s.t + 1 + q.time % 8, q.x % 64, q.y % 64, decide (q.kind % 8 = 0), bif decide (q.kind % 8 = 0) then s.out else s.out ++ [tsU s q]⟩
def ts0 (c : Crq) : TS := ⟨c.time % 16, c.x % 64, c.y % 64, true, []⟩
def tsN (c : Crq) (l : List Stq) (i : Nat) : TS := (l.take i).foldl tsF (ts0 c)
theorem rV (c : Crq) {l : List Stq} {i : Nat} (h : i < l.length) : tsN c l (i + 1) = tsF (tsN c l i) (gt l i) := by
  unfold tsN; rw [List.take_succ_eq_append_getElem h, List.foldl_append, gk h]; rfl
def tsE (s : TS) : List (U Ln) := bif s.alone then s.out ++ [⟨⟨inZ s.t, inZ s.t, false, false⟩, j6 (dP s.t s.x s.y).p⟩] else s.out
def trU (c : Crq) (l : List Stq) : List (U Ln) := tsE (tsN c l (min l.length 6))
def d4 (c : Crq) (l : List Stq) : List (U Ln) := (aG (trU c l)).1
section
variable [K : Key]
class KeyZ : Prop where
  z : ∀ n, n ≤ 64 → Tm (inZ n)
variable [KeyZ]
theorem tkZ {m n : Nat} (h : m < n) (hn : n ≤ 64) : tk (inZ m) < tk (inZ n) := oo (KeyZ.z _ (by omega)) (KeyZ.z _ hn) (inZ_lt h)
structure TsI (s : TS) (i : Nat) : Prop where
  t : s.t ≤ 15 + 8 * i
  x : s.x < 64
  y : s.y < 64
  wv : ∀ u ∈ s.out, Wv u.iv ∧ BL 16 u.f
  ord : s.out.Pairwise fun a b => eZ a.iv < (e5 b.iv : Int)
  bef : ∀ u ∈ s.out, ∃ n, n ≤ s.t ∧ u.iv.hi = inZ n ∧ u.iv.openHi = false
  far : s.alone = true → ∀ u ∈ s.out, ∃ n, n < s.t ∧ u.iv.hi = inZ n
  len : s.out.length ≤ i
  one : s.alone = false → 0 < s.out.length
omit [KeyZ] in
theorem t8 (c : Crq) : TsI (ts0 c) 0 := by
  refine ⟨by show c.time % 16 ≤ _; omega, Nat.mod_lt _ (by decide), Nat.mod_lt _ (by decide), fun u h => (by cases h), List.Pairwise.nil, fun u h => (by cases h), fun _ u h => (by cases h), Nat.le_refl _, fun h => (by cases h)⟩
omit [KeyZ] in
theorem nS {u : U Ln} {n : Nat} (h : u.iv.hi = inZ n) (ho : u.iv.openHi = false) : eZ u.iv = 2 * (tk (inZ n) : Int) := by
  unfold eZ; rw [h, ho]; simp
theorem t7 {s : TS} {i : Nat} (q : Stq) (hi : i < 6) (h : TsI s i) : TsI (tsF s q) (i + 1) := by
  have ht := h.t
  have hm : q.time % 8 < 8 := Nat.mod_lt _ (by decide)
  have hx : q.x % 64 < 64 := Nat.mod_lt _ (by decide)
  have hy : q.y % 64 < 64 := Nat.mod_lt _ (by decide)
  by_cases hk : q.kind % 8 = 0
  · unfold tsF
    rw [decide_eq_true hk]
    refine ⟨by show s.t + 1 + _ ≤ _; omega, hx, hy, h.wv, h.ord, fun u hu => ?_, fun _ u hu => ?_, by show s.out.length ≤ _; have := h.len; omega, fun h => (by cases h)⟩
    · obtain ⟨n, a, b, c⟩ := h.bef u hu; exact ⟨n, by show n ≤ s.t + 1 + _; omega, b, c⟩
    · obtain ⟨n, a, b, c⟩ := h.bef u hu; exact ⟨n, by show n < s.t + 1 + _; omega, b⟩
  · have lt := tkZ (show s.t < s.t + 1 + q.time % 8 by omega) (by omega)
    have wv : Wv (tsU s q).iv := ⟨⟨KeyZ.z _ (by omega), KeyZ.z _ (by omega)⟩, Nat.le_of_lt lt, fun e => by exfalso; change tk (inZ s.t) = tk (inZ (s.t + 1 + q.time % 8)) at e; omega⟩
    have bl : BL 16 (tsU s q).f := by
      show BL 16 (eF _ _)
      cases decide (q.kind % 8 = 1) with
      | true => exact nH hy hx hx hy (by omega) (by omega) (by omega)
      | false => exact nH h.x h.y hx hy (by omega) (by omega) (by omega)
    unfold tsF
    rw [decide_eq_false hk]
    refine ⟨by show s.t + 1 + _ ≤ _; omega, hx, hy, fun u hu => ?_, ?_, fun u hu => ?_, fun h => (by cases h), by show (s.out ++ [_]).length ≤ _; have := h.len; simp; omega, fun _ => by show 0 < (s.out ++ [_]).length; simp⟩
    · rcases List.mem_append.1 hu with hu | hu
      · exact h.wv u hu
      · rw [List.mem_singleton.1 hu]; exact ⟨wv, bl⟩
    · refine List.pairwise_append.2 ⟨h.ord, List.pairwise_singleton _ _, fun a ha b hb => ?_⟩
      rw [List.mem_singleton.1 hb]
      obtain ⟨n, n1, n2, n3⟩ := h.bef a ha
      rw [nS n2 n3]
      have hne : 0 < s.out.length := List.length_pos_of_mem ha
      have hf : e5 (tsU s q).iv = 2 * tk (inZ s.t) + (bif decide (((s.out.length : Nat) : Int) > 0) && !s.alone then 1 else 0) := rfl
      rw [hf, decide_eq_true (show ((s.out.length : Nat) : Int) > 0 by omega)]
      have hle : tk (inZ n) ≤ tk (inZ s.t) := by
        rcases Nat.lt_or_eq_of_le n1 with e | e
        · exact Nat.le_of_lt (tkZ e (by omega))
        · rw [e]; exact Nat.le_refl _
      cases hal : s.alone with
      | false => simp; omega
      | true =>
        obtain ⟨n', m1, m2⟩ := h.far hal a ha
        have e2 : inZ n = inZ n' := n2.symm.trans m2
        rw [e2]
        have := tkZ m1 (by omega)
        simp; omega
    · rcases List.mem_append.1 hu with hu | hu
      · obtain ⟨n, a, b, c⟩ := h.bef u hu; exact ⟨n, by show n ≤ s.t + 1 + _; omega, b, c⟩
      · rw [List.mem_singleton.1 hu]; exact ⟨_, Nat.le_refl _, rfl, rfl⟩
theorem ts_all (c : Crq) (l : List Stq) : ∀ i, i ≤ l.length → i ≤ 6 → TsI (tsN c l i) i
  | 0, _, _ => t8 c
  | i + 1, h1, h2 => by rw [rV c (by omega)]; exact t7 _ (by omega) (ts_all c l i (by omega) (by omega))
theorem rW (c : Crq) (l : List Stq) : (∀ u ∈ trU c l, Wv u.iv ∧ BL 16 u.f) ∧ ((trU c l).Pairwise fun a b => eZ a.iv < (e5 b.iv : Int)) ∧ (trU c l).length ≤ 7 ∧ 0 < (trU c l).length := by
  have h := ts_all c l (min l.length 6) (by omega) (by omega)
  unfold trU tsE
  generalize tsN c l (min l.length 6) = s at *
  have ht := h.t
  have hl := h.len
  cases hal : s.alone with
  | false => exact ⟨h.wv, h.ord, by show s.out.length ≤ 7; omega, h.one hal⟩
  | true =>
    have hz := KeyZ.z s.t (by omega)
    have wv : Wv (⟨inZ s.t, inZ s.t, false, false⟩ : Iv) := ⟨⟨hz, hz⟩, Nat.le_refl _, fun _ => ⟨rfl, rfl⟩⟩
    rw [cond_true]
    refine ⟨fun u hu => ?_, List.pairwise_append.2 ⟨h.ord, List.pairwise_singleton _ _, fun a ha b hb => ?_⟩, by simp; omega, by simp⟩
    · rcases List.mem_append.1 hu with hu | hu
      · exact h.wv u hu
      · rw [List.mem_singleton.1 hu]; exact ⟨wv, still_bl h.x h.y⟩
    · rw [List.mem_singleton.1 hb]
      obtain ⟨n, n1, n2, n3⟩ := h.bef a ha
      obtain ⟨n', m1, m2⟩ := h.far hal a ha
      rw [nS n2 n3, n2.symm.trans m2]
      have := tkZ m1 (by omega)
      show 2 * ((tk (inZ n') : Nat) : Int) < ((2 * tk (inZ s.t) + (bif false then 1 else 0) : Nat) : Int)
      simp; omega
end
end Go.Sx
namespace Go.Sx
open Go Go.RowKit Go.Proofs
set_option maxRecDepth 100000
set_option maxHeartbeats 40000000
attribute [local irreducible] Code.wp wpList Rd Step ObS Ent
attribute [local irreducible] am aQ ah aw aD bU
theorem kx (t x y : Int) (k : Nat) (hk : k ≤ 40) (ht : -9223372036854775808 ≤ t ∧ t ≤ 9223372036854775807) (hx : -9223372036854775808 ≤ x ∧ x ≤ 9223372036854775807) (hy : -9223372036854775808 ≤ y ∧ y ≤ 9223372036854775807) (w0 : World) : Calls Tryz.prog 15 #[.int .i64 t, .int .i64 x, .int .i64 y] w0 (dA w0 (vSm (dP t x y)) (tV k (dP t x y))) := by
 refine enter (N := 15) (args := [.int .i64 t, .int .i64 x, .int .i64 y]) Tryz.func15 rfl rfl ?_; intro ac h
 have c1 := bN t k hk ht
 have c2 := bN x k hk hx
 have c3 := bN y k hk hy
 refine gz h <| (xa) fun b1 => (xk c1) <| (xk c2) <| (xk c3) <| (W) ?_; clear h ac; intro ac wo h
 exact rtc 0 h (h.retP (u := vSm (dP t x y)) rfl ⟨an (c1 w0), an (c2 w0), an (c3 w0)⟩)
def exampleS : List Smp := [dP 0 0 0, dP 2 4 0, dP 4 4 6]
theorem tH (w0 : World) : Calls Tryz.prog 83 #[] w0 (RetR w0 31 exampleS True) := by
 refine enter (N := 5) (args := []) Tryz.func83 rfl rfl ?_; intro ac h
 refine gz h <| (xk (kx 0 0 0 40 (by omega) (by omega) (by omega) (by omega))) <| (xk (kx 2 4 0 40 (by omega) (by omega) (by omega) (by omega))) <| (xk (kx 4 4 6 40 (by omega) (by omega) (by omega) (by omega))) <| (W) ?_; clear h ac; intro ac wo h
 refine nw h (dp (α := Smp) (xs := [.tmp 1, .tmp 2, .tmp 3]) (vs := [vSm (dP 0 0 0), vSm (dP 2 4 0), vSm (dP 4 4 6)]) exampleS slt23 rfl rfl rfl (by decide)) rfl ?_; clear h ac wo; intro s1 ac wo _ h
 refine gz h <| (W) ?_; clear h ac wo; intro ac wo h
 exact (rt h) (h.retR 0 rfl trivial)
def ch (a : GI) : Int := if a.neg then -(a.mag : Int) else a.mag
theorem im (a : GI) (hm : a.mag < 4611686018427387904) (w0 : World) : Calls Tryz.prog 186 #[vI a] w0 (dA w0 (.tuple #[.int .i64 (ch a), .bool true]) True) := by
 refine enter (N := 35) (args := [vI a]) Tryz.func186 rfl rfl ?_; intro ac h
 have e : dC a.mag = (a.mag, true) := by rw [ob, if_pos (by omega)]
 have c1 : ∀ w0, Calls Tryz.prog 249 #[(.string (bs a.mag))] w0 (dA w0 (.tuple #[(.int .u64 (a.mag : Int)), (.bool true)]) True) := fun w0 => by
  have := iC a.mag w0
  rw [e] at this; exact this
 refine gz h <| (xb) fun b1 => (xk c1) <| (ai) ?_ ?_ <;> clear h ac <;> intro ac wo h hc1
 · cases hc1
 refine gz h <| (ai) ?_ ?_ <;> clear h ac wo <;> intro ac wo h hc2
 ·
  obtain ⟨h1, h2⟩ := Bool.and_eq_true_iff.mp hc2
  have e3 : ch a = -(a.mag : Int) := by unfold ch; rw [if_pos h1]
  rw [e3]
  refine gz h <| (xo (hs := by exact r_neg rfl (r := IntKind.u64.wrap (-(a.mag : Int))) rfl)) <| (xo (hs := by exact be uu254 uu3 rfl (r := -(a.mag : Int)) (by rw [IntKind.wrap_u64, IntKind.wrap_i64]; omega))) <| (W) ?_; clear h ac wo; intro ac wo h
  exact (rt h) (h.retP rfl trivial)
 ·
  have h1 : a.neg = false := by
   have : decide ((a.mag : Int) ≤ 9223372036854775808) = true := decide_eq_true (by omega)
   rw [this, Bool.and_true] at hc2; exact hc2
  have e3 : ch a = (a.mag : Int) := by unfold ch; rw [h1]; rfl
  rw [e3]
  refine gz h <| (ai) ?_ ?_ <;> clear h ac wo <;> intro ac wo h hc3
  · refine gz h <| (xo (hs := by exact be uu254 uu3 rfl (r := (a.mag : Int)) (by rw [IntKind.wrap_i64]; omega))) <| (W) ?_; clear h ac wo; intro ac wo h
    exact (rt h) (h.retP rfl trivial)
  · have : decide ((a.mag : Int) ≤ 9223372036854775807) = true := decide_eq_true (by omega)
    rw [this, h1] at hc3; cases hc3
def fj (x : GR) : GR := ⟨aU x.p, x.r, !decide (x.r = oQ) && !x.neg⟩
theorem q9 (x : GR) (k : Nat) (hk : k ≤ 40) (z : SzR k x) (w0 : World) : Calls Tryz.prog 254 #[vR x] w0 (dA w0 (vR (fj x)) (SzR k (fj x))) := by
 refine enter (N := 18) (args := [vR x]) Tryz.func254 rfl rfl ?_; intro ac h
 have c1 := eG x.p k hk z.1
 refine gz h <| (xb) fun b1 => (xa) fun b2 => (dr1 (H := [⟨.blk b2 (cR ⟨oQ, oQ, false⟩) 71, [(15, .con (.blk b2 (cR ⟨aU x.p, x.r, !decide (x.r = oQ) && !x.neg⟩) 71))]⟩, ⟨_, []⟩]) (hob := (oK c1) <| (oX (h := by exact fun _ => bm (bG m7 exs rfl (v := vQ oQ) rfl))) <| (oX (h := by exact fun _ => bm (bG tR exs rfl (v := vR ⟨aU x.p, x.r, !decide (x.r = oQ) && !x.neg⟩) rfl))) <| oE)) <| (W) ?_; clear h ac; intro ac wo h
 exact rtc 0 h (h.retP (u := vR (fj x)) rfl ⟨an (c1 w0), z.2⟩)
attribute [irreducible] fj
def fR (x : GR) : GI := ao (eh (fj x))
def Sm (r : GQ) : Prop := r.num.mag < 4 ∧ r.den = ⟨false, 0⟩
def eP (p q r : GQ) : GR × Int :=
 bif decide (aw r < 0) then (⟨oQ, oQ, false⟩, 2)
 else bif (cu r).2 then (⟨aC p (ak q (cu r).1), oQ, false⟩, 0)
 else (⟨p, ak (ak q q) r, decide (aw q < 0)⟩, 0)
theorem lO (p q r : GQ) (k : Nat) (hk : k ≤ 10) (zp : SzQ (k + 6) p) (zq : SzQ (k + 6) q) (zr : SzQ (k + 6) r) (hr : Sm r) (z3 : SzQ 30 r) (w0 : World) : Calls Tryz.prog 143 #[vQ p, vQ q, vQ r] w0 (dA w0 (.tuple #[vR (eP p q r).1, .int .i64 (eP p q r).2]) (SzR k (eP p q r).1)) := by
 refine enter (N := 36) (args := [vQ p, vQ q, vQ r]) Tryz.func143 rfl rfl ?_; intro ac h
 have c1 := cp r
 have s1 := an (c1 w0)
 have c2 := js r hr z3
 have s2 := an (c2 w0)
 refine gz h <| (xb) fun b1 => (xb) fun b2 => (xb) fun b3 => (xa) fun b4 => (xk c1) <| (ai) ?_ ?_ <;> clear h ac <;> intro ac wo h hc1
 ·
  have hd : eP p q r = (⟨oQ, oQ, false⟩, 2) := by unfold eP; rw [hc1]; rfl
  rw [hd]
  refine gz h <| (xo (hs := by exact bG tR exs rfl (v := vR ⟨oQ, oQ, false⟩) rfl)) <| (W) ?_; clear h ac wo; intro ac wo h
  exact rtc2 0 h (h.retP (u := .tuple #[vR ⟨oQ, oQ, false⟩, .int .i64 2]) rfl ⟨⟨cG 0 (by decide) og, cG 0 (by decide) og⟩, ⟨cG 0 (by decide) og, cG 0 (by decide) og⟩⟩)
 ·
  refine gz h <| (xk c2) <| (xa) fun b5 => (ai) ?_ ?_ <;> clear h ac wo <;> intro ac wo h hc2
  ·
   have hd : eP p q r = (⟨aC p (ak q (cu r).1), oQ, false⟩, 0) := by unfold eP; rw [hc1, hc2]; rfl
   rw [hd]
   have c3 := bh q (cu r).1 (k + 4) og zq (cw s2 og)
   have s3 := an (c3 w0)
   have c4 := bW p (ak q (cu r).1) (k + 1) og (cw zp og) s3
   have s4 := an (c4 w0)
   refine gz h <| (dr1 (H := [⟨_, []⟩, ⟨.blk b4 (cR ⟨oQ, oQ, false⟩) 71, [(6, .con (.blk b4 (cR ⟨aC p (ak q (cu r).1), oQ, false⟩) 71))]⟩, ⟨_, []⟩, ⟨_, []⟩, ⟨_, []⟩]) (hob := (oK c3) <| (oK c4) <| (oX (h := by exact fun _ => bm (bG tR exs rfl (v := vR ⟨aC p (ak q (cu r).1), oQ, false⟩) rfl))) <| oE)) <| (W) ?_; clear h ac wo; intro ac wo h
   exact rtc2 1 h (h.retP (u := .tuple #[vR ⟨aC p (ak q (cu r).1), oQ, false⟩, .int .i64 0]) rfl ⟨cw s4 og, ⟨cG 0 (by decide) og, cG 0 (by decide) og⟩⟩)
  ·
   have hd : eP p q r = (⟨p, ak (ak q q) r, decide (aw q < 0)⟩, 0) := by unfold eP; rw [hc1, hc2]; rfl
   rw [hd]
   have c3 := bh q q (k + 4) og zq zq
   have s3 := an (c3 w0)
   have c4 := bh (ak q q) r (k + 2) og s3 (cw zr og)
   have s4 := an (c4 w0)
   have c5 := cp q
   refine gz h <| (dr1 (H := [⟨_, []⟩, ⟨.blk b4 (cR ⟨oQ, oQ, false⟩) 71, [(10, .con (.blk b4 (cR ⟨p, ak (ak q q) r, decide (aw q < 0)⟩) 71))]⟩, ⟨_, []⟩, ⟨_, []⟩, ⟨_, []⟩]) (hob := (oK c3) <| (oK c4) <| (oK c5) <| (oX (h := by exact fun _ => bm (bG tR exs rfl (v := vR ⟨p, ak (ak q q) r, decide (aw q < 0)⟩) rfl))) <| oE)) <| (W) ?_; clear h ac wo; intro ac wo h
   exact rtc2 1 h (h.retP (u := .tuple #[vR ⟨p, ak (ak q q) r, decide (aw q < 0)⟩, .int .i64 0]) rfl ⟨cw zp og, cw s4 og⟩)
attribute [irreducible] eP
theorem p7 (x : GR) (hf : ∀ w0, Calls Tryz.prog 187 #[vR (fj x)] w0 (dA w0 (vI (eh (fj x))) (SzI 40 (eh (fj x))))) (z : SzR 36 x) (w0 : World) : Calls Tryz.prog 188 #[vR x] w0 (dA w0 (vI (fR x)) (SzI 40 (fR x))) := by
 refine enter (N := 7) (args := [vR x]) Tryz.func188 rfl rfl ?_; intro ac h
 have c1 := q9 x 36 og z
 have c3 := dK (eh (fj x)) 40 og (an (hf w0))
 refine gz h <| (xb) fun b1 => (xa) fun b2 => (xk c1) <| (xk hf) <| (xk c3) <| (W) ?_; clear h ac; intro ac wo h
 exact rtc 0 h (h.retP (u := vI (fR x)) rfl (an (c3 w0)))
end Go.Sx
namespace Go.Sx
open Go Go.RowKit Go.Proofs
set_option maxRecDepth 100000
set_option maxHeartbeats 40000000
attribute [local irreducible] Code.wp wpList Rd Step ObS Ent
attribute [local irreducible] am aQ ah aw aD bU
def a6 (a : Bd) (b : Bd) : Iv :=
 (⟨a.at_, b.at_, a.behind, (!b.behind)⟩ : Iv)
theorem i4 (a : Bd) (b : Bd) (za : SzW 30 a) (zb : SzW 30 b) (w0 : World)  : Calls Tryz.prog 247 #[(vW a), (vW b)] w0 (dA w0 (vV (a6 a b)) (SzV 30 (a6 a b))) := by
 refine enter (N := 15) (args := [(vW a), (vW b)]) Tryz.func247 rfl rfl ?_; intro ac h
 refine gz h <| (xb) fun b1 => (xb) fun b2 => (xa) fun b3 => (xo (hs := by exact bG kX exs rfl (v := (vV (⟨a.at_, b.at_, a.behind, (!b.behind)⟩ : Iv))) rfl)) <| (W) ?_; clear h ac; intro ac wo h
 exact ret h rfl (.cell (v := (vV (⟨a.at_, b.at_, a.behind, (!b.behind)⟩ : Iv))) rfl (i := 0) rfl Tryz.isAgg86 Tryz.sizeOf86 rfl rfl rfl .nil) rfl (h.retP (by unfold a6; rfl) (by unfold a6; exact ⟨za, zb⟩))
attribute [irreducible] a6
def bI (x : Ev) (y : Ev) : Int :=
 (bE x.at_ y.at_)
theorem gK (x : Ev) (y : Ev) (zx : SzE 30 x) (zy : SzE 30 y) (w0 : World)  : Calls Tryz.prog 246 #[(vE x), (vE y)] w0 (dA w0 (.int .i64 (bI x y)) ((-1 ≤ (bI x y) ∧ (bI x y) ≤ 1))) := by
 refine enter (N := 10) (args := [(vE x), (vE y)]) Tryz.func246 rfl rfl ?_; intro ac h
 have c1 := ff x.at_ y.at_ zx zy
 have s1 := Calls.pr (c1 w0)
 have p2 := s1
 refine gz h <| (xb) fun b1 => (xb) fun b2 => (xk (c1)) <| (W) ?_; clear h ac; intro ac wo h
 exact (rt h) (h.retP (by unfold bI; rfl) (by unfold bI; exact og))
attribute [irreducible] bI
def cO (a : Bool) (b : Bool) : Bool :=
 (a && b)
theorem jL (a : Bool) (b : Bool) (w0 : World)  : Calls Tryz.prog 243 #[(.bool a), (.bool b)] w0 (dA w0 (.bool (cO a b)) (True)) := by
 refine enter (N := 9) (args := [(.bool a), (.bool b)]) Tryz.func243 rfl rfl ?_; intro ac h
 refine gz h <| (W) ?_; clear h ac; intro ac wo h
 exact (rt h) (h.retP (by unfold cO; rfl) trivial)
attribute [irreducible] cO
def fP (data : List Ev) (a : Nat) (b : Nat) (i : Nat) (data1 : List Ev) : List Ev :=
 data1
def fO (data : List Ev) (a : Nat) (b : Nat) (i : Nat) (data1 : List Ev) (j : Nat) (data2 : List Ev) : Nx (Nat × (List Ev)) (List Ev) :=
 .go ((i + 1), data2)
def dD (data : List Ev) (a : Nat) (b : Nat) (i : Nat) (data1 : List Ev) (j : Nat) (data2 : List Ev) : Nx (Nat × (List Ev)) (List Ev) :=
 bif ((decide (((j : Nat) : Int) > ((a : Nat) : Int))) && (decide ((bI (gt data2 j) (gt data2 (j - 1))) < 0))) then
  .go ((j - 1), ((data2.set j (gt data2 (j - 1))).set (j - 1) (gt data2 j)))
 else
  .out (j, data2)
def dE (data : List Ev) (a : Nat) (b : Nat) (i : Nat) (data1 : List Ev) : Nx (Nat × (List Ev)) (List Ev) :=
 bif (decide (((i : Nat) : Int) < ((b : Nat) : Int))) then
  fin (dW (fun s => dD data a b i data1 s.1 s.2) (i + 1) (i, data1)) (fun s => fO data a b i data1 s.1 s.2) (fun r => .ret r)
 else
  .out (i, data1)
def bk (data : List Ev) (a : Nat) (b : Nat) : List Ev :=
 fin (dW (fun s => dE data a b s.1 s.2) ((b + 1 - (a + 1)) + 1) ((a + 1), data)) (fun s => fP data a b s.1 s.2) (fun r => r)
theorem fN (data : List Ev) (datav : Value) (a : Nat) (b : Nat) (hab : a ≤ b) (hb : b ≤ data.length) (hb2 : b ≤ 1000) (zdata : All (SzE 30) data) (w0 w : World) (B : Asn) (hbel : Below w0.heap.size w0 w) (hsep : ∃ Z_, Sep w0.heap.size w [.row (α := Ev) 321 datav data, B] Z_)  : Calls Tryz.prog 297 #[datav, (.int .i64 ((a : Nat) : Int)), (.int .i64 ((b : Nat) : Int)), (.func (.func 246) #[] #[])] w (RetY w0 (fun v => v = .tuple #[] ∧ (All (SzE 30) (bk data a b) ∧ (bk data a b).length = data.length)) (fun v => [.row (α := Ev) 321 datav (bk data a b), B])) := by
 refine l7 (N := 53) (args := [datav, (.int .i64 ((a : Nat) : Int)), (.int .i64 ((b : Nat) : Int)), (.func (.func 246) #[] #[])]) Tryz.func297 rfl rfl hbel hsep ?_; intro ac h
 have hlendata := h.len 0 rfl
 obtain ⟨X1, hX1⟩ : ∃ X, dW (fun s => dE data a b s.1 s.2) ((b + 1 - (a + 1)) + 1) ((a + 1), data) = X := ⟨_, rfl⟩
 refine gz h <| (W) ?_; clear h ac; intro ac wo h
 refine wp_loop_ghost (fun n_ a_ w_ => ∃ (i : Nat) (data1 : List Ev), ((b + 1 - i) < n_) ∧ (dW (fun s => dE data a b s.1 s.2) n_ (i, data1) = X1) ∧ (i ≤ b + 1) ∧ (All (SzE 30) data1) ∧ (data1.length = data.length) ∧ St w0 53 [(0, datav), (1, (.int .i64 ((a : Nat) : Int))), (2, (.int .i64 ((b : Nat) : Int))), (3, (.func (.func 246) #[] #[])), (8, (.int .i64 ((i : Nat) : Int)))] [.row (α := Ev) 321 datav data1, B] a_ w_) ((b + 1 - (a + 1)) + 1) ⟨(a + 1), data, og, hX1, og, zdata, og, h.rs⟩ ?_
 clear h ac wo; rintro n1 ac wo ⟨i, data1, hm1, hL1, hi, zdata1, hdl, h⟩
 obtain ⟨m1, rfl⟩ : ∃ m, n1 = m + 1 := ⟨n1 - 1, by omega⟩
 refine gz h <| (ai) ?_ ?_ <;> clear h ac wo <;> intro ac wo h hc1
 ·
  have hd1 := of_decide_eq_true hc1
  obtain ⟨X2, hX2⟩ : ∃ X, dW (fun s => dD data a b i data1 s.1 s.2) (i + 1) (i, data1) = X := ⟨_, rfl⟩
  refine gz h <| (W) ?_; clear h ac wo; intro ac wo h
  refine wp_loop_ghost (fun n_ a_ w_ => ∃ (j : Nat) (data2 : List Ev), (j < n_) ∧ (dW (fun s => dD data a b i data1 s.1 s.2) n_ (j, data2) = X2) ∧ (All (SzE 30) data2) ∧ (j ≤ i) ∧ (data2.length = data.length) ∧ St w0 53 [(0, datav), (1, (.int .i64 ((a : Nat) : Int))), (2, (.int .i64 ((b : Nat) : Int))), (3, (.func (.func 246) #[] #[])), (8, (.int .i64 ((i : Nat) : Int))), (9, (.int .i64 ((j : Nat) : Int)))] [.row (α := Ev) 321 datav data2, B] a_ w_) (i + 1) ⟨i, data1, og, hX2, zdata1, og, og, h.rs⟩ ?_
  clear h ac wo; rintro n2 ac wo ⟨j, data2, hm2, hL2, zdata2, hj, hdl2, h⟩
  obtain ⟨m2, rfl⟩ : ∃ m, n2 = m + 1 := ⟨n2 - 1, by omega⟩
  refine gz h <| (W) ?_; clear h ac wo; intro ac wo h
  have s1 := Calls.pr ((fun w_ hB_ hS_ => gK (gt data2 j) (gt data2 (j - 1)) (All.gt zdata2 (qU _)) (All.gt zdata2 (qU _)) w_ ) _ h.bel h.sep)
  have p2 := s1
  refine gz h <| (dr0 (hob := (oG (by exact fun hg => gK (gt data2 j) (gt data2 (j - 1)) (All.gt zdata2 (qU _)) (All.gt zdata2 (qU _)))) <| oE)) <| (ai) ?_ ?_ <;> clear h ac wo <;> intro ac wo h hc2
  ·
   have hq2 := hc2; try simp at hq2
   refine gz h <| (dr1 (H := [⟨.row (α := Ev) 321 datav data2, [(15, .con (.row (α := Ev) 321 datav (data2.set j (gt data2 (j - 1))))), (17, .con (.row (α := Ev) 321 datav ((data2.set j (gt data2 (j - 1))).set (j - 1) (gt data2 j))))]⟩, ⟨_, []⟩]) (hob := (oY (h := by exact fun _ => lC (acc := [0]) _ [.row (α := Ev) 321 datav (data2.set j (gt data2 (j - 1)))] rfl rfl (gI (k := 0) (u' := (gt data2 (j - 1))) zz321 (l6 og) rfl (Nat.add_zero _) rfl rfl rfl rfl rfl rfl))) <| (oY (h := by exact fun _ => lC (acc := [0]) _ [.row (α := Ev) 321 datav ((data2.set j (gt data2 (j - 1))).set (j - 1) (gt data2 j))] rfl rfl (gI (k := 0) (u' := (gt data2 j)) zz321 (l6 og) rfl (Nat.add_zero _) rfl rfl rfl rfl rfl rfl))) <| oE)) <| (W) ?_; clear h ac wo; intro ac wo h
   have hg := eL hL2 pt
   exact aK ⟨m2, og, _, _, og, hg, (All.set (All.set zdata2 (All.gt zdata2 (qU _))) (All.gt zdata2 (qU _))), og, og, h.re [0, 1]⟩
  ·
   have hq2 := hc2; try simp at hq2
   have hx2 := gV hL2 pt
   refine gz h <| (W) ?_; clear h ac wo; intro ac wo h
   have hg := eL hL1 pt
   exact aK ⟨m1, og, _, _, og, hg, og, zdata2, og, h.re [0, 1]⟩
 ·
  have hd1 := of_decide_eq_false hc1
  have hx1 := gV hL1 pt
  have hd : bk data a b = data1 := pt
  refine gz h <| (W) ?_; clear h ac wo; intro ac wo h
  exact retN (vs := []) h rfl .nil rfl ((h.pick [0, 1] (by decide)).retY ⟨rfl, (by rw [hd]; exact ⟨zdata1, og⟩)⟩ (by rw [hd]; rfl))
attribute [irreducible] bk
def dN (a : Bool) (b : Bool) : Bool :=
 (a || b)
theorem lA (a : Bool) (b : Bool) (w0 : World)  : Calls Tryz.prog 244 #[(.bool a), (.bool b)] w0 (dA w0 (.bool (dN a b)) (True)) := by
 refine enter (N := 9) (args := [(.bool a), (.bool b)]) Tryz.func244 rfl rfl ?_; intro ac h
 refine gz h <| (W) ?_; clear h ac; intro ac wo h
 exact (rt h) (h.retP (by unfold dN; rfl) trivial)
attribute [irreducible] dN
def dO (a : Bool) (b : Bool) : Bool :=
 (a && (!b))
theorem lB (a : Bool) (b : Bool) (w0 : World)  : Calls Tryz.prog 181 #[(.bool a), (.bool b)] w0 (dA w0 (.bool (dO a b)) (True)) := by
 refine enter (N := 10) (args := [(.bool a), (.bool b)]) Tryz.func181 rfl rfl ?_; intro ac h
 refine gz h <| (W) ?_; clear h ac; intro ac wo h
 exact (rt h) (h.retP (by unfold dO; rfl) trivial)
attribute [irreducible] dO
end Go.Sx
namespace Go.Sx
open Go Go.RowKit Go.Proofs
set_option maxRecDepth 100000
set_option maxHeartbeats 40000000
attribute [local irreducible] Code.wp wpList Rd Step ObS Ent
attribute [local irreducible] am aQ ah aw aD bU
def bJ (data : List Ev) (a : Nat) (b : Nat) (limit : Int) : List Ev :=
 (bk data a b)
theorem gZ (data : List Ev) (datav : Value) (a : Nat) (b : Nat) (limit : Int) (hab : a ≤ b) (hb : b ≤ data.length) (hb2 : b ≤ 1000) (h12 : b ≤ a + 12) (zdata : All (SzE 30) data) (w0 w : World) (B : Asn) (hbel : Below w0.heap.size w0 w) (hsep : ∃ Z_, Sep w0.heap.size w [.row (α := Ev) 321 datav data, B] Z_)  : Calls Tryz.prog 284 #[datav, (.int .i64 ((a : Nat) : Int)), (.int .i64 ((b : Nat) : Int)), (.int .i64 limit), (.func (.func 246) #[] #[])] w (RetY w0 (fun v => v = .tuple #[] ∧ (All (SzE 30) (bJ data a b limit) ∧ (bJ data a b limit).length = data.length)) (fun v => [.row (α := Ev) 321 datav (bJ data a b limit), B])) := by
 refine l7 (N := 148) (args := [datav, (.int .i64 ((a : Nat) : Int)), (.int .i64 ((b : Nat) : Int)), (.int .i64 limit), (.func (.func 246) #[] #[])]) Tryz.func284 rfl rfl hbel hsep ?_; intro ac h
 have hlendata := h.len 0 rfl
 refine gz h <| (W) ?_; clear h ac; intro ac wo h
 refine pK 1 ?_
 refine gz h <| (xo (hs := by exact fL rfl rfl (r := (((b - a) : Nat) : Int)) (by rw [IntKind.wrap_i64]; first | omega | grind))) <| (W) ?_; clear h ac wo; intro ac wo h
 refine c_ifT h rfl ?_ (decide_eq_true og)
 refine gz h <| (W) ?_; clear h ac wo; intro ac wo h
 refine on1 h 0 rfl (tc (vs := [datav, (.int .i64 ((a : Nat) : Int)), (.int .i64 ((b : Nat) : Int)), (.func (.func 246) #[] #[])]) (A := fun v => [.row (α := Ev) 321 datav (bk data a b)]) (cZ Tryz.call297 rfl) (fun w_ B_ hB_ hS_ => fN data datav a b og og og zdata w0 w_ B_ hB_ hS_ )) rfl ?_; clear h ac wo; intro vc ac wo s2 h
 obtain rfl : vc = _ := s2.1
 have p3 := s2.2.2
 refine gz h <| (W) ?_; clear h ac wo; intro ac wo h
 replace h := h.sub (F' := []) trivial
 have hd : bJ data a b limit = (bk data a b) := rfl
 refine gz h <| (W) ?_; clear h ac wo; intro ac wo h
 exact ret (vs := []) h rfl .nil rfl ((h.pick [0, 1] (by decide)).retY ⟨rfl, (by rw [hd]; exact ⟨s2.2.1, og⟩)⟩ (by rw [hd]; rfl))
attribute [irreducible] bJ
end Go.Sx
namespace Go.Sx
open Go Go.RowKit Go.Proofs
set_option maxRecDepth 100000
set_option maxHeartbeats 40000000
attribute [local irreducible] Code.wp wpList Rd Step ObS Ent
attribute [local irreducible] am aQ ah aw aD bU
def eR (x : Nat) : Int :=
 ((Lib.bitLen x : Nat) : Int)
theorem mg (x : Nat) (hx : x < 18446744073709551616) (w0 : World)  : Calls Tryz.prog 285 #[(.int .u64 ((x : Nat) : Int))] w0 (dA w0 (.int .i64 (eR x)) (True)) := by
 refine enter (N := 8) (args := [(.int .u64 ((x : Nat) : Int))]) Tryz.func285 rfl rfl ?_; intro ac h
 refine gz h <| (W) ?_; clear h ac; intro ac wo h
 refine wh h rfl ?_
 refine gz h <| (xk (sP x (by assumption))) <| (W) ?_; clear h ac wo; intro ac wo h
 exact (rt h) (h.retP (by unfold eR; rfl) trivial)
attribute [irreducible] eR
def bK (x : List Ev) : List Ev :=
 (bJ x 0 x.length (eR x.length))
theorem g7 (x : List Ev) (xv : Value) (hl : x.length ≤ 12) (zx : All (SzE 30) x) (w0 w : World) (B : Asn) (hbel : Below w0.heap.size w0 w) (hsep : ∃ Z_, Sep w0.heap.size w [.row (α := Ev) 321 xv x, B] Z_)  : Calls Tryz.prog 245 #[xv, (.func (.func 246) #[] #[])] w (RetY w0 (fun v => v = .tuple #[] ∧ (All (SzE 30) (bK x) ∧ (bK x).length = x.length)) (fun v => [.row (α := Ev) 321 xv (bK x), B])) := by
 refine l7 (N := 14) (args := [xv, (.func (.func 246) #[] #[])]) Tryz.func245 rfl rfl hbel hsep ?_; intro ac h
 have hlenx := h.len 0 rfl
 refine gz h <| (xo (hs := by exact be uu3 Tryz.runUnderlying276 rfl (r := ((x.length : Nat) : Int)) (by rw [IntKind.wrap_u64]; first | omega | grind))) <| (xk (mg x.length og)) <| (W) ?_; clear h ac; intro ac wo h
 refine on1 h 0 rfl (tc (vs := [xv, (.int .i64 0), (.int .i64 ((x.length : Nat) : Int)), (.int .i64 (eR x.length)), (.func (.func 246) #[] #[])]) (A := fun v => [.row (α := Ev) 321 xv (bJ x 0 x.length (eR x.length))]) (cZ Tryz.call284 rfl) (fun w_ B_ hB_ hS_ => gZ x xv 0 x.length (eR x.length) og og og og zx w0 w_ B_ hB_ hS_ )) rfl ?_; clear h ac wo; intro vc ac wo s2 h
 obtain rfl : vc = _ := s2.1
 have p3 := s2.2.2
 have hd : bK x = (bJ x 0 x.length (eR x.length)) := rfl
 refine gz h <| (W) ?_; clear h ac wo; intro ac wo h
 exact retN (vs := []) h rfl .nil rfl ((h.pick [0, 1] (by decide)).retY ⟨rfl, (by rw [hd]; exact ⟨s2.2.1, og⟩)⟩ (by rw [hd]; rfl))
attribute [irreducible] bK
end Go.Sx
namespace Go.Sx
def kB [K : Key] (b : Bd) : Nat := 2 * tk b.at_ + (bif b.behind then 1 else 0)
theorem bb (b : Bool) : (bif b then 1 else 0 : Nat) ≤ 1 := by cases b <;> decide
theorem cmpB [K : Key] {a b : Bd} (ha : Tm a.at_) (hb : Tm b.at_) : bE a b = sgn (kB a) (kB b) := by
  unfold bE kB
  rw [ha.cmp hb]
  have h1 := bb a.behind
  have h2 := bb b.behind
  rcases Nat.lt_trichotomy (tk a.at_) (tk b.at_) with e | e | e
  · rw [gy e, gy (by omega)]; rfl
  · rw [e, eO]
    cases a.behind <;> cases b.behind
    · rw [eO]; rfl
    · rw [gy (by simp)]; rfl
    · rw [g8 (by simp)]; rfl
    · rw [eO]; rfl
  · rw [g8 e, g8 (by omega)]; rfl
theorem kB_inj [K : Key] {a b : Bd} (ha : Tm a.at_) (hb : Tm b.at_) (h : kB a = kB b) : a = b := by
  unfold kB at h
  have h1 := bb a.behind
  have h2 := bb b.behind
  have e : tk a.at_ = tk b.at_ := by omega
  have e2 := (ha.inj hb).1 e
  have e3 : a.behind = b.behind := by
    rw [e] at h
    cases ha : a.behind <;> cases hb : b.behind <;> rw [ha, hb] at h <;> simp at h <;> rfl
  obtain ⟨x, y⟩ := a
  obtain ⟨z, w⟩ := b
  simp only at e2 e3
  rw [e2, e3]
theorem pf (i : Iv) : aB i = ⟨i.lo, i.openLo⟩ := by unfold aB; rfl
theorem pl (i : Iv) : ay i = ⟨i.hi, !i.openHi⟩ := by unfold ay; rfl
theorem gj [K : Key] (i : Iv) : kB (aB i) = e5 i := by rw [pf]; rfl
theorem gM [K : Key] (i : Iv) : (kB (ay i) : Int) = eZ i + 1 := by
  unfold kB ay eZ
  simp only
  cases i.openHi <;> simp <;> omega
theorem Wv.bd [K : Key] {i : Iv} (h : Wv i) : kB (aB i) < kB (ay i) := by
  have h1 := h.le
  have h2 := gM i
  rw [gj]; omega
theorem wv_of [K : Key] {i : Iv} (h : Tv i) (hlt : kB (aB i) < kB (ay i)) : Wv i := by
  rw [pf, pl] at hlt
  have hlt : 2 * tk i.lo + (bif i.openLo then 1 else 0) < 2 * tk i.hi + (bif !i.openHi then 1 else 0) := hlt
  have h1 := bb i.openLo
  have h2 := bb (!i.openHi)
  refine ⟨h, by omega, fun e => ?_⟩
  rw [e] at hlt
  revert hlt
  cases i.openLo <;> cases i.openHi <;> simp
theorem pH (a b : Bd) : aB (a6 a b) = a := by
  unfold aB a6; rfl
theorem rR (a b : Bd) : ay (a6 a b) = b := by
  unfold ay a6
  simp only [Bool.not_not]
theorem iv_ext [K : Key] {i j : Iv} (hi : Tv i) (hj : Tv j) (h1 : kB (aB i) = kB (aB j)) (h2 : kB (ay i) = kB (ay j)) : i = j := by
  have e1 := kB_inj (a := aB i) (b := aB j) (by rw [pf]; exact hi.1) (by rw [pf]; exact hj.1) h1
  have e2 := kB_inj (a := ay i) (b := ay j) (by rw [pl]; exact hi.2) (by rw [pl]; exact hj.2) h2
  rw [pf, pf, Bd.mk.injEq] at e1
  rw [pl, pl, Bd.mk.injEq] at e2
  obtain ⟨lo, hi', ol, oh⟩ := i
  obtain ⟨lo2, hi2, ol2, oh2⟩ := j
  simp only at e1 e2
  obtain ⟨rfl, rfl⟩ := e1
  obtain ⟨rfl, e3⟩ := e2
  rw [show oh = oh2 by cases oh <;> cases oh2 <;> first | rfl | cases e3]
end Go.Sx
namespace Go.Sx
def inI [K : Key] (i : Iv) (x : Nat) : Prop := kB (aB i) ≤ x ∧ x < kB (ay i)
def inP [K : Key] (p : List Iv) (x : Nat) : Prop := ∃ i ∈ p, inI i x
structure Cn [K : Key] (p : List Iv) : Prop where
  wv : ∀ i ∈ p, Wv i
  sep : p.Pairwise fun i j => kB (ay i) < kB (aB j)
theorem jl [K : Key] (x : Nat) : ¬ inP [] x := fun ⟨_, h, _⟩ => by cases h
theorem cY [K : Key] {i : Iv} {p : List Iv} {x : Nat} : inP (i :: p) x ↔ inI i x ∨ inP p x := by
  constructor
  · rintro ⟨j, hj, h⟩
    rcases List.mem_cons.1 hj with rfl | hj
    · exact .inl h
    · exact .inr ⟨j, hj, h⟩
  · rintro (h | ⟨j, hj, h⟩)
    · exact ⟨i, List.mem_cons_self .., h⟩
    · exact ⟨j, List.mem_cons_of_mem _ hj, h⟩
theorem inP_app [K : Key] {p q : List Iv} {x : Nat} : inP (p ++ q) x ↔ inP p x ∨ inP q x := by
  constructor
  · rintro ⟨j, hj, h⟩
    rcases List.mem_append.1 hj with hj | hj
    · exact .inl ⟨j, hj, h⟩
    · exact .inr ⟨j, hj, h⟩
  · rintro (⟨j, hj, h⟩ | ⟨j, hj, h⟩)
    · exact ⟨j, List.mem_append_left _ hj, h⟩
    · exact ⟨j, List.mem_append_right _ hj, h⟩
theorem Cn.nil [K : Key] : Cn [] := ⟨fun _ h => (by cases h), List.Pairwise.nil⟩
theorem Cn.tail [K : Key] {i : Iv} {p : List Iv} (h : Cn (i :: p)) : Cn p ∧ (∀ j ∈ p, kB (ay i) < kB (aB j)) ∧ Wv i := by
  have h2 := List.pairwise_cons.1 h.sep
  exact ⟨⟨fun j hj => h.wv j (List.mem_cons_of_mem _ hj), h2.2⟩, h2.1, h.wv i (List.mem_cons_self ..)⟩
theorem Cn.behind [K : Key] {i : Iv} {p : List Iv} (h : Cn (i :: p)) {x : Nat} (hx : inP p x) : kB (ay i) < x := by
  obtain ⟨j, hj, h1, _⟩ := hx
  have := h.tail.2.1 j hj
  omega
theorem Cn.ext [K : Key] : ∀ {p q : List Iv}, Cn p → Cn q → (∀ x, inP p x ↔ inP q x) → p = q
  | [], [], _, _, _ => rfl
  | [], j :: q, _, hq, h => absurd ((h _).2 (cY.2 (.inl ⟨Nat.le_refl _, (hq.tail.2.2).bd⟩))) (jl _)
  | i :: p, [], hp, _, h => absurd ((h _).1 (cY.2 (.inl ⟨Nat.le_refl _, (hp.tail.2.2).bd⟩))) (jl _)
  | i :: p, j :: q, hp, hq, h => by
    have wi := hp.tail.2.2
    have wj := hq.tail.2.2
    have bi := wi.bd
    have bj := wj.bd
    have f1 : kB (aB j) ≤ kB (aB i) := by
      rcases cY.1 ((h _).1 (cY.2 (.inl ⟨Nat.le_refl _, bi⟩))) with h1 | h1
      · exact h1.1
      · have := hq.behind h1; omega
    have f2 : kB (aB i) ≤ kB (aB j) := by
      rcases cY.1 ((h _).2 (cY.2 (.inl ⟨Nat.le_refl _, bj⟩))) with h1 | h1
      · exact h1.1
      · have := hp.behind h1; omega
    have l1 : ¬ kB (ay i) < kB (ay j) := fun hl => by
      rcases cY.1 ((h (kB (ay i))).2 (cY.2 (.inl ⟨by omega, hl⟩))) with h1 | h1
      · have := h1.2; omega
      · have := hp.behind h1; omega
    have l2 : ¬ kB (ay j) < kB (ay i) := fun hl => by
      rcases cY.1 ((h (kB (ay j))).1 (cY.2 (.inl ⟨by omega, hl⟩))) with h1 | h1
      · have := h1.2; omega
      · have := hq.behind h1; omega
    have e : i = j := iv_ext wi.1 wj.1 (by omega) (by omega)
    subst e
    rw [Cn.ext hp.tail.1 hq.tail.1 fun x => ⟨fun hx => ?_, fun hx => ?_⟩]
    · rcases cY.1 ((h x).1 (cY.2 (.inr hx))) with h1 | h1
      · have := hp.behind hx; have := h1.2; omega
      · exact h1
    · rcases cY.1 ((h x).2 (cY.2 (.inr hx))) with h1 | h1
      · have := hq.behind hx; have := h1.2; omega
      · exact h1
def sm [K : Key] (c : Ev → Int) : List Ev → Nat → Int
  | [], _ => 0
  | e :: r, x => (if kB e.at_ ≤ x then c e else 0) + sm c r x
def rs (c : Ev → Int) : List Ev → Int
  | [] => 0
  | e :: r => c e + rs c r
variable {c : Ev → Int}
theorem un [K : Key] (a b : List Ev) (x : Nat) : sm c (a ++ b) x = sm c a x + sm c b x := by
  induction a with
  | nil => show sm c b x = 0 + sm c b x; omega
  | cons e a ih => show (if kB e.at_ ≤ x then c e else 0) + sm c (a ++ b) x = (if kB e.at_ ≤ x then c e else 0) + sm c a x + sm c b x; rw [ih]; omega
theorem r8 (a b : List Ev) : rs c (a ++ b) = rs c a + rs c b := by
  induction a with
  | nil => show rs c b = 0 + rs c b; omega
  | cons e a ih => show c e + rs c (a ++ b) = c e + rs c a + rs c b; rw [ih]; omega
theorem um [K : Key] {a b : List Ev} (h : a.Perm b) (x : Nat) : sm c a x = sm c b x := by
  induction h with
  | nil => rfl
  | cons e _ ih => show _ + _ = _ + _; rw [ih]
  | swap e e' l => show (if kB e'.at_ ≤ x then c e' else 0) + ((if kB e.at_ ≤ x then c e else 0) + sm c l x) = (if kB e.at_ ≤ x then c e else 0) + ((if kB e'.at_ ≤ x then c e' else 0) + sm c l x); omega
  | trans _ _ h1 h2 => rw [h1, h2]
theorem uC {a b : List Ev} (h : a.Perm b) : rs c a = rs c b := by
  induction h with
  | nil => rfl
  | cons e _ ih => show _ + _ = _ + _; rw [ih]
  | swap e e' l => show c e' + (c e + rs c l) = c e + (c e' + rs c l); omega
  | trans _ _ h1 h2 => rw [h1, h2]
theorem uo [K : Key] {a : List Ev} {x : Nat} (h : ∀ e ∈ a, kB e.at_ ≤ x) : sm c a x = rs c a := by
  induction a with
  | nil => rfl
  | cons e a ih =>
    show (if kB e.at_ ≤ x then c e else 0) + sm c a x = c e + rs c a
    rw [if_pos (h e (List.mem_cons_self ..)), ih fun e' he => h e' (List.mem_cons_of_mem _ he)]
theorem qZ [K : Key] {a : List Ev} {x : Nat} (h : ∀ e ∈ a, x < kB e.at_) : sm c a x = 0 := by
  induction a with
  | nil => rfl
  | cons e a ih =>
    show (if kB e.at_ ≤ x then c e else 0) + sm c a x = 0
    rw [if_neg (by have := h e (List.mem_cons_self ..); omega), ih fun e' he => h e' (List.mem_cons_of_mem _ he)]
    rfl
def far [K : Key] : List Ev → Nat
  | [] => 0
  | e :: r => kB e.at_ + far r
theorem vz [K : Key] : ∀ {a : List Ev}, ∀ e ∈ a, kB e.at_ ≤ far a
  | [], _, h => by cases h
  | e' :: a, e, h => by
    rcases List.mem_cons.1 h with rfl | h
    · exact Nat.le_add_right _ _
    · exact Nat.le_trans (vz e h) (Nat.le_add_left _ _)
def nxe (e : Ev) : List Ev → Bool
  | [] => false
  | e2 :: _ => bE e.at_ e2.at_ == 0
def swS (keep : Bool → Bool → Bool) : List Ev → List Iv → Bool → Bd → Int → Int → List Iv
  | [], out, _, _, _, _ => out
  | e :: r, out, in_, fr, n0, n1 =>
    bif (nxe e r) then swS keep r out in_ fr (n0 + e.b0) (n1 + e.b1)
    else bif (keep (decide (n0 + e.b0 > 0)) (decide (n1 + e.b1 > 0))) && !in_ then swS keep r out (keep (decide (n0 + e.b0 > 0)) (decide (n1 + e.b1 > 0))) e.at_ (n0 + e.b0) (n1 + e.b1)
    else bif (!(keep (decide (n0 + e.b0 > 0)) (decide (n1 + e.b1 > 0)))) && in_ then swS keep r (out ++ [a6 fr e.at_]) (keep (decide (n0 + e.b0 > 0)) (decide (n1 + e.b1 > 0))) fr (n0 + e.b0) (n1 + e.b1)
    else swS keep r out (keep (decide (n0 + e.b0 > 0)) (decide (n1 + e.b1 > 0))) fr (n0 + e.b0) (n1 + e.b1)
theorem eqz [K : Key] {a b : Bd} (ha : Tm a.at_) (hb : Tm b.at_) : (bE a b == 0) = decide (kB a = kB b) := by
  rw [cmpB ha hb]
  by_cases e : kB a = kB b
  · rw [e, eO, decide_eq_true rfl]; rfl
  · rw [decide_eq_false e]
    exact beq_eq_false_iff_ne.2 fun h => e (sgn_zero.1 h)
theorem not_in [K : Key] {out : List Iv} {y x : Nat} (h : ∀ i ∈ out, kB (ay i) < y) (hx : y ≤ x) : ¬ inP out x := fun ⟨i, hi, _, h2⟩ => by have := h i hi; omega
def b0c : Ev → Int := fun e => e.b0
def b1c : Ev → Int := fun e => e.b1
theorem uh [K : Key] {keep : Bool → Bool → Bool} {S : List Ev} (hT : ∀ e ∈ S, Tm e.at_.at_) (hs : S.Pairwise fun a b => kB a.at_ ≤ kB b.at_) (hend : keep (decide (rs b0c S > 0)) (decide (rs b1c S > 0)) = false) :
    ∀ (s p : List Ev) (out : List Iv) (in_ : Bool) (fr : Bd) (n0 n1 : Int), S = p ++ s → n0 = rs b0c p → n1 = rs b1c p →
      (∀ x, (∀ e ∈ s, x < kB e.at_) → ((inP out x ∨ (in_ = true ∧ kB fr ≤ x)) ↔ keep (decide (sm b0c S x > 0)) (decide (sm b1c S x > 0)) = true)) →
      Cn out → (∀ i ∈ out, ∀ e ∈ s, kB (ay i) < kB e.at_) →
      (in_ = true → Tm fr.at_ ∧ (∀ e ∈ s, kB fr < kB e.at_) ∧ ∀ i ∈ out, kB (ay i) < kB fr) →
      Cn (swS keep s out in_ fr n0 n1) ∧ ∀ x, inP (swS keep s out in_ fr n0 n1) x ↔ keep (decide (sm b0c S x > 0)) (decide (sm b1c S x > 0)) = true
  | [], p, out, in_, fr, n0, n1, hS, _, _, hR, hC, _, hI => by
    refine ⟨hC, fun x => ?_⟩
    show inP out x ↔ _
    cases in_ with
    | false =>
      rw [← hR x (fun _ h => by cases h)]
      exact ⟨.inl, fun h => h.resolve_right fun h => by cases h.1⟩
    | true =>
      exfalso
      have h1 := (hR (kB fr + far S) (fun _ h => by cases h)).1 (.inr ⟨rfl, Nat.le_add_right _ _⟩)
      rw [uo (fun e he => Nat.le_trans (vz e he) (Nat.le_add_left _ _)), uo (fun e he => Nat.le_trans (vz e he) (Nat.le_add_left _ _)), hend] at h1
      cases h1
  | e :: r, p, out, in_, fr, n0, n1, hS, hn0, hn1, hR, hC, hL, hI => by
    have hS2 : S = (p ++ [e]) ++ r := by rw [hS]; simp
    have hTe := hT e (by rw [hS]; simp)
    have hm0 : n0 + e.b0 = rs b0c (p ++ [e]) := by rw [r8, hn0]; show _ = rs b0c p + (e.b0 + 0); omega
    have hm1 : n1 + e.b1 = rs b1c (p ++ [e]) := by rw [r8, hn1]; show _ = rs b1c p + (e.b1 + 0); omega
    have hs2 := hs
    rw [hS2, List.pairwise_append] at hs2
    have hpe : ∀ e' ∈ p ++ [e], kB e'.at_ ≤ kB e.at_ := fun e' he' => by
      have h1 := hs
      rw [hS, List.pairwise_append] at h1
      rcases List.mem_append.1 he' with h2 | h2
      · exact h1.2.2 e' h2 e (List.mem_cons_self ..)
      · rw [List.mem_singleton.1 h2]; exact Nat.le_refl _
    have her : ∀ e' ∈ r, kB e.at_ ≤ kB e'.at_ := fun e' he' => hs2.2.2 e (by simp) e' he'
    cases ht : nxe e r with
    | true =>
      obtain ⟨e2, r2, rfl⟩ : ∃ e2 r2, r = e2 :: r2 := by
        cases r with
        | nil => cases ht
        | cons e2 r2 => exact ⟨e2, r2, rfl⟩
      have hk : kB e.at_ = kB e2.at_ := by
        have ht : (bE e.at_ e2.at_ == 0) = true := ht
        rw [eqz hTe (hT e2 (by rw [hS]; simp)), decide_eq_true_eq] at ht
        exact ht
      rw [show swS keep (e :: e2 :: r2) out in_ fr n0 n1 = swS keep (e2 :: r2) out in_ fr (n0 + e.b0) (n1 + e.b1) by
        show (bif (nxe e (e2 :: r2)) then _ else _) = _
        rw [ht]; rfl]
      refine uh hT hs hend (e2 :: r2) (p ++ [e]) out in_ fr _ _ hS2 hm0 hm1 (fun x hx => hR x fun e' he' => ?_) hC (fun i hi e' he' => hL i hi e' (List.mem_cons_of_mem _ he')) (fun hin => ⟨(hI hin).1, fun e' he' => (hI hin).2.1 e' (List.mem_cons_of_mem _ he'), (hI hin).2.2⟩)
      rcases List.mem_cons.1 he' with rfl | he'
      · rw [hk]; exact hx e2 (List.mem_cons_self ..)
      · exact hx e' he'
    | false =>
      have hgt : ∀ e' ∈ r, kB e.at_ < kB e'.at_ := fun e' he' => by
        cases r with
        | nil => cases he'
        | cons e2 r2 =>
          have ht : (bE e.at_ e2.at_ == 0) = false := ht
          rw [eqz hTe (hT e2 (by rw [hS]; simp)), decide_eq_false_iff_not] at ht
          have h1 := her e2 (List.mem_cons_self ..)
          have h2 := List.pairwise_cons.1 hs2.2.1
          rcases List.mem_cons.1 he' with rfl | he'
          · omega
          · have := h2.1 e' he'; omega
      have hK : ∀ x, kB e.at_ ≤ x → (∀ e' ∈ r, x < kB e'.at_) → keep (decide (sm b0c S x > 0)) (decide (sm b1c S x > 0)) = keep (decide (n0 + e.b0 > 0)) (decide (n1 + e.b1 > 0)) := fun x h1 h2 => by
        have q : ∀ c : Ev → Int, sm c S x = rs c (p ++ [e]) := fun c => by
          rw [hS2, un, uo (fun e' he' => Nat.le_trans (hpe e' he') h1), qZ h2]; omega
        rw [q, q, hm0, hm1]
      have hlow : ∀ x, x < kB e.at_ → ∀ e' ∈ e :: r, x < kB e'.at_ := fun x hx e' he' => by
        rcases List.mem_cons.1 he' with rfl | he'
        · exact hx
        · have := her e' he'; omega
      have hLe : ∀ i ∈ out, kB (ay i) < kB e.at_ := fun i hi => hL i hi e (List.mem_cons_self ..)
      have hLr : ∀ i ∈ out, ∀ e' ∈ r, kB (ay i) < kB e'.at_ := fun i hi e' he' => hL i hi e' (List.mem_cons_of_mem _ he')
      have ih := fun out in_ fr => uh hT hs hend r (p ++ [e]) out in_ fr _ _ hS2 hm0 hm1
      rw [show swS keep (e :: r) out in_ fr n0 n1 = bif (keep (decide (n0 + e.b0 > 0)) (decide (n1 + e.b1 > 0))) && !in_ then swS keep r out (keep (decide (n0 + e.b0 > 0)) (decide (n1 + e.b1 > 0))) e.at_ (n0 + e.b0) (n1 + e.b1)
        else bif (!(keep (decide (n0 + e.b0 > 0)) (decide (n1 + e.b1 > 0)))) && in_ then swS keep r (out ++ [a6 fr e.at_]) (keep (decide (n0 + e.b0 > 0)) (decide (n1 + e.b1 > 0))) fr (n0 + e.b0) (n1 + e.b1)
        else swS keep r out (keep (decide (n0 + e.b0 > 0)) (decide (n1 + e.b1 > 0))) fr (n0 + e.b0) (n1 + e.b1) by
        show (bif (nxe e r) then _ else _) = _
        rw [ht]; rfl]
      revert hK
      generalize keep (decide (n0 + e.b0 > 0)) (decide (n1 + e.b1 > 0)) = now
      intro hK
      have hall : ∀ x, x < kB e.at_ ∨ kB e.at_ ≤ x := fun x => Nat.lt_or_ge x _
      cases now with
      | true =>
        cases in_ with
        | false =>
          refine ih out true e.at_ (fun x hx => ?_) hC hLr (fun _ => ⟨hTe, hgt, hLe⟩)
          rcases hall x with h1 | h1
          · rw [← hR x (hlow x h1)]
            exact ⟨fun h => .inl (h.resolve_right fun h => by have := h.2; omega), fun h => .inl (h.resolve_right fun h => by cases h.1)⟩
          · rw [hK x h1 hx]
            exact ⟨fun _ => rfl, fun _ => .inr ⟨rfl, h1⟩⟩
        | true =>
          obtain ⟨i1, i2, i3⟩ := hI rfl
          refine ih out true fr (fun x hx => ?_) hC hLr (fun _ => ⟨i1, fun e' he' => i2 e' (List.mem_cons_of_mem _ he'), i3⟩)
          rcases hall x with h1 | h1
          · exact hR x (hlow x h1)
          · rw [hK x h1 hx]
            have := i2 e (List.mem_cons_self ..)
            exact ⟨fun _ => rfl, fun _ => .inr ⟨rfl, by omega⟩⟩
      | false =>
        cases in_ with
        | false =>
          refine ih out false fr (fun x hx => ?_) hC hLr (fun h => by cases h)
          rcases hall x with h1 | h1
          · exact hR x (hlow x h1)
          · rw [hK x h1 hx]
            exact ⟨fun h => h.elim (fun h => absurd h (not_in hLe h1)) fun h => (by cases h.1), fun h => (by cases h)⟩
        | true =>
          obtain ⟨i1, i2, i3⟩ := hI rfl
          have hfe := i2 e (List.mem_cons_self ..)
          have hin : ∀ x, inI (a6 fr e.at_) x ↔ (kB fr ≤ x ∧ x < kB e.at_) := fun x => by unfold inI; rw [pH, rR]
          have hw : Wv (a6 fr e.at_) := by
            refine wv_of ⟨?_, ?_⟩ (by rw [pH, rR]; exact hfe)
            · unfold a6; exact i1
            · unfold a6; exact hTe
          refine ih (out ++ [a6 fr e.at_]) false fr (fun x hx => ?_) ⟨fun i hi => ?_, ?_⟩ (fun i hi e' he' => ?_) (fun h => by cases h)
          · have hx2 : inP (out ++ [a6 fr e.at_]) x ↔ inP out x ∨ (kB fr ≤ x ∧ x < kB e.at_) := by
              rw [inP_app, cY, hin]
              exact ⟨fun h => h.imp id fun h => h.resolve_right (jl x), fun h => h.imp id .inl⟩
            rw [hx2]
            rcases hall x with h1 | h1
            · rw [← hR x (hlow x h1)]
              constructor
              · rintro ((h | h) | h)
                · exact .inl h
                · exact .inr ⟨rfl, h.1⟩
                · cases h.1
              · rintro (h | h)
                · exact .inl (.inl h)
                · exact .inl (.inr ⟨h.2, h1⟩)
            · rw [hK x h1 hx]
              constructor
              · rintro ((h | h) | h)
                · exact absurd h (not_in hLe h1)
                · omega
                · cases h.1
              · intro h; cases h
          · rcases List.mem_append.1 hi with hi | hi
            · exact hC.wv i hi
            · rw [List.mem_singleton.1 hi]; exact hw
          · rw [List.pairwise_append]
            refine ⟨hC.sep, List.pairwise_singleton _ _, fun i hi j hj => ?_⟩
            rw [List.mem_singleton.1 hj, pH]
            exact i3 i hi
          · rcases List.mem_append.1 hi with hi | hi
            · exact hLr i hi e' he'
            · rw [List.mem_singleton.1 hi, rR]
              exact hgt e' he'
def evA (a : List Iv) : List Ev := a.flatMap fun i => [⟨aB i, 1, 0⟩, ⟨ay i, -1, 0⟩]
def evB (b : List Iv) : List Ev := b.flatMap fun i => [⟨aB i, 0, 1⟩, ⟨ay i, 0, -1⟩]
theorem sH [K : Key] {i : Iv} (h : Wv i) (x : Nat) : (if kB (aB i) ≤ x then (1 : Int) else 0) + ((if kB (ay i) ≤ x then (-1 : Int) else 0)) = if kB (aB i) ≤ x ∧ x < kB (ay i) then 1 else 0 := by
  have := h.bd
  by_cases h1 : kB (aB i) ≤ x
  · by_cases h2 : kB (ay i) ≤ x
    · rw [if_pos h1, if_pos h2, if_neg (by omega)]; rfl
    · rw [if_pos h1, if_neg h2, if_pos ⟨h1, by omega⟩]; rfl
  · rw [if_neg h1, if_neg (by omega), if_neg (by omega)]; rfl
theorem evA_sm [K : Key] : ∀ {a : List Iv}, (∀ i ∈ a, Wv i) → ∀ x, 0 ≤ sm b0c (evA a) x ∧ (0 < sm b0c (evA a) x ↔ inP a x)
  | [], _, x => ⟨Int.le_refl _, ⟨fun h => absurd h (Int.lt_irrefl _), fun h => absurd h (jl x)⟩⟩
  | i :: a, h, x => by
    obtain ⟨h1, h2⟩ := evA_sm (a := a) (fun j hj => h j (List.mem_cons_of_mem _ hj)) x
    have e : sm b0c (evA (i :: a)) x = ((if kB (aB i) ≤ x then (1 : Int) else 0) + ((if kB (ay i) ≤ x then (-1 : Int) else 0))) + sm b0c (evA a) x := by
      show (if kB (aB i) ≤ x then (1 : Int) else 0) + ((if kB (ay i) ≤ x then (-1 : Int) else 0) + sm b0c (evA a) x) = _
      omega
    rw [e, sH (h i (List.mem_cons_self ..)), cY, ← h2]
    unfold inI
    by_cases h3 : kB (aB i) ≤ x ∧ x < kB (ay i)
    · rw [if_pos h3]; exact ⟨by omega, ⟨fun _ => .inl h3, fun _ => by omega⟩⟩
    · rw [if_neg h3]; exact ⟨by omega, ⟨fun h4 => .inr (by omega), fun h4 => by have := h4.resolve_left h3; omega⟩⟩
theorem evB_sm [K : Key] : ∀ {a : List Iv}, (∀ i ∈ a, Wv i) → ∀ x, 0 ≤ sm b1c (evB a) x ∧ (0 < sm b1c (evB a) x ↔ inP a x)
  | [], _, x => ⟨Int.le_refl _, ⟨fun h => absurd h (Int.lt_irrefl _), fun h => absurd h (jl x)⟩⟩
  | i :: a, h, x => by
    obtain ⟨h1, h2⟩ := evB_sm (a := a) (fun j hj => h j (List.mem_cons_of_mem _ hj)) x
    have e : sm b1c (evB (i :: a)) x = ((if kB (aB i) ≤ x then (1 : Int) else 0) + ((if kB (ay i) ≤ x then (-1 : Int) else 0))) + sm b1c (evB a) x := by
      show (if kB (aB i) ≤ x then (1 : Int) else 0) + ((if kB (ay i) ≤ x then (-1 : Int) else 0) + sm b1c (evB a) x) = _
      omega
    rw [e, sH (h i (List.mem_cons_self ..)), cY, ← h2]
    unfold inI
    by_cases h3 : kB (aB i) ≤ x ∧ x < kB (ay i)
    · rw [if_pos h3]; exact ⟨by omega, ⟨fun _ => .inl h3, fun _ => by omega⟩⟩
    · rw [if_neg h3]; exact ⟨by omega, ⟨fun h4 => .inr (by omega), fun h4 => by have := h4.resolve_left h3; omega⟩⟩
theorem evA_0 [K : Key] : ∀ (a : List Iv) (x : Nat), sm b1c (evA a) x = 0 ∧ rs b1c (evA a) = 0 ∧ rs b0c (evA a) = 0
  | [], _ => ⟨rfl, rfl, rfl⟩
  | i :: a, x => by
    obtain ⟨h1, h2, h3⟩ := evA_0 a x
    refine ⟨?_, ?_, ?_⟩
    · show (if kB (aB i) ≤ x then (0 : Int) else 0) + ((if kB (ay i) ≤ x then (0 : Int) else 0) + sm b1c (evA a) x) = 0
      rw [h1]; simp
    · show (0 : Int) + (0 + rs b1c (evA a)) = 0
      rw [h2]; rfl
    · show (1 : Int) + (-1 + rs b0c (evA a)) = 0
      rw [h3]; rfl
theorem evB_0 [K : Key] : ∀ (a : List Iv) (x : Nat), sm b0c (evB a) x = 0 ∧ rs b0c (evB a) = 0 ∧ rs b1c (evB a) = 0
  | [], _ => ⟨rfl, rfl, rfl⟩
  | i :: a, x => by
    obtain ⟨h1, h2, h3⟩ := evB_0 a x
    refine ⟨?_, ?_, ?_⟩
    · show (if kB (aB i) ≤ x then (0 : Int) else 0) + ((if kB (ay i) ≤ x then (0 : Int) else 0) + sm b0c (evB a) x) = 0
      rw [h1]; simp
    · show (0 : Int) + (0 + rs b0c (evB a)) = 0
      rw [h2]; rfl
    · show (1 : Int) + (-1 + rs b1c (evB a)) = 0
      rw [h3]; rfl
theorem vC [K : Key] {a b : List Iv} (ha : ∀ i ∈ a, Wv i) (hb : ∀ i ∈ b, Wv i) : ∀ e ∈ evA a ++ evB b, Tm e.at_.at_ := fun e he => by
  rcases List.mem_append.1 he with he | he
  · obtain ⟨i, hi, he⟩ := List.mem_flatMap.1 he
    have := (ha i hi).1
    rcases List.mem_cons.1 he with rfl | he
    · show Tm (aB i).at_; rw [pf]; exact this.1
    · rw [List.mem_singleton.1 he]; show Tm (ay i).at_; rw [pl]; exact this.2
  · obtain ⟨i, hi, he⟩ := List.mem_flatMap.1 he
    have := (hb i hi).1
    rcases List.mem_cons.1 he with rfl | he
    · show Tm (aB i).at_; rw [pf]; exact this.1
    · rw [List.mem_singleton.1 he]; show Tm (ay i).at_; rw [pl]; exact this.2
open Classical in
theorem mC [K : Key] {keep : Bool → Bool → Bool} (hk : keep false false = false) {a b : List Iv} (ha : ∀ i ∈ a, Wv i) (hb : ∀ i ∈ b, Wv i) {S : List Ev} (hp : S.Perm (evA a ++ evB b)) (hs : S.Pairwise fun a b => kB a.at_ ≤ kB b.at_) (fr : Bd) :
    Cn (swS keep S [] false fr 0 0) ∧ ∀ x, inP (swS keep S [] false fr 0 0) x ↔ keep (decide (inP a x)) (decide (inP b x)) = true := by
  have hT : ∀ e ∈ S, Tm e.at_.at_ := fun e he => vC ha hb e (hp.mem_iff.1 he)
  have h0 : ∀ x, sm b0c S x = sm b0c (evA a) x := fun x => by rw [um hp, un, (evB_0 b x).1]; omega
  have h1 : ∀ x, sm b1c S x = sm b1c (evB b) x := fun x => by rw [um hp, un, (evA_0 a x).1]; omega
  have hend : keep (decide (rs b0c S > 0)) (decide (rs b1c S > 0)) = false := by
    rw [uC hp, uC hp, r8, r8, (evA_0 a 0).2.2, (evB_0 b 0).2.1, (evA_0 a 0).2.1, (evB_0 b 0).2.2]
    exact hk
  have hx : ∀ x, keep (decide (sm b0c S x > 0)) (decide (sm b1c S x > 0)) = keep (decide (inP a x)) (decide (inP b x)) := fun x => by
    rw [h0, h1, decide_eq_decide.2 (evA_sm ha x).2, decide_eq_decide.2 (evB_sm hb x).2]
  obtain ⟨r1, r2⟩ := uh hT hs hend S [] [] false fr 0 0 rfl rfl rfl (fun x hx2 => by
    rw [qZ hx2, qZ hx2]
    constructor
    · rintro (h | h)
      · exact absurd h (jl x)
      · cases h.1
    · intro h
      rw [show decide ((0 : Int) > 0) = false from rfl, hk] at h; cases h) Cn.nil (fun _ h => by cases h) (fun h => by cases h)
  exact ⟨r1, fun x => by rw [r2, hx]⟩
end Go.Sx
namespace Go.Proofs
open Go.Shelf
def Tryz.laysSort_ren : Go.Shelf.Ren := ⟨fun | 6 => 245 | 15 => 285 | 14 => 284 | 28 => 296 | 29 => 255 | 20 => 297 | 21 => 298 | 22 => 299 | 23 => 300 | 24 => 301 | 25 => 302 | 26 => 303 | 27 => 304 | 46 => 317 | 47 => 318 | 48 => 319 | 49 => 320 | 50 => 321 | 57 => 334 | n => n, fun | 22 => 317 | 24 => 321 | 25 => 323 | 3 => 3 | 39 => 276 | 0 => 0 | 53 => 341 | 55 => 254 | 4 => 4 | 46 => 375 | 45 => 374 | 50 => 72 | 5 => 5 | 9 => 9 | 66 => 393 | 70 => 397 | 76 => 415 | 77 => 416 | n => n, fun | n => n⟩
theorem Tryz.laysSort : Go.Proofs.SlLaysF0.n6 Tryz.prog Tryz.laysSort_ren := {
  mixed := by kernel_rfl
  f6 := ⟨Tryz.f245.name, by decide, Tryz.func245.trans (congrArg some (by kernel_rfl))⟩
  f14 := ⟨Tryz.f284.name, by decide, Tryz.func284.trans (congrArg some (by kernel_rfl))⟩
  f15 := Tryz.func285.trans (congrArg some (by kernel_rfl))
  f20 := ⟨Tryz.f297.name, by decide, Tryz.func297.trans (congrArg some (by kernel_rfl))⟩
  f21 := ⟨Tryz.f298.name, by decide, Tryz.func298.trans (congrArg some (by kernel_rfl))⟩
  f22 := ⟨Tryz.f299.name, by decide, Tryz.func299.trans (congrArg some (by kernel_rfl))⟩
  f23 := ⟨Tryz.f300.name, by decide, Tryz.func300.trans (congrArg some (by kernel_rfl))⟩
  f24 := ⟨Tryz.f301.name, by decide, Tryz.func301.trans (congrArg some (by kernel_rfl))⟩
  f25 := ⟨Tryz.f302.name, by decide, Tryz.func302.trans (congrArg some (by kernel_rfl))⟩
  f26 := ⟨Tryz.f303.name, by decide, Tryz.func303.trans (congrArg some (by kernel_rfl))⟩
  f27 := ⟨Tryz.f304.name, by decide, Tryz.func304.trans (congrArg some (by kernel_rfl))⟩
  f28 := Tryz.func296.trans (congrArg some (by kernel_rfl))
  f29 := Tryz.func255.trans (congrArg some (by kernel_rfl))
  f46 := ⟨Tryz.f317.name, by decide, Tryz.func317.trans (congrArg some (by kernel_rfl))⟩
  f47 := Tryz.func318.trans (congrArg some (by kernel_rfl))
  f48 := Tryz.func319.trans (congrArg some (by kernel_rfl))
  f49 := ⟨Tryz.f320.name, by decide, Tryz.func320.trans (congrArg some (by kernel_rfl))⟩
  f50 := ⟨Tryz.f321.name, by decide, Tryz.func321.trans (congrArg some (by kernel_rfl))⟩
  f57 := ⟨Tryz.f334.name, by decide, Tryz.func334.trans (congrArg some (by kernel_rfl))⟩
  t0 := Tryz.underlying0
  a0 := Tryz.isAgg0
  z0 := Tryz.sizeOf0
  v0 := Tryz.zeroValue0
  t3 := Tryz.underlying3
  a3 := Tryz.isAgg3
  z3 := Tryz.sizeOf3
  v3 := Tryz.zeroValue3
  t4 := Tryz.underlying4
  a4 := Tryz.isAgg4
  z4 := Tryz.sizeOf4
  v4 := Tryz.zeroValue4
  t5 := Tryz.underlying5
  a5 := Tryz.isAgg5
  z5 := Tryz.sizeOf5
  v5 := Tryz.zeroValue5
  t9 := Tryz.underlying9
  a9 := Tryz.isAgg9
  z9 := Tryz.sizeOf9
  v9 := Tryz.zeroValue9
  t22 := Tryz.underlying317
  a22 := Tryz.isAgg317
  z22 := Tryz.sizeOf317
  v22 := Tryz.zeroValue317
  t25 := Tryz.underlying323
  a25 := Tryz.isAgg323
  z25 := Tryz.sizeOf323
  v25 := Tryz.zeroValue323
  t39 := Tryz.underlying276
  a39 := Tryz.isAgg276
  z39 := Tryz.sizeOf276
  v39 := Tryz.zeroValue276
  t45 := Tryz.underlying374
  a45 := Tryz.isAgg374
  z45 := Tryz.sizeOf374
  v45 := Tryz.zeroValue374
  t46 := Tryz.underlying375
  a46 := Tryz.isAgg375
  z46 := Tryz.sizeOf375
  v46 := Tryz.zeroValue375
  t50 := Tryz.underlying72
  a50 := Tryz.isAgg72
  z50 := Tryz.sizeOf72
  v50 := Tryz.zeroValue72
  t53 := Tryz.underlying341
  a53 := Tryz.isAgg341
  z53 := Tryz.sizeOf341
  v53 := Tryz.zeroValue341
  t55 := Tryz.underlying254
  a55 := Tryz.isAgg254
  z55 := Tryz.sizeOf254
  v55 := Tryz.zeroValue254
  t66 := Tryz.underlying393
  a66 := Tryz.isAgg393
  z66 := Tryz.sizeOf393
  v66 := Tryz.zeroValue393
  t70 := Tryz.underlying397
  a70 := Tryz.isAgg397
  z70 := Tryz.sizeOf397
  v70 := Tryz.zeroValue397
  t76 := Tryz.underlying415
  a76 := Tryz.isAgg415
  z76 := Tryz.sizeOf415
  v76 := Tryz.zeroValue415
  t77 := Tryz.underlying416
  a77 := Tryz.isAgg416
  z77 := Tryz.sizeOf416
  v77 := Tryz.zeroValue416 }
end Go.Proofs
namespace Go.Sx
open Go Go.RowKit Go.Proofs Go.Sort Go.Lib
structure TE [K : Key] where
  e : Ev
  tm : Tm e.at_.at_
instance yM6_2 [K : Key] : Inhabited TE := ⟨⟨default, sT⟩⟩
def cfT [K : Key] (x y : TE) : Int := bI x.1 y.1
theorem sL [K : Key] (x y : TE) : ltOf cfT x y = decide (kB x.1.at_ < kB y.1.at_) := by
  unfold ltOf cfT bI
  rw [cmpB x.2 y.2]
  exact decide_eq_decide.2 jE
theorem we [K : Key] : SWO (ltOf cfT) where
  irrefl x := by rw [sL]; exact decide_eq_false (Nat.lt_irrefl _)
  trans x y z h1 h2 := by
    rw [sL, decide_eq_true_eq] at *
    omega
  ntrans x y z h1 h2 := by
    rw [sL, decide_eq_false_iff_not] at *
    omega
def pJ [K : Key] (d : Array TE) : Array TE := pdq (ltOf cfT) d 0 d.size (Lib.bitLen d.size) true true
theorem uj [K : Key] (d : Array TE) : (pJ d).size = d.size ∧ (pJ d).toList.Perm d.toList ∧ (pJ d).toList.Pairwise fun a b => kB a.1.at_ ≤ kB b.1.at_ := by
  have h := pdq_sorts (ltOf cfT) we d 0 d.size (Lib.bitLen d.size) true true (Nat.zero_le _) (Nat.le_refl _) (Or.inl rfl)
  obtain ⟨⟨h1, _, h3⟩, h4⟩ := h
  have h1 : (pJ d).size = d.size := h1
  refine ⟨h1, ?_, ?_⟩
  · have h3 : ((pJ d).extract 0 d.size).toList.Perm (d.extract 0 d.size).toList := h3
    rw [← h1] at h3
    rw [h1] at h3
    have e1 : (pJ d).extract 0 d.size = pJ d := by rw [← h1]; simp
    have e2 : d.extract 0 d.size = d := by simp
    rwa [e1, e2] at h3
  · rw [List.pairwise_iff_getElem]
    intro i j hi hj hij
    have hi' : i < (pJ d).size := by simpa using hi
    have hj' : j < (pJ d).size := by simpa using hj
    have h5 := h4 i j (Nat.zero_le _) hij (by rw [← h1]; exact hj')
    have h5 : ltOf cfT (pJ d)[j]! (pJ d)[i]! = false := h5
    rw [getElem!_pos (pJ d) i hi', getElem!_pos (pJ d) j hj', sL, decide_eq_false_iff_not] at h5
    show kB ((pJ d).toList[i]).1.at_ ≤ kB ((pJ d).toList[j]).1.at_
    simp only [Array.getElem_toList]
    omega
def tmB [K : Key] (x : GR) : Bool := decide (x ∈ K.l)
theorem uf [K : Key] {x : GR} : tmB x = true ↔ Tm x := Tm.iff
def tmL [K : Key] (l : List Ev) : Bool := l.all fun e => tmB e.at_.at_
theorem gH [K : Key] {l : List Ev} : tmL l = true ↔ ∀ e ∈ l, Tm e.at_.at_ := by
  unfold tmL
  rw [List.all_eq_true]
  exact ⟨fun h e he => uf.1 (h e he), fun h e he => uf.2 (h e he)⟩
def evT [K : Key] (l : List Ev) (h : tmL l = true) : Array TE := (l.attach.map fun e => (⟨e.1, gH.1 h e.1 e.2⟩ : TE)).toArray
theorem vF [K : Key] (l : List Ev) (h : tmL l = true) : (evT l h).toList.map (fun x => x.1) = l := by
  show ((l.attach.map fun e => (⟨e.1, gH.1 h e.1 e.2⟩ : TE)).map fun x => x.1) = l
  rw [List.map_map]
  exact List.attach_map_subtype_val l
theorem evT_size [K : Key] (l : List Ev) (h : tmL l = true) : (evT l h).size = l.length := by unfold evT; simp
def aN [K : Key] (l : List Ev) : List Ev :=
  if h : tmL l = true then (if l.length ≤ 12 then bK l else (pJ (evT l h)).toList.map fun x => x.1) else l
theorem small_is (l : List Ev) : bK l = qx bI l 0 l.length := by
  unfold bK bJ
  show bk l 0 l.length = _
  unfold bk
  rfl
theorem nV [K : Key] {x : Ev} (hx : Tm x.at_.at_) : ∀ {r : List Ev}, (∀ e ∈ r, Tm e.at_.at_) → (r.Pairwise fun a b => kB b.at_ ≤ kB a.at_) → (gF bI x r).Pairwise fun a b => kB b.at_ ≤ kB a.at_
  | [], _, _ => List.pairwise_singleton _ _
  | y :: q, h, hp => by
    have hy := h y (List.mem_cons_self ..)
    have hp2 := List.pairwise_cons.1 hp
    have hc : bI x y < 0 ↔ kB x.at_ < kB y.at_ := by
      unfold bI
      rw [cmpB hx hy, jE]
    unfold gF
    by_cases hl : bI x y < 0
    · rw [if_pos hl, List.pairwise_cons]
      refine ⟨fun z hz => ?_, nV hx (fun e he => h e (List.mem_cons_of_mem _ he)) hp2.2⟩
      rcases List.mem_cons.1 ((gO (c := bI) x q).mem_iff.1 hz) with rfl | hz
      · have := hc.1 hl; omega
      · exact hp2.1 z hz
    · rw [if_neg hl, List.pairwise_cons]
      have hxy : kB y.at_ ≤ kB x.at_ := Nat.le_of_not_lt fun h2 => hl (hc.2 h2)
      refine ⟨fun z hz => ?_, hp⟩
      rcases List.mem_cons.1 hz with rfl | hz
      · exact hxy
      · exact Nat.le_trans (hp2.1 z hz) hxy
theorem qy [K : Key] : ∀ {s r : List Ev}, (∀ e ∈ s, Tm e.at_.at_) → (∀ e ∈ r, Tm e.at_.at_) → (r.Pairwise fun a b => kB b.at_ ≤ kB a.at_) → (nz bI r s).Pairwise fun a b => kB b.at_ ≤ kB a.at_
  | [], _, _, _, hp => hp
  | x :: s, r, h1, h2, hp => by
    have hx := h1 x (List.mem_cons_self ..)
    show (nz bI (gF bI x r) s).Pairwise _
    exact qy (fun e he => h1 e (List.mem_cons_of_mem _ he)) (fun e he => by
      rcases List.mem_cons.1 ((gO (c := bI) x r).mem_iff.1 he) with rfl | he
      · exact hx
      · exact h2 e he) (nV hx h2 hp)
theorem ot [K : Key] {l : List Ev} (h : ∀ e ∈ l, Tm e.at_.at_) : (aN l).Perm l ∧ (aN l).Pairwise fun a b => kB a.at_ ≤ kB b.at_ := by
  unfold aN
  rw [dif_pos (gH.2 h)]
  by_cases hl : l.length ≤ 12
  · rw [if_pos hl, small_is]
    refine ⟨j3 l, ?_⟩
    rw [ph, List.pairwise_reverse]
    exact qy h (fun _ h => by cases h) List.Pairwise.nil
  · rw [if_neg hl]
    obtain ⟨_, h2, h3⟩ := uj (evT l (gH.2 h))
    refine ⟨?_, by rw [List.pairwise_map]; exact h3⟩
    have := h2.map (fun x : TE => x.1)
    rwa [vF] at this
theorem iJ [K : Key] (l : List Ev) : (aN l).Perm l := by
  by_cases h : ∀ e ∈ l, Tm e.at_.at_
  · exact (ot h).1
  · unfold aN; rw [dif_neg (fun h2 => h (gH.1 h2))]
theorem iT [K : Key] (x : List Ev) (xv : Value) (hl : x.length ≤ 1000) (hT : ∀ e ∈ x, Tm e.at_.at_) (zx : All (SzE 30) x) (w0 w : World) (B : Asn) (hbel : Below w0.heap.size w0 w) (hsep : ∃ Z_, Sep w0.heap.size w [.row (α := Ev) 321 xv x, B] Z_)  : Calls Tryz.prog 245 #[xv, (.func (.func 246) #[] #[])] w (RetY w0 (fun v => v = .tuple #[] ∧ (All (SzE 30) (aN x) ∧ (aN x).length = x.length)) (fun v => [.row (α := Ev) 321 xv (aN x), B])) := by
  have hprop : All (SzE 30) (aN x) ∧ (aN x).length = x.length := ⟨fun e he => zx e ((iJ x).mem_iff.1 he), (iJ x).length_eq⟩
  by_cases h12 : x.length ≤ 12
  · have e : aN x = bK x := by unfold aN; rw [dif_pos (gH.2 hT), if_pos h12]
    rw [e]
    exact g7 x xv h12 zx w0 w B hbel hsep
  · have e : aN x = (pJ (evT x (gH.2 hT))).toList.map (fun x => x.1) := by unfold aN; rw [dif_pos (gH.2 hT), if_neg h12]
    have hsz := evT_size x (gH.2 hT)
    have hsep2 : ∃ Z_, Sep w0.heap.size w [.row (α := Ev) 321 xv ((evT x (gH.2 hT)).toList.map (fun x => x.1)), B] Z_ := by rw [vF]; exact hsep
    have hk := sort_own (P := Tryz.prog) (val := fun x : TE => x.1) (F := 245) (more := [(.func (.func 246) #[] #[])]) (D' := pJ (evT x (gH.2 hT))) (by omega) (uj _).1 hprop hbel hsep2 fun blk cap hv hH hhi hlo => by
      have eg : ∀ args w, (callFunc 246 args).run Tryz.prog w = .ok (.enter 246 args) w := Tryz.call246
      have hc := lays_of (P := Tryz.prog) (val := fun x : TE => x.1) (g := 246) (cf := cfT) (blk := blk) (size := (evT x (gH.2 hT)).size) (w := w) (p := fun x y => (-1 ≤ (bI x.1 y.1) ∧ (bI x.1 y.1) ≤ 1)) (fun a b w => gK a.1 b.1 (e6 (tm_sz a.2) (by decide)) (e6 (tm_sz b.2) (by decide)) w)
      have := AnyQ.slices_SortFunc_eq (P := Tryz.prog) Tryz.laysSort 12 Tryz.isAgg321 zz321 (fun x : TE => Cod.enc x.1) (fun x => Cod.len x.1) (fun x => Cod.one x.1) cfT we 246 #[] blk 0 cap (evT x (gH.2 hT)) w eg hc hH hhi (by omega)
      rw [hv]
      exact this
    rw [← e] at hk
    exact hk
def EvB (e : Ev) : Prop := (-1 ≤ e.b0 ∧ e.b0 ≤ 1) ∧ (-1 ≤ e.b1 ∧ e.b1 ≤ 1)
theorem evb_nil : ∀ e ∈ ([] : List Ev), EvB e := fun _ h => by cases h
theorem vB {l : List Ev} (h : ∀ e ∈ l, EvB e) {x y : Bd} {a b c d : Int} (h1 : (-1 ≤ a ∧ a ≤ 1) ∧ (-1 ≤ b ∧ b ≤ 1)) (h2 : (-1 ≤ c ∧ c ≤ 1) ∧ (-1 ≤ d ∧ d ≤ 1)) : ∀ e ∈ l ++ [⟨x, a, b⟩, ⟨y, c, d⟩], EvB e := fun e he => by
  rcases List.mem_append.1 he with he | he
  · exact h e he
  · rcases List.mem_cons.1 he with rfl | he
    · exact h1
    · rw [List.mem_singleton.1 he]; exact h2
theorem evb_gt [K : Key] {l : List Ev} (h : ∀ e ∈ l, EvB e) (i : Nat) : EvB (gt (aN l) i) := by
  have hp := iJ l
  by_cases hi : i < (aN l).length
  · have : gt (aN l) i ∈ aN l := by
      unfold gt
      rw [List.getD_eq_getElem?_getD, List.getElem?_eq_getElem hi]
      exact List.getElem_mem _
    exact h _ (hp.mem_iff.1 this)
  · have : gt (aN l) i = default := by unfold gt; rw [List.getD_eq_getElem?_getD, List.getElem?_eq_none (by omega)]; rfl
    rw [this]; exact ⟨⟨by decide, by decide⟩, ⟨by decide, by decide⟩⟩
theorem lL {β : Type} [Inhabited β] {A : List β} {i : Nat} (h : i < A.length) : A.take (i + 1) = A.take i ++ [gt A i] := by
  rw [gk h, List.take_append_getElem]
theorem evA_next {l : List Ev} {a : List Iv} {x : Nat} (h : l = evA (a.take x)) (hx : x < a.length) : l ++ [⟨aB (gt a x), 1, 0⟩, ⟨ay (gt a x), -1, 0⟩] = evA (a.take (x + 1)) := by
  rw [h, lL hx]; simp [evA]
theorem evB_next {l : List Ev} {a b : List Iv} {x : Nat} (h : l = evA a ++ evB (b.take x)) (hx : x < b.length) : l ++ [⟨aB (gt b x), 0, 1⟩, ⟨ay (gt b x), 0, -1⟩] = evA a ++ evB (b.take (x + 1)) := by
  rw [h, lL hx]; simp [evB]
end Go.Sx
