/- A part of the proof of movingpointChecks. -/
import Derived.Test.YtbenbmdkhcfcfaaGreatDoorI5
import Derived.Test.YtbenbmdkhcfcfaaGreatDoorI3
import Derived.Test.YtbenbmdkhcfcfaaGreatDoorI4
import Derived.Test.YtbenbmdkhcfcfaaGreatDoorProg
import Derived.Test.YtbenbmdkhcfcfaaGreatDoorI2
set_option linter.unusedVariables false
set_option linter.unusedSimpArgs false
namespace Go.Sx
def sgn (a b : Nat) : Int := if a < b then -1 else if b < a then 1 else 0
theorem tx {x y : GR} (hx : ROk x) (hy : ROk y) : ao y x = - ao x y :=
  (lj hy hx).uniq ((lj hx hy).neg.congr fun k => by grind)
theorem qG {x : GR} (hx : ROk x) : ao x x = 0 := by
  have := tx hx hx; omega
theorem rcmp_lt {x y z : GR} (hx : ROk x) (hy : ROk y) (hz : ROk z) (h1 : ao x y = -1) (h2 : ao y z = -1) : ao x z = -1 := by
  have a := lj hx hy
  have b := lj hy hz
  rw [h1] at a
  rw [h2] at b
  exact (lj hx hz).uniq ((a.add b).congr fun k => by grind)
theorem oI {α : Type} {p q : α → Bool} : ∀ {l : List α}, (∀ z ∈ l, p z = true → q z = true) → (∃ z ∈ l, q z = true ∧ p z = false) → l.countP p < l.countP q
  | [], _, ⟨_, h, _⟩ => by cases h
  | a :: l, h, ⟨z, hz, hq, hp⟩ => by
    have h1 : ∀ z ∈ l, p z = true → q z = true := fun z hz => h z (List.mem_cons_of_mem _ hz)
    have h2 : l.countP p ≤ l.countP q := List.countP_mono_left h1
    rw [List.countP_cons, List.countP_cons]
    rcases List.mem_cons.1 hz with rfl | hm
    · rw [hq, hp]; simp; omega
    · have h3 := oI h1 ⟨z, hm, hq, hp⟩
      by_cases ha : p a = true
      · rw [ha, h a (List.mem_cons_self ..) ha]; simp; omega
      · rw [if_neg ha]; split <;> omega
class Key where
  l : List GR
  ok : ∀ x ∈ l, ROk x
  sz : l.length < 100000
  z : default ∈ l
  rt : ∀ x ∈ l, RtR x
  szr : ∀ x ∈ l, SzR 36 x
def Tm [K : Key] (x : GR) : Prop := x ∈ K.l
def tk [K : Key] (x : GR) : Nat := K.l.countP fun y => ao y x == -1
section
variable [K : Key]
theorem Tm.rt {x : GR} (h : Tm x) : RtR x := K.rt x h
theorem Tm.szr {x : GR} (h : Tm x) : SzR 36 x := K.szr x h
theorem Tm.ok {x : GR} (h : Tm x) : ROk x := K.ok x h
theorem oU {x y : GR} (hx : Tm x) (hy : Tm y) (h : ao x y = -1) : tk x < tk y := by
  refine oI (fun z hz hp => ?_) ⟨x, hx, by rw [h]; rfl, by rw [qG hx.ok]; rfl⟩
  rw [eq_of_beq hp |> fun e => rcmp_lt (K.ok z hz) hx.ok hy.ok e h]; rfl
theorem Tm.cmp {x y : GR} (hx : Tm x) (hy : Tm y) : ao x y = sgn (tk x) (tk y) := by
  unfold sgn
  rcases (lj hx.ok hy.ok).cases with h | h | h
  · have := oU hy hx (by rw [tx hx.ok hy.ok, h])
    rw [if_neg (by omega), if_pos this, h]
  · rw [if_pos (oU hx hy h), h]
  · rw [qF hx.ok hy.ok h, qG hy.ok, if_neg (by omega), if_neg (by omega)]
theorem Tm.inj {x y : GR} (hx : Tm x) (hy : Tm y) : tk x = tk y ↔ x = y := by
  constructor
  · intro e
    have h := hx.cmp hy
    unfold sgn at h
    rw [if_neg (by omega), if_neg (by omega)] at h
    exact qF hx.ok hy.ok h
  · intro e; rw [e]
theorem tk_lt {x : GR} (_ : Tm x) : tk x < 100000 := Nat.lt_of_le_of_lt List.countP_le_length K.sz
end
attribute [irreducible] tk Tm
end Go.Sx
namespace Go.Sx
theorem iF {a b : Nat} (h : a < b) : sgn a b = -1 := if_pos h
theorem jc {a b : Nat} (h : b < a) : sgn a b = 1 := by unfold sgn; rw [if_neg (by omega), if_pos h]
theorem fX (a : Nat) : sgn a a = 0 := by unfold sgn; rw [if_neg (Nat.lt_irrefl a), if_neg (Nat.lt_irrefl a)]
theorem jV {a b : Nat} : sgn a b < 0 ↔ a < b := by
  rcases Nat.lt_trichotomy a b with h | h | h
  · rw [iF h]; simp [h]
  · subst h; rw [fX]; simp
  · rw [jc h]; simp; omega
def ci (i : Iv) : Int := bif i.openLo then 1 else 0
def cU {α : Type} (a b : U α) : Int := jQ [ao a.iv.lo b.iv.lo, bD (ci a.iv) (ci b.iv), ao a.iv.hi b.iv.hi]
theorem or3 (a b c : Int) : jQ [a, b, c] = if a ≠ 0 then a else if b ≠ 0 then b else c := by
  unfold jQ
  by_cases ha : a = 0
  · by_cases hb : b = 0
    · by_cases hc : c = 0
      · subst ha hb hc; rfl
      · subst ha hb
        have e : (c != 0) = true := bne_iff_ne.2 hc
        simp [de, fin, g7, gt, e]
    · subst ha
      have e : (b != 0) = true := bne_iff_ne.2 hb
      simp [de, fin, g7, gt, e, hb]
  · have e : (a != 0) = true := bne_iff_ne.2 ha
    simp [de, fin, g7, gt, e, ha]
theorem ci00 : bD 0 0 = 0 := by decide +kernel
theorem ci01 : bD 0 1 = -1 := by decide +kernel
theorem ci10 : bD 1 0 = 1 := by decide +kernel
theorem ci11 : bD 1 1 = 0 := by decide +kernel
def Tv [K : Key] (i : Iv) : Prop := Tm i.lo ∧ Tm i.hi
def kU [K : Key] (i : Iv) : Nat := (tk i.lo * 2 + (bif i.openLo then 1 else 0)) * 100000 + tk i.hi
theorem rq [K : Key] {α : Type} {a b : U α} (ha : Tv a.iv) (hb : Tv b.iv) : cU a b = sgn (kU a.iv) (kU b.iv) := by
  have l1 := tk_lt ha.2
  have l2 := tk_lt hb.2
  unfold cU
  rw [or3, ha.1.cmp hb.1, ha.2.cmp hb.2]
  unfold kU ci
  generalize tk a.iv.lo = p at *
  generalize tk b.iv.lo = q at *
  generalize tk a.iv.hi = s at *
  generalize tk b.iv.hi = t at *
  have key : ∀ x y : Nat, x ≤ 1 → y ≤ 1 → (if sgn p q ≠ 0 then sgn p q else if sgn x y ≠ 0 then sgn x y else sgn s t) = sgn ((p * 2 + x) * 100000 + s) ((q * 2 + y) * 100000 + t) := by
    intro x y hx hy
    rcases Nat.lt_trichotomy p q with h | h | h
    · rw [iF h, if_pos (by decide)]; exact (iF (by omega)).symm
    · subst h
      rw [fX, if_neg (by decide)]
      rcases Nat.lt_trichotomy x y with h | h | h
      · rw [iF h, if_pos (by decide)]; exact (iF (by omega)).symm
      · subst h
        rw [fX, if_neg (by decide)]
        rcases Nat.lt_trichotomy s t with h | h | h
        · rw [iF h, iF (by omega)]
        · subst h
          rw [fX, fX]
        · rw [jc h, jc (by omega)]
      · rw [jc h, if_pos (by decide)]; exact (jc (by omega)).symm
    · rw [jc h, if_pos (by decide)]; exact (jc (by omega)).symm
  cases a.iv.openLo <;> cases b.iv.openLo <;> simp only [cond_true, cond_false, ci00, ci01, ci10, ci11]
  · exact key 0 0 (by decide) (by decide)
  · exact key 0 1 (by decide) (by decide)
  · exact key 1 0 (by decide) (by decide)
  · exact key 1 1 (by decide) (by decide)
theorem qQ [K : Key] {α : Type} [Inhabited (U α)] {c : U α → U α → Int} (hc : ∀ a b, c a b = cU a b) {d : List (U α)} (hd : ∀ u ∈ d, Tv u.iv) :
    (pC c d 0 d.length).Perm d ∧ (pC c d 0 d.length).Pairwise fun a b => kU a.iv ≤ kU b.iv := by
  refine ⟨j8 d, ?_⟩
  have hp := nZ (c := c) (S := fun u => Tv u.iv)
    (fun x y hx hy h => by rw [hc, rq hx hy, jV] at h; rw [hc, rq hy hx, jV]; omega)
    (fun x y z hx hy hz h1 h2 => by rw [hc, rq hx hy, jV] at h1; rw [hc, rq hy hz, jV] at h2; rw [hc, rq hx hz, jV]; omega) hd
  refine hp.imp_of_mem (fun {a b} ha hb h => ?_)
  have ha' := hd a ((j8 d).mem_iff.1 ha)
  have hb' := hd b ((j8 d).mem_iff.1 hb)
  rw [hc, rq hb' ha', jV] at h
  omega
def dZ [K : Key] (i : Iv) : Nat := 2 * tk i.lo + (bif i.openLo then 1 else 0)
def dS [K : Key] (i : Iv) : Int := 2 * tk i.hi - (bif i.openHi then 1 else 0)
def Wv [K : Key] (i : Iv) : Prop := Tv i ∧ tk i.lo ≤ tk i.hi ∧ (tk i.lo = tk i.hi → i.openLo = false ∧ i.openHi = false)
theorem Wv.le [K : Key] {i : Iv} (h : Wv i) : (dZ i : Int) ≤ dS i := by
  obtain ⟨_, h1, h2⟩ := h
  unfold dZ dS
  by_cases e : tk i.lo = tk i.hi
  · rw [(h2 e).1, (h2 e).2, e]; simp
  · cases i.openLo <;> cases i.openHi <;> simp <;> omega
theorem ly [K : Key] {a b : Iv} (ha : Tv a) (hb : Tv b) : cm a b = decide (dS a < (dZ b : Int)) := by
  unfold cm
  rw [ha.2.cmp hb.1]
  unfold dS dZ
  rcases Nat.lt_trichotomy (tk a.hi) (tk b.lo) with h | h | h
  · rw [iF h]
    cases a.openHi <;> cases b.openLo <;> simp <;> omega
  · rw [h, fX]
    cases a.openHi <;> cases b.openLo <;> simp <;> omega
  · rw [jc h]
    cases a.openHi <;> cases b.openLo <;> simp <;> omega
end Go.Sx
namespace Go.Sx
theorem i6 {S R : Type} {B : S → Nx S R} (n : Nat) {s s' : S} (h : B s = .go s') : de B (n + 1) s = de B n s' := by
  show (match B s with | .go s' => de B n s' | .out s' => .inl s' | .ret r => .inr r) = _
  rw [h]
theorem gV {S R : Type} {B : S → Nx S R} (n : Nat) {s s' : S} (h : B s = .out s') : de B (n + 1) s = .inl s' := by
  show (match B s with | .go s' => de B n s' | .out s' => .inl s' | .ret r => .inr r) = _
  rw [h]
theorem sO {S R : Type} {B : S → Nx S R} (n : Nat) {s : S} {r : R} (h : B s = .ret r) : de B (n + 1) s = .inr r := by
  show (match B s with | .go s' => de B n s' | .out s' => .inl s' | .ret r => .inr r) = _
  rw [h]
end Go.Sx
namespace Go.Sx
section
variable {α : Type}
end
section
variable {α R : Type} [Inhabited (At α)]
omit [Inhabited (At α)] in
theorem mf {β γ : Type} [Inhabited γ] {f : β → γ → β} (l : List γ) {B : Nat × β → Nx (Nat × β) R} {I : β → Prop} (hI : ∀ o x, I o → I (f o x)) (hgo : ∀ o i, I o → i < l.length → B (i, o) = .go (i + 1, f o (gt l i))) (hout : ∀ o, B (l.length, o) = .out (l.length, o)) :
    ∀ (s p : List γ) (o : β) (k : Nat), I o → l = p ++ s → s.length < k → de B k (p.length, o) = .inl (l.length, s.foldl f o)
  | [], p, o, k + 1, _, hl, _ => by
    rw [List.append_nil] at hl
    rw [← hl, gV k (hout o)]
    rfl
  | x :: s, p, o, k + 1, hi, hl, hk => by
    have hg : gt l p.length = x := by rw [hl]; exact gt_at rfl
    have h1 := hgo o p.length hi (by rw [hl]; simp)
    rw [hg] at h1
    have ih := mf l hI hgo hout s (p ++ [x]) (f o x) k (hI _ _ hi) (by rw [hl]; simp) (by simp at hk; omega)
    rw [i6 k h1, List.foldl_cons, ← ih, List.length_append]
    rfl
end
end Go.Sx
namespace Go.Sx
def ptU {α : Type} (t : GR) (f : α) : U α := ⟨⟨t, t, false, false⟩, f⟩
def kF {α : Type} (t t' : GR) (f : α) : U α := ⟨⟨t, t', true, true⟩, f⟩
def atU {α : Type} (u : U α) : List (U α) :=
  (bif u.iv.openLo then [] else [ptU u.iv.lo u.f]) ++ (bif aK u.iv then [] else kF u.iv.lo u.iv.hi u.f :: (bif u.iv.openHi then [] else [ptU u.iv.hi u.f]))
theorem oi {α β : Type} (g : α → List β) : ∀ (l : List α) (o : List β), l.foldl (fun o u => o ++ g u) o = o ++ l.flatMap g
  | [], o => by simp
  | u :: l, o => by rw [List.foldl_cons, oi g l, List.flatMap_cons, List.append_assoc]
end Go.Sx
namespace Go.Sx
def Dj [K : Key] (a b : Iv) : Prop := dS a < (dZ b : Int) ∨ dS b < (dZ a : Int)
theorem Dj.symm [K : Key] {a b : Iv} (h : Dj a b) : Dj b a := Or.symm h
section
variable {α : Type}
end
end Go.Sx
namespace Go.Sx
theorem rW {R : Type} {B : Nat → Nx Nat R} {n : Nat} {bad : Nat → Bool} {r : R} (h : ∀ i, i < n → B i = bif bad i then .ret r else .go (i + 1)) (ho : B n = .out n) :
    ∀ (k a : Nat), a ≤ n → n - a < k → (∀ i, a ≤ i → i < n → bad i = false) → de B k a = .inl n
  | k + 1, a, ha, hk, hb => by
    by_cases e : a = n
    · subst e; exact gV k ho
    · have h1 := h a (by omega)
      rw [hb a (Nat.le_refl _) (by omega), cond_false] at h1
      rw [i6 k h1]
      exact rW h ho k (a + 1) (by omega) (by omega) fun i h1 h2 => hb i (by omega) h2
end Go.Sx
namespace Go.Sx
section
variable {α : Type}
theorem kU_eq [K : Key] (i : Iv) : kU i = dZ i * 100000 + tk i.hi := by unfold kU dZ; rw [Nat.mul_comm 2]
theorem nr [K : Key] {u s : List (U α)} (hW : ∀ x ∈ u, Wv x.iv) (hD : u.Pairwise fun a b => Dj a.iv b.iv) (hp : s.Perm u) (hs : s.Pairwise fun a b => kU a.iv ≤ kU b.iv) : s.Pairwise fun a b => dS a.iv < (dZ b.iv : Int) := by
  have hDs : s.Pairwise fun a b => Dj a.iv b.iv := (hp.pairwise_iff fun {a b} h => Dj.symm h).2 hD
  refine (hs.and hDs).imp_of_mem fun {a b} ha hb h => ?_
  have ha' := hW a (hp.mem_iff.1 ha)
  have hb' := hW b (hp.mem_iff.1 hb)
  have l1 := ha'.le
  have l2 := hb'.le
  have t1 := tk_lt ha'.1.2
  have t2 := tk_lt hb'.1.2
  obtain ⟨hk, hd⟩ := h
  rw [kU_eq, kU_eq] at hk
  unfold Dj at hd
  omega
theorem fB {β : Type} [Inhabited β] {l : List β} {i : Nat} (h : i < l.length) : gt l i = l[i] := by
  simp [gt, List.getD, List.getElem?_eq_getElem h]
theorem chain_pw [K : Key] [Inhabited (U α)] {s : List (U α)} (hW : ∀ x ∈ s, Wv x.iv) (h : ∀ i, 0 < i → i < s.length → cm (gt s (i - 1)).iv (gt s i).iv = true) : s.Pairwise fun a b => dS a.iv < (dZ b.iv : Int) := by
  rw [List.pairwise_iff_getElem]
  have key : ∀ (d i : Nat) (hj : i + d + 1 < s.length), dS (s[i]'(by omega)).iv < (dZ s[i + d + 1].iv : Int) := by
    intro d
    induction d with
    | zero =>
      intro i hj
      have h1 := h (i + 1) (by omega) hj
      rw [fB hj, fB (by omega : i + 1 - 1 < s.length), ly (hW _ (List.getElem_mem _)).1 (hW _ (List.getElem_mem _)).1, decide_eq_true_eq] at h1
      exact h1
    | succ d ih =>
      intro i hj
      have h0 := ih i (by omega)
      have hj' : i + d + 1 + 1 < s.length := by omega
      have h1 := h (i + d + 1 + 1) (by omega) hj'
      rw [fB hj', fB (by omega : i + d + 1 + 1 - 1 < s.length), ly (hW _ (List.getElem_mem _)).1 (hW _ (List.getElem_mem _)).1, decide_eq_true_eq] at h1
      have h2 := (hW (s[i + d + 1]'(by omega)) (List.getElem_mem _)).le
      have h3 : dS (s[i + d + 1]'(by omega)).iv < (dZ s[i + d + 1 + 1].iv : Int) := h1
      have h4 : (dZ (s[i + d + 1]'(by omega)).iv : Int) < dZ s[i + d + 1 + 1].iv := by omega
      exact Int.lt_trans h0 h4
  intro i j hi hj hij
  have := key (j - i - 1) i (by omega)
  simpa only [show i + (j - i - 1) + 1 = j by omega] using this
theorem apart_dj [K : Key] [Inhabited (U α)] {u s : List (U α)} (hW : ∀ x ∈ u, Wv x.iv) (hp : s.Perm u) (hs : s.Pairwise fun a b => kU a.iv ≤ kU b.iv) :
    (∀ i, 0 < i → i < s.length → cm (gt s (i - 1)).iv (gt s i).iv = true) ↔ u.Pairwise fun a b => Dj a.iv b.iv := by
  constructor
  · intro h
    have := chain_pw (fun x hx => hW x (hp.mem_iff.1 hx)) h
    exact (hp.pairwise_iff fun {a b} h => Dj.symm h).1 (this.imp fun h => .inl h)
  · intro h i h0 h1
    have hd := nr hW h hp hs
    rw [List.pairwise_iff_getElem] at hd
    have := hd (i - 1) i (by omega) h1 (by omega)
    rw [fB h1, fB (by omega : i - 1 < s.length), ly (hW _ (hp.mem_iff.1 (List.getElem_mem _))).1 (hW _ (hp.mem_iff.1 (List.getElem_mem _))).1, decide_eq_true_eq]
    exact this
end
end Go.Sx
namespace Go.Sx
section
variable {α : Type} [Inhabited α] (eqf : α → α → Bool) (same : α → α → GR → Bool) (red : α → GR → α)
def oO (L out : List (U α)) (x : Nat) : Bool := (decide (((out.length : Nat) : Int) > 0) && decide ((gt out (out.length - 1)).iv.hi = (gt L x).iv.lo)) && !(aK (gt out (out.length - 1)).iv)
def gi (out : List (U α)) (t : GR) : Bool := (decide (((out.length : Nat) : Int) > 0) && decide ((gt out (out.length - 1)).iv.hi = t)) && !((gt out (out.length - 1)).iv.openHi)
def fL (L out : List (U α)) (x : Nat) : List (U α) :=
  bif ((((decide (((x : Nat) : Int) > 0)) && (aK ((gt L (x - 1)).iv))) && (decide (((gt L (x - 1)).iv).lo = ((gt L x).iv).lo))) && (!(gi out (((gt L x).iv).lo)))) then
    out ++ [(⟨(⟨((gt L x).iv).lo, ((gt L x).iv).hi, false, ((gt L x).iv).openHi⟩ : Iv), (gt L x).f⟩ : U α)]
  else out ++ [gt L x]
def iC (L out : List (U α)) (x : Nat) : List (U α) :=
  bif (((decide (((x + 1 : Nat) : Int) < ((L.length : Nat) : Int))) && (decide (((gt L (x + 1)).iv).lo = ((gt L x).iv).lo))) && (same ((gt L (x + 1)).f) ((gt L x).f) (((gt L x).iv).lo))) then out
  else out ++ [(⟨(gt L x).iv, (red ((gt L x).f) (((gt L x).iv).lo))⟩ : U α)]
def dI (L out : List (U α)) (x : Nat) : List (U α) :=
  bif oO L out x then
    bif (!(aK ((gt L x).iv))) then
      bif ((!((gt out (out.length - 1)).iv).openHi) && (eqf ((gt out (out.length - 1)).f) ((gt L x).f))) then
        out.set (out.length - 1) (⟨(⟨((gt out (out.length - 1)).iv).lo, ((gt L x).iv).hi, ((gt out (out.length - 1)).iv).openLo, true⟩ : Iv), (gt out (out.length - 1)).f⟩ : U α)
      else fL L out x
    else
      bif (same ((gt out (out.length - 1)).f) ((gt L x).f) (((gt L x).iv).lo)) then
        out.set (out.length - 1) (⟨(⟨((gt out (out.length - 1)).iv).lo, ((gt out (out.length - 1)).iv).hi, ((gt out (out.length - 1)).iv).openLo, false⟩ : Iv), (gt out (out.length - 1)).f⟩ : U α)
      else iC same red L out x
  else
    bif (!(aK ((gt L x).iv))) then fL L out x else iC same red L out x
end
theorem cond_go {S R : Type} {b : Bool} {X Y : Nx (S × Nat) R} {p q : S} {k : Nat} (h1 : X = .go (p, k)) (h2 : Y = .go (q, k)) : (bif b then X else Y) = .go (bif b then p else q, k) := by cases b <;> assumption
end Go.Sx
namespace Go.Sx
def fZ {β : Type} (st : β → Nat → β) (o : β) : Nat → β
  | 0 => o
  | n + 1 => st (fZ st o n) n
theorem nW {β R : Type} {st : β → Nat → β} {o : β} {n : Nat} {B : β × Nat → Nx (β × Nat) R} (hgo : ∀ o i, i < n → B (o, i) = .go (st o i, i + 1)) (hout : ∀ o, B (o, n) = .out (o, n)) :
    ∀ (k i : Nat), i ≤ n → n - i < k → de B k (fZ st o i, i) = .inl (fZ st o n, n)
  | k + 1, i, hi, hk => by
    by_cases e : i = n
    · subst e; exact gV k (hout _)
    · rw [i6 k (hgo _ i (by omega))]
      exact nW hgo hout k (i + 1) (by omega) (by omega)
end Go.Sx
namespace Go.Sx
structure Turns {α : Type} [Inhabited α] (pl : GR → Nat) (A : List (At α)) : Prop where
  gap : ∀ i, i < A.length → (gt A i).gap = decide (i % 2 = 1)
  adj : ∀ i, i + 1 < A.length → (gt A (i + 1)).frm = (gt A i).til
  pt : ∀ i, i < A.length → (gt A i).gap = false → (gt A i).til = (gt A i).frm
  lt : ∀ i, i < A.length → (gt A i).gap = true → pl (gt A i).frm < pl (gt A i).til
section
variable {α : Type} [Inhabited α] {pl : GR → Nat} {A : List (At α)}
theorem Turns.le1 (h : Turns pl A) {i : Nat} (hi : i < A.length) : pl (gt A i).frm ≤ pl (gt A i).til := by
  cases hg : (gt A i).gap with
  | false => rw [h.pt i hi hg]; exact Nat.le_refl _
  | true => exact Nat.le_of_lt (h.lt i hi hg)
theorem Turns.mono (h : Turns pl A) {i : Nat} : ∀ (d : Nat), i + d + 1 < A.length → pl (gt A i).til ≤ pl (gt A (i + d + 1)).frm
  | 0, hd => by rw [h.adj i hd]; exact Nat.le_refl _
  | d + 1, hd => by
    have h1 := Turns.mono h (i := i) d (by omega)
    have h2 := h.le1 (by omega : i + d + 1 < A.length)
    have h3 := h.adj (i + d + 1) hd
    rw [show i + (d + 1) + 1 = i + d + 1 + 1 by omega, h3]
    omega
theorem Turns.mono' (h : Turns pl A) {i j : Nat} (hij : i < j) (hj : j < A.length) : pl (gt A i).til ≤ pl (gt A j).frm := by
  have := h.mono (i := i) (j - i - 1) (by omega)
  rwa [show i + (j - i - 1) + 1 = j by omega] at this
variable (eqf : α → α → Bool) (same : α → α → GR → Bool) (red : α → GR → α)
def lst (out : List (U α)) : U α := gt out (out.length - 1)
theorem j7 (out : List (U α)) (x : U α) : lst (out ++ [x]) = x := by
  unfold lst
  rw [List.length_append, List.length_singleton, Nat.add_sub_cancel, mY]
theorem lst_set {out : List (U α)} (h : 0 < out.length) (x : U α) : lst (out.set (out.length - 1) x) = x := by
  unfold lst
  rw [List.length_set]
  exact oc (by omega)
theorem f4 {L out : List (U α)} {x : Nat} : oO L out x = true ↔ 0 < out.length ∧ (lst out).iv.hi = (gt L x).iv.lo ∧ (lst out).iv.lo ≠ (lst out).iv.hi := by
  unfold oO lst aK
  simp only [Bool.and_eq_true, decide_eq_true_eq, Bool.not_eq_true', decide_eq_false_iff_not, ne_eq]
  constructor
  · rintro ⟨⟨h1, h2⟩, h3⟩; exact ⟨by omega, h2, h3⟩
  · rintro ⟨h1, h2, h3⟩; exact ⟨⟨by omega, h2⟩, h3⟩
theorem gh {out : List (U α)} {t : GR} : gi out t = true ↔ 0 < out.length ∧ (lst out).iv.hi = t ∧ (lst out).iv.openHi = false := by
  unfold gi lst
  simp only [Bool.and_eq_true, decide_eq_true_eq, Bool.not_eq_true']
  constructor
  · rintro ⟨⟨h1, h2⟩, h3⟩; exact ⟨by omega, h2, h3⟩
  · rintro ⟨h1, h2, h3⟩; exact ⟨⟨by omega, h2⟩, h3⟩
def InvE (pl : GR → Nat) (A : List (At α)) (out : List (U α)) (i : Nat) : Prop :=
  ((0 < i ∧ (gt A (i - 1)).has = true) → 0 < out.length ∧ (lst out).iv.hi = (gt A (i - 1)).til ∧ (lst out).iv.openHi = true ∧ pl (lst out).iv.lo < pl (lst out).iv.hi ∧ (lst out).f = (gt A (i - 1)).f) ∧
  (¬ (0 < i ∧ (gt A (i - 1)).has = true) → out.length = 0 ∨ (0 < i ∧ pl (lst out).iv.hi ≤ pl (gt A (i - 1)).frm))
def mgd (A : List (At α)) (i : Nat) : Prop := (gt A i).has = true ∧ 0 < i ∧ (gt A (i - 1)).has = true ∧ same (gt A (i - 1)).f (gt A i).f (gt A i).frm = true
def lft (A : List (At α)) (i : Nat) : Prop := i + 1 < A.length ∧ (gt A (i + 1)).has = true ∧ same (gt A (i + 1)).f (gt A i).f (gt A i).frm = true
def InvO (pl : GR → Nat) (A : List (At α)) (out : List (U α)) (i : Nat) : Prop :=
  (mgd same A i → 0 < out.length ∧ (lst out).iv.hi = (gt A i).frm ∧ (lst out).iv.openHi = false ∧ pl (lst out).iv.lo < pl (lst out).iv.hi ∧ (lst out).f = (gt A (i - 1)).f) ∧
  (¬ mgd same A i → ((gt A i).has = false ∨ lft same A i) → InvE pl A out i) ∧
  (¬ mgd same A i → (gt A i).has = true → ¬ lft same A i → 0 < out.length ∧ (lst out).iv.lo = (gt A i).frm ∧ (lst out).iv.hi = (gt A i).frm ∧ (lst out).iv.openHi = false ∧ (lst out).f = red (gt A i).f (gt A i).frm)
variable {eqf same red}
theorem InvE.le (hA : Turns pl A) {out : List (U α)} {i : Nat} (hi : i < A.length) (h : InvE pl A out i) : out.length = 0 ∨ pl (lst out).iv.hi ≤ pl (gt A i).frm := by
  by_cases c : 0 < i ∧ (gt A (i - 1)).has = true
  · have e := hA.adj (i - 1) (by omega)
    rw [show i - 1 + 1 = i by omega] at e
    rw [(h.1 c).2.1, e]; exact .inr (Nat.le_refl _)
  · rcases h.2 c with h1 | ⟨h0, h1⟩
    · exact .inl h1
    · have h2 := hA.mono' (by omega : i - 1 < i) hi
      have h3 := hA.le1 (by omega : i - 1 < A.length)
      exact .inr (by omega)
theorem InvO.le (hA : Turns pl A) {out : List (U α)} {i : Nat} (hi : i < A.length) (h : InvO same red pl A out i) : out.length = 0 ∨ pl (lst out).iv.hi ≤ pl (gt A i).frm := by
  by_cases m : mgd same A i
  · rw [(h.1 m).2.1]; exact .inr (Nat.le_refl _)
  · by_cases c : (gt A i).has = false ∨ lft same A i
    · exact (h.2.1 m c).le hA hi
    · have c1 : (gt A i).has = true := by cases hh : (gt A i).has with
        | true => rfl
        | false => exact absurd (.inl hh) c
      rw [(h.2.2 m c1 fun h => c (.inr h)).2.2.1]; exact .inr (Nat.le_refl _)
end
end Go.Sx
namespace Go.Sx
theorem foldl_cons {α β : Type} (g : α → β) : ∀ (l : List α) (o : List β), l.foldl (fun o i => g i :: o) o = (l.map g).reverse ++ o
  | [], o => rfl
  | x :: l, o => by rw [List.foldl_cons, foldl_cons g l]; simp
end Go.Sx
namespace Go.Sx
open Go Go.RowKit Go.Proofs
set_option maxRecDepth 100000
set_option maxHeartbeats 40000000
attribute [local irreducible] Code.wp wpList Rd Step ObS Ent
def aH (f : Ln) : Qd × Qd :=
 ((aG f.x0 f.x1), (aG f.y0 f.y1))
theorem eN (f : Ln) (k : Nat) (hk : k ≤ 40) (zf : SzN k f) (w0 : World) : Calls Tryz.prog 293 #[(vN f)] w0 (cq w0 (.tuple #[(vD ((aH f).1)), (vD ((aH f).2))]) (SzD k ((aH f).1) ∧ SzD k ((aH f).2))) := by
 refine enter (N := 14) (args := [(vN f)]) Tryz.func293 rfl rfl ?_; intro ac h
 have s1 := am ((cc f.x0 f.x1 k og zf.1 zf.2.1) w0)
 have s2 := am ((cc f.y0 f.y1 k og zf.2.2.1 zf.2.2.2) w0)
 refine gz h <| (xb) fun b1 => (xa) fun b2 => (xa) fun b3 => (dr1 (H := [⟨.blk b3 (cD oD) 53, [(11, .con (.blk b3 (cD (aG f.y0 f.y1)) 53))]⟩, ⟨.blk b2 (cD oD) 53, [(10, .con (.blk b2 (cD (aG f.x0 f.x1)) 53))]⟩, ⟨_, []⟩]) (hob := (oK (cc f.x0 f.x1 k og zf.1 zf.2.1)) <| (oK (cc f.y0 f.y1 k og zf.2.2.1 zf.2.2.2)) <| oE)) <| (W) ?_; clear h ac; intro ac wo h
 exact ret h rfl (.cell (v := (vD (aG f.x0 f.x1))) rfl (i := 1) rfl Tryz.isAgg53 Tryz.sizeOf53 rfl rfl rfl (.cell (v := (vD (aG f.y0 f.y1))) rfl (i := 0) rfl Tryz.isAgg53 Tryz.sizeOf53 rfl rfl rfl .nil)) rfl (h.retP (by unfold aH; rfl) (by unfold aH; exact ⟨s1, s2⟩))
end Go.Sx
