/- A part of the proof that the law PiecesRefines answers true at every input and leaves its arguments as they were. -/
import Derived.Test.YtnkaneggnjallaaGreatDoorE2
import Derived.Test.YtnkaneggnjallaaGreatDoorM2
import Derived.Test.YtnkaneggnjallaaGreatDoorMk
import Derived.Test.YtnkaneggnjallaaGreatDoorF
set_option linter.unusedVariables false
set_option linter.unusedSimpArgs false
namespace Go.Sx
def kB (b : Bd) : Nat := 2 * tk b.at_ + (bif b.behind then 1 else 0)
theorem bb (b : Bool) : (bif b then 1 else 0 : Nat) ≤ 1 := by cases b <;> decide
theorem cmpB {a b : Bd} (ha : Tm a.at_) (hb : Tm b.at_) : cK a b = sgn (kB a) (kB b) := by
  unfold cK kB
  rw [ha.cmp hb]
  have h1 := bb a.behind
  have h2 := bb b.behind
  rcases Nat.lt_trichotomy (tk a.at_) (tk b.at_) with e | e | e
  · rw [iT e, iT (by omega)]; rfl
  · rw [e, fl]
    cases a.behind <;> cases b.behind
    · rw [fl]; rfl
    · rw [iT (by simp)]; rfl
    · rw [iU (by simp)]; rfl
    · rw [fl]; rfl
  · rw [iU e, iU (by omega)]; rfl
theorem kB_inj {a b : Bd} (ha : Tm a.at_) (hb : Tm b.at_) (h : kB a = kB b) : a = b := by
  unfold kB at h
  have h1 := bb a.behind
  have h2 := bb b.behind
  have e : tk a.at_ = tk b.at_ := by omega
  have e2 := (ha.inj hb).1 e
  have e3 : a.behind = b.behind := by
    rw [e] at h
    cases ha : a.behind <;> cases hb : b.behind <;> rw [ha, hb] at h <;> simp at h <;> rfl
  obtain ⟨x, y⟩ := a
  obtain ⟨z, w⟩ := b
  simp only at e2 e3
  rw [e2, e3]
theorem pf (i : Iv) : aF i = ⟨i.lo, i.openLo⟩ := by unfold aF; rfl
theorem pl (i : Iv) : aH i = ⟨i.hi, !i.openHi⟩ := by unfold aH; rfl
theorem oC (i : Iv) : kB (aF i) = lI i := by rw [pf]; rfl
theorem qq (i : Iv) : (kB (aH i) : Int) = lm i + 1 := by
  unfold kB aH lm
  simp only
  cases i.openHi <;> simp <;> omega
theorem Wv.bd {i : Iv} (h : Wv i) : kB (aF i) < kB (aH i) := by
  have h1 := h.le
  have h2 := qq i
  rw [oC]; omega
def mF (x y : Iv) : Bd := if kB (aF x) < kB (aF y) then aF y else aF x
def mL (x y : Iv) : Bd := if kB (aH y) < kB (aH x) then aH y else aH x
theorem kF (i : Iv) : kB (aF i) = 2 * tk i.lo + (bif i.openLo then 1 else 0) := by rw [pf]; rfl
theorem kL (i : Iv) : kB (aH i) = 2 * tk i.hi + (bif !i.openHi then 1 else 0) := by rw [pl]; rfl
theorem mF_lt {x y : Iv} (h : tk x.lo < tk y.lo) : mF x y = ⟨y.lo, y.openLo⟩ := by
  unfold mF
  rw [if_pos (by have := bb x.openLo; have := bb y.openLo; rw [kF, kF]; omega), pf]
theorem mF_gt {x y : Iv} (h : tk y.lo < tk x.lo) : mF x y = ⟨x.lo, x.openLo⟩ := by
  unfold mF
  rw [if_neg (by have := bb x.openLo; have := bb y.openLo; rw [kF, kF]; omega), pf]
theorem mF_eq {x y : Iv} (h : x.lo = y.lo) : mF x y = ⟨x.lo, x.openLo || y.openLo⟩ := by
  unfold mF
  rw [kF, kF, h]
  unfold aF
  rw [h]
  cases x.openLo <;> cases y.openLo <;> simp
theorem mL_lt {x y : Iv} (h : tk x.hi < tk y.hi) : mL x y = ⟨x.hi, !x.openHi⟩ := by
  unfold mL
  rw [if_neg (by have := bb (!x.openHi); have := bb (!y.openHi); rw [kL, kL]; omega), pl]
theorem mL_gt {x y : Iv} (h : tk y.hi < tk x.hi) : mL x y = ⟨y.hi, !y.openHi⟩ := by
  unfold mL
  rw [if_pos (by have := bb (!x.openHi); have := bb (!y.openHi); rw [kL, kL]; omega), pl]
theorem mL_eq {x y : Iv} (h : x.hi = y.hi) : mL x y = ⟨x.hi, !(x.openHi || y.openHi)⟩ := by
  unfold mL
  rw [kL, kL, h]
  unfold aH
  rw [h]
  cases x.openHi <;> cases y.openHi <;> simp
theorem flag {a b : GR} (ha : Tm a) (hb : Tm b) (o p : Bool) : ((decide ((ao a b) < 0)) || ((((ao a b) == 0) && (!o)) && (!p))) = decide (kB ⟨a, o⟩ < kB ⟨b, !p⟩) := by
  rw [ha.cmp hb]
  unfold kB
  simp only
  have h1 := bb o
  have h2 := bb (!p)
  rcases Nat.lt_trichotomy (tk a) (tk b) with e | e | e
  · rw [iT e, decide_eq_true (by omega : 2 * tk a + (bif o then 1 else 0) < 2 * tk b + (bif !p then 1 else 0))]; rfl
  · rw [e, fl]
    cases o <;> cases p <;> simp
  · rw [iU e, decide_eq_false (by omega : ¬ 2 * tk a + (bif o then 1 else 0) < 2 * tk b + (bif !p then 1 else 0))]; rfl
theorem bet (a b : GR) (o p : Bool) : cY ⟨a, o⟩ ⟨b, !p⟩ = ⟨a, b, o, p⟩ := by
  unfold cY
  simp only [Bool.not_not]
theorem qf {x y : Iv} (hx : Tv x) (hy : Tv y) : aU x y = (cY (mF x y) (mL x y), decide (kB (mF x y) < kB (mL x y))) := by
  unfold aU
  rw [hx.1.cmp hy.1, hx.2.cmp hy.2]
  rcases Nat.lt_trichotomy (tk x.lo) (tk y.lo) with e | e | e
  · rw [iT e, mF_lt e, show decide ((-1 : Int) < 0) = true from rfl, cond_true]
    rcases Nat.lt_trichotomy (tk x.hi) (tk y.hi) with g | g | g
    · rw [iT g, show decide ((-1 : Int) > 0) = false from rfl, cond_false, show ((-1 : Int) == 0) = false from rfl, cond_false, mL_lt g, bet, flag hy.1 hx.2]
    · rw [g, fl, show decide ((0 : Int) > 0) = false from rfl, cond_false, show ((0 : Int) == 0) = true from rfl, cond_true, mL_eq ((hx.2.inj hy.2).1 g), bet, flag hy.1 hx.2]
    · rw [iU g, show decide ((1 : Int) > 0) = true from rfl, cond_true, mL_gt g, bet, flag hy.1 hy.2]
  · rw [e, fl, mF_eq ((hx.1.inj hy.1).1 e), show decide ((0 : Int) < 0) = false from rfl, cond_false, show ((0 : Int) == 0) = true from rfl, cond_true]
    rcases Nat.lt_trichotomy (tk x.hi) (tk y.hi) with g | g | g
    · rw [iT g, show decide ((-1 : Int) > 0) = false from rfl, cond_false, show ((-1 : Int) == 0) = false from rfl, cond_false, mL_lt g, bet, flag hx.1 hx.2]
    · rw [g, fl, show decide ((0 : Int) > 0) = false from rfl, cond_false, show ((0 : Int) == 0) = true from rfl, cond_true, mL_eq ((hx.2.inj hy.2).1 g), bet, flag hx.1 hx.2]
    · rw [iU g, show decide ((1 : Int) > 0) = true from rfl, cond_true, mL_gt g, bet, flag hx.1 hy.2]
  · rw [iU e, mF_gt e, show decide ((1 : Int) < 0) = false from rfl, cond_false, show ((1 : Int) == 0) = false from rfl, cond_false]
    rcases Nat.lt_trichotomy (tk x.hi) (tk y.hi) with g | g | g
    · rw [iT g, show decide ((-1 : Int) > 0) = false from rfl, cond_false, show ((-1 : Int) == 0) = false from rfl, cond_false, mL_lt g, bet, flag hx.1 hx.2]
    · rw [g, fl, show decide ((0 : Int) > 0) = false from rfl, cond_false, show ((0 : Int) == 0) = true from rfl, cond_true, mL_eq ((hx.2.inj hy.2).1 g), bet, flag hx.1 hx.2]
    · rw [iU g, show decide ((1 : Int) > 0) = true from rfl, cond_true, mL_gt g, bet, flag hx.1 hy.2]
theorem qx {x y : Iv} (hx : Tv x) (hy : Tv y) : dc x y = decide (kB (aH x) ≤ kB (aH y)) := by
  unfold dc
  rw [hx.2.cmp hy.2, kL, kL]
  have h1 := bb (!x.openHi)
  have h2 := bb (!y.openHi)
  rcases Nat.lt_trichotomy (tk x.hi) (tk y.hi) with e | e | e
  · rw [iT e, decide_eq_true (by omega : 2 * tk x.hi + (bif !x.openHi then 1 else 0) ≤ 2 * tk y.hi + (bif !y.openHi then 1 else 0))]; rfl
  · rw [e, fl]
    cases x.openHi <;> cases y.openHi <;> simp
  · rw [iU e, decide_eq_false (by omega : ¬ 2 * tk x.hi + (bif !x.openHi then 1 else 0) ≤ 2 * tk y.hi + (bif !y.openHi then 1 else 0))]; rfl
def nxe (e : Ev) : List Ev → Bool
  | [] => false
  | e2 :: _ => cK e.at_ e2.at_ == 0
def swS (keep : Bool → Bool → Bool) : List Ev → List Iv → Bool → Bd → Int → Int → List Iv
  | [], out, _, _, _, _ => out
  | e :: r, out, in_, fr, n0, n1 =>
    bif (nxe e r) then swS keep r out in_ fr (n0 + e.b0) (n1 + e.b1)
    else bif (keep (decide (n0 + e.b0 > 0)) (decide (n1 + e.b1 > 0))) && !in_ then swS keep r out (keep (decide (n0 + e.b0 > 0)) (decide (n1 + e.b1 > 0))) e.at_ (n0 + e.b0) (n1 + e.b1)
    else bif (!(keep (decide (n0 + e.b0 > 0)) (decide (n1 + e.b1 > 0)))) && in_ then swS keep r (out ++ [cY fr e.at_]) (keep (decide (n0 + e.b0 > 0)) (decide (n1 + e.b1 > 0))) fr (n0 + e.b0) (n1 + e.b1)
    else swS keep r out (keep (decide (n0 + e.b0 > 0)) (decide (n1 + e.b1 > 0))) fr (n0 + e.b0) (n1 + e.b1)
theorem lM (a b : List Iv) (l : List Ev) (x32 : Nat) (l2 : List Ev) (x322 : Nat) : ∀ (s p : List Ev) (out : List Iv) (in_ : Bool) (fr : Bd) (n : I2) (k : Nat), ah l2 = p ++ s → s.length < k →
    ∃ st, bQ (fun s => bV a b l x32 l2 x322 s.1 s.2.1 s.2.2.1 s.2.2.2.1 s.2.2.2.2) k (out, in_, p.length, fr, n) = .inl st ∧ st.1 = swS aR s out in_ fr n.n0 n.n1
  | [], p, out, in_, fr, n, k + 1, hs, _ => by
    refine ⟨(out, in_, p.length, fr, n), eY k ?_, rfl⟩
    show bV a b l x32 l2 x322 out in_ p.length fr n = _
    unfold bV
    rw [hs, List.append_nil, decide_eq_false (by omega : ¬ ((p.length : Nat) : Int) < ((p.length : Nat) : Int))]; rfl
  | e :: r, p, out, in_, fr, n, k + 1, hs, hk => by
    have hl : (ah l2).length = p.length + 1 + r.length := by rw [hs]; simp; omega
    have hg : gt (ah l2) p.length = e := by rw [hs]; exact kt rfl
    have hs2 : ah l2 = (p ++ [e]) ++ r := by rw [hs]; simp
    have hpl : (p ++ [e]).length = p.length + 1 := by simp
    have hk2 : r.length < k := by simp at hk; omega
    have hnx : ((decide (((p.length + 1 : Nat) : Int) < (((ah l2).length : Nat) : Int))) && ((cK e.at_ ((gt (ah l2) (p.length + 1)).at_)) == 0)) = nxe e r := by
      cases r with
      | nil =>
        simp only [List.length_nil] at hl
        rw [decide_eq_false (by omega : ¬ ((p.length + 1 : Nat) : Int) < (((ah l2).length : Nat) : Int))]; rfl
      | cons e2 r =>
        have : gt (ah l2) (p.length + 1) = e2 := by rw [hs2]; exact kt (by simp)
        rw [this, decide_eq_true (by simp at hl; omega : ((p.length + 1 : Nat) : Int) < (((ah l2).length : Nat) : Int))]; rfl
    have ih := fun o i f (m : I2) => lM a b l x32 l2 x322 r (p ++ [e]) o i f m k hs2 hk2
    rw [hpl] at ih
    have hb : bV a b l x32 l2 x322 out in_ p.length fr n = bif (nxe e r) then .go (out, in_, (p.length + 1), fr, (⟨n.n0 + e.b0, n.n1 + e.b1⟩ : I2))
      else bif ((aR (decide (n.n0 + e.b0 > 0)) (decide (n.n1 + e.b1 > 0))) && !in_) then .go (out, (aR (decide (n.n0 + e.b0 > 0)) (decide (n.n1 + e.b1 > 0))), (p.length + 1), e.at_, (⟨n.n0 + e.b0, n.n1 + e.b1⟩ : I2))
      else bif ((!(aR (decide (n.n0 + e.b0 > 0)) (decide (n.n1 + e.b1 > 0)))) && in_) then .go (out ++ [cY fr e.at_], (aR (decide (n.n0 + e.b0 > 0)) (decide (n.n1 + e.b1 > 0))), (p.length + 1), fr, (⟨n.n0 + e.b0, n.n1 + e.b1⟩ : I2))
      else .go (out, (aR (decide (n.n0 + e.b0 > 0)) (decide (n.n1 + e.b1 > 0))), (p.length + 1), fr, (⟨n.n0 + e.b0, n.n1 + e.b1⟩ : I2)) := by
      unfold bV
      rw [hg, decide_eq_true (by omega : ((p.length : Nat) : Int) < (((ah l2).length : Nat) : Int)), cond_true]
      exact congrArg (fun c => bif c then _ else _) hnx
    have go : ∀ {st' : List Iv × Bool × Nat × Bd × I2} {R : List Iv}, bV a b l x32 l2 x322 out in_ p.length fr n = .go st' → (∃ st, bQ (fun s => bV a b l x32 l2 x322 s.1 s.2.1 s.2.2.1 s.2.2.2.1 s.2.2.2.2) k st' = .inl st ∧ st.1 = R) → ∃ st, bQ (fun s => bV a b l x32 l2 x322 s.1 s.2.1 s.2.2.1 s.2.2.2.1 s.2.2.2.2) (k + 1) (out, in_, p.length, fr, n) = .inl st ∧ st.1 = R := fun h1 ⟨st, h2, h3⟩ => ⟨st, by rw [fg k (show (fun s : List Iv × Bool × Nat × Bd × I2 => bV a b l x32 l2 x322 s.1 s.2.1 s.2.2.1 s.2.2.2.1 s.2.2.2.2) (out, in_, p.length, fr, n) = _ from h1)]; exact h2, h3⟩
    rw [show swS aR (e :: r) out in_ fr n.n0 n.n1 = bif (nxe e r) then swS aR r out in_ fr (n.n0 + e.b0) (n.n1 + e.b1)
      else bif (aR (decide (n.n0 + e.b0 > 0)) (decide (n.n1 + e.b1 > 0))) && !in_ then swS aR r out (aR (decide (n.n0 + e.b0 > 0)) (decide (n.n1 + e.b1 > 0))) e.at_ (n.n0 + e.b0) (n.n1 + e.b1)
      else bif (!(aR (decide (n.n0 + e.b0 > 0)) (decide (n.n1 + e.b1 > 0)))) && in_ then swS aR r (out ++ [cY fr e.at_]) (aR (decide (n.n0 + e.b0 > 0)) (decide (n.n1 + e.b1 > 0))) fr (n.n0 + e.b0) (n.n1 + e.b1)
      else swS aR r out (aR (decide (n.n0 + e.b0 > 0)) (decide (n.n1 + e.b1 > 0))) fr (n.n0 + e.b0) (n.n1 + e.b1) from rfl]
    revert hb
    generalize nxe e r = c1
    generalize aR (decide (n.n0 + e.b0 > 0)) (decide (n.n1 + e.b1 > 0)) = c2
    intro hb
    cases c1
    · cases c2 <;> cases in_
      · exact go hb (ih _ _ _ _)
      · exact go hb (ih _ _ _ _)
      · exact go hb (ih _ _ _ _)
      · exact go hb (ih _ _ _ _)
    · exact go hb (ih _ _ _ _)
end Go.Sx
namespace Go.Sx
theorem pI (a b : Bool) : aR a b = (a && b) := by unfold aR; rfl
theorem je {α : Type} {c : α → α → Int} {x y : α} {q : List α} (h : c x y < 0) : fq c x (y :: q) = y :: fq c x q := if_pos h
theorem fT {α : Type} {c : α → α → Int} {x y : α} {q : List α} (h : ¬ c x y < 0) : fq c x (y :: q) = x :: y :: q := if_neg h
theorem eqz {a b : Bd} (ha : Tm a.at_) (hb : Tm b.at_) : (cK a b == 0) = decide (kB a = kB b) := by
  rw [cmpB ha hb]
  by_cases e : kB a = kB b
  · rw [e, fl, decide_eq_true rfl]; rfl
  · rw [decide_eq_false e]
    exact beq_eq_false_iff_ne.2 fun h => e (sgn_zero.1 h)
theorem ltz {a b : Ev} (ha : Tm a.at_.at_) (hb : Tm b.at_.at_) : ce a b < 0 ↔ kB a.at_ < kB b.at_ := by
  unfold ce
  rw [cmpB ha hb, sgn_neg]
theorem pG (x y : Iv) : aZ [x] [y] = swS aR (ah [⟨aF x, 1, 0⟩, ⟨aH x, -1, 0⟩, ⟨aF y, 0, 1⟩, ⟨aH y, 0, -1⟩]) [] false (⟨(⟨(⟨(⟨false, 0⟩ : GI), (⟨false, 0⟩ : GI)⟩ : GQ), (⟨(⟨false, 0⟩ : GI), (⟨false, 0⟩ : GI)⟩ : GQ), false⟩ : GR), false⟩ : Bd) 0 0 := by
  unfold aZ ep
  have h1 : bQ (fun s => d7 [x] [y] s.1 s.2) (([x].length - 0) + 1) ([], 0) = .inl ([⟨aF x, 1, 0⟩, ⟨aH x, -1, 0⟩], 1) := by
    exact (fg (B := fun s : List Ev × Nat => d7 [x] [y] s.1 s.2) (s := ([], 0)) (s' := ([⟨aF x, 1, 0⟩, ⟨aH x, -1, 0⟩], 1)) 1 rfl).trans (eY 0 rfl)
  refine (ew h1).trans ?_
  show f8 [x] [y] [⟨aF x, 1, 0⟩, ⟨aH x, -1, 0⟩] 1 = _
  unfold f8
  have h2 : bQ (fun s => d6 [x] [y] [⟨aF x, 1, 0⟩, ⟨aH x, -1, 0⟩] 1 s.1 s.2) (([y].length - 0) + 1) ([⟨aF x, 1, 0⟩, ⟨aH x, -1, 0⟩], 0) = .inl ([⟨aF x, 1, 0⟩, ⟨aH x, -1, 0⟩, ⟨aF y, 0, 1⟩, ⟨aH y, 0, -1⟩], 1) := by
    exact (fg (B := fun s : List Ev × Nat => d6 [x] [y] [⟨aF x, 1, 0⟩, ⟨aH x, -1, 0⟩] 1 s.1 s.2) (s := ([⟨aF x, 1, 0⟩, ⟨aH x, -1, 0⟩], 0)) (s' := ([⟨aF x, 1, 0⟩, ⟨aH x, -1, 0⟩, ⟨aF y, 0, 1⟩, ⟨aH y, 0, -1⟩], 1)) 1 rfl).trans (eY 0 rfl)
  refine (ew h2).trans ?_
  show f7 [x] [y] [⟨aF x, 1, 0⟩, ⟨aH x, -1, 0⟩] 1 [⟨aF x, 1, 0⟩, ⟨aH x, -1, 0⟩, ⟨aF y, 0, 1⟩, ⟨aH y, 0, -1⟩] 1 = _
  unfold f7
  obtain ⟨st, e1, e2⟩ := lM [x] [y] [⟨aF x, 1, 0⟩, ⟨aH x, -1, 0⟩] 1 [⟨aF x, 1, 0⟩, ⟨aH x, -1, 0⟩, ⟨aF y, 0, 1⟩, ⟨aH y, 0, -1⟩] 1 _ [] [] false (⟨(⟨(⟨(⟨false, 0⟩ : GI), (⟨false, 0⟩ : GI)⟩ : GQ), (⟨(⟨false, 0⟩ : GI), (⟨false, 0⟩ : GI)⟩ : GQ), false⟩ : GR), false⟩ : Bd) ⟨0, 0⟩ (((ah [⟨aF x, 1, 0⟩, ⟨aH x, -1, 0⟩, ⟨aF y, 0, 1⟩, ⟨aH y, 0, -1⟩]).length - 0) + 1) rfl (by omega)
  refine (ew e1).trans ?_
  unfold iB
  exact e2
theorem isect {x y : Iv} (hx : Wv x) (hy : Wv y) : aZ [x] [y] = bif (aU x y).2 then [(aU x y).1] else [] := by
  rw [pG, qf hx.1 hy.1]
  unfold mF mL
  have t1 : Tm (aF x).at_ := by rw [pf]; exact hx.1.1
  have t2 : Tm (aH x).at_ := by rw [pl]; exact hx.1.2
  have t3 : Tm (aF y).at_ := by rw [pf]; exact hy.1.1
  have t4 : Tm (aH y).at_ := by rw [pl]; exact hy.1.2
  have hab := hx.bd
  have hcd := hy.bd
  have j13 := kB_inj t1 t3
  have j24 := kB_inj t2 t4
  generalize aF x = fx at *
  generalize aH x = lx at *
  generalize aF y = fy at *
  generalize aH y = ly at *
  rw [pJ]
  rw [oE]
  have c21 : ¬ ce ⟨lx, -1, 0⟩ ⟨fx, 1, 0⟩ < 0 := by rw [ltz (a := ⟨lx, -1, 0⟩) (b := ⟨fx, 1, 0⟩) t2 t1]; show ¬ kB lx < kB fx; omega
  have c43 : ¬ ce ⟨ly, 0, -1⟩ ⟨fy, 0, 1⟩ < 0 := by rw [ltz (a := ⟨ly, 0, -1⟩) (b := ⟨fy, 0, 1⟩) t4 t3]; show ¬ kB ly < kB fy; omega
  have c32 : ce ⟨fy, 0, 1⟩ ⟨lx, -1, 0⟩ < 0 ↔ kB fy < kB lx := ltz (a := ⟨fy, 0, 1⟩) (b := ⟨lx, -1, 0⟩) t3 t2
  have c31 : ce ⟨fy, 0, 1⟩ ⟨fx, 1, 0⟩ < 0 ↔ kB fy < kB fx := ltz (a := ⟨fy, 0, 1⟩) (b := ⟨fx, 1, 0⟩) t3 t1
  have c42 : ce ⟨ly, 0, -1⟩ ⟨lx, -1, 0⟩ < 0 ↔ kB ly < kB lx := ltz (a := ⟨ly, 0, -1⟩) (b := ⟨lx, -1, 0⟩) t4 t2
  have c41 : ce ⟨ly, 0, -1⟩ ⟨fx, 1, 0⟩ < 0 ↔ kB ly < kB fx := ltz (a := ⟨ly, 0, -1⟩) (b := ⟨fx, 1, 0⟩) t4 t1
  have q12 := eqz t1 t2
  have q13 := eqz t1 t3
  have q14 := eqz t1 t4
  have q23 := eqz t2 t3
  have q24 := eqz t2 t4
  have q31 := eqz t3 t1
  have q32 := eqz t3 t2
  have q34 := eqz t3 t4
  have q41 := eqz t4 t1
  have q42 := eqz t4 t2
  show swS aR (fq ce ⟨ly, 0, -1⟩ (fq ce ⟨fy, 0, 1⟩ (fq ce ⟨lx, -1, 0⟩ [⟨fx, 1, 0⟩]))).reverse [] false _ 0 0 = _
  rw [fT c21]
  by_cases h32 : kB fy < kB lx
  · rw [je (c32.2 h32)]
    by_cases h31 : kB fy < kB fx
    · rw [je (c31.2 h31)]
      by_cases h42 : kB ly < kB lx
      · rw [je (c42.2 h42)]
        by_cases h41 : kB ly < kB fx
        · rw [je (c41.2 h41), fq, fT c43]
          rw [if_neg (by omega), if_pos (by omega), decide_eq_false (by omega)]
          simp only [List.reverse_cons, List.reverse_nil, List.nil_append, List.cons_append, swS, nxe, q34, q41, q12, pI]
          rw [decide_eq_false (by omega), decide_eq_false (by omega), decide_eq_false (by omega)]
          rfl
        · rw [fT (fun h => h41 (c41.1 h)), fq]
          simp only [List.reverse_cons, List.reverse_nil, List.nil_append, List.cons_append, swS, nxe, q31, q14, q42, pI]
          rw [if_neg (by omega), if_pos (by omega), decide_eq_false (by omega : ¬ kB fy = kB fx), decide_eq_false (by omega : ¬ kB ly = kB lx)]
          by_cases e : kB fx = kB ly
          · rw [decide_eq_true e, decide_eq_false (by omega : ¬ kB fx < kB ly)]; rfl
          · rw [decide_eq_false e, decide_eq_true (by omega : kB fx < kB ly)]; rfl
      · rw [fT (fun h => h42 (c42.1 h)), fq]
        simp only [List.reverse_cons, List.reverse_nil, List.nil_append, List.cons_append, swS, nxe, q31, q12, q24, pI]
        rw [if_neg (by omega), if_neg (by omega), decide_eq_false (by omega : ¬ kB fy = kB fx), decide_eq_false (by omega : ¬ kB fx = kB lx), decide_eq_true (by omega : kB fx < kB lx)]
        by_cases e : kB lx = kB ly
        · rw [decide_eq_true e, j24 e]; rfl
        · rw [decide_eq_false e]; rfl
    · rw [fT (fun h => h31 (c31.1 h))]
      by_cases h42 : kB ly < kB lx
      · rw [je (c42.2 h42), fT c43]
        simp only [List.reverse_cons, List.reverse_nil, List.nil_append, List.cons_append, swS, nxe, q13, q34, q42, pI]
        rw [if_pos (by omega : kB ly < kB lx), decide_eq_false (by omega : ¬ kB fy = kB ly), decide_eq_false (by omega : ¬ kB ly = kB lx)]
        by_cases e : kB fx = kB fy
        · rw [decide_eq_true e, if_neg (by omega), j13 e, decide_eq_true (by omega : kB fy < kB ly)]; rfl
        · rw [decide_eq_false e, if_pos (by omega), decide_eq_true (by omega : kB fy < kB ly)]; rfl
      · rw [fT (fun h => h42 (c42.1 h))]
        simp only [List.reverse_cons, List.reverse_nil, List.nil_append, List.cons_append, swS, nxe, q13, q32, q24, pI]
        rw [if_neg (by omega : ¬ kB ly < kB lx), decide_eq_false (by omega : ¬ kB fy = kB lx)]
        by_cases e : kB fx = kB fy
        · rw [decide_eq_true e, if_neg (by omega), j13 e, decide_eq_true (by omega : kB fy < kB lx)]
          by_cases g : kB lx = kB ly
          · rw [decide_eq_true g, j24 g]; rfl
          · rw [decide_eq_false g]; rfl
        · rw [decide_eq_false e, if_pos (by omega), decide_eq_true (by omega : kB fy < kB lx)]
          by_cases g : kB lx = kB ly
          · rw [decide_eq_true g, j24 g]; rfl
          · rw [decide_eq_false g]; rfl
  · rw [fT (fun h => h32 (c32.1 h)), fT c43]
    simp only [List.reverse_cons, List.reverse_nil, List.nil_append, List.cons_append, swS, nxe, q12, q23, q34, pI]
    rw [if_pos (by omega : kB fx < kB fy), if_neg (by omega : ¬ kB ly < kB lx), decide_eq_false (by omega : ¬ kB fx = kB lx), decide_eq_false (by omega : ¬ kB fy = kB ly), decide_eq_false (by omega : ¬ kB fy < kB lx)]
    by_cases e : kB lx = kB fy
    · rw [decide_eq_true e]; rfl
    · rw [decide_eq_false e]; rfl
end Go.Sx
namespace Go.Sx
section
variable {γ : Type} (q : Nat → Nat → List γ) (m : Nat)
def rfA (i k : Nat) : List γ := (List.range i).flatMap (fun j => (List.range m).flatMap (q j)) ++ (List.range k).flatMap (q i)
variable {q m}
theorem j0 {δ : Type} (g : Nat → List δ) (n : Nat) : (List.range (n + 1)).flatMap g = (List.range n).flatMap g ++ g n := by
  rw [List.range_succ, List.flatMap_append]; simp
theorem rfA_k (i k : Nat) : rfA q m i (k + 1) = rfA q m i k ++ q i k := by
  unfold rfA; rw [j0, List.append_assoc]
theorem md (i : Nat) : rfA q m i m = rfA q m (i + 1) 0 := by
  unfold rfA; rw [j0]; simp
theorem j6 {δ : Type} {g : Nat → List δ} {a : Nat} : ∀ n, (∀ k, a ≤ k → k < a + n → g k = []) → (List.range (a + n)).flatMap g = (List.range a).flatMap g
  | 0, _ => rfl
  | n + 1, h => by
    rw [← Nat.add_assoc, j0, h (a + n) (by omega) (by omega), List.append_nil]
    exact j6 n fun k h1 h2 => h k h1 (by omega)
theorem mb {i a b : Nat} (hab : a ≤ b) (h : ∀ k, a ≤ k → k < b → q i k = []) : rfA q m i b = rfA q m i a := by
  unfold rfA
  have := j6 (g := q i) (a := a) (b - a) (fun k h1 h2 => h k h1 (by omega))
  rw [show a + (b - a) = b by omega] at this
  rw [this]
theorem rfA_rows {a b : Nat} (hab : a ≤ b) (h : ∀ i, a ≤ i → i < b → ∀ k, k < m → q i k = []) : rfA q m b 0 = rfA q m a 0 := by
  unfold rfA
  have := j6 (g := fun j => (List.range m).flatMap (q j)) (a := a) (b - a) (fun i h1 h2 => by
    have := j6 (g := q i) (a := 0) m (fun k _ hk => h i h1 (by omega) k (by omega))
    rw [Nat.zero_add] at this
    exact this)
  rw [show a + (b - a) = b by omega] at this
  rw [this]
  rfl
theorem oH {δ : Type} (g : Nat → List δ) {a b : Nat} (h : a ≤ b) : (List.range a).flatMap g <+: (List.range b).flatMap g := by
  obtain ⟨c, rfl⟩ : ∃ c, b = a + c := ⟨b - a, by omega⟩
  clear h
  induction c with
  | zero => exact List.prefix_refl _
  | succ c ih =>
    rw [← Nat.add_assoc, j0]
    exact ih.trans (List.prefix_append _ _)
theorem rfA_pre {i k n : Nat} (hi : i < n) (hk : k ≤ m) : rfA q m i k <+: rfA q m n 0 := by
  have h1 : rfA q m i k <+: rfA q m i m := by
    unfold rfA
    obtain ⟨t, ht⟩ := oH (q i) hk
    exact ⟨t, by rw [List.append_assoc, ht]⟩
  refine h1.trans ?_
  rw [md]
  unfold rfA
  have := oH (fun j => (List.range m).flatMap (q j)) (show i + 1 ≤ n from hi)
  simpa using this
end
section
variable {α β : Type} [Inhabited α] [Inhabited β]
def rfQ (u : List (U α)) (v : List (U β)) (i k : Nat) : List (Bt α β) :=
  bif decide (i < u.length) then (bif (aU (gt u i).iv (gt v k).iv).2 then [⟨(aU (gt u i).iv (gt v k).iv).1, (gt u i).f, (gt v k).f⟩] else []) else []
def rfB {R : Type} (a : List (U α)) (b : List (U β)) (out : List (Bt α β)) (i k : Nat) : Nx (List (Bt α β) × Nat × Nat) R :=
  bif ((decide (((i : Nat) : Int) < ((a.length : Nat) : Int))) && (decide (((k : Nat) : Int) < ((b.length : Nat) : Int)))) then
    bif (aU ((gt a i).iv) ((gt b k).iv)).2 then
      bif (dc ((gt a i).iv) ((gt b k).iv)) then
        .go ((out ++ [(⟨(aU ((gt a i).iv) ((gt b k).iv)).1, (gt a i).f, (gt b k).f⟩ : Bt α β)]), (i + 1), k)
      else
        .go ((out ++ [(⟨(aU ((gt a i).iv) ((gt b k).iv)).1, (gt a i).f, (gt b k).f⟩ : Bt α β)]), i, (k + 1))
    else
      bif (dc ((gt a i).iv) ((gt b k).iv)) then
        .go (out, (i + 1), k)
      else
        .go (out, i, (k + 1))
  else
    .out (out, i, k)
structure Od (u : List (U α)) : Prop where
  wv : ∀ x ∈ u, Wv x.iv
  ord : u.Pairwise fun a b => lm a.iv < (lI b.iv : Int)
theorem Od.gt {u : List (U α)} (h : Od u) {i : Nat} (hi : i < u.length) : Wv (Sx.gt u i).iv := h.wv _ (by rw [jI hi]; exact List.getElem_mem _)
theorem Od.lt {u : List (U α)} (h : Od u) {i j : Nat} (hij : i < j) (hj : j < u.length) : kB (aH (Sx.gt u i).iv) ≤ kB (aF (Sx.gt u j).iv) := by
  have := List.pairwise_iff_getElem.1 h.ord i j (by omega) hj hij
  rw [← jI (by omega : i < u.length), ← jI hj] at this
  have h2 := qq (Sx.gt u i).iv
  rw [oC]; omega
theorem mF_ge (x y : Iv) : kB (aF x) ≤ kB (mF x y) ∧ kB (aF y) ≤ kB (mF x y) := by
  unfold mF; split <;> omega
theorem mL_le (x y : Iv) : kB (mL x y) ≤ kB (aH x) ∧ kB (mL x y) ≤ kB (aH y) := by
  unfold mL; split <;> omega
theorem na {x y : Iv} (hx : Tv x) (hy : Tv y) (h : kB (aH x) ≤ kB (aF y) ∨ kB (aH y) ≤ kB (aF x)) : (aU x y).2 = false := by
  rw [qf hx hy]
  have h1 := mF_ge x y
  have h2 := mL_le x y
  exact decide_eq_false (by omega)
theorem ma {u : List (U α)} {v : List (U β)} {i k : Nat} (h : i < u.length → (aU (gt u i).iv (gt v k).iv).2 = false) : rfQ u v i k = [] := by
  unfold rfQ
  by_cases hi : i < u.length
  · rw [h hi]; cases decide (i < u.length) <;> rfl
  · rw [decide_eq_false hi]; rfl
theorem jD {R : Type} {u : List (U α)} {v : List (U β)} (hu : Od u) (hv : Od v) : ∀ (n i k : Nat) (out : List (Bt α β)), i ≤ u.length → k ≤ v.length → (u.length - i) + (v.length - k) < n → out = rfA (rfQ u v) v.length i k →
    (∀ i' k', i < i' → k' < k → rfQ u v i' k' = []) → ∃ st, bQ (R := R) (fun s => rfB u v s.1 s.2.1 s.2.2) n (out, i, k) = .inl st ∧ st.1 = rfA (rfQ u v) v.length u.length 0
  | 0, i, k, out, _, _, hn, _, _ => by omega
  | n + 1, i, k, out, hi, hk, hn, ho, hq => by
    by_cases hi2 : i < u.length
    · by_cases hk2 : k < v.length
      · have hc : ((decide (((i : Nat) : Int) < ((u.length : Nat) : Int))) && (decide (((k : Nat) : Int) < ((v.length : Nat) : Int)))) = true := by
          rw [decide_eq_true (by omega : ((i : Nat) : Int) < ((u.length : Nat) : Int)), decide_eq_true (by omega : ((k : Nat) : Int) < ((v.length : Nat) : Int))]; rfl
        have hqi : rfQ u v i k = bif (aU (gt u i).iv (gt v k).iv).2 then [⟨(aU (gt u i).iv (gt v k).iv).1, (gt u i).f, (gt v k).f⟩] else [] := by
          unfold rfQ; rw [decide_eq_true hi2, cond_true]
        have hb : rfB (R := R) u v out i k = bif (dc ((gt u i).iv) ((gt v k).iv)) then .go (out ++ rfQ u v i k, i + 1, k) else .go (out ++ rfQ u v i k, i, k + 1) := by
          unfold rfB
          rw [hc, cond_true, hqi]
          cases (aU (gt u i).iv (gt v k).iv).2
          · rw [cond_false, cond_false, List.append_nil]
          · rw [cond_true, cond_true]
        have ho2 : out ++ rfQ u v i k = rfA (rfQ u v) v.length i (k + 1) := by rw [ho, rfA_k]
        have wu := hu.gt hi2
        have wv := hv.gt hk2
        cases he : dc ((gt u i).iv) ((gt v k).iv) with
        | true =>
          rw [he, cond_true] at hb
          rw [qx wu.1 wv.1, decide_eq_true_eq] at he
          obtain ⟨st, e1, e2⟩ := jD (R := R) hu hv n (i + 1) k (out ++ rfQ u v i k) (by omega) hk (by omega) (by
            rw [ho2, ← mb (show k + 1 ≤ v.length from hk2) (fun k' h1 h2 => ma fun _ => na wu.1 (hv.gt h2).1 (.inl (Nat.le_trans he (hv.lt (by omega) h2)))), md]
            exact (mb (Nat.zero_le k) fun k' _ h2 => hq (i + 1) k' (by omega) h2).symm) (fun i' k' h1 h2 => hq i' k' (by omega) h2)
          exact ⟨st, by rw [fg n (show (fun s : List (Bt α β) × Nat × Nat => rfB (R := R) u v s.1 s.2.1 s.2.2) (out, i, k) = _ from hb)]; exact e1, e2⟩
        | false =>
          rw [he, cond_false] at hb
          rw [qx wu.1 wv.1, decide_eq_false_iff_not] at he
          obtain ⟨st, e1, e2⟩ := jD (R := R) hu hv n i (k + 1) (out ++ rfQ u v i k) hi hk2 (by omega) ho2 (fun i' k' h1 h2 => by
            by_cases e : k' = k
            · subst e
              refine ma fun h3 => na (hu.gt h3).1 wv.1 (.inr ?_)
              have := hu.lt h1 h3
              have := wu.bd
              omega
            · exact hq i' k' h1 (by omega))
          exact ⟨st, by rw [fg n (show (fun s : List (Bt α β) × Nat × Nat => rfB (R := R) u v s.1 s.2.1 s.2.2) (out, i, k) = _ from hb)]; exact e1, e2⟩
      · have hb : rfB (R := R) u v out i k = .out (out, i, k) := by
          unfold rfB
          rw [decide_eq_false (by omega : ¬ ((k : Nat) : Int) < ((v.length : Nat) : Int)), Bool.and_false]; rfl
        have hkm : k = v.length := by omega
        refine ⟨(out, i, k), eY n hb, ?_⟩
        show out = _
        rw [ho, hkm, md]
        exact (rfA_rows (by omega) fun i' h1 h2 k' h3 => hq i' k' (by omega) (by omega)).symm
    · have hb : rfB (R := R) u v out i k = .out (out, i, k) := by
        unfold rfB
        rw [decide_eq_false (by omega : ¬ ((i : Nat) : Int) < ((u.length : Nat) : Int)), Bool.false_and]; rfl
      have him : i = u.length := by omega
      refine ⟨(out, i, k), eY n hb, ?_⟩
      show out = _
      rw [ho, him]
      exact mb (Nat.zero_le k) fun k' _ _ => ma fun h => absurd h (Nat.lt_irrefl _)
end
theorem o4 {u : List (U Qd)} {v : List (U Int)} (hu : Od u) (hv : Od v) : ca u v = rfA (rfQ u v) v.length u.length 0 := by
  unfold ca
  obtain ⟨st, e1, e2⟩ := jD (R := List (Bt Qd Int)) hu hv ((u.length - 0) + (v.length - 0) + 1) 0 0 [] (Nat.zero_le _) (Nat.zero_le _) (by omega) rfl (fun _ _ _ h => absurd h (Nat.not_lt_zero _))
  refine (ew (s := st) e1).trans ?_
  unfold gK
  exact e2
theorem qo : Ru (fun _ => True) aT aY := by
  have s : ∀ f g t, aT f g t = true ↔ f = g := fun f g t => by unfold aT; simp
  have r : ∀ f t, aY f t = f := fun f t => by unfold aY; rfl
  refine ⟨fun t _ f _ => (s _ _ _).2 rfl, fun t _ f g _ _ h => (s _ _ _).2 ((s _ _ _).1 h).symm, fun t _ f g e _ _ _ h1 h2 => (s _ _ _).2 (((s _ _ _).1 h1).trans ((s _ _ _).1 h2)), fun _ _ _ _ => trivial, fun t _ f _ => (s _ _ _).2 (r _ _), fun t _ f _ => by rw [r, r]⟩
theorem nf_int {u : List (U Int)} (hW : ∀ x ∈ u, Wv x.iv) : NF cA aT aY (aV u) := by
  have hE := (mE (l := u.map (·.iv)) (fun i hi => by obtain ⟨x, hx, rfl⟩ := List.mem_map.1 hi; exact (hW x hx).1)).1
  unfold aV
  rw [built_eq, ends_int, qZ]
  have hA := k6 (z := (0 : Int)) (u := u) hE
  have hl : (f5 (0 : Int) u (iG (u.map (·.iv)))).length = (eR (0 : Int) (iG (u.map (·.iv)))).length := by unfold f5; rw [List.length_map]
  refine (ml qo (fun a b => (nf a b).1) hA (fun i hi => ?_) (fun i hi hh => trivial) _ (Nat.le_refl _)).1
  rw [iR hi, (eW u _).1, (eW u _).2.2]
  have := mS (z := (0 : Int)) hE (a := gt (eR 0 (iG (u.map (·.iv)))) i) (by rw [jI (hl ▸ hi)]; exact List.getElem_mem _)
  exact ⟨this.1, this.2.1⟩
def bq (l : List Stp) : List (U Qd) := aJ (aw l)
def bl (l : List Stp) : List (U Int) := aV (a6 (aw l))
theorem bq_od (l : List Stp) : Od (bq l) := ⟨(bn_nf l).1.wv, (bn_nf l).1.ord⟩
theorem bl_od (l : List Stp) : Od (bl l) := ⟨(nf_int (nc l).1).wv, (nf_int (nc l).1).ord⟩
section
variable (l m : List Stp)
def xq : List (Bt Qd Int) := rfA (rfQ (bq l) (bl m)) (bl m).length (bq l).length 0
theorem xq_is : ca (aJ (aw l)) (aV (a6 (aw m))) = xq l m := o4 (bq_od l) (bl_od m)
theorem in_step {ct i c k : Nat} (hi : i < (bq l).length) (hk : k < (bl m).length) (hc : c = (rfA (rfQ (bq l) (bl m)) (bl m).length i k).length) :
    bf l m ct i c k = .go ((rfA (rfQ (bq l) (bl m)) (bl m).length i (k + 1)).length, k + 1) := by
  have hq : rfQ (bq l) (bl m) i k = bif (aU (gt (bq l) i).iv (gt (bl m) k).iv).2 then [⟨(aU (gt (bq l) i).iv (gt (bl m) k).iv).1, (gt (bq l) i).f, (gt (bl m) k).f⟩] else [] := by
    unfold rfQ; rw [decide_eq_true hi, cond_true]
  have hI := isect ((bq_od l).gt hi) ((bl_od m).gt hk)
  have hp := rfA_pre (q := rfQ (bq l) (bl m)) (m := (bl m).length) (n := (bq l).length) hi (show k + 1 ≤ (bl m).length from hk)
  unfold bf
  rw [xq_is]
  show (bif (decide (((k : Nat) : Int) < (((bl m).length : Nat) : Int))) then (bif ((((aZ [(gt (bq l) i).iv] [(gt (bl m) k).iv]).length : Nat) : Int) == ((0 : Nat) : Int)) then _ else bif ((((decide (((c : Nat) : Int) ≥ (((xq l m).length : Nat) : Int))) || (!(decide ((gt (xq l m) c).iv = (gt (aZ [(gt (bq l) i).iv] [(gt (bl m) k).iv]) 0))))) || (!(decide ((gt (xq l m) c).f = (gt (bq l) i).f)))) || (((gt (xq l m) c).g) != ((gt (bl m) k).f))) then _ else _) else _) = _
  rw [decide_eq_true (by omega : ((k : Nat) : Int) < (((bl m).length : Nat) : Int)), cond_true, hI]
  rw [rfA_k, hq] at hp ⊢
  cases hm : (aU (gt (bq l) i).iv (gt (bl m) k).iv).2 with
  | false =>
    rw [cond_false, cond_false, List.append_nil, ← hc]; rfl
  | true =>
    rw [hm, cond_true] at hp
    obtain ⟨t, ht⟩ := hp
    have ht : rfA (rfQ (bq l) (bl m)) (bl m).length i k ++ [⟨(aU (gt (bq l) i).iv (gt (bl m) k).iv).1, (gt (bq l) i).f, (gt (bl m) k).f⟩] ++ t = xq l m := ht
    rw [List.append_assoc] at ht
    have hg : gt (xq l m) c = ⟨(aU (gt (bq l) i).iv (gt (bl m) k).iv).1, (gt (bq l) i).f, (gt (bl m) k).f⟩ := by rw [← ht]; exact kt hc
    have hl : c < (xq l m).length := by rw [← ht, hc]; simp
    rw [cond_true, cond_true, hg, decide_eq_false (by omega : ¬ ((c : Nat) : Int) ≥ (((xq l m).length : Nat) : Int)), List.length_append, ← hc]
    show (bif false then _ else bif (((false || !(decide ((aU (gt (bq l) i).iv (gt (bl m) k).iv).1 = (aU (gt (bq l) i).iv (gt (bl m) k).iv).1))) || !(decide ((gt (bq l) i).f = (gt (bq l) i).f))) || ((gt (bl m) k).f != (gt (bl m) k).f)) then _ else _) = _
    rw [decide_eq_true rfl, decide_eq_true rfl, bne_self_eq_false]; rfl
theorem qr {ct i : Nat} (hi : i < (bq l).length) : ∀ (n k c : Nat), k ≤ (bl m).length → (bl m).length - k < n → c = (rfA (rfQ (bq l) (bl m)) (bl m).length i k).length →
    bQ (fun s => bf l m ct i s.1 s.2) n (c, k) = .inl ((rfA (rfQ (bq l) (bl m)) (bl m).length i (bl m).length).length, (bl m).length)
  | 0, k, c, _, hn, _ => by omega
  | n + 1, k, c, hk, hn, hc => by
    by_cases h : k < (bl m).length
    · rw [fg n (show (fun s : Nat × Nat => bf l m ct i s.1 s.2) (c, k) = _ from in_step l m hi h hc)]
      exact qr hi n (k + 1) _ h (by omega) rfl
    · have hkm : k = (bl m).length := by omega
      subst hc
      rw [hkm]
      refine eY n ?_
      show bf l m ct i _ (bl m).length = _
      unfold bf
      show (bif (decide ((((bl m).length : Nat) : Int) < (((bl m).length : Nat) : Int))) then _ else _) = _
      rw [decide_eq_false (by omega : ¬ (((bl m).length : Nat) : Int) < (((bl m).length : Nat) : Int))]; rfl
theorem oq : ∀ (n i c : Nat), i ≤ (bq l).length → (bq l).length - i < n → c = (rfA (rfQ (bq l) (bl m)) (bl m).length i 0).length →
    bQ (fun s => bg l m s.1 s.2) n (c, i) = .inl ((xq l m).length, (bq l).length)
  | 0, i, c, _, hn, _ => by omega
  | n + 1, i, c, hi, hn, hc => by
    by_cases h : i < (bq l).length
    · have hb : bg l m c i = .go ((rfA (rfQ (bq l) (bl m)) (bl m).length (i + 1) 0).length, i + 1) := by
        unfold bg
        show (bif (decide (((i : Nat) : Int) < (((bq l).length : Nat) : Int))) then _ else _) = _
        rw [decide_eq_true (by omega : ((i : Nat) : Int) < (((bq l).length : Nat) : Int)), cond_true]
        refine (ew (qr l m (ct := c) h _ 0 c (Nat.zero_le _) (show (bl m).length - 0 < ((bl m).length - 0) + 1 by omega) hc)).trans ?_
        unfold fd
        rw [md]
      rw [fg n (show (fun s : Nat × Nat => bg l m s.1 s.2) (c, i) = _ from hb)]
      exact oq n (i + 1) _ h (by omega) rfl
    · have him : i = (bq l).length := by omega
      rw [hc, him]
      refine eY n ?_
      show bg l m _ (bq l).length = _
      unfold bg
      show (bif (decide ((((bq l).length : Nat) : Int) < (((bq l).length : Nat) : Int))) then _ else _) = _
      rw [decide_eq_false (by omega : ¬ (((bq l).length : Nat) : Int) < (((bq l).length : Nat) : Int))]; rfl
theorem m6 : cX l m = true := by
  unfold cX
  rw [knw]
  show fin (bQ (fun s => bg l m s.1 s.2) (((bq l).length - 0) + 1) (0, 0)) _ _ = true
  refine (ew (oq l m _ 0 0 (Nat.zero_le _) (by omega) rfl)).trans ?_
  unfold fe
  rw [xq_is]
  exact beq_self_eq_true _
end
end Go.Sx
