/- A part of the proof that the law BracketQuestions/Checks answers true at every input and leaves its arguments as they were. -/
import Derived.Test.YtbnldpccdppmiaaGreatDoorP5
import Derived.Test.YtbnldpccdppmiaaGreatDoorP6
import Derived.Test.YtbnldpccdppmiaaGreatDoorP7
set_option linter.unusedVariables false
set_option linter.unusedSimpArgs false
namespace Go.Sx
set_option maxRecDepth 100000
theorem jW (a b : List Iv) (l : List Ev) (x32 : Nat) (l2 : List Ev) (x322 : Nat) : ∀ (s p : List Ev) (out : List Iv) (in_ : Bool) (fr : Bd) (n : I2) (k : Nat), ab l2 = p ++ s → s.length < k →
    ∃ st, cd (fun s => bH a b l x32 l2 x322 s.1 s.2.1 s.2.2.1 s.2.2.2.1 s.2.2.2.2) k (out, in_, p.length, fr, n) = .inl st ∧ st.1 = swS aP s out in_ fr n.n0 n.n1
  | [], p, out, in_, fr, n, k + 1, hs, _ => by
    refine ⟨(out, in_, p.length, fr, n), iN k ?_, rfl⟩
    show bH a b l x32 l2 x322 out in_ p.length fr n = _
    unfold bH
    rw [hs, List.append_nil, decide_eq_false (by omega : ¬ ((p.length : Nat) : Int) < ((p.length : Nat) : Int))]; rfl
  | e :: r, p, out, in_, fr, n, k + 1, hs, hk => by
    have hl : (ab l2).length = p.length + 1 + r.length := by rw [hs]; simp; omega
    have hg : gt (ab l2) p.length = e := by rw [hs]; exact lJ rfl
    have hs2 : ab l2 = (p ++ [e]) ++ r := by rw [hs]; simp
    have hpl : (p ++ [e]).length = p.length + 1 := by simp
    have hk2 : r.length < k := by simp at hk; omega
    have hnx : ((decide (((p.length + 1 : Nat) : Int) < (((ab l2).length : Nat) : Int))) && ((aQ e.at_ ((gt (ab l2) (p.length + 1)).at_)) == 0)) = nxe e r := by
      cases r with
      | nil =>
        simp only [List.length_nil] at hl
        rw [decide_eq_false (by omega : ¬ ((p.length + 1 : Nat) : Int) < (((ab l2).length : Nat) : Int))]; rfl
      | cons e2 r =>
        have : gt (ab l2) (p.length + 1) = e2 := by rw [hs2]; exact lJ (by simp)
        rw [this, decide_eq_true (by simp at hl; omega : ((p.length + 1 : Nat) : Int) < (((ab l2).length : Nat) : Int))]; rfl
    have ih := fun o i f (m : I2) => jW a b l x32 l2 x322 r (p ++ [e]) o i f m k hs2 hk2
    rw [hpl] at ih
    have hb : bH a b l x32 l2 x322 out in_ p.length fr n = bif (nxe e r) then .go (out, in_, (p.length + 1), fr, (⟨n.n0 + e.b0, n.n1 + e.b1⟩ : I2))
      else bif ((aP (decide (n.n0 + e.b0 > 0)) (decide (n.n1 + e.b1 > 0))) && !in_) then .go (out, (aP (decide (n.n0 + e.b0 > 0)) (decide (n.n1 + e.b1 > 0))), (p.length + 1), e.at_, (⟨n.n0 + e.b0, n.n1 + e.b1⟩ : I2))
      else bif ((!(aP (decide (n.n0 + e.b0 > 0)) (decide (n.n1 + e.b1 > 0)))) && in_) then .go (out ++ [a8 fr e.at_], (aP (decide (n.n0 + e.b0 > 0)) (decide (n.n1 + e.b1 > 0))), (p.length + 1), fr, (⟨n.n0 + e.b0, n.n1 + e.b1⟩ : I2))
      else .go (out, (aP (decide (n.n0 + e.b0 > 0)) (decide (n.n1 + e.b1 > 0))), (p.length + 1), fr, (⟨n.n0 + e.b0, n.n1 + e.b1⟩ : I2)) := by
      unfold bH
      rw [hg, decide_eq_true (by omega : ((p.length : Nat) : Int) < (((ab l2).length : Nat) : Int)), cond_true]
      exact congrArg (fun c => bif c then _ else _) hnx
    have go : ∀ {st' : List Iv × Bool × Nat × Bd × I2} {R : List Iv}, bH a b l x32 l2 x322 out in_ p.length fr n = .go st' → (∃ st, cd (fun s => bH a b l x32 l2 x322 s.1 s.2.1 s.2.2.1 s.2.2.2.1 s.2.2.2.2) k st' = .inl st ∧ st.1 = R) → ∃ st, cd (fun s => bH a b l x32 l2 x322 s.1 s.2.1 s.2.2.1 s.2.2.2.1 s.2.2.2.2) (k + 1) (out, in_, p.length, fr, n) = .inl st ∧ st.1 = R := fun h1 ⟨st, h2, h3⟩ => ⟨st, by rw [i5 k (show (fun s : List Iv × Bool × Nat × Bd × I2 => bH a b l x32 l2 x322 s.1 s.2.1 s.2.2.1 s.2.2.2.1 s.2.2.2.2) (out, in_, p.length, fr, n) = _ from h1)]; exact h2, h3⟩
    rw [show swS aP (e :: r) out in_ fr n.n0 n.n1 = bif (nxe e r) then swS aP r out in_ fr (n.n0 + e.b0) (n.n1 + e.b1)
      else bif (aP (decide (n.n0 + e.b0 > 0)) (decide (n.n1 + e.b1 > 0))) && !in_ then swS aP r out (aP (decide (n.n0 + e.b0 > 0)) (decide (n.n1 + e.b1 > 0))) e.at_ (n.n0 + e.b0) (n.n1 + e.b1)
      else bif (!(aP (decide (n.n0 + e.b0 > 0)) (decide (n.n1 + e.b1 > 0)))) && in_ then swS aP r (out ++ [a8 fr e.at_]) (aP (decide (n.n0 + e.b0 > 0)) (decide (n.n1 + e.b1 > 0))) fr (n.n0 + e.b0) (n.n1 + e.b1)
      else swS aP r out (aP (decide (n.n0 + e.b0 > 0)) (decide (n.n1 + e.b1 > 0))) fr (n.n0 + e.b0) (n.n1 + e.b1) from rfl]
    revert hb
    generalize nxe e r = c1
    generalize aP (decide (n.n0 + e.b0 > 0)) (decide (n.n1 + e.b1 > 0)) = c2
    intro hb
    cases c1
    · cases c2 <;> cases in_
      · exact go hb (ih _ _ _ _)
      · exact go hb (ih _ _ _ _)
      · exact go hb (ih _ _ _ _)
      · exact go hb (ih _ _ _ _)
    · exact go hb (ih _ _ _ _)
theorem nV (a b : List Iv) : ∃ fr, dT a b = swS aP (ab (evA a ++ evB b)) [] false fr 0 0 := by
  have h1 := fo (R := List Iv) (f := fun (o : List Ev) (u : Iv) => o ++ [(⟨am u, 1, 0⟩ : Ev), (⟨ao u, (-1), 0⟩ : Ev)]) a (B := fun s => cY a b s.1 s.2) (fun o i hi => by
    show cY a b o i = _
    unfold cY
    rw [decide_eq_true (by omega : ((i : Nat) : Int) < ((a.length : Nat) : Int))]; rfl) (fun o => by
    show cY a b o a.length = _
    unfold cY
    rw [decide_eq_false (by omega : ¬ ((a.length : Nat) : Int) < ((a.length : Nat) : Int))]; rfl) a [] [] (a.length - 0 + 1) rfl (by omega)
  rw [fm] at h1
  have h2 := fo (R := List Iv) (f := fun (o : List Ev) (u : Iv) => o ++ [(⟨am u, 0, 1⟩ : Ev), (⟨ao u, 0, (-1)⟩ : Ev)]) b (B := fun s => cX a b (evA a) a.length s.1 s.2) (fun o i hi => by
    show cX a b (evA a) a.length o i = _
    unfold cX
    rw [decide_eq_true (by omega : ((i : Nat) : Int) < ((b.length : Nat) : Int))]; rfl) (fun o => by
    show cX a b (evA a) a.length o b.length = _
    unfold cX
    rw [decide_eq_false (by omega : ¬ ((b.length : Nat) : Int) < ((b.length : Nat) : Int))]; rfl) b [] (evA a) (b.length - 0 + 1) rfl (by omega)
  rw [fm] at h2
  refine ⟨(⟨(⟨(⟨(⟨false, 0⟩ : GI), (⟨false, 0⟩ : GI)⟩ : GQ), (⟨(⟨false, 0⟩ : GI), (⟨false, 0⟩ : GI)⟩ : GQ), false⟩ : GR), false⟩ : Bd), ?_⟩
  obtain ⟨st, h3, h4⟩ := jW a b (evA a) a.length (evA a ++ evB b) b.length (ab (evA a ++ evB b)) [] [] false (⟨(⟨(⟨(⟨false, 0⟩ : GI), (⟨false, 0⟩ : GI)⟩ : GQ), (⟨(⟨false, 0⟩ : GI), (⟨false, 0⟩ : GI)⟩ : GQ), false⟩ : GR), false⟩ : Bd) ⟨0, 0⟩ ((ab (evA a ++ evB b)).length - 0 + 1) rfl (by omega)
  rw [← h4]
  unfold dT
  refine (fe h1).trans ?_
  show fH a b (evA a) a.length = _
  unfold fH
  refine (fe h2).trans ?_
  show fG a b (evA a) a.length (evA a ++ evB b) b.length = _
  unfold fG
  refine (fe h3).trans ?_
  rfl
theorem jU (a b : List Iv) (l : List Ev) (x32 : Nat) (l2 : List Ev) (x322 : Nat) : ∀ (s p : List Ev) (out : List Iv) (in_ : Bool) (fr : Bd) (n : I2) (k : Nat), ab l2 = p ++ s → s.length < k →
    ∃ st, cd (fun s => bF a b l x32 l2 x322 s.1 s.2.1 s.2.2.1 s.2.2.2.1 s.2.2.2.2) k (out, in_, p.length, fr, n) = .inl st ∧ st.1 = swS bf s out in_ fr n.n0 n.n1
  | [], p, out, in_, fr, n, k + 1, hs, _ => by
    refine ⟨(out, in_, p.length, fr, n), iN k ?_, rfl⟩
    show bF a b l x32 l2 x322 out in_ p.length fr n = _
    unfold bF
    rw [hs, List.append_nil, decide_eq_false (by omega : ¬ ((p.length : Nat) : Int) < ((p.length : Nat) : Int))]; rfl
  | e :: r, p, out, in_, fr, n, k + 1, hs, hk => by
    have hl : (ab l2).length = p.length + 1 + r.length := by rw [hs]; simp; omega
    have hg : gt (ab l2) p.length = e := by rw [hs]; exact lJ rfl
    have hs2 : ab l2 = (p ++ [e]) ++ r := by rw [hs]; simp
    have hpl : (p ++ [e]).length = p.length + 1 := by simp
    have hk2 : r.length < k := by simp at hk; omega
    have hnx : ((decide (((p.length + 1 : Nat) : Int) < (((ab l2).length : Nat) : Int))) && ((aQ e.at_ ((gt (ab l2) (p.length + 1)).at_)) == 0)) = nxe e r := by
      cases r with
      | nil =>
        simp only [List.length_nil] at hl
        rw [decide_eq_false (by omega : ¬ ((p.length + 1 : Nat) : Int) < (((ab l2).length : Nat) : Int))]; rfl
      | cons e2 r =>
        have : gt (ab l2) (p.length + 1) = e2 := by rw [hs2]; exact lJ (by simp)
        rw [this, decide_eq_true (by simp at hl; omega : ((p.length + 1 : Nat) : Int) < (((ab l2).length : Nat) : Int))]; rfl
    have ih := fun o i f (m : I2) => jU a b l x32 l2 x322 r (p ++ [e]) o i f m k hs2 hk2
    rw [hpl] at ih
    have hb : bF a b l x32 l2 x322 out in_ p.length fr n = bif (nxe e r) then .go (out, in_, (p.length + 1), fr, (⟨n.n0 + e.b0, n.n1 + e.b1⟩ : I2))
      else bif ((bf (decide (n.n0 + e.b0 > 0)) (decide (n.n1 + e.b1 > 0))) && !in_) then .go (out, (bf (decide (n.n0 + e.b0 > 0)) (decide (n.n1 + e.b1 > 0))), (p.length + 1), e.at_, (⟨n.n0 + e.b0, n.n1 + e.b1⟩ : I2))
      else bif ((!(bf (decide (n.n0 + e.b0 > 0)) (decide (n.n1 + e.b1 > 0)))) && in_) then .go (out ++ [a8 fr e.at_], (bf (decide (n.n0 + e.b0 > 0)) (decide (n.n1 + e.b1 > 0))), (p.length + 1), fr, (⟨n.n0 + e.b0, n.n1 + e.b1⟩ : I2))
      else .go (out, (bf (decide (n.n0 + e.b0 > 0)) (decide (n.n1 + e.b1 > 0))), (p.length + 1), fr, (⟨n.n0 + e.b0, n.n1 + e.b1⟩ : I2)) := by
      unfold bF
      rw [hg, decide_eq_true (by omega : ((p.length : Nat) : Int) < (((ab l2).length : Nat) : Int)), cond_true]
      exact congrArg (fun c => bif c then _ else _) hnx
    have go : ∀ {st' : List Iv × Bool × Nat × Bd × I2} {R : List Iv}, bF a b l x32 l2 x322 out in_ p.length fr n = .go st' → (∃ st, cd (fun s => bF a b l x32 l2 x322 s.1 s.2.1 s.2.2.1 s.2.2.2.1 s.2.2.2.2) k st' = .inl st ∧ st.1 = R) → ∃ st, cd (fun s => bF a b l x32 l2 x322 s.1 s.2.1 s.2.2.1 s.2.2.2.1 s.2.2.2.2) (k + 1) (out, in_, p.length, fr, n) = .inl st ∧ st.1 = R := fun h1 ⟨st, h2, h3⟩ => ⟨st, by rw [i5 k (show (fun s : List Iv × Bool × Nat × Bd × I2 => bF a b l x32 l2 x322 s.1 s.2.1 s.2.2.1 s.2.2.2.1 s.2.2.2.2) (out, in_, p.length, fr, n) = _ from h1)]; exact h2, h3⟩
    rw [show swS bf (e :: r) out in_ fr n.n0 n.n1 = bif (nxe e r) then swS bf r out in_ fr (n.n0 + e.b0) (n.n1 + e.b1)
      else bif (bf (decide (n.n0 + e.b0 > 0)) (decide (n.n1 + e.b1 > 0))) && !in_ then swS bf r out (bf (decide (n.n0 + e.b0 > 0)) (decide (n.n1 + e.b1 > 0))) e.at_ (n.n0 + e.b0) (n.n1 + e.b1)
      else bif (!(bf (decide (n.n0 + e.b0 > 0)) (decide (n.n1 + e.b1 > 0)))) && in_ then swS bf r (out ++ [a8 fr e.at_]) (bf (decide (n.n0 + e.b0 > 0)) (decide (n.n1 + e.b1 > 0))) fr (n.n0 + e.b0) (n.n1 + e.b1)
      else swS bf r out (bf (decide (n.n0 + e.b0 > 0)) (decide (n.n1 + e.b1 > 0))) fr (n.n0 + e.b0) (n.n1 + e.b1) from rfl]
    revert hb
    generalize nxe e r = c1
    generalize bf (decide (n.n0 + e.b0 > 0)) (decide (n.n1 + e.b1 > 0)) = c2
    intro hb
    cases c1
    · cases c2 <;> cases in_
      · exact go hb (ih _ _ _ _)
      · exact go hb (ih _ _ _ _)
      · exact go hb (ih _ _ _ _)
      · exact go hb (ih _ _ _ _)
    · exact go hb (ih _ _ _ _)
theorem nT (a b : List Iv) : ∃ fr, dR a b = swS bf (ab (evA a ++ evB b)) [] false fr 0 0 := by
  have h1 := fo (R := List Iv) (f := fun (o : List Ev) (u : Iv) => o ++ [(⟨am u, 1, 0⟩ : Ev), (⟨ao u, (-1), 0⟩ : Ev)]) a (B := fun s => cO a b s.1 s.2) (fun o i hi => by
    show cO a b o i = _
    unfold cO
    rw [decide_eq_true (by omega : ((i : Nat) : Int) < ((a.length : Nat) : Int))]; rfl) (fun o => by
    show cO a b o a.length = _
    unfold cO
    rw [decide_eq_false (by omega : ¬ ((a.length : Nat) : Int) < ((a.length : Nat) : Int))]; rfl) a [] [] (a.length - 0 + 1) rfl (by omega)
  rw [fm] at h1
  have h2 := fo (R := List Iv) (f := fun (o : List Ev) (u : Iv) => o ++ [(⟨am u, 0, 1⟩ : Ev), (⟨ao u, 0, (-1)⟩ : Ev)]) b (B := fun s => cN a b (evA a) a.length s.1 s.2) (fun o i hi => by
    show cN a b (evA a) a.length o i = _
    unfold cN
    rw [decide_eq_true (by omega : ((i : Nat) : Int) < ((b.length : Nat) : Int))]; rfl) (fun o => by
    show cN a b (evA a) a.length o b.length = _
    unfold cN
    rw [decide_eq_false (by omega : ¬ ((b.length : Nat) : Int) < ((b.length : Nat) : Int))]; rfl) b [] (evA a) (b.length - 0 + 1) rfl (by omega)
  rw [fm] at h2
  refine ⟨(⟨(⟨(⟨(⟨false, 0⟩ : GI), (⟨false, 0⟩ : GI)⟩ : GQ), (⟨(⟨false, 0⟩ : GI), (⟨false, 0⟩ : GI)⟩ : GQ), false⟩ : GR), false⟩ : Bd), ?_⟩
  obtain ⟨st, h3, h4⟩ := jU a b (evA a) a.length (evA a ++ evB b) b.length (ab (evA a ++ evB b)) [] [] false (⟨(⟨(⟨(⟨false, 0⟩ : GI), (⟨false, 0⟩ : GI)⟩ : GQ), (⟨(⟨false, 0⟩ : GI), (⟨false, 0⟩ : GI)⟩ : GQ), false⟩ : GR), false⟩ : Bd) ⟨0, 0⟩ ((ab (evA a ++ evB b)).length - 0 + 1) rfl (by omega)
  rw [← h4]
  unfold dR
  refine (fe h1).trans ?_
  show fD a b (evA a) a.length = _
  unfold fD
  refine (fe h2).trans ?_
  show fC a b (evA a) a.length (evA a ++ evB b) b.length = _
  unfold fC
  refine (fe h3).trans ?_
  rfl
theorem jV (a b : List Iv) (l : List Ev) (x32 : Nat) (l2 : List Ev) (x322 : Nat) : ∀ (s p : List Ev) (out : List Iv) (in_ : Bool) (fr : Bd) (n : I2) (k : Nat), ab l2 = p ++ s → s.length < k →
    ∃ st, cd (fun s => bG a b l x32 l2 x322 s.1 s.2.1 s.2.2.1 s.2.2.2.1 s.2.2.2.2) k (out, in_, p.length, fr, n) = .inl st ∧ st.1 = swS bg s out in_ fr n.n0 n.n1
  | [], p, out, in_, fr, n, k + 1, hs, _ => by
    refine ⟨(out, in_, p.length, fr, n), iN k ?_, rfl⟩
    show bG a b l x32 l2 x322 out in_ p.length fr n = _
    unfold bG
    rw [hs, List.append_nil, decide_eq_false (by omega : ¬ ((p.length : Nat) : Int) < ((p.length : Nat) : Int))]; rfl
  | e :: r, p, out, in_, fr, n, k + 1, hs, hk => by
    have hl : (ab l2).length = p.length + 1 + r.length := by rw [hs]; simp; omega
    have hg : gt (ab l2) p.length = e := by rw [hs]; exact lJ rfl
    have hs2 : ab l2 = (p ++ [e]) ++ r := by rw [hs]; simp
    have hpl : (p ++ [e]).length = p.length + 1 := by simp
    have hk2 : r.length < k := by simp at hk; omega
    have hnx : ((decide (((p.length + 1 : Nat) : Int) < (((ab l2).length : Nat) : Int))) && ((aQ e.at_ ((gt (ab l2) (p.length + 1)).at_)) == 0)) = nxe e r := by
      cases r with
      | nil =>
        simp only [List.length_nil] at hl
        rw [decide_eq_false (by omega : ¬ ((p.length + 1 : Nat) : Int) < (((ab l2).length : Nat) : Int))]; rfl
      | cons e2 r =>
        have : gt (ab l2) (p.length + 1) = e2 := by rw [hs2]; exact lJ (by simp)
        rw [this, decide_eq_true (by simp at hl; omega : ((p.length + 1 : Nat) : Int) < (((ab l2).length : Nat) : Int))]; rfl
    have ih := fun o i f (m : I2) => jV a b l x32 l2 x322 r (p ++ [e]) o i f m k hs2 hk2
    rw [hpl] at ih
    have hb : bG a b l x32 l2 x322 out in_ p.length fr n = bif (nxe e r) then .go (out, in_, (p.length + 1), fr, (⟨n.n0 + e.b0, n.n1 + e.b1⟩ : I2))
      else bif ((bg (decide (n.n0 + e.b0 > 0)) (decide (n.n1 + e.b1 > 0))) && !in_) then .go (out, (bg (decide (n.n0 + e.b0 > 0)) (decide (n.n1 + e.b1 > 0))), (p.length + 1), e.at_, (⟨n.n0 + e.b0, n.n1 + e.b1⟩ : I2))
      else bif ((!(bg (decide (n.n0 + e.b0 > 0)) (decide (n.n1 + e.b1 > 0)))) && in_) then .go (out ++ [a8 fr e.at_], (bg (decide (n.n0 + e.b0 > 0)) (decide (n.n1 + e.b1 > 0))), (p.length + 1), fr, (⟨n.n0 + e.b0, n.n1 + e.b1⟩ : I2))
      else .go (out, (bg (decide (n.n0 + e.b0 > 0)) (decide (n.n1 + e.b1 > 0))), (p.length + 1), fr, (⟨n.n0 + e.b0, n.n1 + e.b1⟩ : I2)) := by
      unfold bG
      rw [hg, decide_eq_true (by omega : ((p.length : Nat) : Int) < (((ab l2).length : Nat) : Int)), cond_true]
      exact congrArg (fun c => bif c then _ else _) hnx
    have go : ∀ {st' : List Iv × Bool × Nat × Bd × I2} {R : List Iv}, bG a b l x32 l2 x322 out in_ p.length fr n = .go st' → (∃ st, cd (fun s => bG a b l x32 l2 x322 s.1 s.2.1 s.2.2.1 s.2.2.2.1 s.2.2.2.2) k st' = .inl st ∧ st.1 = R) → ∃ st, cd (fun s => bG a b l x32 l2 x322 s.1 s.2.1 s.2.2.1 s.2.2.2.1 s.2.2.2.2) (k + 1) (out, in_, p.length, fr, n) = .inl st ∧ st.1 = R := fun h1 ⟨st, h2, h3⟩ => ⟨st, by rw [i5 k (show (fun s : List Iv × Bool × Nat × Bd × I2 => bG a b l x32 l2 x322 s.1 s.2.1 s.2.2.1 s.2.2.2.1 s.2.2.2.2) (out, in_, p.length, fr, n) = _ from h1)]; exact h2, h3⟩
    rw [show swS bg (e :: r) out in_ fr n.n0 n.n1 = bif (nxe e r) then swS bg r out in_ fr (n.n0 + e.b0) (n.n1 + e.b1)
      else bif (bg (decide (n.n0 + e.b0 > 0)) (decide (n.n1 + e.b1 > 0))) && !in_ then swS bg r out (bg (decide (n.n0 + e.b0 > 0)) (decide (n.n1 + e.b1 > 0))) e.at_ (n.n0 + e.b0) (n.n1 + e.b1)
      else bif (!(bg (decide (n.n0 + e.b0 > 0)) (decide (n.n1 + e.b1 > 0)))) && in_ then swS bg r (out ++ [a8 fr e.at_]) (bg (decide (n.n0 + e.b0 > 0)) (decide (n.n1 + e.b1 > 0))) fr (n.n0 + e.b0) (n.n1 + e.b1)
      else swS bg r out (bg (decide (n.n0 + e.b0 > 0)) (decide (n.n1 + e.b1 > 0))) fr (n.n0 + e.b0) (n.n1 + e.b1) from rfl]
    revert hb
    generalize nxe e r = c1
    generalize bg (decide (n.n0 + e.b0 > 0)) (decide (n.n1 + e.b1 > 0)) = c2
    intro hb
    cases c1
    · cases c2 <;> cases in_
      · exact go hb (ih _ _ _ _)
      · exact go hb (ih _ _ _ _)
      · exact go hb (ih _ _ _ _)
      · exact go hb (ih _ _ _ _)
    · exact go hb (ih _ _ _ _)
theorem nU (a b : List Iv) : ∃ fr, dS a b = swS bg (ab (evA a ++ evB b)) [] false fr 0 0 := by
  have h1 := fo (R := List Iv) (f := fun (o : List Ev) (u : Iv) => o ++ [(⟨am u, 1, 0⟩ : Ev), (⟨ao u, (-1), 0⟩ : Ev)]) a (B := fun s => cU a b s.1 s.2) (fun o i hi => by
    show cU a b o i = _
    unfold cU
    rw [decide_eq_true (by omega : ((i : Nat) : Int) < ((a.length : Nat) : Int))]; rfl) (fun o => by
    show cU a b o a.length = _
    unfold cU
    rw [decide_eq_false (by omega : ¬ ((a.length : Nat) : Int) < ((a.length : Nat) : Int))]; rfl) a [] [] (a.length - 0 + 1) rfl (by omega)
  rw [fm] at h1
  have h2 := fo (R := List Iv) (f := fun (o : List Ev) (u : Iv) => o ++ [(⟨am u, 0, 1⟩ : Ev), (⟨ao u, 0, (-1)⟩ : Ev)]) b (B := fun s => cP a b (evA a) a.length s.1 s.2) (fun o i hi => by
    show cP a b (evA a) a.length o i = _
    unfold cP
    rw [decide_eq_true (by omega : ((i : Nat) : Int) < ((b.length : Nat) : Int))]; rfl) (fun o => by
    show cP a b (evA a) a.length o b.length = _
    unfold cP
    rw [decide_eq_false (by omega : ¬ ((b.length : Nat) : Int) < ((b.length : Nat) : Int))]; rfl) b [] (evA a) (b.length - 0 + 1) rfl (by omega)
  rw [fm] at h2
  refine ⟨(⟨(⟨(⟨(⟨false, 0⟩ : GI), (⟨false, 0⟩ : GI)⟩ : GQ), (⟨(⟨false, 0⟩ : GI), (⟨false, 0⟩ : GI)⟩ : GQ), false⟩ : GR), false⟩ : Bd), ?_⟩
  obtain ⟨st, h3, h4⟩ := jV a b (evA a) a.length (evA a ++ evB b) b.length (ab (evA a ++ evB b)) [] [] false (⟨(⟨(⟨(⟨false, 0⟩ : GI), (⟨false, 0⟩ : GI)⟩ : GQ), (⟨(⟨false, 0⟩ : GI), (⟨false, 0⟩ : GI)⟩ : GQ), false⟩ : GR), false⟩ : Bd) ⟨0, 0⟩ ((ab (evA a ++ evB b)).length - 0 + 1) rfl (by omega)
  rw [← h4]
  unfold dS
  refine (fe h1).trans ?_
  show fF a b (evA a) a.length = _
  unfold fF
  refine (fe h2).trans ?_
  show fE a b (evA a) a.length (evA a ++ evB b) b.length = _
  unfold fE
  refine (fe h3).trans ?_
  rfl
theorem keep_I : ∀ x y, aP x y = (x && y) := fun x y => by unfold aP; rfl
theorem keep_U : ∀ x y, bf x y = (x || y) := fun x y => by unfold bf; rfl
theorem keep_M : ∀ x y, bg x y = (x && !y) := fun x y => by unfold bg; rfl
section
variable {a b : List Iv}
theorem mr (ha : ∀ i ∈ a, Wv i) (hb : ∀ i ∈ b, Wv i) : Cn (af a b) ∧ ∀ x, inP (af a b) x ↔ inP a x ∧ inP b x := by
  classical
  obtain ⟨fr, e⟩ := nV a b
  obtain ⟨h1, h2⟩ := lr (l := evA a ++ evB b) (mZ ha hb)
  obtain ⟨h3, h4⟩ := kj (keep := aP) (by rw [keep_I]; rfl) ha hb h1 h2 fr
  unfold af
  rw [e]
  refine ⟨h3, fun x => (h4 x).trans ?_⟩
  rw [keep_I, Bool.and_eq_true, decide_eq_true_eq, decide_eq_true_eq]
theorem ki (ha : ∀ i ∈ a, Wv i) (hb : ∀ i ∈ b, Wv i) : Cn (bm a b) ∧ ∀ x, inP (bm a b) x ↔ inP a x ∨ inP b x := by
  classical
  obtain ⟨fr, e⟩ := nT a b
  obtain ⟨h1, h2⟩ := lr (l := evA a ++ evB b) (mZ ha hb)
  obtain ⟨h3, h4⟩ := kj (keep := bf) (by rw [keep_U]; rfl) ha hb h1 h2 fr
  unfold bm
  rw [e]
  refine ⟨h3, fun x => (h4 x).trans ?_⟩
  rw [keep_U, Bool.or_eq_true, decide_eq_true_eq, decide_eq_true_eq]
theorem mi (ha : ∀ i ∈ a, Wv i) (hb : ∀ i ∈ b, Wv i) : Cn (aU a b) ∧ ∀ x, inP (aU a b) x ↔ inP a x ∧ ¬ inP b x := by
  classical
  obtain ⟨fr, e⟩ := nU a b
  obtain ⟨h1, h2⟩ := lr (l := evA a ++ evB b) (mZ ha hb)
  obtain ⟨h3, h4⟩ := kj (keep := bg) (by rw [keep_M]; rfl) ha hb h1 h2 fr
  unfold aU
  rw [e]
  refine ⟨h3, fun x => (h4 x).trans ?_⟩
  rw [keep_M, Bool.and_eq_true, decide_eq_true_eq, Bool.not_eq_true', decide_eq_false_iff_not]
theorem oa (ha : ∀ i ∈ a, Wv i) : Cn (dA a) ∧ ∀ x, inP (dA a) x ↔ inP a x := by
  unfold dA
  obtain ⟨h1, h2⟩ := ki ha (b := []) (fun _ h => by cases h)
  exact ⟨h1, fun x => (h2 x).trans ⟨fun h => h.resolve_right (im x), .inl⟩⟩
theorem Cn.empty (h : Cn a) : a.length = 0 ↔ ∀ x, ¬ inP a x := by
  constructor
  · intro h x hx
    rw [List.length_eq_zero_iff.1 h] at hx
    exact im x hx
  · intro hx
    rw [Cn.ext h Cn.nil fun x => ⟨fun h => absurd h (hx x), fun h => absurd h (im x)⟩]; rfl
theorem jT (ha : ∀ i ∈ a, Wv i) (hb : ∀ i ∈ b, Wv i) : aT a b = true ↔ ∀ x, inP b x → inP a x := by
  classical
  unfold aT
  rw [beq_iff_eq]
  obtain ⟨h1, h2⟩ := mi hb ha
  have h3 := h1.empty
  constructor
  · intro h x hx
    exact Classical.byContradiction fun hn => h3.1 (by omega) x ((h2 x).2 ⟨hx, hn⟩)
  · intro h
    have := h3.2 fun x hx => ((h2 x).1 hx).2 (h x ((h2 x).1 hx).1)
    omega
theorem equal_is (a b : List Iv) : aX a b = decide (a = b) := by
  unfold aX eqIv
  by_cases hl : a.length = b.length
  · rw [show ((((a.length : Nat) : Int)) != (((b.length : Nat) : Int))) = false by rw [hl]; simp, cond_false]
    by_cases e : a = b
    · subst e
      rw [decide_eq_true rfl]
      refine (fe (mK (n := a.length) (r := false) (bad := fun _ => false) (fun i hi => by
        show fZ a a i = _
        unfold fZ
        rw [decide_eq_true (by omega : ((i : Nat) : Int) < ((a.length : Nat) : Int)), decide_eq_true rfl]; rfl) (by
        show fZ a a a.length = _
        unfold fZ
        rw [decide_eq_false (by omega : ¬ ((a.length : Nat) : Int) < ((a.length : Nat) : Int))]; rfl) (a.length - 0 + 1) 0 (Nat.zero_le _) (by omega) (fun _ _ _ => rfl))).trans rfl
    · rw [decide_eq_false e]
      have hne : ∃ i, i < a.length ∧ gt a i ≠ gt b i := Classical.byContradiction fun hn => e (List.ext_getElem hl fun i h1 h2 => by
        have := Classical.byContradiction fun h => hn ⟨i, h1, h⟩
        rw [ot h1, ot h2] at this
        exact this)
      obtain ⟨i, hi, hn⟩ := hne
      refine (mX (na (n := a.length) (r := false) (bad := fun i => !(decide (gt a i = gt b i))) (fun i hi => by
        show fZ a b i = _
        unfold fZ
        rw [decide_eq_true (by omega : ((i : Nat) : Int) < ((a.length : Nat) : Int))]; rfl) (a.length - 0 + 1) 0 (by omega) ⟨i, Nat.zero_le _, hi, by simp only [decide_eq_false hn, Bool.not_false]⟩)).trans rfl
  · rw [show ((((a.length : Nat) : Int)) != (((b.length : Nat) : Int))) = true by rw [bne_iff_ne]; omega, cond_true, decide_eq_false fun e => hl (by rw [e])]
def rk (k : Nat) : Nat := 4 * (k / 20) + (if k % 20 < 2 then k % 20 else k % 20 - 6)
def Kd (k : Nat) : Prop := k % 20 < 2 ∨ k % 20 = 8 ∨ k % 20 = 9
theorem kd_of {b : Bd} (h : Tm b.at_) : Kd (kB b) ∧ kB b < 920 := by
  obtain ⟨n, r, hn, e⟩ := h
  unfold kB Kd
  rw [e, lq n r hn]
  cases r <;> cases b.behind <;> simp only [cond_true, cond_false] <;> omega
theorem rk_lt {x y : Nat} (hx : Kd x) (hy : Kd y) (h : x < y) : rk x < rk y := by
  unfold rk; unfold Kd at hx hy
  split <;> split <;> omega
theorem Cn.short : ∀ {p : List Iv}, Cn p → ∀ b, (∀ i ∈ p, b ≤ rk (kB (am i))) → p = [] ∨ b + 2 * p.length ≤ 190
  | [], _, _, _ => .inl rfl
  | i :: p, h, b, hb => by
    obtain ⟨h1, h2, h3⟩ := h.tail
    have t1 : Tm (am i).at_ := by rw [pf]; exact h3.1.1
    have t2 : Tm (ao i).at_ := by rw [pl]; exact h3.1.2
    have k1 := kd_of t1
    have k2 := kd_of t2
    have l1 := rk_lt k1.1 k2.1 h3.bd
    have l0 := hb i (List.mem_cons_self ..)
    have lz : rk (kB (ao i)) ≤ 187 := by
      have := k2.2; have := k2.1; unfold rk; unfold Kd at this
      split <;> omega
    refine .inr ?_
    rcases Cn.short h1 (rk (kB (ao i)) + 1) (fun j hj => rk_lt k2.1 (kd_of (by rw [pf]; exact (h1.wv j hj).1.1)).1 (h2 j hj)) with h4 | h4
    · subst h4; simp only [List.length_cons, List.length_nil]; omega
    · simp only [List.length_cons]; omega
theorem Cn.len (h : Cn a) : a.length ≤ 95 := by
  rcases h.short 0 (fun _ _ => Nat.zero_le _) with h1 | h1
  · rw [h1]; exact Nat.zero_le _
  · omega
theorem wv_sz (h : ∀ i ∈ a, Wv i) : All (SzV 30) a := fun i hi => ⟨da (tm_sz (h i hi).1.1) (by omega), da (tm_sz (h i hi).1.2) (by omega)⟩
theorem Cn.sz (h : Cn a) : All (SzV 30) a := wv_sz h.wv
theorem Cn.inter (ha : Cn a) (hb : Cn b) : Cn (af a b) := (mr ha.wv hb.wv).1
theorem Cn.union (ha : Cn a) (hb : Cn b) : Cn (bm a b) := (ki ha.wv hb.wv).1
theorem Cn.minus (ha : Cn a) (hb : Cn b) : Cn (aU a b) := (mi ha.wv hb.wv).1
theorem bld_wv (l : List Stp) : ∀ i ∈ (aN l).map (fun u => u.iv), Wv i := fun i hi => by
  obtain ⟨u, hu, rfl⟩ := List.mem_map.1 hi
  exact ((build_ok l).1 u hu).1
end
end Go.Sx
