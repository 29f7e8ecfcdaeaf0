/- A part of the proof that the law BracketOperates/Brackets/Logic answers true at every input and leaves its arguments as they were. -/
import Derived.Test.YtbnldpccdppmiaaGreatDoorP5
import Derived.Test.YtbnldpccdppmiaaGreatDoorP6
import Derived.Test.YtbnldpccdppmiaaGreatDoorP7
set_option linter.unusedVariables false
set_option linter.unusedSimpArgs false
namespace Go.Sx
set_option maxRecDepth 100000
theorem jK (a b : List Iv) (l : List Ev) (x32 : Nat) (l2 : List Ev) (x322 : Nat) : ∀ (s p : List Ev) (out : List Iv) (in_ : Bool) (fr : Bd) (n : I2) (k : Nat), ae l2 = p ++ s → s.length < k →
    ∃ st, bU (fun s => bq a b l x32 l2 x322 s.1 s.2.1 s.2.2.1 s.2.2.2.1 s.2.2.2.2) k (out, in_, p.length, fr, n) = .inl st ∧ st.1 = swS aL s out in_ fr n.n0 n.n1
  | [], p, out, in_, fr, n, k + 1, hs, _ => by
    refine ⟨(out, in_, p.length, fr, n), il k ?_, rfl⟩
    show bq a b l x32 l2 x322 out in_ p.length fr n = _
    unfold bq
    rw [hs, List.append_nil, decide_eq_false (by omega : ¬ ((p.length : Nat) : Int) < ((p.length : Nat) : Int))]; rfl
  | e :: r, p, out, in_, fr, n, k + 1, hs, hk => by
    have hl : (ae l2).length = p.length + 1 + r.length := by rw [hs]; simp; omega
    have hg : gt (ae l2) p.length = e := by rw [hs]; exact lg rfl
    have hs2 : ae l2 = (p ++ [e]) ++ r := by rw [hs]; simp
    have hpl : (p ++ [e]).length = p.length + 1 := by simp
    have hk2 : r.length < k := by simp at hk; omega
    have hnx : ((decide (((p.length + 1 : Nat) : Int) < (((ae l2).length : Nat) : Int))) && ((a7 e.at_ ((gt (ae l2) (p.length + 1)).at_)) == 0)) = nxe e r := by
      cases r with
      | nil =>
        simp only [List.length_nil] at hl
        rw [decide_eq_false (by omega : ¬ ((p.length + 1 : Nat) : Int) < (((ae l2).length : Nat) : Int))]; rfl
      | cons e2 r =>
        have : gt (ae l2) (p.length + 1) = e2 := by rw [hs2]; exact lg (by simp)
        rw [this, decide_eq_true (by simp at hl; omega : ((p.length + 1 : Nat) : Int) < (((ae l2).length : Nat) : Int))]; rfl
    have ih := fun o i f (m : I2) => jK a b l x32 l2 x322 r (p ++ [e]) o i f m k hs2 hk2
    rw [hpl] at ih
    have hb : bq a b l x32 l2 x322 out in_ p.length fr n = bif (nxe e r) then .go (out, in_, (p.length + 1), fr, (⟨n.n0 + e.b0, n.n1 + e.b1⟩ : I2))
      else bif ((aL (decide (n.n0 + e.b0 > 0)) (decide (n.n1 + e.b1 > 0))) && !in_) then .go (out, (aL (decide (n.n0 + e.b0 > 0)) (decide (n.n1 + e.b1 > 0))), (p.length + 1), e.at_, (⟨n.n0 + e.b0, n.n1 + e.b1⟩ : I2))
      else bif ((!(aL (decide (n.n0 + e.b0 > 0)) (decide (n.n1 + e.b1 > 0)))) && in_) then .go (out ++ [aQ fr e.at_], (aL (decide (n.n0 + e.b0 > 0)) (decide (n.n1 + e.b1 > 0))), (p.length + 1), fr, (⟨n.n0 + e.b0, n.n1 + e.b1⟩ : I2))
      else .go (out, (aL (decide (n.n0 + e.b0 > 0)) (decide (n.n1 + e.b1 > 0))), (p.length + 1), fr, (⟨n.n0 + e.b0, n.n1 + e.b1⟩ : I2)) := by
      unfold bq
      rw [hg, decide_eq_true (by omega : ((p.length : Nat) : Int) < (((ae l2).length : Nat) : Int)), cond_true]
      exact congrArg (fun c => bif c then _ else _) hnx
    have go : ∀ {st' : List Iv × Bool × Nat × Bd × I2} {R : List Iv}, bq a b l x32 l2 x322 out in_ p.length fr n = .go st' → (∃ st, bU (fun s => bq a b l x32 l2 x322 s.1 s.2.1 s.2.2.1 s.2.2.2.1 s.2.2.2.2) k st' = .inl st ∧ st.1 = R) → ∃ st, bU (fun s => bq a b l x32 l2 x322 s.1 s.2.1 s.2.2.1 s.2.2.2.1 s.2.2.2.2) (k + 1) (out, in_, p.length, fr, n) = .inl st ∧ st.1 = R := fun h1 ⟨st, h2, h3⟩ => ⟨st, by rw [iC k (show (fun s : List Iv × Bool × Nat × Bd × I2 => bq a b l x32 l2 x322 s.1 s.2.1 s.2.2.1 s.2.2.2.1 s.2.2.2.2) (out, in_, p.length, fr, n) = _ from h1)]; exact h2, h3⟩
    rw [show swS aL (e :: r) out in_ fr n.n0 n.n1 = bif (nxe e r) then swS aL r out in_ fr (n.n0 + e.b0) (n.n1 + e.b1)
      else bif (aL (decide (n.n0 + e.b0 > 0)) (decide (n.n1 + e.b1 > 0))) && !in_ then swS aL r out (aL (decide (n.n0 + e.b0 > 0)) (decide (n.n1 + e.b1 > 0))) e.at_ (n.n0 + e.b0) (n.n1 + e.b1)
      else bif (!(aL (decide (n.n0 + e.b0 > 0)) (decide (n.n1 + e.b1 > 0)))) && in_ then swS aL r (out ++ [aQ fr e.at_]) (aL (decide (n.n0 + e.b0 > 0)) (decide (n.n1 + e.b1 > 0))) fr (n.n0 + e.b0) (n.n1 + e.b1)
      else swS aL r out (aL (decide (n.n0 + e.b0 > 0)) (decide (n.n1 + e.b1 > 0))) fr (n.n0 + e.b0) (n.n1 + e.b1) from rfl]
    revert hb
    generalize nxe e r = c1
    generalize aL (decide (n.n0 + e.b0 > 0)) (decide (n.n1 + e.b1 > 0)) = c2
    intro hb
    cases c1
    · cases c2 <;> cases in_
      · exact go hb (ih _ _ _ _)
      · exact go hb (ih _ _ _ _)
      · exact go hb (ih _ _ _ _)
      · exact go hb (ih _ _ _ _)
    · exact go hb (ih _ _ _ _)
theorem m5 (a b : List Iv) : ∃ fr, dy a b = swS aL (ae (evA a ++ evB b)) [] false fr 0 0 := by
  have h1 := fB (R := List Iv) (f := fun (o : List Ev) (u : Iv) => o ++ [(⟨ar u, 1, 0⟩ : Ev), (⟨au u, (-1), 0⟩ : Ev)]) a (B := fun s => cu a b s.1 s.2) (fun o i hi => by
    show cu a b o i = _
    unfold cu
    rw [decide_eq_true (by omega : ((i : Nat) : Int) < ((a.length : Nat) : Int))]; rfl) (fun o => by
    show cu a b o a.length = _
    unfold cu
    rw [decide_eq_false (by omega : ¬ ((a.length : Nat) : Int) < ((a.length : Nat) : Int))]; rfl) a [] [] (a.length - 0 + 1) rfl (by omega)
  rw [fA] at h1
  have h2 := fB (R := List Iv) (f := fun (o : List Ev) (u : Iv) => o ++ [(⟨ar u, 0, 1⟩ : Ev), (⟨au u, 0, (-1)⟩ : Ev)]) b (B := fun s => cr a b (evA a) a.length s.1 s.2) (fun o i hi => by
    show cr a b (evA a) a.length o i = _
    unfold cr
    rw [decide_eq_true (by omega : ((i : Nat) : Int) < ((b.length : Nat) : Int))]; rfl) (fun o => by
    show cr a b (evA a) a.length o b.length = _
    unfold cr
    rw [decide_eq_false (by omega : ¬ ((b.length : Nat) : Int) < ((b.length : Nat) : Int))]; rfl) b [] (evA a) (b.length - 0 + 1) rfl (by omega)
  rw [fA] at h2
  refine ⟨(⟨(⟨(⟨(⟨false, 0⟩ : GI), (⟨false, 0⟩ : GI)⟩ : GQ), (⟨(⟨false, 0⟩ : GI), (⟨false, 0⟩ : GI)⟩ : GQ), false⟩ : GR), false⟩ : Bd), ?_⟩
  obtain ⟨st, h3, h4⟩ := jK a b (evA a) a.length (evA a ++ evB b) b.length (ae (evA a ++ evB b)) [] [] false (⟨(⟨(⟨(⟨false, 0⟩ : GI), (⟨false, 0⟩ : GI)⟩ : GQ), (⟨(⟨false, 0⟩ : GI), (⟨false, 0⟩ : GI)⟩ : GQ), false⟩ : GR), false⟩ : Bd) ⟨0, 0⟩ ((ae (evA a ++ evB b)).length - 0 + 1) rfl (by omega)
  rw [← h4]
  unfold dy
  refine (fp h1).trans ?_
  show fj a b (evA a) a.length = _
  unfold fj
  refine (fp h2).trans ?_
  show fi a b (evA a) a.length (evA a ++ evB b) b.length = _
  unfold fi
  refine (fp h3).trans ?_
  rfl
theorem jI (a b : List Iv) (l : List Ev) (x32 : Nat) (l2 : List Ev) (x322 : Nat) : ∀ (s p : List Ev) (out : List Iv) (in_ : Bool) (fr : Bd) (n : I2) (k : Nat), ae l2 = p ++ s → s.length < k →
    ∃ st, bU (fun s => bo a b l x32 l2 x322 s.1 s.2.1 s.2.2.1 s.2.2.2.1 s.2.2.2.2) k (out, in_, p.length, fr, n) = .inl st ∧ st.1 = swS aT s out in_ fr n.n0 n.n1
  | [], p, out, in_, fr, n, k + 1, hs, _ => by
    refine ⟨(out, in_, p.length, fr, n), il k ?_, rfl⟩
    show bo a b l x32 l2 x322 out in_ p.length fr n = _
    unfold bo
    rw [hs, List.append_nil, decide_eq_false (by omega : ¬ ((p.length : Nat) : Int) < ((p.length : Nat) : Int))]; rfl
  | e :: r, p, out, in_, fr, n, k + 1, hs, hk => by
    have hl : (ae l2).length = p.length + 1 + r.length := by rw [hs]; simp; omega
    have hg : gt (ae l2) p.length = e := by rw [hs]; exact lg rfl
    have hs2 : ae l2 = (p ++ [e]) ++ r := by rw [hs]; simp
    have hpl : (p ++ [e]).length = p.length + 1 := by simp
    have hk2 : r.length < k := by simp at hk; omega
    have hnx : ((decide (((p.length + 1 : Nat) : Int) < (((ae l2).length : Nat) : Int))) && ((a7 e.at_ ((gt (ae l2) (p.length + 1)).at_)) == 0)) = nxe e r := by
      cases r with
      | nil =>
        simp only [List.length_nil] at hl
        rw [decide_eq_false (by omega : ¬ ((p.length + 1 : Nat) : Int) < (((ae l2).length : Nat) : Int))]; rfl
      | cons e2 r =>
        have : gt (ae l2) (p.length + 1) = e2 := by rw [hs2]; exact lg (by simp)
        rw [this, decide_eq_true (by simp at hl; omega : ((p.length + 1 : Nat) : Int) < (((ae l2).length : Nat) : Int))]; rfl
    have ih := fun o i f (m : I2) => jI a b l x32 l2 x322 r (p ++ [e]) o i f m k hs2 hk2
    rw [hpl] at ih
    have hb : bo a b l x32 l2 x322 out in_ p.length fr n = bif (nxe e r) then .go (out, in_, (p.length + 1), fr, (⟨n.n0 + e.b0, n.n1 + e.b1⟩ : I2))
      else bif ((aT (decide (n.n0 + e.b0 > 0)) (decide (n.n1 + e.b1 > 0))) && !in_) then .go (out, (aT (decide (n.n0 + e.b0 > 0)) (decide (n.n1 + e.b1 > 0))), (p.length + 1), e.at_, (⟨n.n0 + e.b0, n.n1 + e.b1⟩ : I2))
      else bif ((!(aT (decide (n.n0 + e.b0 > 0)) (decide (n.n1 + e.b1 > 0)))) && in_) then .go (out ++ [aQ fr e.at_], (aT (decide (n.n0 + e.b0 > 0)) (decide (n.n1 + e.b1 > 0))), (p.length + 1), fr, (⟨n.n0 + e.b0, n.n1 + e.b1⟩ : I2))
      else .go (out, (aT (decide (n.n0 + e.b0 > 0)) (decide (n.n1 + e.b1 > 0))), (p.length + 1), fr, (⟨n.n0 + e.b0, n.n1 + e.b1⟩ : I2)) := by
      unfold bo
      rw [hg, decide_eq_true (by omega : ((p.length : Nat) : Int) < (((ae l2).length : Nat) : Int)), cond_true]
      exact congrArg (fun c => bif c then _ else _) hnx
    have go : ∀ {st' : List Iv × Bool × Nat × Bd × I2} {R : List Iv}, bo a b l x32 l2 x322 out in_ p.length fr n = .go st' → (∃ st, bU (fun s => bo a b l x32 l2 x322 s.1 s.2.1 s.2.2.1 s.2.2.2.1 s.2.2.2.2) k st' = .inl st ∧ st.1 = R) → ∃ st, bU (fun s => bo a b l x32 l2 x322 s.1 s.2.1 s.2.2.1 s.2.2.2.1 s.2.2.2.2) (k + 1) (out, in_, p.length, fr, n) = .inl st ∧ st.1 = R := fun h1 ⟨st, h2, h3⟩ => ⟨st, by rw [iC k (show (fun s : List Iv × Bool × Nat × Bd × I2 => bo a b l x32 l2 x322 s.1 s.2.1 s.2.2.1 s.2.2.2.1 s.2.2.2.2) (out, in_, p.length, fr, n) = _ from h1)]; exact h2, h3⟩
    rw [show swS aT (e :: r) out in_ fr n.n0 n.n1 = bif (nxe e r) then swS aT r out in_ fr (n.n0 + e.b0) (n.n1 + e.b1)
      else bif (aT (decide (n.n0 + e.b0 > 0)) (decide (n.n1 + e.b1 > 0))) && !in_ then swS aT r out (aT (decide (n.n0 + e.b0 > 0)) (decide (n.n1 + e.b1 > 0))) e.at_ (n.n0 + e.b0) (n.n1 + e.b1)
      else bif (!(aT (decide (n.n0 + e.b0 > 0)) (decide (n.n1 + e.b1 > 0)))) && in_ then swS aT r (out ++ [aQ fr e.at_]) (aT (decide (n.n0 + e.b0 > 0)) (decide (n.n1 + e.b1 > 0))) fr (n.n0 + e.b0) (n.n1 + e.b1)
      else swS aT r out (aT (decide (n.n0 + e.b0 > 0)) (decide (n.n1 + e.b1 > 0))) fr (n.n0 + e.b0) (n.n1 + e.b1) from rfl]
    revert hb
    generalize nxe e r = c1
    generalize aT (decide (n.n0 + e.b0 > 0)) (decide (n.n1 + e.b1 > 0)) = c2
    intro hb
    cases c1
    · cases c2 <;> cases in_
      · exact go hb (ih _ _ _ _)
      · exact go hb (ih _ _ _ _)
      · exact go hb (ih _ _ _ _)
      · exact go hb (ih _ _ _ _)
    · exact go hb (ih _ _ _ _)
theorem m0 (a b : List Iv) : ∃ fr, du a b = swS aT (ae (evA a ++ evB b)) [] false fr 0 0 := by
  have h1 := fB (R := List Iv) (f := fun (o : List Ev) (u : Iv) => o ++ [(⟨ar u, 1, 0⟩ : Ev), (⟨au u, (-1), 0⟩ : Ev)]) a (B := fun s => cn a b s.1 s.2) (fun o i hi => by
    show cn a b o i = _
    unfold cn
    rw [decide_eq_true (by omega : ((i : Nat) : Int) < ((a.length : Nat) : Int))]; rfl) (fun o => by
    show cn a b o a.length = _
    unfold cn
    rw [decide_eq_false (by omega : ¬ ((a.length : Nat) : Int) < ((a.length : Nat) : Int))]; rfl) a [] [] (a.length - 0 + 1) rfl (by omega)
  rw [fA] at h1
  have h2 := fB (R := List Iv) (f := fun (o : List Ev) (u : Iv) => o ++ [(⟨ar u, 0, 1⟩ : Ev), (⟨au u, 0, (-1)⟩ : Ev)]) b (B := fun s => cm a b (evA a) a.length s.1 s.2) (fun o i hi => by
    show cm a b (evA a) a.length o i = _
    unfold cm
    rw [decide_eq_true (by omega : ((i : Nat) : Int) < ((b.length : Nat) : Int))]; rfl) (fun o => by
    show cm a b (evA a) a.length o b.length = _
    unfold cm
    rw [decide_eq_false (by omega : ¬ ((b.length : Nat) : Int) < ((b.length : Nat) : Int))]; rfl) b [] (evA a) (b.length - 0 + 1) rfl (by omega)
  rw [fA] at h2
  refine ⟨(⟨(⟨(⟨(⟨false, 0⟩ : GI), (⟨false, 0⟩ : GI)⟩ : GQ), (⟨(⟨false, 0⟩ : GI), (⟨false, 0⟩ : GI)⟩ : GQ), false⟩ : GR), false⟩ : Bd), ?_⟩
  obtain ⟨st, h3, h4⟩ := jI a b (evA a) a.length (evA a ++ evB b) b.length (ae (evA a ++ evB b)) [] [] false (⟨(⟨(⟨(⟨false, 0⟩ : GI), (⟨false, 0⟩ : GI)⟩ : GQ), (⟨(⟨false, 0⟩ : GI), (⟨false, 0⟩ : GI)⟩ : GQ), false⟩ : GR), false⟩ : Bd) ⟨0, 0⟩ ((ae (evA a ++ evB b)).length - 0 + 1) rfl (by omega)
  rw [← h4]
  unfold du
  refine (fp h1).trans ?_
  show ff a b (evA a) a.length = _
  unfold ff
  refine (fp h2).trans ?_
  show fe a b (evA a) a.length (evA a ++ evB b) b.length = _
  unfold fe
  refine (fp h3).trans ?_
  rfl
theorem jJ (a b : List Iv) (l : List Ev) (x32 : Nat) (l2 : List Ev) (x322 : Nat) : ∀ (s p : List Ev) (out : List Iv) (in_ : Bool) (fr : Bd) (n : I2) (k : Nat), ae l2 = p ++ s → s.length < k →
    ∃ st, bU (fun s => bp a b l x32 l2 x322 s.1 s.2.1 s.2.2.1 s.2.2.2.1 s.2.2.2.2) k (out, in_, p.length, fr, n) = .inl st ∧ st.1 = swS aU s out in_ fr n.n0 n.n1
  | [], p, out, in_, fr, n, k + 1, hs, _ => by
    refine ⟨(out, in_, p.length, fr, n), il k ?_, rfl⟩
    show bp a b l x32 l2 x322 out in_ p.length fr n = _
    unfold bp
    rw [hs, List.append_nil, decide_eq_false (by omega : ¬ ((p.length : Nat) : Int) < ((p.length : Nat) : Int))]; rfl
  | e :: r, p, out, in_, fr, n, k + 1, hs, hk => by
    have hl : (ae l2).length = p.length + 1 + r.length := by rw [hs]; simp; omega
    have hg : gt (ae l2) p.length = e := by rw [hs]; exact lg rfl
    have hs2 : ae l2 = (p ++ [e]) ++ r := by rw [hs]; simp
    have hpl : (p ++ [e]).length = p.length + 1 := by simp
    have hk2 : r.length < k := by simp at hk; omega
    have hnx : ((decide (((p.length + 1 : Nat) : Int) < (((ae l2).length : Nat) : Int))) && ((a7 e.at_ ((gt (ae l2) (p.length + 1)).at_)) == 0)) = nxe e r := by
      cases r with
      | nil =>
        simp only [List.length_nil] at hl
        rw [decide_eq_false (by omega : ¬ ((p.length + 1 : Nat) : Int) < (((ae l2).length : Nat) : Int))]; rfl
      | cons e2 r =>
        have : gt (ae l2) (p.length + 1) = e2 := by rw [hs2]; exact lg (by simp)
        rw [this, decide_eq_true (by simp at hl; omega : ((p.length + 1 : Nat) : Int) < (((ae l2).length : Nat) : Int))]; rfl
    have ih := fun o i f (m : I2) => jJ a b l x32 l2 x322 r (p ++ [e]) o i f m k hs2 hk2
    rw [hpl] at ih
    have hb : bp a b l x32 l2 x322 out in_ p.length fr n = bif (nxe e r) then .go (out, in_, (p.length + 1), fr, (⟨n.n0 + e.b0, n.n1 + e.b1⟩ : I2))
      else bif ((aU (decide (n.n0 + e.b0 > 0)) (decide (n.n1 + e.b1 > 0))) && !in_) then .go (out, (aU (decide (n.n0 + e.b0 > 0)) (decide (n.n1 + e.b1 > 0))), (p.length + 1), e.at_, (⟨n.n0 + e.b0, n.n1 + e.b1⟩ : I2))
      else bif ((!(aU (decide (n.n0 + e.b0 > 0)) (decide (n.n1 + e.b1 > 0)))) && in_) then .go (out ++ [aQ fr e.at_], (aU (decide (n.n0 + e.b0 > 0)) (decide (n.n1 + e.b1 > 0))), (p.length + 1), fr, (⟨n.n0 + e.b0, n.n1 + e.b1⟩ : I2))
      else .go (out, (aU (decide (n.n0 + e.b0 > 0)) (decide (n.n1 + e.b1 > 0))), (p.length + 1), fr, (⟨n.n0 + e.b0, n.n1 + e.b1⟩ : I2)) := by
      unfold bp
      rw [hg, decide_eq_true (by omega : ((p.length : Nat) : Int) < (((ae l2).length : Nat) : Int)), cond_true]
      exact congrArg (fun c => bif c then _ else _) hnx
    have go : ∀ {st' : List Iv × Bool × Nat × Bd × I2} {R : List Iv}, bp a b l x32 l2 x322 out in_ p.length fr n = .go st' → (∃ st, bU (fun s => bp a b l x32 l2 x322 s.1 s.2.1 s.2.2.1 s.2.2.2.1 s.2.2.2.2) k st' = .inl st ∧ st.1 = R) → ∃ st, bU (fun s => bp a b l x32 l2 x322 s.1 s.2.1 s.2.2.1 s.2.2.2.1 s.2.2.2.2) (k + 1) (out, in_, p.length, fr, n) = .inl st ∧ st.1 = R := fun h1 ⟨st, h2, h3⟩ => ⟨st, by rw [iC k (show (fun s : List Iv × Bool × Nat × Bd × I2 => bp a b l x32 l2 x322 s.1 s.2.1 s.2.2.1 s.2.2.2.1 s.2.2.2.2) (out, in_, p.length, fr, n) = _ from h1)]; exact h2, h3⟩
    rw [show swS aU (e :: r) out in_ fr n.n0 n.n1 = bif (nxe e r) then swS aU r out in_ fr (n.n0 + e.b0) (n.n1 + e.b1)
      else bif (aU (decide (n.n0 + e.b0 > 0)) (decide (n.n1 + e.b1 > 0))) && !in_ then swS aU r out (aU (decide (n.n0 + e.b0 > 0)) (decide (n.n1 + e.b1 > 0))) e.at_ (n.n0 + e.b0) (n.n1 + e.b1)
      else bif (!(aU (decide (n.n0 + e.b0 > 0)) (decide (n.n1 + e.b1 > 0)))) && in_ then swS aU r (out ++ [aQ fr e.at_]) (aU (decide (n.n0 + e.b0 > 0)) (decide (n.n1 + e.b1 > 0))) fr (n.n0 + e.b0) (n.n1 + e.b1)
      else swS aU r out (aU (decide (n.n0 + e.b0 > 0)) (decide (n.n1 + e.b1 > 0))) fr (n.n0 + e.b0) (n.n1 + e.b1) from rfl]
    revert hb
    generalize nxe e r = c1
    generalize aU (decide (n.n0 + e.b0 > 0)) (decide (n.n1 + e.b1 > 0)) = c2
    intro hb
    cases c1
    · cases c2 <;> cases in_
      · exact go hb (ih _ _ _ _)
      · exact go hb (ih _ _ _ _)
      · exact go hb (ih _ _ _ _)
      · exact go hb (ih _ _ _ _)
    · exact go hb (ih _ _ _ _)
theorem m4 (a b : List Iv) : ∃ fr, dx a b = swS aU (ae (evA a ++ evB b)) [] false fr 0 0 := by
  have h1 := fB (R := List Iv) (f := fun (o : List Ev) (u : Iv) => o ++ [(⟨ar u, 1, 0⟩ : Ev), (⟨au u, (-1), 0⟩ : Ev)]) a (B := fun s => cq a b s.1 s.2) (fun o i hi => by
    show cq a b o i = _
    unfold cq
    rw [decide_eq_true (by omega : ((i : Nat) : Int) < ((a.length : Nat) : Int))]; rfl) (fun o => by
    show cq a b o a.length = _
    unfold cq
    rw [decide_eq_false (by omega : ¬ ((a.length : Nat) : Int) < ((a.length : Nat) : Int))]; rfl) a [] [] (a.length - 0 + 1) rfl (by omega)
  rw [fA] at h1
  have h2 := fB (R := List Iv) (f := fun (o : List Ev) (u : Iv) => o ++ [(⟨ar u, 0, 1⟩ : Ev), (⟨au u, 0, (-1)⟩ : Ev)]) b (B := fun s => co a b (evA a) a.length s.1 s.2) (fun o i hi => by
    show co a b (evA a) a.length o i = _
    unfold co
    rw [decide_eq_true (by omega : ((i : Nat) : Int) < ((b.length : Nat) : Int))]; rfl) (fun o => by
    show co a b (evA a) a.length o b.length = _
    unfold co
    rw [decide_eq_false (by omega : ¬ ((b.length : Nat) : Int) < ((b.length : Nat) : Int))]; rfl) b [] (evA a) (b.length - 0 + 1) rfl (by omega)
  rw [fA] at h2
  refine ⟨(⟨(⟨(⟨(⟨false, 0⟩ : GI), (⟨false, 0⟩ : GI)⟩ : GQ), (⟨(⟨false, 0⟩ : GI), (⟨false, 0⟩ : GI)⟩ : GQ), false⟩ : GR), false⟩ : Bd), ?_⟩
  obtain ⟨st, h3, h4⟩ := jJ a b (evA a) a.length (evA a ++ evB b) b.length (ae (evA a ++ evB b)) [] [] false (⟨(⟨(⟨(⟨false, 0⟩ : GI), (⟨false, 0⟩ : GI)⟩ : GQ), (⟨(⟨false, 0⟩ : GI), (⟨false, 0⟩ : GI)⟩ : GQ), false⟩ : GR), false⟩ : Bd) ⟨0, 0⟩ ((ae (evA a ++ evB b)).length - 0 + 1) rfl (by omega)
  rw [← h4]
  unfold dx
  refine (fp h1).trans ?_
  show fh a b (evA a) a.length = _
  unfold fh
  refine (fp h2).trans ?_
  show fg a b (evA a) a.length (evA a ++ evB b) b.length = _
  unfold fg
  refine (fp h3).trans ?_
  rfl
theorem keep_I : ∀ x y, aL x y = (x && y) := fun x y => by unfold aL; rfl
theorem keep_U : ∀ x y, aT x y = (x || y) := fun x y => by unfold aT; rfl
theorem keep_M : ∀ x y, aU x y = (x && !y) := fun x y => by unfold aU; rfl
section
variable {a b : List Iv}
theorem lO (ha : ∀ i ∈ a, Wv i) (hb : ∀ i ∈ b, Wv i) : Cn (ab a b) ∧ ∀ x, inP (ab a b) x ↔ inP a x ∧ inP b x := by
  classical
  obtain ⟨fr, e⟩ := m5 a b
  obtain ⟨h1, h2⟩ := kU (l := evA a ++ evB b) (mn ha hb)
  obtain ⟨h3, h4⟩ := j7 (keep := aL) (by rw [keep_I]; rfl) ha hb h1 h2 fr
  unfold ab
  rw [e]
  refine ⟨h3, fun x => (h4 x).trans ?_⟩
  rw [keep_I, Bool.and_eq_true, decide_eq_true_eq, decide_eq_true_eq]
theorem j6 (ha : ∀ i ∈ a, Wv i) (hb : ∀ i ∈ b, Wv i) : Cn (am a b) ∧ ∀ x, inP (am a b) x ↔ inP a x ∨ inP b x := by
  classical
  obtain ⟨fr, e⟩ := m0 a b
  obtain ⟨h1, h2⟩ := kU (l := evA a ++ evB b) (mn ha hb)
  obtain ⟨h3, h4⟩ := j7 (keep := aT) (by rw [keep_U]; rfl) ha hb h1 h2 fr
  unfold am
  rw [e]
  refine ⟨h3, fun x => (h4 x).trans ?_⟩
  rw [keep_U, Bool.or_eq_true, decide_eq_true_eq, decide_eq_true_eq]
theorem ki (ha : ∀ i ∈ a, Wv i) (hb : ∀ i ∈ b, Wv i) : Cn (an a b) ∧ ∀ x, inP (an a b) x ↔ inP a x ∧ ¬ inP b x := by
  classical
  obtain ⟨fr, e⟩ := m4 a b
  obtain ⟨h1, h2⟩ := kU (l := evA a ++ evB b) (mn ha hb)
  obtain ⟨h3, h4⟩ := j7 (keep := aU) (by rw [keep_M]; rfl) ha hb h1 h2 fr
  unfold an
  rw [e]
  refine ⟨h3, fun x => (h4 x).trans ?_⟩
  rw [keep_M, Bool.and_eq_true, decide_eq_true_eq, Bool.not_eq_true', decide_eq_false_iff_not]
theorem ng (ha : ∀ i ∈ a, Wv i) : Cn (cX a) ∧ ∀ x, inP (cX a) x ↔ inP a x := by
  unfold cX
  obtain ⟨h1, h2⟩ := j6 ha (b := []) (fun _ h => by cases h)
  exact ⟨h1, fun x => (h2 x).trans ⟨fun h => h.resolve_right (gP x), .inl⟩⟩
theorem Cn.empty (h : Cn a) : a.length = 0 ↔ ∀ x, ¬ inP a x := by
  constructor
  · intro h x hx
    rw [List.length_eq_zero_iff.1 h] at hx
    exact gP x hx
  · intro hx
    rw [Cn.ext h Cn.nil fun x => ⟨fun h => absurd h (hx x), fun h => absurd h (gP x)⟩]; rfl
theorem kQ (ha : ∀ i ∈ a, Wv i) (hb : ∀ i ∈ b, Wv i) : aE a b = true ↔ ∀ x, inP b x → inP a x := by
  classical
  unfold aE
  rw [beq_iff_eq]
  obtain ⟨h1, h2⟩ := ki hb ha
  have h3 := h1.empty
  constructor
  · intro h x hx
    exact Classical.byContradiction fun hn => h3.1 (by omega) x ((h2 x).2 ⟨hx, hn⟩)
  · intro h
    have := h3.2 fun x hx => ((h2 x).1 hx).2 (h x ((h2 x).1 hx).1)
    omega
theorem equal_is (a b : List Iv) : ax a b = decide (a = b) := by
  unfold ax eqIv
  by_cases hl : a.length = b.length
  · rw [show ((((a.length : Nat) : Int)) != (((b.length : Nat) : Int))) = false by rw [hl]; simp, cond_false]
    by_cases e : a = b
    · subst e
      rw [decide_eq_true rfl]
      refine (fp (nU (n := a.length) (r := false) (bad := fun _ => false) (fun i hi => by
        show fD a a i = _
        unfold fD
        rw [decide_eq_true (by omega : ((i : Nat) : Int) < ((a.length : Nat) : Int)), decide_eq_true rfl]; rfl) (by
        show fD a a a.length = _
        unfold fD
        rw [decide_eq_false (by omega : ¬ ((a.length : Nat) : Int) < ((a.length : Nat) : Int))]; rfl) (a.length - 0 + 1) 0 (Nat.zero_le _) (by omega) (fun _ _ _ => rfl))).trans rfl
    · rw [decide_eq_false e]
      have hne : ∃ i, i < a.length ∧ gt a i ≠ gt b i := Classical.byContradiction fun hn => e (List.ext_getElem hl fun i h1 h2 => by
        have := Classical.byContradiction fun h => hn ⟨i, h1, h⟩
        rw [gt_lt h1, gt_lt h2] at this
        exact this)
      obtain ⟨i, hi, hn⟩ := hne
      refine (fin_r (mw (n := a.length) (r := false) (bad := fun i => !(decide (gt a i = gt b i))) (fun i hi => by
        show fD a b i = _
        unfold fD
        rw [decide_eq_true (by omega : ((i : Nat) : Int) < ((a.length : Nat) : Int))]; rfl) (a.length - 0 + 1) 0 (by omega) ⟨i, Nat.zero_le _, hi, by simp only [decide_eq_false hn, Bool.not_false]⟩)).trans rfl
  · rw [show ((((a.length : Nat) : Int)) != (((b.length : Nat) : Int))) = true by rw [bne_iff_ne]; omega, cond_true, decide_eq_false fun e => hl (by rw [e])]
def rk (k : Nat) : Nat := 4 * (k / 20) + (if k % 20 < 2 then k % 20 else k % 20 - 6)
def Kd (k : Nat) : Prop := k % 20 < 2 ∨ k % 20 = 8 ∨ k % 20 = 9
theorem kd_of {b : Bd} (h : Tm b.at_) : Kd (kB b) ∧ kB b < 920 := by
  obtain ⟨n, r, hn, e⟩ := h
  unfold kB Kd
  rw [e, nF n r hn]
  cases r <;> cases b.behind <;> simp only [cond_true, cond_false] <;> omega
theorem rk_lt {x y : Nat} (hx : Kd x) (hy : Kd y) (h : x < y) : rk x < rk y := by
  unfold rk; unfold Kd at hx hy
  split <;> split <;> omega
theorem Cn.short : ∀ {p : List Iv}, Cn p → ∀ b, (∀ i ∈ p, b ≤ rk (kB (ar i))) → p = [] ∨ b + 2 * p.length ≤ 190
  | [], _, _, _ => .inl rfl
  | i :: p, h, b, hb => by
    obtain ⟨h1, h2, h3⟩ := h.tail
    have t1 : Tm (ar i).at_ := by rw [pf]; exact h3.1.1
    have t2 : Tm (au i).at_ := by rw [pl]; exact h3.1.2
    have k1 := kd_of t1
    have k2 := kd_of t2
    have l1 := rk_lt k1.1 k2.1 h3.bd
    have l0 := hb i (List.mem_cons_self ..)
    have lz : rk (kB (au i)) ≤ 187 := by
      have := k2.2; have := k2.1; unfold rk; unfold Kd at this
      split <;> omega
    refine .inr ?_
    rcases Cn.short h1 (rk (kB (au i)) + 1) (fun j hj => rk_lt k2.1 (kd_of (by rw [pf]; exact (h1.wv j hj).1.1)).1 (h2 j hj)) with h4 | h4
    · subst h4; simp only [List.length_cons, List.length_nil]; omega
    · simp only [List.length_cons]; omega
theorem Cn.len (h : Cn a) : a.length ≤ 95 := by
  rcases h.short 0 (fun _ _ => Nat.zero_le _) with h1 | h1
  · rw [h1]; exact Nat.zero_le _
  · omega
theorem wv_sz (h : ∀ i ∈ a, Wv i) : All (SzV 30) a := fun i hi => ⟨cB (tm_sz (h i hi).1.1) (by omega), cB (tm_sz (h i hi).1.2) (by omega)⟩
theorem Cn.sz (h : Cn a) : All (SzV 30) a := wv_sz h.wv
theorem Cn.inter (ha : Cn a) (hb : Cn b) : Cn (ab a b) := (lO ha.wv hb.wv).1
theorem Cn.union (ha : Cn a) (hb : Cn b) : Cn (am a b) := (j6 ha.wv hb.wv).1
theorem Cn.minus (ha : Cn a) (hb : Cn b) : Cn (an a b) := (ki ha.wv hb.wv).1
theorem bld_wv (l : List Stp) : ∀ i ∈ (aI l).map (fun u => u.iv), Wv i := fun i hi => by
  obtain ⟨u, hu, rfl⟩ := List.mem_map.1 hi
  exact ((build_ok l).1 u hu).1
end
end Go.Sx
