/- Part of piecesMaps. -/
import Derived.LoopN
import Derived.Test.YtbenbmdkhcfcfaaGreatDoorHb
import Derived.Test.YtbenbmdkhcfcfaaGreatDoorY
import Derived.Test.YtbenbmdkhcfcfaaGreatDoorN1
import Derived.Shelf.SlSortCmp.WholeK
import Derived.Test.YtbenbmdkhcfcfaaGreatDoorProg
set_option linter.unusedVariables false
set_option linter.unusedSimpArgs false
namespace Go.Sx
open Go Go.RowKit Go.Proofs
set_option maxRecDepth 100000
set_option maxHeartbeats 40000000
attribute [local irreducible] Code.wp wpList Rd iq ObS Ent
attribute [local irreducible] ar bS ao aR aG cX
def ed (a : Bd) (b : Bd) : Iv :=
 (⟨a.at_, b.at_, a.behind, (!b.behind)⟩ : Iv)
attribute [irreducible] ed
end Go.Sx
namespace Go.Sx
def kB (b : Bd) : Nat := 2 * tk b.at_ + (bif b.behind then 1 else 0)
theorem bb (b : Bool) : (bif b then 1 else 0 : Nat) ≤ 1 := by cases b <;> decide
theorem kB_inj {a b : Bd} (ha : Tm a.at_) (hb : Tm b.at_) (h : kB a = kB b) : a = b := by
 unfold kB at h
 have h1 := bb a.behind
 have h2 := bb b.behind
 have e : tk a.at_ = tk b.at_ := by omega
 have e2 := (ha.inj hb).1 e
 have e3 : a.behind = b.behind := by
  rw [e] at h
  cases ha : a.behind <;> cases hb : b.behind <;> rw [ha, hb] at h <;> simp at h <;> rfl
 obtain ⟨x, y⟩ := a
 obtain ⟨z, w⟩ := b
 simp only at e2 e3
 rw [e2, e3]
theorem pf (i : Iv) : bI i = ⟨i.lo, i.openLo⟩ := by unfold bI; rfl
theorem pl (i : Iv) : bE i = ⟨i.hi, !i.openHi⟩ := by unfold bE; rfl
theorem mU (i : Iv) : kB (bI i) = d4 i := by rw [pf]; rfl
theorem oB (i : Iv) : (kB (bE i) : Int) = ey i + 1 := by
 unfold kB bE ey
 simp only
 cases i.openHi <;> simp <;> omega
theorem Wv.bd {i : Iv} (h : Wv i) : kB (bI i) < kB (bE i) := by
 have h1 := h.le
 have h2 := oB i
 rw [mU]; omega
theorem iv_ext {i j : Iv} (hi : Tv i) (hj : Tv j) (h1 : kB (bI i) = kB (bI j)) (h2 : kB (bE i) = kB (bE j)) : i = j := by
 have e1 := kB_inj (a := bI i) (b := bI j) (by rw [pf]; exact hi.1) (by rw [pf]; exact hj.1) h1
 have e2 := kB_inj (a := bE i) (b := bE j) (by rw [pl]; exact hi.2) (by rw [pl]; exact hj.2) h2
 rw [pf, pf, Bd.mk.injEq] at e1
 rw [pl, pl, Bd.mk.injEq] at e2
 obtain ⟨lo, hi', ol, oh⟩ := i
 obtain ⟨lo2, hi2, ol2, oh2⟩ := j
 simp only at e1 e2
 obtain ⟨rfl, rfl⟩ := e1
 obtain ⟨rfl, e3⟩ := e2
 rw [show oh = oh2 by cases oh <;> cases oh2 <;> first | rfl | cases e3]
end Go.Sx
namespace Go.Sx
def inI (i : Iv) (x : Nat) : Prop := kB (bI i) ≤ x ∧ x < kB (bE i)
def inP (p : List Iv) (x : Nat) : Prop := ∃ i ∈ p, inI i x
structure Cn (p : List Iv) : Prop where
 wv : ∀ i ∈ p, Wv i
 sep : p.Pairwise fun i j => kB (bE i) < kB (bI j)
theorem rv (x : Nat) : ¬ inP [] x := fun ⟨_, h, _⟩ => by cases h
theorem iz {i : Iv} {p : List Iv} {x : Nat} : inP (i :: p) x ↔ inI i x ∨ inP p x := by
 constructor
 ·rintro ⟨j, hj, h⟩
  rcases List.mem_cons.1 hj with rfl | hj
  ·exact .inl h
  ·exact .inr ⟨j, hj, h⟩
 ·rintro (h | ⟨j, hj, h⟩)
  ·exact ⟨i, List.mem_cons_self .., h⟩
  ·exact ⟨j, List.mem_cons_of_mem _ hj, h⟩
theorem Cn.nil : Cn [] := ⟨fun _ h => (by cases h), List.Pairwise.nil⟩
theorem Cn.tail {i : Iv} {p : List Iv} (h : Cn (i :: p)) : Cn p ∧ (∀ j ∈ p, kB (bE i) < kB (bI j)) ∧ Wv i := by
 have h2 := List.pairwise_cons.1 h.sep
 exact ⟨⟨fun j hj => h.wv j (List.mem_cons_of_mem _ hj), h2.2⟩, h2.1, h.wv i (List.mem_cons_self ..)⟩
theorem Cn.behind {i : Iv} {p : List Iv} (h : Cn (i :: p)) {x : Nat} (hx : inP p x) : kB (bE i) < x := by
 obtain ⟨j, hj, h1, _⟩ := hx
 have := h.tail.2.1 j hj
 omega
theorem Cn.ext : ∀ {p q : List Iv}, Cn p → Cn q → (∀ x, inP p x ↔ inP q x) → p = q
 | [], [], _, _, _ => rfl
 | [], j :: q, _, hq, h => absurd ((h _).2 (iz.2 (.inl ⟨Nat.le_refl _, (hq.tail.2.2).bd⟩))) (rv _)
 | i :: p, [], hp, _, h => absurd ((h _).1 (iz.2 (.inl ⟨Nat.le_refl _, (hp.tail.2.2).bd⟩))) (rv _)
 | i :: p, j :: q, hp, hq, h => by
  have wi := hp.tail.2.2
  have wj := hq.tail.2.2
  have bi := wi.bd
  have bj := wj.bd
  have f1 : kB (bI j) ≤ kB (bI i) := by
   rcases iz.1 ((h _).1 (iz.2 (.inl ⟨Nat.le_refl _, bi⟩))) with h1 | h1
   ·exact h1.1
   ·have := hq.behind h1; omega
  have f2 : kB (bI i) ≤ kB (bI j) := by
   rcases iz.1 ((h _).2 (iz.2 (.inl ⟨Nat.le_refl _, bj⟩))) with h1 | h1
   ·exact h1.1
   ·have := hp.behind h1; omega
  have l1 : ¬ kB (bE i) < kB (bE j) := fun hl => by
   rcases iz.1 ((h (kB (bE i))).2 (iz.2 (.inl ⟨by omega, hl⟩))) with h1 | h1
   ·have := h1.2; omega
   ·have := hp.behind h1; omega
  have l2 : ¬ kB (bE j) < kB (bE i) := fun hl => by
   rcases iz.1 ((h (kB (bE j))).1 (iz.2 (.inl ⟨by omega, hl⟩))) with h1 | h1
   ·have := h1.2; omega
   ·have := hq.behind h1; omega
  have e : i = j := iv_ext wi.1 wj.1 og og
  subst e
  rw [Cn.ext hp.tail.1 hq.tail.1 fun x => ⟨fun hx => ?_, fun hx => ?_⟩]
  ·rcases iz.1 ((h x).1 (iz.2 (.inr hx))) with h1 | h1
   ·have := hp.behind hx; have := h1.2; omega
   ·exact h1
  ·rcases iz.1 ((h x).2 (iz.2 (.inr hx))) with h1 | h1
   ·have := hq.behind hx; have := h1.2; omega
   ·exact h1
def rs (c : Ev → Int) : List Ev → Int
 | [] => 0
 | e :: r => c e + rs c r
variable {c : Ev → Int}
end Go.Sx
namespace Go.Sx
set_option maxRecDepth 100000
section
variable {a b : List Iv}
theorem Cn.empty (h : Cn a) : a.length = 0 ↔ ∀ x, ¬ inP a x := by
 constructor
 ·intro h x hx
  rw [List.length_eq_zero_iff.1 h] at hx
  exact rv x hx
 ·intro hx
  rw [Cn.ext h Cn.nil fun x => ⟨fun h => absurd h (hx x), fun h => absurd h (rv x)⟩]; rfl
theorem wv_sz (h : ∀ i ∈ a, Wv i) : All (SzV 30) a := fun i hi => ⟨cJ (qk (h i hi).1.1) og, cJ (qk (h i hi).1.2) og⟩
theorem Cn.sz (h : Cn a) : All (SzV 30) a := wv_sz h.wv
end
end Go.Sx
