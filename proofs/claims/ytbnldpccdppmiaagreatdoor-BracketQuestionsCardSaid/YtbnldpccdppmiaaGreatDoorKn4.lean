/- A part of the proof that the law BracketQuestions/Checks answers true at every input and leaves its arguments as they were. -/
import Derived.Test.YtbnldpccdppmiaaGreatDoorKn3
import Derived.Test.YtbnldpccdppmiaaGreatDoorKQ
set_option linter.unusedVariables false
set_option linter.unusedSimpArgs false
namespace Go.Sx
open Go Go.RowKit Go.Proofs
set_option maxRecDepth 100000
theorem make_is (n d : Int) (hd : d ≠ 0) : (au n d).1 = a7 (aK n) (aK d) := by
  unfold au co
  rw [nN, fN, show ((d.sign == 0) = false) from beq_eq_false_iff_ne.2 (fun h => hd (Int.sign_eq_zero_iff_zero.1 h))]
  rfl
theorem kE (n : Int) : QOk (au n 2).1 ∧ ke (au n 2).1 = (n : Rat) / 2 := by
  rw [make_is n 2 (by decide)]
  have := nJ (ll n) (d := aK 2) (by rw [fN]; decide)
  rw [fN, fN] at this
  exact this
theorem oN (n m h : Int) : ax (bt (an n) (au h 2).1) (an m) = (au (2 * n + h - 2 * m) 2).1 := by
  obtain ⟨a1, a2⟩ := jP n
  obtain ⟨b1, b2⟩ := kE h
  obtain ⟨c1, c2⟩ := add_ok a1 b1
  obtain ⟨d1, d2⟩ := jP m
  obtain ⟨e1, e2⟩ := sub_ok c1 d1
  obtain ⟨f1, f2⟩ := kE (2 * n + h - 2 * m)
  refine ng e1 f1 ?_
  rw [e2, c2, a2, b2, d2, f2]
  have : ((2 * n + h - 2 * m : Int) : Rat) = 2 * (n : Rat) + (h : Rat) - 2 * (m : Rat) := by push_cast; rfl
  rw [this]
  grind
def rR (b : Bool) : GQ := bif b then an 2 else ⟨⟨false, 0⟩, ⟨false, 0⟩⟩
theorem pw (n : Int) (b : Bool) : ae n b = ⟨an n, rR b, false⟩ := by
  unfold ae rR
  cases b
  · unfold cj bS; rfl
  · rfl
theorem cmp_dep {p q p' q' r s : GQ} (h : ax p q = ax p' q') : aY ⟨p, r, false⟩ ⟨q, s, false⟩ = aY ⟨p', r, false⟩ ⟨q', s, false⟩ := by
  unfold aY
  rw [h]
  rfl
def dcmp (d : Int) (r s : Bool) : Int := aY ⟨(au d 2).1, rR r, false⟩ ⟨an 0, rR s, false⟩
theorem l7 (n m h : Int) (r s : Bool) : aY (du (ae n r) (au h 2).1) (ae m s) = dcmp (2 * n + h - 2 * m) r s := by
  rw [pw, pw]
  unfold du dcmp
  refine cmp_dep ?_
  rw [oN]
  obtain ⟨f1, f2⟩ := kE (2 * n + h - 2 * m)
  obtain ⟨d1, d2⟩ := jP 0
  obtain ⟨e1, e2⟩ := sub_ok f1 d1
  refine (ng e1 f1 ?_).symm
  rw [e2, d2]
  grind
def dkey (d : Int) (r s : Bool) : Int := 1000 * d + (bif r then 2828 else 0) - (bif s then 2828 else 0)
def dall (a n : Nat) : Bool := (List.range n).all fun i => [false, true].all fun r => [false, true].all fun s => decide (dcmp (Int.ofNat (a + i) - 220) r s ≤ 0) == decide (dkey (Int.ofNat (a + i) - 220) r s ≤ 0)
theorem dall1 : dall 0 220 = true := by decide +kernel
theorem dall2 : dall 220 220 = true := by decide +kernel
end Go.Sx
