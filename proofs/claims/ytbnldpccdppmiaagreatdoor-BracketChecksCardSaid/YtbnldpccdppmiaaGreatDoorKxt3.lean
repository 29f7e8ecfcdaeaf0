/- A part of the proof that the law BracketQuestions/Checks answers true at every input and leaves its arguments as they were. -/
import Derived.Test.YtbnldpccdppmiaaGreatDoorKc0
set_option linter.unusedVariables false
set_option linter.unusedSimpArgs false
namespace Go.Sx
def RtR (x : GR) : Prop := x.r = (⟨(⟨false, 0⟩ : GI), (⟨false, 0⟩ : GI)⟩ : GQ) ∨ x.r = an 2
def RtV (i : Iv) : Prop := RtR i.lo ∧ RtR i.hi
theorem my {a : GQ} (h : a.den = ⟨false, 0⟩) : 0 < (aA a).mag ∧ (aA a).mag < 4 := by
  have : aA a = rational_one := by unfold aA; rw [h]; rfl
  rw [this]; decide +kernel
theorem nc {x : GR} (h : RtR x) (hs : (aI x.r == 0) = false) : x.r.num.mag = 2 ∧ x.r.den = ⟨false, 0⟩ := by
  rcases h with h | h
  · rw [h] at hs; exact absurd hs (by decide +kernel)
  · rw [h]; decide +kernel
end Go.Sx
