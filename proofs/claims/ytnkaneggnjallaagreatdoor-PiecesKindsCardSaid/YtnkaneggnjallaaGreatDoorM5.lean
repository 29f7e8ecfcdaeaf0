/- A part of the proof that the law PiecesKinds answers true at every input and leaves its arguments as they were. -/
import Derived.Test.YtnkaneggnjallaaGreatDoorQ2
import Derived.Test.YtnkaneggnjallaaGreatDoorF
set_option linter.unusedVariables false
set_option linter.unusedSimpArgs false
namespace Go.Sx
theorem knw : fv = true := by decide +kernel
end Go.Sx
namespace Go.Sx
theorem pX (l : List Stp) (b : Nat) : d5 l b = true := by
  unfold d5
  rw [knw, oT, qX, kY, mD]
  rfl
end Go.Sx
