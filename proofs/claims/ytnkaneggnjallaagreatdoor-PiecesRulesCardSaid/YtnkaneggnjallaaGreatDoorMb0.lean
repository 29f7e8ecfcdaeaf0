/- A part of the proof that the law PiecesRules answers true at every input and leaves its arguments as they were. -/
import Derived.Test.YtnkaneggnjallaaGreatDoorM0
set_option linter.unusedVariables false
set_option linter.unusedSimpArgs false
namespace Go.Sx
theorem allX_0b : allX [0] [true] = true := by decide +kernel
theorem allX_1b : allX [1] [true] = true := by decide +kernel
theorem allX_2b : allX [2] [true] = true := by decide +kernel
theorem allX_3b : allX [3] [true] = true := by decide +kernel
end Go.Sx
