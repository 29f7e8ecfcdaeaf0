/- A part of the proof that the law PiecesRules answers true at every input and leaves its arguments as they were. -/
import Derived.Test.YtnkaneggnjallaaGreatDoorM0
set_option linter.unusedVariables false
set_option linter.unusedSimpArgs false
namespace Go.Sx
theorem allX_0a : allX [0] [false] = true := by decide +kernel
theorem allX_1a : allX [1] [false] = true := by decide +kernel
theorem allX_2a : allX [2] [false] = true := by decide +kernel
theorem allX_3a : allX [3] [false] = true := by decide +kernel
end Go.Sx
