/- A part of the proof that the law PiecesRules answers true at every input and leaves its arguments as they were. -/
import Derived.Test.YtnkaneggnjallaaGreatDoorM0
set_option linter.unusedVariables false
set_option linter.unusedSimpArgs false
namespace Go.Sx
theorem allX_4b : allX [4] [true] = true := by decide +kernel
theorem allX_5b : allX [5] [true] = true := by decide +kernel
theorem allX_6b : allX [6] [true] = true := by decide +kernel
theorem allX_7b : allX [7] [true] = true := by decide +kernel
end Go.Sx
