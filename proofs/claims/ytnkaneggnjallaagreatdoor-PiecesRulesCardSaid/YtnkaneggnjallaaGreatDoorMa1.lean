/- A part of the proof that the law PiecesRules answers true at every input and leaves its arguments as they were. -/
import Derived.Test.YtnkaneggnjallaaGreatDoorM0
set_option linter.unusedVariables false
set_option linter.unusedSimpArgs false
namespace Go.Sx
theorem allX_4a : allX [4] [false] = true := by decide +kernel
theorem allX_5a : allX [5] [false] = true := by decide +kernel
theorem allX_6a : allX [6] [false] = true := by decide +kernel
theorem allX_7a : allX [7] [false] = true := by decide +kernel
end Go.Sx
