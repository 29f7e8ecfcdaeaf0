/- A part of the proof that the law PiecesShifts answers true at every input and leaves its arguments as they were. -/
import Derived.Test.YtnkaneggnjallaaGreatDoorNa
import Derived.Test.YtnkaneggnjallaaGreatDoorNg
import Derived.Test.YtnkaneggnjallaaGreatDoorNb
set_option linter.unusedVariables false
set_option linter.unusedSimpArgs false
namespace Go.Proofs.YtnkaneggnjallaaGreatDoor
open Go Go.ChangeShapes Go.WideShapes Go.ChangeAt Go.RowKit Go.Sx
set_option maxRecDepth 100000
theorem ka : Rows.PiecesShiftsSaid :=
  OpenClaim.holds_of_wide 8 Tryz.f8 rfl rfl rfl rfl rfl rfl rfl ⟨rfl, rfl, rfl, rfl, rfl⟩ rfl rfl rfl rfl rfl named8 Tryz.func8 joined8 inst8 wrap8
    (fun os started H enc _ => jO os started H enc)
end Go.Proofs.YtnkaneggnjallaaGreatDoor
