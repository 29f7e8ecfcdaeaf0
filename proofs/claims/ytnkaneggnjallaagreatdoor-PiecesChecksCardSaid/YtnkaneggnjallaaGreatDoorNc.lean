/- A part of the proof that the law PiecesChecks answers true at every input and leaves its arguments as they were. -/
import Derived.Test.YtnkaneggnjallaaGreatDoorNa
import Derived.Test.YtnkaneggnjallaaGreatDoorNg
import Derived.Test.YtnkaneggnjallaaGreatDoorNb
set_option linter.unusedVariables false
set_option linter.unusedSimpArgs false
namespace Go.Proofs.YtnkaneggnjallaaGreatDoor
open Go Go.ChangeShapes Go.WideShapes Go.ChangeAt Go.RowKit Go.Sx
set_option maxRecDepth 100000
theorem jF : Rows.PiecesChecksSaid :=
  OpenClaim.holds_of_wide 7 Tryz.f7 rfl rfl rfl rfl rfl rfl rfl ⟨rfl, rfl, rfl, rfl, rfl⟩ rfl rfl rfl rfl rfl named7 Tryz.func7 joined7 inst7 wrap7
    (fun os started H enc _ => jo os started H enc)
end Go.Proofs.YtnkaneggnjallaaGreatDoor
