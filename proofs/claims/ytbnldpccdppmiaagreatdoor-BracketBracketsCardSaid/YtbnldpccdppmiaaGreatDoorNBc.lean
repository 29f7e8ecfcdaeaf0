/- A part of the proof that the law BracketOperates/Brackets/Logic answers true at every input and leaves its arguments as they were. -/
import Derived.Test.YtbnldpccdppmiaaGreatDoorNBa
import Derived.Test.YtbnldpccdppmiaaGreatDoorNBg
import Derived.Test.YtbnldpccdppmiaaGreatDoorNBb
set_option linter.unusedVariables false
set_option linter.unusedSimpArgs false
namespace Go.Proofs.YtbnldpccdppmiaaGreatDoor
open Go Go.ChangeShapes Go.WideShapes Go.ChangeAt Go.RowKit Go.Sx
set_option maxRecDepth 100000
theorem iu : Rows.BracketBracketsSaid :=
  OpenClaim.holds_of_wide 3 Tryz.f3 rfl rfl rfl rfl rfl rfl rfl ⟨rfl, rfl, rfl, rfl, rfl⟩ rfl rfl rfl rfl rfl named3 Tryz.func3 joined3 inst3 wrap3
    (fun os started H enc _ => hQ os started H enc)
end Go.Proofs.YtbnldpccdppmiaaGreatDoor
