/- A part of the proof that the law BracketQuestions/Checks answers true at every input and leaves its arguments as they were. -/
import Derived.Test.YtbnldpccdppmiaaGreatDoorNQa
import Derived.Test.YtbnldpccdppmiaaGreatDoorNQg
import Derived.Test.YtbnldpccdppmiaaGreatDoorNQb
set_option linter.unusedVariables false
set_option linter.unusedSimpArgs false
namespace Go.Proofs.YtbnldpccdppmiaaGreatDoor
open Go Go.ChangeShapes Go.WideShapes Go.ChangeAt Go.RowKit Go.Sx
set_option maxRecDepth 100000
theorem iC : Rows.BracketQuestionsSaid :=
  OpenClaim.holds_of_wide 4 Tryz.f4 rfl rfl rfl rfl rfl rfl rfl ⟨rfl, rfl, rfl, rfl, rfl⟩ rfl rfl rfl rfl rfl named4 Tryz.func4 joined4 inst4 wrap4
    (fun os started H enc _ => ip os started H enc)
end Go.Proofs.YtbnldpccdppmiaaGreatDoor
