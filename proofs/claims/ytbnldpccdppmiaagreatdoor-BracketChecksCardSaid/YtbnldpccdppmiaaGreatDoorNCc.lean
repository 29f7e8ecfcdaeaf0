/- A part of the proof that the law BracketQuestions/Checks answers true at every input and leaves its arguments as they were. -/
import Derived.Test.YtbnldpccdppmiaaGreatDoorNCa
import Derived.Test.YtbnldpccdppmiaaGreatDoorNCg
import Derived.Test.YtbnldpccdppmiaaGreatDoorNCb
set_option linter.unusedVariables false
set_option linter.unusedSimpArgs false
namespace Go.Proofs.YtbnldpccdppmiaaGreatDoor
open Go Go.ChangeShapes Go.WideShapes Go.ChangeAt Go.RowKit Go.Sx
set_option maxRecDepth 100000
theorem jm : Rows.BracketChecksSaid :=
  OpenClaim.holds_of_wide 7 Tryz.f7 rfl rfl rfl rfl rfl rfl rfl ⟨rfl, rfl, rfl, rfl, rfl⟩ rfl rfl rfl rfl rfl named7 Tryz.func7 joined7 inst7 wrap7
    (fun os started H enc _ => jb os started H enc)
end Go.Proofs.YtbnldpccdppmiaaGreatDoor
