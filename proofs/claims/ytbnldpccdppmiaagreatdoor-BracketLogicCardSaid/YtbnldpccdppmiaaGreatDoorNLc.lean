/- A part of the proof that the law BracketOperates/Brackets/Logic answers true at every input and leaves its arguments as they were. -/
import Derived.Test.YtbnldpccdppmiaaGreatDoorNLa
import Derived.Test.YtbnldpccdppmiaaGreatDoorNLg
import Derived.Test.YtbnldpccdppmiaaGreatDoorNLb
set_option linter.unusedVariables false
set_option linter.unusedSimpArgs false
namespace Go.Proofs.YtbnldpccdppmiaaGreatDoor
open Go Go.ChangeShapes Go.WideShapes Go.ChangeAt Go.RowKit Go.Sx
set_option maxRecDepth 100000
theorem jn : Rows.BracketLogicSaid :=
  OpenClaim.holds_of_wide 6 Tryz.f6 rfl rfl rfl rfl rfl rfl rfl ⟨rfl, rfl, rfl, rfl, rfl⟩ rfl rfl rfl rfl rfl named6 Tryz.func6 joined6 inst6 wrap6
    (fun os started H enc _ => iX os started H enc)
end Go.Proofs.YtbnldpccdppmiaaGreatDoor
