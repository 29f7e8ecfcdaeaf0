/- A part of the proof that the law BracketOperates/Brackets/Logic answers true at every input and leaves its arguments as they were. -/
import Derived.Test.YtbnldpccdppmiaaGreatDoorNOa
import Derived.Test.YtbnldpccdppmiaaGreatDoorNOg
import Derived.Test.YtbnldpccdppmiaaGreatDoorNOb
set_option linter.unusedVariables false
set_option linter.unusedSimpArgs false
namespace Go.Proofs.YtbnldpccdppmiaaGreatDoor
open Go Go.ChangeShapes Go.WideShapes Go.ChangeAt Go.RowKit Go.Sx
set_option maxRecDepth 100000
theorem it : Rows.BracketOperatesSaid :=
  OpenClaim.holds_of_wide 5 Tryz.f5 rfl rfl rfl rfl rfl rfl rfl ⟨rfl, rfl, rfl, rfl, rfl⟩ rfl rfl rfl rfl rfl named5 Tryz.func5 joined5 inst5 wrap5
    (fun os started H enc _ => hO os started H enc)
end Go.Proofs.YtbnldpccdppmiaaGreatDoor
