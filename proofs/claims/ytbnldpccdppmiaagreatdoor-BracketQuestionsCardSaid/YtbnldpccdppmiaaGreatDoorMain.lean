/- A part of the proof that the law BracketQuestions/Checks answers true at every input and leaves its arguments as they were. -/
import Derived.Test.YtbnldpccdppmiaaGreatDoorLift
set_option linter.unusedVariables false
set_option linter.unusedSimpArgs false
namespace Go.Proofs.YtbnldpccdppmiaaGreatDoor
open Go Go.ChangeShapes Go.WideShapes Go.ChangeAt Go.RowKit Go.Sx
set_option maxRecDepth 100000
theorem pn : Tryz.pinned.checked.prog.mainIs = some (true, "c1f15daa3491b6e53f4471897ef1b0540a3d5e6ea479b8e6aa629787dcf9f908".toList) := by kernel_rfl
theorem nt : false = Tryz.pinned.checked.prog.looks [] := by kernel_rfl
end Go.Proofs.YtbnldpccdppmiaaGreatDoor
