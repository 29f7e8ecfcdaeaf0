/- A part of the proof that the law PiecesRefines answers true at every input and leaves its arguments as they were. -/
import Derived.Test.YtnkaneggnjallaaGreatDoorLift
set_option linter.unusedVariables false
set_option linter.unusedSimpArgs false
namespace Go.Proofs.YtnkaneggnjallaaGreatDoor
open Go Go.ChangeShapes Go.WideShapes Go.ChangeAt Go.RowKit Go.Sx
set_option maxRecDepth 100000
theorem main_is : Tryz.pinned.checked.prog.mainIs = some (true, "33578ef64ab2565cd661984a31f19ee3af636f7b7fab39c6240bd839fee7ec05".toList) := by kernel_rfl
theorem looks_no : false = Tryz.pinned.checked.prog.looks [] := by kernel_rfl
end Go.Proofs.YtnkaneggnjallaaGreatDoor
