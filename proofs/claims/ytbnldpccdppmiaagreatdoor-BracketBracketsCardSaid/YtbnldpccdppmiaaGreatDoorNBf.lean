/- A part of the proof that the law BracketOperates/Brackets/Logic answers true at every input and leaves its arguments as they were. -/
import Derived.Test.YtbnldpccdppmiaaGreatDoorLift
set_option linter.unusedVariables false
set_option linter.unusedSimpArgs false
namespace Go.Proofs.YtbnldpccdppmiaaGreatDoor
open Go Go.ChangeShapes Go.WideShapes Go.ChangeAt Go.RowKit Go.Sx
set_option maxRecDepth 100000
theorem wf3 : Rows.bracketBracketsRow.wfByText (OpenSpec.ofChange Rows.bracketBracketsSpec) = true := by kernel_rfl
theorem fn3 {f : FuncId} (hf : Tryz.pinned.checked.prog.funcNamed Rows.bracketBracketsRow.func = some f) : f = 3 := Option.some.inj ((show Tryz.prog.funcNamed Rows.bracketBracketsRow.func = some 3 by kernel_rfl).symm.trans hf) |>.symm
end Go.Proofs.YtbnldpccdppmiaaGreatDoor
