/- A part of the proof of piecesMaps. -/
import Derived.Test.YtbenbmdkhcfcfaaGreatDoorLift
set_option linter.unusedVariables false
set_option linter.unusedSimpArgs false
namespace Go.Proofs.YtbenbmdkhcfcfaaGreatDoor
open Go Go.ChangeShapes Go.WideShapes Go.ChangeAt Go.RowKit Go.Sx
set_option maxRecDepth 100000
theorem wf5 : Rows.piecesMapsRow.wfByText (OpenSpec.ofChange Rows.piecesMapsSpec) = true := by kernel_rfl
theorem fn5 {f : FuncId} (hf : Tryz.pinned.checked.prog.funcNamed Rows.piecesMapsRow.func = some f) : f = 5 := Option.some.inj ((show Tryz.prog.funcNamed Rows.piecesMapsRow.func = some 5 by kernel_rfl).symm.trans hf) |>.symm
end Go.Proofs.YtbenbmdkhcfcfaaGreatDoor
