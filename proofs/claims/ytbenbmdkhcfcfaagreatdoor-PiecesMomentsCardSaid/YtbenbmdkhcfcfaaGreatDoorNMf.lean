/- A part of the proof of piecesMoments. -/
import Derived.Test.YtbenbmdkhcfcfaaGreatDoorLift
set_option linter.unusedVariables false
set_option linter.unusedSimpArgs false
namespace Go.Proofs.YtbenbmdkhcfcfaaGreatDoor
open Go Go.ChangeShapes Go.WideShapes Go.ChangeAt Go.RowKit Go.Sx
set_option maxRecDepth 100000
theorem wf8 : Rows.piecesMomentsRow.wfByText (OpenSpec.ofChange Rows.piecesMomentsSpec) = true := by kernel_rfl
theorem fn8 {f : FuncId} (hf : Tryz.pinned.checked.prog.funcNamed Rows.piecesMomentsRow.func = some f) : f = 8 := Option.some.inj ((show Tryz.prog.funcNamed Rows.piecesMomentsRow.func = some 8 by kernel_rfl).symm.trans hf) |>.symm
end Go.Proofs.YtbenbmdkhcfcfaaGreatDoor
