import Derived.Test.YtbenbmdkhcfcfaaGreatDoorLift
set_option linter.unusedVariables false
set_option linter.unusedSimpArgs false
namespace Go.Proofs.YtbenbmdkhcfcfaaGreatDoor
open Go Go.ChangeShapes Go.WideShapes Go.ChangeAt Go.RowKit Go.Sx
set_option maxRecDepth 100000
theorem wf11:Rows.piecesPatchesRow.wfByText (OpenSpec.ofChange Rows.piecesPatchesSpec)=true:=by kernel_rfl
theorem fn11 {f:FuncId} (hf:Tryz.pinned.checked.prog.funcNamed Rows.piecesPatchesRow.func=some f):f=11:=Option.some.inj ((show Tryz.prog.funcNamed Rows.piecesPatchesRow.func=some 11 by kernel_rfl).symm.trans hf) |>.symm
end Go.Proofs.YtbenbmdkhcfcfaaGreatDoor
