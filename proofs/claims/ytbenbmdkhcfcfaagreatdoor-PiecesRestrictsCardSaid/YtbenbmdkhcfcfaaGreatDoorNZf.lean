import Derived.Test.YtbenbmdkhcfcfaaGreatDoorLift
set_option linter.unusedVariables false
set_option linter.unusedSimpArgs false
namespace Go.Proofs.YtbenbmdkhcfcfaaGreatDoor
open Go Go.ChangeShapes Go.WideShapes Go.ChangeAt Go.RowKit Go.Sx
set_option maxRecDepth 100000
theorem wf12:Rows.piecesRestrictsRow.wfByText (OpenSpec.ofChange Rows.piecesRestrictsSpec)=true:=by kernel_rfl
theorem fn12 {f:FuncId} (hf:Tryz.pinned.checked.prog.funcNamed Rows.piecesRestrictsRow.func=some f):f=12:=Option.some.inj ((show Tryz.prog.funcNamed Rows.piecesRestrictsRow.func=some 12 by kernel_rfl).symm.trans hf) |>.symm
end Go.Proofs.YtbenbmdkhcfcfaaGreatDoor
