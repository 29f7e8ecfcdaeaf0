/- A part of the proof of movingnumberChecks. -/
import Derived.Test.YtpfdaoajcnophaaGreatDoorA5
import Derived.Test.YtpfdaoajcnophaaGreatDoorExtK
set_option linter.unusedVariables false
set_option linter.unusedSimpArgs false
namespace Go.Proofs.YtpfdaoajcnophaaGreatDoor
open Go Go.ChangeShapes Go.WideShapes Go.ChangeAt Go.RowKit Go.Sx
set_option maxRecDepth 100000
theorem wf9:Rows.movingnumberChecksRow.wfByText (OpenSpec.ofChange Rows.movingnumberChecksSpec)=true:=by kernel_rfl
theorem fn9 {f:FuncId} (hf:Tryz.pinned.checked.prog.funcNamed Rows.movingnumberChecksRow.func=some f):f=9:=Option.some.inj ((show Tryz.prog.funcNamed Rows.movingnumberChecksRow.func=some 9 by kernel_rfl).symm.trans hf) |>.symm
end Go.Proofs.YtpfdaoajcnophaaGreatDoor
