/- A part of the proof of movingpointChecks. -/
import Derived.Test.YtbenbmdkhcfcfaaGreatDoorH1
import Derived.Test.YtbenbmdkhcfcfaaGreatDoorExtC
set_option linter.unusedVariables false
set_option linter.unusedSimpArgs false
namespace Go.Proofs.YtbenbmdkhcfcfaaGreatDoor
open Go Go.ChangeShapes Go.WideShapes Go.ChangeAt Go.RowKit Go.Sx
set_option maxRecDepth 100000
theorem goes6 : false = Rows.movingpointChecksRow.goesBy Tryz.pinned.checked.prog := by kernel_rfl
end Go.Proofs.YtbenbmdkhcfcfaaGreatDoor
