/- A part of the proof of movingpointChecks. -/
import Derived.Test.YtbenbmdkhcfcfaaGreatDoorH1
import Derived.Test.YtbenbmdkhcfcfaaGreatDoorExtC
set_option linter.unusedVariables false
set_option linter.unusedSimpArgs false
namespace Go.Proofs.YtbenbmdkhcfcfaaGreatDoor
open Go Go.ChangeShapes Go.WideShapes Go.ChangeAt Go.RowKit Go.Sx
set_option maxRecDepth 100000
theorem main_is : Tryz.pinned.checked.prog.mainIs = some (true, "6d1d5c2e1aebef60556676dd1fa69d1ad8f200cba7c7fb4d49c1db58e17c1697".toList) := by kernel_rfl
theorem looks_no : false = Tryz.pinned.checked.prog.looks [] := by kernel_rfl
end Go.Proofs.YtbenbmdkhcfcfaaGreatDoor
