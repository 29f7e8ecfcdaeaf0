/- A part of the proof of movingpointBoxes. -/
import Derived.Test.YtpfdaoajcnophaaGreatDoorK4
import Derived.Test.YtpfdaoajcnophaaGreatDoorExtB
set_option linter.unusedVariables false
set_option linter.unusedSimpArgs false
namespace Go.Sx
open Go Go.RowKit Go.Proofs Go.ChangeShapes Go.WideShapes
set_option maxRecDepth 100000
theorem mz {n:Int} (h:(Lit.int .u8 n).wf=true):∃ k:Nat,n=(k:Int)∧k < 256:=by
 have:=bounds_u8 h
 exact ⟨n.toNat,by omega,by omega⟩
section
variable {H:Type} {enc:TypeId×Value→H} {W:World} {base:Nat} {sp:Nat→Bool} {held:Bool}
end
end Go.Sx
