/- The law MovingpointBoxes answers true at every input of its types and leaves its arguments as they were; its card is proved over the row with the two listed tables, tied to the program text. -/
import Derived.Test.YtpfdaoajcnophaaGreatDoorK7
import Derived.Test.YtpfdaoajcnophaaGreatDoorNQBc
import Derived.Test.YtpfdaoajcnophaaGreatDoorNQBd
import Derived.Test.YtpfdaoajcnophaaGreatDoorNQBe
import Derived.Test.YtpfdaoajcnophaaGreatDoorNQBf
set_option linter.unusedVariables false
set_option linter.unusedSimpArgs false
namespace Go.Proofs.YtpfdaoajcnophaaGreatDoor
open Go Go.ChangeShapes Go.WideShapes Go.ChangeAt Go.RowKit Go.Sx
set_option maxRecDepth 100000
theorem movingpointBoxes_card_holds:Rows.MovingpointBoxesCardSaid :=
 Claim7.holds_tied_plain_at .later [] [.data, .pinned] true (true, "0cacc08c6f766385aa4a6b472f928f3d4c10893910f373cbe7fb0d17310d34d0") false kG (fun _ h => by cases h) wf3 (fun _ h => by cases h) movingpointBoxes_row_tie rfl ⟨rfl, rfl⟩ main_is rfl
  (fun f fn hf hfn=>by
    obtain rfl:f=3:=fn3 hf
    obtain rfl:fn=Tryz.f3:=(Option.some.inj (Tryz.func3.symm.trans hfn)).symm
    exact ⟨looks_no,fun j t ht=>by
     rw [Tryz.params3] at ht
     have hm:t∈[24,25,30]:=by simpa using Array.mem_of_getElem? ht
     exact (show Tryz.prog.wantsStandIn t=false by simpa using List.all_eq_true.1 stand3 t hm)⟩)
  goes3
end Go.Proofs.YtpfdaoajcnophaaGreatDoor
