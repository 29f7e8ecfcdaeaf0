/- The law MovingnumberChecks answers true at every input of its types and leaves its arguments as they were; its card is proved over the row with the two listed tables, tied to the program text. -/
import Derived.Test.YtpfdaoajcnophaaGreatDoorA7
import Derived.Test.YtpfdaoajcnophaaGreatDoorNQC14c
import Derived.Test.YtpfdaoajcnophaaGreatDoorNQC14d
import Derived.Test.YtpfdaoajcnophaaGreatDoorNQC14e
import Derived.Test.YtpfdaoajcnophaaGreatDoorNQC14f
set_option linter.unusedVariables false
set_option linter.unusedSimpArgs false
namespace Go.Proofs.YtpfdaoajcnophaaGreatDoor
open Go Go.ChangeShapes Go.WideShapes Go.ChangeAt Go.RowKit Go.Sx
set_option maxRecDepth 100000
theorem movingnumberChecks_card_holds:Rows.MovingnumberChecksCardSaid :=
 Claim7.holds_tied_plain_at .later [] [.data, .pinned] true (true, "0cacc08c6f766385aa4a6b472f928f3d4c10893910f373cbe7fb0d17310d34d0") false kQ (fun _ h => by cases h) wf9 (fun _ h => by cases h) movingnumberChecks_row_tie rfl ⟨rfl, rfl⟩ main_is rfl
  (fun f fn hf hfn=>by
    obtain rfl:f=9:=fn9 hf
    obtain rfl:fn=Tryz.f9:=(Option.some.inj (Tryz.func9.symm.trans hfn)).symm
    exact ⟨looks_no,fun j t ht=>by
     rw [Tryz.params9] at ht
     have hm:t∈[66,66]:=by simpa using Array.mem_of_getElem? ht
     exact (show Tryz.prog.wantsStandIn t=false by simpa using List.all_eq_true.1 stand9 t hm)⟩)
  goes9
end Go.Proofs.YtpfdaoajcnophaaGreatDoor
