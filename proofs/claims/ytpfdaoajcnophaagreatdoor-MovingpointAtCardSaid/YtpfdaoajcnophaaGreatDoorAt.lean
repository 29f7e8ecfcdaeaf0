/- The law MovingpointAt answers true at every input of its types and leaves its arguments as they were; its card is proved over the row with the two listed tables, tied to the program text. -/
import Derived.Test.YtpfdaoajcnophaaGreatDoorA8
import Derived.Test.YtpfdaoajcnophaaGreatDoorNQAc
import Derived.Test.YtpfdaoajcnophaaGreatDoorNQAd
import Derived.Test.YtpfdaoajcnophaaGreatDoorNQAe
import Derived.Test.YtpfdaoajcnophaaGreatDoorNQAf
set_option linter.unusedVariables false
set_option linter.unusedSimpArgs false
namespace Go.Proofs.YtpfdaoajcnophaaGreatDoor
open Go Go.ChangeShapes Go.WideShapes Go.ChangeAt Go.RowKit Go.Sx
set_option maxRecDepth 100000
theorem movingpointAt_card_holds : Rows.MovingpointAtCardSaid :=
  Claim7.holds_tied_plain_at .later [] [.data, .pinned] true (true, "0cacc08c6f766385aa4a6b472f928f3d4c10893910f373cbe7fb0d17310d34d0") false lz (fun _ h => by cases h) wf4 (fun _ h => by cases h) movingpointAt_row_tie rfl ⟨rfl, rfl⟩ main_is rfl
    (fun f fn hf hfn => by
      obtain rfl : f = 4 := fn4 hf
      obtain rfl : fn = Tryz.f4 := (Option.some.inj (Tryz.func4.symm.trans hfn)).symm
      exact ⟨looks_no, fun j t ht => by
        rw [Tryz.params4] at ht
        have hm : t ∈ [24, 25, 46] := by simpa using Array.mem_of_getElem? ht
        exact (show Tryz.prog.wantsStandIn t = false by simpa using List.all_eq_true.1 stand4 t hm)⟩)
    goes4
end Go.Proofs.YtpfdaoajcnophaaGreatDoor
