/- The law MovingpointMeets answers true at every input of its types and leaves its arguments as they were; its card is proved over the row with the two listed tables, tied to the program text. -/
import Derived.Test.YtbenbmdkhcfcfaaGreatDoorA7
import Derived.Test.YtbenbmdkhcfcfaaGreatDoorNQMc
import Derived.Test.YtbenbmdkhcfcfaaGreatDoorNQMd
import Derived.Test.YtbenbmdkhcfcfaaGreatDoorNQMe
import Derived.Test.YtbenbmdkhcfcfaaGreatDoorNQMf
set_option linter.unusedVariables false
set_option linter.unusedSimpArgs false
namespace Go.Proofs.YtbenbmdkhcfcfaaGreatDoor
open Go Go.ChangeShapes Go.WideShapes Go.ChangeAt Go.RowKit Go.Sx
set_option maxRecDepth 100000
theorem movingpointMeets_card_holds : Rows.MovingpointMeetsCardSaid :=
  Claim7.holds_tied_plain_at .later [] [.data, .pinned] true (true, "6d1d5c2e1aebef60556676dd1fa69d1ad8f200cba7c7fb4d49c1db58e17c1697") false je (fun _ h => by cases h) wf7 (fun _ h => by cases h) movingpointMeets_row_tie rfl ⟨rfl, rfl⟩ main_is rfl
    (fun f fn hf hfn => by
      obtain rfl : f = 7 := fn7 hf
      obtain rfl : fn = Tryz.f7 := (Option.some.inj (Tryz.func7.symm.trans hfn)).symm
      exact ⟨looks_no, fun j t ht => by
        rw [Tryz.params7] at ht
        have hm : t ∈ [93, 94] := by simpa using Array.mem_of_getElem? ht
        exact (show Tryz.prog.wantsStandIn t = false by simpa using List.all_eq_true.1 stand7 t hm)⟩)
    goes7
end Go.Proofs.YtbenbmdkhcfcfaaGreatDoor
