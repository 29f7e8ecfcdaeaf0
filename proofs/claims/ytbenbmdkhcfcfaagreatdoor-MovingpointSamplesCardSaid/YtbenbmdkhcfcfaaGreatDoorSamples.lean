/- The law MovingpointSamples answers true at every input of its types and leaves its arguments as they were; its card is proved over the row with the two listed tables, tied to the program text. -/
import Derived.Test.YtbenbmdkhcfcfaaGreatDoorU8
import Derived.Test.YtbenbmdkhcfcfaaGreatDoorNQSc
import Derived.Test.YtbenbmdkhcfcfaaGreatDoorNQSd
import Derived.Test.YtbenbmdkhcfcfaaGreatDoorNQSe
import Derived.Test.YtbenbmdkhcfcfaaGreatDoorNQSf
set_option linter.unusedVariables false
set_option linter.unusedSimpArgs false
namespace Go.Proofs.YtbenbmdkhcfcfaaGreatDoor
open Go Go.ChangeShapes Go.WideShapes Go.ChangeAt Go.RowKit Go.Sx
set_option maxRecDepth 100000
theorem movingpointSamples_card_holds : Rows.MovingpointSamplesCardSaid :=
  Claim7.holds_tied_plain_at .later [] [.data, .pinned] true (true, "6d1d5c2e1aebef60556676dd1fa69d1ad8f200cba7c7fb4d49c1db58e17c1697") false gI (fun _ h => by cases h) wf4 (fun _ h => by cases h) movingpointSamples_row_tie rfl ⟨rfl, rfl⟩ main_is rfl
    (fun f fn hf hfn => by
      obtain rfl : f = 4 := fn4 hf
      obtain rfl : fn = Tryz.f4 := (Option.some.inj (Tryz.func4.symm.trans hfn)).symm
      exact ⟨looks_no, fun j t ht => by
        rw [Tryz.params4] at ht
        have hm : t ∈ [23, 5] := by simpa using Array.mem_of_getElem? ht
        exact (show Tryz.prog.wantsStandIn t = false by simpa using List.all_eq_true.1 stand4 t hm)⟩)
    goes4
end Go.Proofs.YtbenbmdkhcfcfaaGreatDoor
