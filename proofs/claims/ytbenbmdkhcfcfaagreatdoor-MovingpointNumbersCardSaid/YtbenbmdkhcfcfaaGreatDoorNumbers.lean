/- The law MovingpointNumbers answers true at every input of its types and leaves its arguments as they were; its card is proved over the row with the two listed tables, tied to the program text. -/
import Derived.Test.YtbenbmdkhcfcfaaGreatDoorF8
import Derived.Test.YtbenbmdkhcfcfaaGreatDoorNQNc
import Derived.Test.YtbenbmdkhcfcfaaGreatDoorNQNd
import Derived.Test.YtbenbmdkhcfcfaaGreatDoorNQNe
import Derived.Test.YtbenbmdkhcfcfaaGreatDoorNQNf
set_option linter.unusedVariables false
set_option linter.unusedSimpArgs false
namespace Go.Proofs.YtbenbmdkhcfcfaaGreatDoor
open Go Go.ChangeShapes Go.WideShapes Go.ChangeAt Go.RowKit Go.Sx
set_option maxRecDepth 100000
theorem movingpointNumbers_card_holds : Rows.MovingpointNumbersCardSaid :=
  Claim7.holds_tied_plain_at .later [] [.data, .pinned] true (true, "6d1d5c2e1aebef60556676dd1fa69d1ad8f200cba7c7fb4d49c1db58e17c1697") false ks (fun _ h => by cases h) wf10 (fun _ h => by cases h) movingpointNumbers_row_tie rfl ⟨rfl, rfl⟩ main_is rfl
    (fun f fn hf hfn => by
      obtain rfl : f = 10 := fn10 hf
      obtain rfl : fn = Tryz.f10 := (Option.some.inj (Tryz.func10.symm.trans hfn)).symm
      exact ⟨looks_no, fun j t ht => by
        rw [Tryz.params10] at ht
        have hm : t ∈ [93, 94] := by simpa using Array.mem_of_getElem? ht
        exact (show Tryz.prog.wantsStandIn t = false by simpa using List.all_eq_true.1 stand10 t hm)⟩)
    goes10
end Go.Proofs.YtbenbmdkhcfcfaaGreatDoor
