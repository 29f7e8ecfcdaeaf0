/- The law MovingpointChecks answers true at every input of its types and leaves its arguments as they were; its card is proved over the row with the two listed tables, tied to the program text. -/
import Derived.Test.YtbenbmdkhcfcfaaGreatDoorH3
import Derived.Test.YtbenbmdkhcfcfaaGreatDoorNQCc
import Derived.Test.YtbenbmdkhcfcfaaGreatDoorNQCd
import Derived.Test.YtbenbmdkhcfcfaaGreatDoorNQCe
import Derived.Test.YtbenbmdkhcfcfaaGreatDoorNQCf
set_option linter.unusedVariables false
set_option linter.unusedSimpArgs false
namespace Go.Proofs.YtbenbmdkhcfcfaaGreatDoor
open Go Go.ChangeShapes Go.WideShapes Go.ChangeAt Go.RowKit Go.Sx
set_option maxRecDepth 100000
theorem movingpointChecks_card_holds : Rows.MovingpointChecksCardSaid :=
  Claim7.holds_tied_plain_at .later [] [.data, .pinned] true (true, "6d1d5c2e1aebef60556676dd1fa69d1ad8f200cba7c7fb4d49c1db58e17c1697") false ij (fun _ h => by cases h) wf6 (fun _ h => by cases h) movingpointChecks_row_tie rfl ⟨rfl, rfl⟩ main_is rfl
    (fun f fn hf hfn => by
      obtain rfl : f = 6 := fn6 hf
      obtain rfl : fn = Tryz.f6 := (Option.some.inj (Tryz.func6.symm.trans hfn)).symm
      exact ⟨looks_no, fun j t ht => by
        rw [Tryz.params6] at ht
        have hm : t ∈ [33] := by simpa using Array.mem_of_getElem? ht
        exact (show Tryz.prog.wantsStandIn t = false by simpa using List.all_eq_true.1 stand6 t hm)⟩)
    goes6
end Go.Proofs.YtbenbmdkhcfcfaaGreatDoor
