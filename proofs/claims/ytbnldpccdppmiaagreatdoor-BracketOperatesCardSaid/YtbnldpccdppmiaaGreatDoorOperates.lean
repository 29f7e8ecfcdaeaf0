/- The law BracketOperates answers true at every input of its types and leaves its arguments as they were; its card is proved over the row with the two listed tables, tied to the program text. -/
import Derived.Test.YtbnldpccdppmiaaGreatDoorMain
import Derived.Test.YtbnldpccdppmiaaGreatDoorNOc
import Derived.Test.YtbnldpccdppmiaaGreatDoorNOd
import Derived.Test.YtbnldpccdppmiaaGreatDoorNOe
import Derived.Test.YtbnldpccdppmiaaGreatDoorNOf
set_option linter.unusedVariables false
set_option linter.unusedSimpArgs false
namespace Go.Proofs.YtbnldpccdppmiaaGreatDoor
open Go Go.ChangeShapes Go.WideShapes Go.ChangeAt Go.RowKit Go.Sx
set_option maxRecDepth 100000
theorem bracketOperates_card_holds : Rows.BracketOperatesCardSaid :=
  Claim7.holds_tied_plain_at .later [] [.data, .pinned] true (true, "c1f15daa3491b6e53f4471897ef1b0540a3d5e6ea479b8e6aa629787dcf9f908") false it (fun _ h => by cases h) wf5 (fun _ h => by cases h) bracketOperates_row_tie rfl ⟨rfl, rfl⟩ mf rfl
    (fun f fn hf hfn => by
      obtain rfl : f = 5 := fn5 hf
      obtain rfl : fn = Tryz.f5 := (Option.some.inj (Tryz.func5.symm.trans hfn)).symm
      exact ⟨k9, fun j t ht => by
        rw [Tryz.params5] at ht
        have hm : t ∈ [24, 24, 22] := by simpa using Array.mem_of_getElem? ht
        exact (show Tryz.prog.wantsStandIn t = false by simpa using List.all_eq_true.1 stand5 t hm)⟩)
    goes5
end Go.Proofs.YtbnldpccdppmiaaGreatDoor
