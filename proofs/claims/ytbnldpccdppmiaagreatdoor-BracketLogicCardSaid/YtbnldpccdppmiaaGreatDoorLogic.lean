/- The law BracketLogic answers true at every input of its types and leaves its arguments as they were; its card is proved over the row with the two listed tables, tied to the program text. -/
import Derived.Test.YtbnldpccdppmiaaGreatDoorMain
import Derived.Test.YtbnldpccdppmiaaGreatDoorNLc
import Derived.Test.YtbnldpccdppmiaaGreatDoorNLd
import Derived.Test.YtbnldpccdppmiaaGreatDoorNLe
import Derived.Test.YtbnldpccdppmiaaGreatDoorNLf
set_option linter.unusedVariables false
set_option linter.unusedSimpArgs false
namespace Go.Proofs.YtbnldpccdppmiaaGreatDoor
open Go Go.ChangeShapes Go.WideShapes Go.ChangeAt Go.RowKit Go.Sx
set_option maxRecDepth 100000
theorem bracketLogic_card_holds : Rows.BracketLogicCardSaid :=
  Claim7.holds_tied_plain_at .later [] [.data, .pinned] true (true, "c1f15daa3491b6e53f4471897ef1b0540a3d5e6ea479b8e6aa629787dcf9f908") false jn (fun _ h => by cases h) wf6 (fun _ h => by cases h) bracketLogic_row_tie rfl ⟨rfl, rfl⟩ mf rfl
    (fun f fn hf hfn => by
      obtain rfl : f = 6 := fn6 hf
      obtain rfl : fn = Tryz.f6 := (Option.some.inj (Tryz.func6.symm.trans hfn)).symm
      exact ⟨k9, fun j t ht => by
        rw [Tryz.params6] at ht
        have hm : t ∈ [24, 24, 22] := by simpa using Array.mem_of_getElem? ht
        exact (show Tryz.prog.wantsStandIn t = false by simpa using List.all_eq_true.1 stand6 t hm)⟩)
    goes6
end Go.Proofs.YtbnldpccdppmiaaGreatDoor
