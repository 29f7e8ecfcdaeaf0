/- The law BracketQuestions answers true at every input of its types and leaves its arguments as they were; its card is proved over the row with the two listed tables, tied to the program text. -/
import Derived.Test.YtbnldpccdppmiaaGreatDoorMain
import Derived.Test.YtbnldpccdppmiaaGreatDoorNQc
import Derived.Test.YtbnldpccdppmiaaGreatDoorNQd
import Derived.Test.YtbnldpccdppmiaaGreatDoorNQe
import Derived.Test.YtbnldpccdppmiaaGreatDoorNQf
set_option linter.unusedVariables false
set_option linter.unusedSimpArgs false
namespace Go.Proofs.YtbnldpccdppmiaaGreatDoor
open Go Go.ChangeShapes Go.WideShapes Go.ChangeAt Go.RowKit Go.Sx
set_option maxRecDepth 100000
theorem bracketQuestions_card_holds : Rows.BracketQuestionsCardSaid :=
  Claim7.holds_tied_plain_at .later [] [.data, .pinned] true (true, "c1f15daa3491b6e53f4471897ef1b0540a3d5e6ea479b8e6aa629787dcf9f908") false iC (fun _ h => by cases h) wf4 (fun _ h => by cases h) bracketQuestions_row_tie rfl ⟨rfl, rfl⟩ pn rfl
    (fun f fn hf hfn => by
      obtain rfl : f = 4 := fn4 hf
      obtain rfl : fn = Tryz.f4 := (Option.some.inj (Tryz.func4.symm.trans hfn)).symm
      exact ⟨nt, fun j t ht => by
        rw [Tryz.params4] at ht
        have hm : t ∈ [24, 22, 38] := by simpa using Array.mem_of_getElem? ht
        exact (show Tryz.prog.wantsStandIn t = false by simpa using List.all_eq_true.1 stand4 t hm)⟩)
    goes4
end Go.Proofs.YtbnldpccdppmiaaGreatDoor
