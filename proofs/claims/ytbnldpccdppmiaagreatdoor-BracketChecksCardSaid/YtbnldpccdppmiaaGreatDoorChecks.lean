/- The law BracketChecks answers true at every input of its types and leaves its arguments as they were; its card is proved over the row with the two listed tables, tied to the program text. -/
import Derived.Test.YtbnldpccdppmiaaGreatDoorMain
import Derived.Test.YtbnldpccdppmiaaGreatDoorNCc
import Derived.Test.YtbnldpccdppmiaaGreatDoorNCd
import Derived.Test.YtbnldpccdppmiaaGreatDoorNCe
import Derived.Test.YtbnldpccdppmiaaGreatDoorNCf
set_option linter.unusedVariables false
set_option linter.unusedSimpArgs false
namespace Go.Proofs.YtbnldpccdppmiaaGreatDoor
open Go Go.ChangeShapes Go.WideShapes Go.ChangeAt Go.RowKit Go.Sx
set_option maxRecDepth 100000
theorem bracketChecks_card_holds : Rows.BracketChecksCardSaid :=
  Claim7.holds_tied_plain_at .later [] [.data, .pinned] true (true, "c1f15daa3491b6e53f4471897ef1b0540a3d5e6ea479b8e6aa629787dcf9f908") false jm (fun _ h => by cases h) wf7 (fun _ h => by cases h) bracketChecks_row_tie rfl ⟨rfl, rfl⟩ pn rfl
    (fun f fn hf hfn => by
      obtain rfl : f = 7 := fn7 hf
      obtain rfl : fn = Tryz.f7 := (Option.some.inj (Tryz.func7.symm.trans hfn)).symm
      exact ⟨nt, fun j t ht => by
        rw [Tryz.params7] at ht
        have hm : t ∈ [24, 5] := by simpa using Array.mem_of_getElem? ht
        exact (show Tryz.prog.wantsStandIn t = false by simpa using List.all_eq_true.1 stand7 t hm)⟩)
    goes7
end Go.Proofs.YtbnldpccdppmiaaGreatDoor
