/- The law PiecesRules answers true at every input of its types and leaves its arguments as they were; its card is proved over the row with the two listed tables, tied to the program text. -/
import Derived.Test.YtnkaneggnjallaaGreatDoorRc
import Derived.Test.YtnkaneggnjallaaGreatDoorRd
import Derived.Test.YtnkaneggnjallaaGreatDoorRe
import Derived.Test.YtnkaneggnjallaaGreatDoorRf
set_option linter.unusedVariables false
set_option linter.unusedSimpArgs false
namespace Go.Proofs.YtnkaneggnjallaaGreatDoor
open Go Go.ChangeShapes Go.WideShapes Go.ChangeAt Go.RowKit Go.Sx
set_option maxRecDepth 100000
theorem piecesRules_card_holds : Rows.PiecesRulesCardSaid :=
  Claim7.holds_tied_plain_at .later [] [.data, .pinned] true (true, "33578ef64ab2565cd661984a31f19ee3af636f7b7fab39c6240bd839fee7ec05") false rules_holds (fun _ h => by cases h) wf5 (fun _ h => by cases h) piecesRules_row_tie rfl ⟨rfl, rfl⟩ main_is rfl
    (fun f fn hf hfn => by
      obtain rfl : f = 5 := fn5 hf
      obtain rfl : fn = Tryz.f5 := (Option.some.inj (Tryz.func5.symm.trans hfn)).symm
      exact ⟨looks_no, fun j t ht => by
        rw [Tryz.params5] at ht
        have hm : t ∈ [66, 66, 5] := by simpa using Array.mem_of_getElem? ht
        exact (show Tryz.prog.wantsStandIn t = false by simpa using List.all_eq_true.1 stand5 t hm)⟩)
    goes5
#print axioms piecesRules_card_holds
end Go.Proofs.YtnkaneggnjallaaGreatDoor
