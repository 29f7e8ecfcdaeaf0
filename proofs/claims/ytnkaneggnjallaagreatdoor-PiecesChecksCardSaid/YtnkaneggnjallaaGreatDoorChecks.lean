/- The law PiecesChecks answers true at every input of its types and leaves its arguments as they were; its card is proved over the row with the two listed tables, tied to the program text. -/
import Derived.Test.YtnkaneggnjallaaGreatDoorMain
import Derived.Test.YtnkaneggnjallaaGreatDoorNc
import Derived.Test.YtnkaneggnjallaaGreatDoorNd
import Derived.Test.YtnkaneggnjallaaGreatDoorNe
import Derived.Test.YtnkaneggnjallaaGreatDoorNf
set_option linter.unusedVariables false
set_option linter.unusedSimpArgs false
namespace Go.Proofs.YtnkaneggnjallaaGreatDoor
open Go Go.ChangeShapes Go.WideShapes Go.ChangeAt Go.RowKit Go.Sx
set_option maxRecDepth 100000
theorem piecesChecks_card_holds : Rows.PiecesChecksCardSaid :=
  Claim7.holds_tied_plain_at .later [] [.data, .pinned] true (true, "33578ef64ab2565cd661984a31f19ee3af636f7b7fab39c6240bd839fee7ec05") false jF (fun _ h => by cases h) wf7 (fun _ h => by cases h) piecesChecks_row_tie rfl ⟨rfl, rfl⟩ main_is rfl
    (fun f fn hf hfn => by
      obtain rfl : f = 7 := fn7 hf
      obtain rfl : fn = Tryz.f7 := (Option.some.inj (Tryz.func7.symm.trans hfn)).symm
      exact ⟨looks_no, fun j t ht => by
        rw [Tryz.params7] at ht
        have hm : t ∈ [22, 5, 5] := by simpa using Array.mem_of_getElem? ht
        exact (show Tryz.prog.wantsStandIn t = false by simpa using List.all_eq_true.1 stand7 t hm)⟩)
    goes7
end Go.Proofs.YtnkaneggnjallaaGreatDoor
