/- The law PiecesRefines answers true at every input of its types and leaves its arguments as they were; its card is proved over the row with the two listed tables, tied to the program text. -/
import Derived.Test.YtnkaneggnjallaaGreatDoorMain
import Derived.Test.YtnkaneggnjallaaGreatDoorNc
import Derived.Test.YtnkaneggnjallaaGreatDoorNd
import Derived.Test.YtnkaneggnjallaaGreatDoorNe
import Derived.Test.YtnkaneggnjallaaGreatDoorNf
set_option linter.unusedVariables false
set_option linter.unusedSimpArgs false
namespace Go.Proofs.YtnkaneggnjallaaGreatDoor
open Go Go.ChangeShapes Go.WideShapes Go.ChangeAt Go.RowKit Go.Sx
set_option maxRecDepth 100000
theorem piecesRefines_card_holds : Rows.PiecesRefinesCardSaid :=
  Claim7.holds_tied_plain_at .later [] [.data, .pinned] true (true, "33578ef64ab2565cd661984a31f19ee3af636f7b7fab39c6240bd839fee7ec05") false jE (fun _ h => by cases h) wf9 (fun _ h => by cases h) piecesRefines_row_tie rfl ⟨rfl, rfl⟩ main_is rfl
    (fun f fn hf hfn => by
      obtain rfl : f = 9 := fn9 hf
      obtain rfl : fn = Tryz.f9 := (Option.some.inj (Tryz.func9.symm.trans hfn)).symm
      exact ⟨looks_no, fun j t ht => by
        rw [Tryz.params9] at ht
        have hm : t ∈ [22, 22] := by simpa using Array.mem_of_getElem? ht
        exact (show Tryz.prog.wantsStandIn t = false by simpa using List.all_eq_true.1 stand9 t hm)⟩)
    goes9
end Go.Proofs.YtnkaneggnjallaaGreatDoor
