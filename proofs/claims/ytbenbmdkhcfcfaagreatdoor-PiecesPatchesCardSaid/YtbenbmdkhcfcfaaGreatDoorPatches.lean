/- The law PiecesPatches answers true at every input of its types and leaves its arguments as they were; its card is proved over the row with the two listed tables, tied to the program text. -/
import Derived.Test.YtbenbmdkhcfcfaaGreatDoorMain
import Derived.Test.YtbenbmdkhcfcfaaGreatDoorNVc
import Derived.Test.YtbenbmdkhcfcfaaGreatDoorNVd
import Derived.Test.YtbenbmdkhcfcfaaGreatDoorNVe
import Derived.Test.YtbenbmdkhcfcfaaGreatDoorNVf
set_option linter.unusedVariables false
set_option linter.unusedSimpArgs false
namespace Go.Proofs.YtbenbmdkhcfcfaaGreatDoor
open Go Go.ChangeShapes Go.WideShapes Go.ChangeAt Go.RowKit Go.Sx
set_option maxRecDepth 100000
theorem piecesPatches_card_holds:Rows.PiecesPatchesCardSaid :=
 Claim7.holds_tied_plain_at .later [] [.data, .pinned] true (true, "6d1d5c2e1aebef60556676dd1fa69d1ad8f200cba7c7fb4d49c1db58e17c1697") false nk (fun _ h => by cases h) wf11 (fun _ h => by cases h) piecesPatches_row_tie rfl ⟨rfl, rfl⟩ main_is rfl
  (fun f fn hf hfn=>by
    obtain rfl:f=11:=fn11 hf
    obtain rfl:fn=Tryz.f11:=(Option.some.inj (Tryz.func11.symm.trans hfn)).symm
    exact ⟨looks_no,fun j t ht=>by
     rw [Tryz.params11] at ht
     have hm:t∈[49,49]:=by simpa using Array.mem_of_getElem? ht
     exact (show Tryz.prog.wantsStandIn t=false by simpa using List.all_eq_true.1 stand11 t hm)⟩)
  goes11
end Go.Proofs.YtbenbmdkhcfcfaaGreatDoor
