/- The law PiecesRestricts answers true at every input of its types and leaves its arguments as they were; its card is proved over the row with the two listed tables, tied to the program text. -/
import Derived.Test.YtbenbmdkhcfcfaaGreatDoorMain
import Derived.Test.YtbenbmdkhcfcfaaGreatDoorNZc
import Derived.Test.YtbenbmdkhcfcfaaGreatDoorNZd
import Derived.Test.YtbenbmdkhcfcfaaGreatDoorNZe
import Derived.Test.YtbenbmdkhcfcfaaGreatDoorNZf
set_option linter.unusedVariables false
set_option linter.unusedSimpArgs false
namespace Go.Proofs.YtbenbmdkhcfcfaaGreatDoor
open Go Go.ChangeShapes Go.WideShapes Go.ChangeAt Go.RowKit Go.Sx
set_option maxRecDepth 100000
theorem piecesRestricts_card_holds:Rows.PiecesRestrictsCardSaid :=
 Claim7.holds_tied_plain_at .later [] [.data, .pinned] true (true, "6d1d5c2e1aebef60556676dd1fa69d1ad8f200cba7c7fb4d49c1db58e17c1697") false mm (fun _ h => by cases h) wf12 (fun _ h => by cases h) piecesRestricts_row_tie rfl ⟨rfl, rfl⟩ main_is rfl
  (fun f fn hf hfn=>by
    obtain rfl:f=12:=fn12 hf
    obtain rfl:fn=Tryz.f12:=(Option.some.inj (Tryz.func12.symm.trans hfn)).symm
    exact ⟨looks_no,fun j t ht=>by
     rw [Tryz.params12] at ht
     have hm:t∈[49,49]:=by simpa using Array.mem_of_getElem? ht
     exact (show Tryz.prog.wantsStandIn t=false by simpa using List.all_eq_true.1 stand12 t hm)⟩)
  goes12
end Go.Proofs.YtbenbmdkhcfcfaaGreatDoor
