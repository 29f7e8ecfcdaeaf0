import Derived.Test.YtbenbmdkhcfcfaaGreatDoorLift
import Derived.Test.YtbenbmdkhcfcfaaGreatDoorF1
set_option linter.unusedVariables false
set_option linter.unusedSimpArgs false
namespace Go.Proofs.YtbenbmdkhcfcfaaGreatDoor
open Go Go.ChangeShapes Go.WideShapes Go.ChangeAt Go.RowKit Go.Sx
set_option maxRecDepth 100000
theorem mZ (os:Os) (started:os.Started) (H:Type) (enc:TypeId×Value→H) :
 ReturnsInHanded {} Tryz.checked os 11 .any (fun w args=>(Rows.piecesPatchesSpec.pre enc Tryz.prog Tryz.f11 Rows.piecesPatchesRow.domain false w args∧laidMetH Tryz.prog Rows.piecesPatchesRow.laid w)∧sizedMet enc Tryz.prog Tryz.f11 (OpenSpec.ofChange Rows.piecesPatchesSpec) false w args)
  (Rows.piecesPatchesSpec.post enc Tryz.prog Tryz.f11 false true false false):=by
 refine returnsInHanded_of_change_and (C:=Tryz.checked) (X:=fun w _=>laidMetH Tryz.prog Rows.piecesPatchesRow.laid w) (fun _ _ _ hh h=>h.of_heap hh) own started (by kernel_rfl) Tryz.func11
  (ChangeSpec.witness_shaped (enc:=enc) (C:=Tryz.checked) (os:=os) (X:=fun w _=>laidMetH Tryz.prog Rows.piecesPatchesRow.laid w) false (World.laidAll Tryz.prog os Rows.piecesPatchesRow.laid) #[.slice none 0 0,.slice none 0 0] 8 (World.laidAll_os _ _ _)
    (World.shaped_of_ZipB (by kernel_rfl) (by kernel_rfl)) (by kernel_rfl) (by kernel_rfl) (by kernel_rfl)
    (by rw [MakeChecks.laidMetH_plain _ _ _ (by kernel_rfl)]; exact laidMet_laidAll _ (by kernel_rfl) (by kernel_rfl))) ?_
 intro W base args ds gs before hval0 hW _ _ _ _
 have hval:∀ (j:Nat) t v,Tryz.f11.params[j]?=some t→args[j]?=some v→Value.okWide Tryz.prog W .any base t v:=hval0
 have hW':=hW
 obtain ⟨p,q,hA0,hV,rfl,_,_⟩:=hW
 have hA:DataW.TrodAll enc Tryz.prog W 0 (fun _=>true) true Tryz.f11.params.toList args.toList ds p:=hA0
 rw [Tryz.params11] at hA hval
 obtain ⟨v0,v1,d0,d1,p0,p1,rfl,rfl,rfl,h0,h1⟩:=trodAll_two hA
 obtain ⟨rfl,rfl⟩:=trodVars_none hV
 obtain ⟨x0,hx0⟩:=qL (hval 0 49 v0 rfl rfl) h0
 obtain ⟨x1,hx1⟩:=qL (hval 1 49 v1 rfl rfl) h1
 refine (kf x0 v0 x1 v1 W hx0 hx1).mono fun e W' ⟨he,_,hb⟩=>?_
 rw [sC] at he
 subst he
 exact ⟨_,rfl,law_post laidOutT rfl rfl (fun t ht=>by
  rw [Tryz.params11] at ht
  have hall:([49,49].all fun u=>Tryz.prog.readableRec u && decide (u < Tryz.prog.types.size))=true:=by kernel_rfl
  have hm:t∈[49,49]:=by simpa using ht
  simpa using List.all_eq_true.1 hall t hm) (by kernel_rfl) Tryz.underlying4 hW' hb⟩
end Go.Proofs.YtbenbmdkhcfcfaaGreatDoor
