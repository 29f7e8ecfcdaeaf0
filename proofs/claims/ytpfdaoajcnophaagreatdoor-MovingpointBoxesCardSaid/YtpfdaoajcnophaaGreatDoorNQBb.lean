/- A part of the proof of movingpointBoxes. -/
import Derived.Test.YtpfdaoajcnophaaGreatDoorK9
import Derived.Test.YtpfdaoajcnophaaGreatDoorN5
set_option linter.unusedVariables false
set_option linter.unusedSimpArgs false
namespace Go.Proofs.YtpfdaoajcnophaaGreatDoor
open Go Go.ChangeShapes Go.WideShapes Go.ChangeAt Go.RowKit Go.Sx
set_option maxRecDepth 100000
theorem w_third {H:Type} {P:Program} {a b c:TypeId} {ts:List TypeId} {d0 d1 d2:DataW H} {r:List (DataW H)} {f:Nat→Bool} (h:(DataW.weightsEach P (a::b::c::ts) (d0::d1::d2::r)).all f=true):(DataW.weights P c d2).all f=true:=by
 simp only [DataW.weightsEach,List.all_append,Bool.and_eq_true] at h
 exact h.2.2.1
theorem ks (os:Os) (started:os.Started) (H:Type) (enc:TypeId×Value→H) :
 ReturnsInHanded {} Tryz.checked os 3 .any (fun w args=>(Rows.movingpointBoxesSpec.pre enc Tryz.prog Tryz.f3 Rows.movingpointBoxesRow.domain false w args∧laidMetH Tryz.prog Rows.movingpointBoxesRow.laid w)∧sizedMet enc Tryz.prog Tryz.f3 (OpenSpec.ofChange Rows.movingpointBoxesSpec) false w args)
  (Rows.movingpointBoxesSpec.post enc Tryz.prog Tryz.f3 false true false false):=by
 refine returnsInHanded_of_change_and (C:=Tryz.checked) (X:=fun w _=>laidMetH Tryz.prog Rows.movingpointBoxesRow.laid w) (fun _ _ _ hh h=>h.of_heap hh) own started (by kernel_rfl) Tryz.func3
  (ChangeSpec.witness_shaped (enc:=enc) (C:=Tryz.checked) (os:=os) (X:=fun w _=>laidMetH Tryz.prog Rows.movingpointBoxesRow.laid w) false (World.laidAll Tryz.prog os Rows.movingpointBoxesRow.laid) #[.agg #[.int .u8 0,.int .u8 0,.int .u8 0,.slice none 0 0],.agg #[.int .u8 0,.int .u8 0],.agg #[.bool false,.string ⟨#[]⟩,.bool false,.string ⟨#[]⟩,.bool false,.string ⟨#[]⟩,.bool false,.string ⟨#[]⟩]] 8 (World.laidAll_os _ _ _)
    (World.shaped_of_ZipB (by kernel_rfl) (by kernel_rfl)) (by kernel_rfl) (by kernel_rfl) (by kernel_rfl)
    (by rw [MakeChecks.laidMetH_plain _ _ _ (by kernel_rfl)]; exact laidMet_laidAll _ (by kernel_rfl) (by kernel_rfl))) ?_
 intro W base args ds gs before hval0 hW _ hwt _ _
 have hval:∀ (j:Nat) t v,Tryz.f3.params[j]?=some t→args[j]?=some v→Value.okWide Tryz.prog W .any base t v:=hval0
 have hW':=hW
 obtain ⟨p,q,hA0,hV,rfl,_,_⟩:=hW
 have hA:DataW.TrodAll enc Tryz.prog W 0 (fun _=>true) true Tryz.f3.params.toList args.toList ds p:=hA0
 rw [Tryz.params3] at hA hval
 obtain ⟨v0,v1,v2,d0,d1,d2,p0,p1,p2,rfl,rfl,rfl,h0,h1,h2⟩:=trodAll_three hA
 obtain ⟨rfl,rfl⟩:=trodVars_none hV
 obtain ⟨c0,s0,sv0,rfl,hc0,hv0,hs0⟩:=open_car (hval 0 24 v0 rfl rfl) h0
 obtain ⟨a1,b1,rfl,la1,lb1⟩:=open_cut (hval 1 25 v1 rfl rfl) h1
 rw [Tryz.params3] at hwt
 obtain ⟨x2,y2,rfl,hx2,hy2⟩:=wE (hval 2 30 v2 rfl rfl) h2 (w_third hwt)
 refine (boxes_ct c0 s0 sv0 a1 b1 x2 y2 la1 lb1 ⟨hx2,hy2⟩ hc0 hs0 W hv0).mono fun e W' ⟨he,_,hb⟩=>?_
 subst he
 exact ⟨_,rfl,law_post laidOutT rfl rfl (fun t ht=>by
  rw [Tryz.params3] at ht
  have hall:([24,25,30].all fun u=>Tryz.prog.readableRec u && decide (u < Tryz.prog.types.size))=true:=by kernel_rfl
  have hm:t∈[24,25,30]:=by simpa using ht
  simpa using List.all_eq_true.1 hall t hm) (by kernel_rfl) Tryz.underlying4 hW' hb⟩
end Go.Proofs.YtpfdaoajcnophaaGreatDoor
