/- A part of the proof of movingnumberChecks. -/
import Derived.Test.YtpfdaoajcnophaaGreatDoorA9
import Derived.Test.YtpfdaoajcnophaaGreatDoorD5
set_option linter.unusedVariables false
set_option linter.unusedSimpArgs false
namespace Go.Proofs.YtpfdaoajcnophaaGreatDoor
open Go Go.ChangeShapes Go.WideShapes Go.ChangeAt Go.RowKit Go.Sx
set_option maxRecDepth 100000
theorem w_two {H:Type} {P:Program} {a b:TypeId} {ts:List TypeId} {d0 d1:DataW H} {r:List (DataW H)} {f:Nat→Bool} (h:(DataW.weightsEach P (a::b::ts) (d0::d1::r)).all f=true):(DataW.weights P a d0).all f=true∧(DataW.weights P b d1).all f=true:=by
 simp only [DataW.weightsEach,List.all_append,Bool.and_eq_true] at h
 exact ⟨h.1,h.2.1⟩
theorem ki (os:Os) (started:os.Started) (H:Type) (enc:TypeId×Value→H) :
 ReturnsInHanded {} Tryz.checked os 9 .any (fun w args=>(Rows.movingnumberChecksSpec.pre enc Tryz.prog Tryz.f9 Rows.movingnumberChecksRow.domain false w args∧laidMetH Tryz.prog Rows.movingnumberChecksRow.laid w)∧sizedMet enc Tryz.prog Tryz.f9 (OpenSpec.ofChange Rows.movingnumberChecksSpec) false w args)
  (Rows.movingnumberChecksSpec.post enc Tryz.prog Tryz.f9 false true false false):=by
 refine returnsInHanded_of_change_and (C:=Tryz.checked) (X:=fun w _=>laidMetH Tryz.prog Rows.movingnumberChecksRow.laid w) (fun _ _ _ hh h=>h.of_heap hh) own started (by kernel_rfl) Tryz.func9
  (ChangeSpec.witness_shaped (enc:=enc) (C:=Tryz.checked) (os:=os) (X:=fun w _=>laidMetH Tryz.prog Rows.movingnumberChecksRow.laid w) false (World.laidAll Tryz.prog os Rows.movingnumberChecksRow.laid) #[.slice none 0 0,.slice none 0 0] 8 (World.laidAll_os _ _ _)
    (World.shaped_of_ZipB (by kernel_rfl) (by kernel_rfl)) (by kernel_rfl) (by kernel_rfl) (by kernel_rfl)
    (by rw [MakeChecks.laidMetH_plain _ _ _ (by kernel_rfl)]; exact laidMet_laidAll _ (by kernel_rfl) (by kernel_rfl))) ?_
 intro W base args ds gs before hval0 hW _ hwt _ _
 have hval:∀ (j:Nat) t v,Tryz.f9.params[j]?=some t→args[j]?=some v→Value.okWide Tryz.prog W .any base t v:=hval0
 have hW':=hW
 obtain ⟨p,q,hA0,hV,rfl,_,_⟩:=hW
 have hA:DataW.TrodAll enc Tryz.prog W 0 (fun _=>true) true Tryz.f9.params.toList args.toList ds p:=hA0
 rw [Tryz.params9] at hA hval
 obtain ⟨v0,v1,d0,d1,p0,p1,rfl,rfl,rfl,h0,h1⟩:=trodAll_two hA
 obtain ⟨rfl,rfl⟩:=trodVars_none hV
 rw [Tryz.params9] at hwt
 obtain ⟨x0,hx0,hz0⟩:=vq (hval 0 66 v0 rfl rfl) h0 (w_two hwt).1
 obtain ⟨x1,hx1,hz1⟩:=vq (hval 1 66 v1 rfl rfl) h1 (w_two hwt).2
 refine (uQ x0 x1 v0 v1 hz0 W hx0 hx1).mono fun e W' ⟨he,_,hb⟩=>?_
 subst he
 exact ⟨_,rfl,law_post laidOutT rfl rfl (fun t ht=>by
  rw [Tryz.params9] at ht
  have hall:([66,66].all fun u=>Tryz.prog.readableRec u && decide (u < Tryz.prog.types.size))=true:=by kernel_rfl
  have hm:t∈[66,66]:=by simpa using ht
  simpa using List.all_eq_true.1 hall t hm) (by kernel_rfl) Tryz.underlying4 hW' hb⟩
end Go.Proofs.YtpfdaoajcnophaaGreatDoor
