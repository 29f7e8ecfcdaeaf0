/- A part of the proof of movingpointBoxes. -/
import Derived.Test.YtpfdaoajcnophaaGreatDoorM6
import Derived.Test.YtpfdaoajcnophaaGreatDoorM5
import Derived.Test.YtpfdaoajcnophaaGreatDoorM4
import Derived.Test.YtpfdaoajcnophaaGreatDoorL8
set_option linter.unusedVariables false
set_option linter.unusedSimpArgs false
open Go.Proofs.Tryz renaming call194 → cc194, runUnderlying46 → uu46, sizeOf29 → zz29, isAgg29 → aa29
namespace Go.Sx
open Go Go.RowKit Go.Proofs
set_option maxRecDepth 100000
set_option maxHeartbeats 40000000
attribute [local irreducible] Code.wp wpList Rd Step ObS Ent
attribute [local irreducible] ao aL ah au ax bN
theorem lL:SlT Tryz.prog 56 74 20 216 [.bool false,.string ⟨#[]⟩,.bool false,.string ⟨#[]⟩,.bool false,.string ⟨#[]⟩,.bool false,.string ⟨#[]⟩,.bool false,.bool false,.string ⟨#[]⟩,.bool false,.string ⟨#[]⟩,.bool false,.string ⟨#[]⟩,.bool false,.string ⟨#[]⟩,.bool false,.bool false,.bool false]:=⟨Tryz.underlying56,Tryz.t74,_,Tryz.type74,rfl,rfl,rfl,rfl,rfl,by decide,by decide⟩
theorem uN:SlT Tryz.prog 329 332 12 128 [.bool false,.string ⟨#[]⟩,.bool false,.string ⟨#[]⟩,.bool false,.string ⟨#[]⟩,.bool false,.string ⟨#[]⟩,.bool false,.bool false,.int .i64 0,.int .i64 0]:=⟨Tryz.underlying329,Tryz.t332,_,Tryz.type332,rfl,rfl,rfl,rfl,rfl,by decide,by decide⟩
theorem slt318:SlT Tryz.prog 224 56 1 24 [.slice none 0 0]:=⟨Tryz.underlying224,Tryz.t56,_,Tryz.type56,rfl,rfl,rfl,rfl,rfl,by decide,by decide⟩
theorem sw_step {kp:Bool→Bool→Bool} {S:List Ev} {i:Nat} (out:List Iv) (in_:Bool) (fr:Bd) (n0 n1:Int) (h:i < S.length):swS kp (S.drop i) out in_ fr n0 n1 =
 bif (decide (((i+1:Nat):Int) < ((S.length:Nat):Int)) && (bR (gt S i).at_ (gt S (i+1)).at_ == 0)) then swS kp (S.drop (i+1)) out in_ fr (n0+(gt S i).b0) (n1+(gt S i).b1)
 else bif (kp (decide (n0+(gt S i).b0>0)) (decide (n1+(gt S i).b1>0)) && !in_) then swS kp (S.drop (i+1)) out (kp (decide (n0+(gt S i).b0>0)) (decide (n1+(gt S i).b1>0))) (gt S i).at_ (n0+(gt S i).b0) (n1+(gt S i).b1)
 else bif (!(kp (decide (n0+(gt S i).b0>0)) (decide (n1+(gt S i).b1>0))) && in_) then swS kp (S.drop (i+1)) (out++[bZ fr (gt S i).at_]) (kp (decide (n0+(gt S i).b0>0)) (decide (n1+(gt S i).b1>0))) fr (n0+(gt S i).b0) (n1+(gt S i).b1)
 else swS kp (S.drop (i+1)) out (kp (decide (n0+(gt S i).b0>0)) (decide (n1+(gt S i).b1>0))) fr (n0+(gt S i).b0) (n1+(gt S i).b1):=by
 have e:nxe (gt S i) (S.drop (i+1))=(decide (((i+1:Nat):Int) < ((S.length:Nat):Int)) && (bR (gt S i).at_ (gt S (i+1)).at_ == 0)):=by
  by_cases h2:i+1 < S.length
  · rw [List.drop_eq_getElem_cons h2,← gF h2,decide_eq_true (by omega:((i+1:Nat):Int) < ((S.length:Nat):Int))]; rfl
  · rw [List.drop_of_length_le (by omega),decide_eq_false (by omega:¬ ((i+1:Nat):Int) < ((S.length:Nat):Int))]; rfl
 rw [← e,List.drop_eq_getElem_cons h,← gF h]; rfl
def z_ev:Ev:=⟨⟨⟨oQ,oQ,false⟩,false⟩,0,0⟩
instance yM7_1 (x:Bd):Bu Tryz.prog 332 [0] [vW x] (vE (⟨x,0,0⟩:Ev)):=Bu.of tC rfl rfl
def eE [K:Key] (kp:Bool→Bool→Bool) (a b:List Iv):List Iv:=swS kp (aV (evA a++evB b)) [] false z_ev.at_ 0 0
theorem jb [K:Key] (kp:Bool→Bool→Bool) (kid:FuncId) (hkc:∀ args w,(callFunc kid args).run Tryz.prog w=.ok (.enter kid args) w) (hkp:∀ (p q:Bool) (w:World),Calls Tryz.prog kid #[.bool p,.bool q] w (dE w (.bool (kp p q)) True)) (a:List Iv) (av:Value) (b:List Iv) (bv:Value) (hla:a.length≤200) (hlb:b.length≤200) (hwa:∀ i∈a,Wv i) (hwb:∀ i∈b,Wv i) (za:All (SzV 30) a) (zb:All (SzV 30) b) (w0:World) (hav:View w0 av a) (hbv:View w0 bv b):Calls Tryz.prog 194 #[av,bv,(.func (.func kid) #[] #[])] w0 (RetR w0 74 (eE kp a b) (All (SzV 30) (eE kp a b)∧(eE kp a b).length≤2*a.length+2*b.length)):=by
 refine enter (N:=127) (args:=[av,bv,(.func (.func kid) #[] #[])]) Tryz.func194 rfl rfl ?_; intro ac h
 haveI:On:=⟨trivial⟩
 have hlena:=hav.len
 have hlenb:=hbv.len
 have sa:=hav.sl
 have sb:=hbv.sl
 refine gz h <| (W) ?_; clear h ac; intro ac wo h
 refine bsl h slt318 rfl rfl (SL.is hav.sl) (SL.is hbv.sl) rfl ?_; clear h ac wo; intro b1 ac wo h
 refine rd0 h (gV Tryz.runUnderlying224 rfl (n:=2) ⟨_,_,rfl⟩) rfl ?_; clear h ac wo; intro ac wo h
 refine gz h <| (W) ?_; clear h ac wo; intro ac wo h
 have hNN:NN (.slice (some ⟨b1,0,none⟩) 2 2) 2:=⟨_,_,_,rfl⟩
 refine r7 2 ?_
 refine gz h <| (ai) ?_ ?_ <;> clear h ac wo <;> intro ac wo h hc1
 ·
  clear hc1
  refine gz h <| (W) ?_; clear h ac wo; intro ac wo h
  replace h:=h.nilRow (α:=Ev) 332
  refine wp_loop_ghost (fun n_ a_ w_=>∃ (l:List Ev) (x:Nat) (lv:Value),(a.length - x < n_)∧(x≤a.length)∧(All (SzE 30) l)∧(l.length=2*x)∧(∀ e∈l,EvB e)∧(l=evA (a.take x))∧St w0 127 [(2,(.func (.func kid) #[] #[])),(7,lv),(8,(.int .i64 0)),(23,(.slice (some ⟨b1,0,none⟩) 2 2)),(24,(.int .i64 2)),(25,(.int .i64 0)),(30,av),(31,iN a.length),(32,iN x)] [.row (α:=Ev) 332 lv l,.blk b1 [av,bv] 56] a_ w_) (a.length+1) ⟨[],0,(.slice none 0 0),og,og,All.nil,rfl,evb_nil,rfl,h.rs⟩ ?_
  clear h ac wo; rintro n1 ac wo ⟨l1,x,lv1,hm1,hx32,zl1,hll1,hlb1,hle1,h⟩
  obtain ⟨m1,rfl⟩:∃ m,n1=m+1:=⟨n1 - 1,by omega⟩
  refine gz h <| (ai) ?_ ?_ <;> clear h ac wo <;> intro ac wo h hc1
  ·
   have hd1:=of_decide_eq_true hc1
   have zx:=All.gt za (SzV_d _) (i:=x)
   have s2:SzE 30 ⟨aN (gt a x),1,0⟩:=ap (fU (gt a x) zx w0)
   have s3:SzE 30 ⟨aG (gt a x),-1,0⟩:=ap (gh (gt a x) zx w0)
   refine gz h <| (xa) fun b2=>(W) ?_; clear h ac wo; intro ac wo h
   replace h:=h.emps 2
   refine eZ mixed [dw (vV (gt a x)) [0],dv (vW (aN (gt a x))),dv (vE ⟨aN (gt a x),0,0⟩),dw (vV (gt a x)) [0],dv (vW (aG (gt a x))),dv (vE ⟨aG (gt a x),0,0⟩),⟨.nd (.one 6 fun v=>∃ b,v=ptr b 0),[3]⟩,⟨.nd (.one 7 fun v=>∃ b,v=ptr b 0),[4]⟩,dw _ [3],dw _ [4]] [⟨_,[]⟩,⟨_,[]⟩,⟨_,[]⟩,⟨.emp,[(6,.one 6 fun v=>.blk (bu v) (cE z_ev) 332),(8,.one 6 fun v=>.blk (bu v) (cE ⟨aN (gt a x),0,0⟩) 332)]⟩,⟨.emp,[(7,.one 7 fun v=>.blk (bu v) (cE z_ev) 332),(9,.one 7 fun v=>.blk (bu v) (cE ⟨aG (gt a x),0,0⟩) 332)]⟩] h rfl (by kernel_rfl) ⟨oA obA,oA fun _=>fD (gk (dH Tryz.call136 rfl) (kk (fU (gt a x) zx))),oA fun _=>aQ (bK tC rfl rfl rfl),oA obA,oA fun _=>fD (gk (dH Tryz.call137 rfl) (kk (gh (gt a x) zx))),oA fun _=>aQ (bK tC rfl rfl rfl),fun _ _=>i0 3 rfl (fun _=>rfl),fun _ _=>i0 4 rfl (fun _=>rfl),fun ξ hφ=>iZ (u:=vE ⟨aN (gt a x),0,0⟩) 3 (hφ 6 rfl) rfl rfl rfl rfl rfl rfl rfl,fun ξ hφ=>iZ (u:=vE ⟨aG (gt a x),0,0⟩) 4 (hφ 7 rfl) rfl rfl rfl rfl rfl rfl rfl,trivial⟩ ?_
   clear h ac wo; intro ξ ac wo hφ h
   obtain ⟨b3,hb6⟩:∃ b,ξ 6=ptr b 0:=hφ 6
   obtain ⟨b4,hb7⟩:∃ b,ξ 7=ptr b 0:=hφ 7
   replace h:St w0 127 [(2,(.func (.func kid) #[] #[])),(7,lv1),(8,(.int .i64 0)),(23,(.slice (some ⟨b1,0,none⟩) 2 2)),(24,(.int .i64 2)),(25,(.int .i64 0)),(30,av),(31,iN a.length),(32,iN x),(12,ξ 6),(13,ξ 7)] [.row (α:=Ev) 332 lv1 l1,.blk b1 [av,bv] 56,.blk (bu (ξ 6)) (cE ⟨aN (gt a x),0,0⟩) 332,.blk (bu (ξ 7)) (cE ⟨aG (gt a x),0,0⟩) 332] ac wo:=(h.pick [1,2,3,4] (by decide)).sub ⟨rfl,rfl,rfl,rfl,rfl,rfl,rfl,rfl,rfl,rfl,rfl,trivial⟩
   rw [hb6,hb7] at h
   clear hb6 hb7 hφ ξ
   refine gz h <| (xs 2 (cE ⟨aN (gt a x),1,0⟩)) <| (xs 3 (cE ⟨aG (gt a x),-1,0⟩)) <| (W) ?_; clear h ac wo; intro ac wo h
   refine nw h (dG (α:=Ev) (xs:=[.tmp 49,.tmp 50]) (vs:=[vE ⟨aN (gt a x),1,0⟩,vE ⟨aG (gt a x),-1,0⟩]) [⟨aN (gt a x),1,0⟩,⟨aG (gt a x),-1,0⟩] uN rfl rfl rfl (by decide)) rfl ?_; clear h ac wo; intro sv4 ac wo _ h
   refine on2 h 1 0 rfl rfl (gQ (xs:=l1) (ys:=[⟨aN (gt a x),1,0⟩,⟨aG (gt a x),-1,0⟩]) uN (fun w hs=>(row_view hs 0 rfl)) rfl rfl og) rfl ?_; clear h ac wo; intro sv5 ac wo _ h
   refine gz h <| (W) ?_; clear h ac wo; intro ac wo h
   exact aO ⟨m1,og,_,x+1,sv5,og,og,All.app zl1 (All.cons s2 (All.cons s3 All.nil)),by rw [List.length_append]; show _+2=_; omega,zZ hlb1 ⟨⟨by decide,by decide⟩,⟨by decide,by decide⟩⟩ ⟨⟨by decide,by decide⟩,⟨by decide,by decide⟩⟩,evA_next hle1 og,h.re [0,2]⟩
  ·
   have hd1:=of_decide_eq_false hc1
   obtain rfl:x=a.length:=by omega
   rw [List.take_length] at hle1
   refine gz h <| (ai) ?_ ?_ <;> clear h ac wo <;> intro ac wo h hc2
   ·
    clear hc2
    refine gz h <| (W) ?_; clear h ac wo; intro ac wo h
    refine wp_loop_ghost (fun n_ a_ w_=>∃ (l:List Ev) (x:Nat) (lv:Value),(b.length - x < n_)∧(x≤b.length)∧(All (SzE 30) l)∧(l.length=2*a.length+2*x)∧(∀ e∈l,EvB e)∧(l=evA a++evB (b.take x))∧St w0 127 [(2,(.func (.func kid) #[] #[])),(7,lv),(8,(.int .i64 1)),(23,(.slice (some ⟨b1,0,none⟩) 2 2)),(24,(.int .i64 2)),(25,(.int .i64 1)),(30,bv),(31,iN b.length),(32,iN x)] [.row (α:=Ev) 332 lv l,.blk b1 [av,bv] 56] a_ w_) (b.length+1) ⟨l1,0,lv1,og,og,zl1,by omega,hlb1,by rw [hle1]; simp [evB],h.rs⟩ ?_
    clear h ac wo; rintro n2 ac wo ⟨l2,x,lv2,hm1,hx32,zl2,hll2,hlb2,hle2,h⟩
    obtain ⟨m1,rfl⟩:∃ m,n2=m+1:=⟨n2 - 1,by omega⟩
    refine gz h <| (ai) ?_ ?_ <;> clear h ac wo <;> intro ac wo h hc1
    ·
     have hd1:=of_decide_eq_true hc1
     have zx:=All.gt zb (SzV_d _) (i:=x)
     have s2:SzE 30 ⟨aN (gt b x),0,1⟩:=ap (fU (gt b x) zx w0)
     have s3:SzE 30 ⟨aG (gt b x),0,-1⟩:=ap (gh (gt b x) zx w0)
     refine gz h <| (xa) fun b2=>(W) ?_; clear h ac wo; intro ac wo h
     replace h:=h.emps 2
     refine eZ mixed [dw (vV (gt b x)) [0],dv (vW (aN (gt b x))),dv (vE ⟨aN (gt b x),0,0⟩),dw (vV (gt b x)) [0],dv (vW (aG (gt b x))),dv (vE ⟨aG (gt b x),0,0⟩),⟨.nd (.one 6 fun v=>∃ b,v=ptr b 0),[3]⟩,⟨.nd (.one 7 fun v=>∃ b,v=ptr b 0),[4]⟩,dw _ [3],dw _ [4]] [⟨_,[]⟩,⟨_,[]⟩,⟨_,[]⟩,⟨.emp,[(6,.one 6 fun v=>.blk (bu v) (cE z_ev) 332),(8,.one 6 fun v=>.blk (bu v) (cE ⟨aN (gt b x),0,0⟩) 332)]⟩,⟨.emp,[(7,.one 7 fun v=>.blk (bu v) (cE z_ev) 332),(9,.one 7 fun v=>.blk (bu v) (cE ⟨aG (gt b x),0,0⟩) 332)]⟩] h rfl (by kernel_rfl) ⟨oA obA,oA fun _=>fD (gk (dH Tryz.call136 rfl) (kk (fU (gt b x) zx))),oA fun _=>aQ (bK tC rfl rfl rfl),oA obA,oA fun _=>fD (gk (dH Tryz.call137 rfl) (kk (gh (gt b x) zx))),oA fun _=>aQ (bK tC rfl rfl rfl),fun _ _=>i0 3 rfl (fun _=>rfl),fun _ _=>i0 4 rfl (fun _=>rfl),fun ξ hφ=>iZ (u:=vE ⟨aN (gt b x),0,0⟩) 3 (hφ 6 rfl) rfl rfl rfl rfl rfl rfl rfl,fun ξ hφ=>iZ (u:=vE ⟨aG (gt b x),0,0⟩) 4 (hφ 7 rfl) rfl rfl rfl rfl rfl rfl rfl,trivial⟩ ?_
     clear h ac wo; intro ξ ac wo hφ h
     obtain ⟨b3,hb6⟩:∃ b,ξ 6=ptr b 0:=hφ 6
     obtain ⟨b4,hb7⟩:∃ b,ξ 7=ptr b 0:=hφ 7
     replace h:St w0 127 [(2,(.func (.func kid) #[] #[])),(7,lv2),(8,(.int .i64 1)),(23,(.slice (some ⟨b1,0,none⟩) 2 2)),(24,(.int .i64 2)),(25,(.int .i64 1)),(30,bv),(31,iN b.length),(32,iN x),(12,ξ 6),(13,ξ 7)] [.row (α:=Ev) 332 lv2 l2,.blk b1 [av,bv] 56,.blk (bu (ξ 6)) (cE ⟨aN (gt b x),0,0⟩) 332,.blk (bu (ξ 7)) (cE ⟨aG (gt b x),0,0⟩) 332] ac wo:=(h.pick [1,2,3,4] (by decide)).sub ⟨rfl,rfl,rfl,rfl,rfl,rfl,rfl,rfl,rfl,rfl,rfl,trivial⟩
     rw [hb6,hb7] at h
     clear hb6 hb7 hφ ξ
     refine gz h <| (xs 2 (cE ⟨aN (gt b x),0,1⟩)) <| (xs 3 (cE ⟨aG (gt b x),0,-1⟩)) <| (W) ?_; clear h ac wo; intro ac wo h
     refine nw h (dG (α:=Ev) (xs:=[.tmp 49,.tmp 50]) (vs:=[vE ⟨aN (gt b x),0,1⟩,vE ⟨aG (gt b x),0,-1⟩]) [⟨aN (gt b x),0,1⟩,⟨aG (gt b x),0,-1⟩] uN rfl rfl rfl (by decide)) rfl ?_; clear h ac wo; intro sv4 ac wo _ h
     refine on2 h 1 0 rfl rfl (gQ (xs:=l2) (ys:=[⟨aN (gt b x),0,1⟩,⟨aG (gt b x),0,-1⟩]) uN (fun w hs=>(row_view hs 0 rfl)) rfl rfl og) rfl ?_; clear h ac wo; intro sv5 ac wo _ h
     refine gz h <| (W) ?_; clear h ac wo; intro ac wo h
     exact aO ⟨m1,og,_,x+1,sv5,og,og,All.app zl2 (All.cons s2 (All.cons s3 All.nil)),by rw [List.length_append]; show _+2=_; omega,zZ hlb2 ⟨⟨by decide,by decide⟩,⟨by decide,by decide⟩⟩ ⟨⟨by decide,by decide⟩,⟨by decide,by decide⟩⟩,evB_next hle2 og,h.re [0,2]⟩
    ·
     have hd1:=of_decide_eq_false hc1
     obtain rfl:x=b.length:=by omega
     rw [List.take_length] at hle2
     refine gz h <| (ai) ?_ ?_ <;> clear h ac wo <;> intro ac wo h hc3
     · cases hc3
     ·
      refine gz h <| (W) ?_; clear h ac wo; intro ac wo h
      have hT2:∀ e∈l2,Tm e.at_.at_:=by rw [hle2]; exact z2 hwa hwb
      refine on1 h 0 rfl (lU (vs:=[lv2,(.func (.func 268) #[] #[])]) (A:=fun v=>[.row (α:=Ev) 332 lv2 (aV l2)]) (dH Tryz.call267 rfl) (fun w_ B_ hB_ hS_=>jW l2 lv2 og hT2 zl2 w0 w_ B_ hB_ hS_)) rfl ?_; clear h ac wo; intro vc ac wo s11 h
      have zS:=s11.2.1
      have hS:(aV l2).length=2*a.length+2*b.length:=by rw [(jH l2).length_eq,hll2]
      have bS:=evb_gt hlb2
      clear s11
      obtain ⟨R,hR⟩:∃ R,eE kp a b=R:=⟨_,rfl⟩
      have hR2:=hR
      unfold eE at hR2
      rw [← hle2] at hR2
      rw [hR]
      generalize aV l2=S at h zS hS bS hR2
      refine gz h <| (xa) fun b8=>(xa) fun b9=>(W) ?_; clear h ac wo; intro ac wo h
      replace h:=h.nilRow (α:=Iv) 74
      refine wp_loop_ghost (fun n_ a_ w_=>∃ (out:List Iv) (i_:Bool) (i:Nat) (fr:Bd) (n:I2) (outv:Value),(S.length - i < n_)∧(i≤S.length)∧(swS kp (S.drop i) out i_ fr n.n0 n.n1=R)∧(All (SzV 30) out)∧(SzW 30 fr)∧(out.length≤i)∧((-(i:Int)≤n.n0∧n.n0≤(i:Int))∧(-(i:Int)≤n.n1∧n.n1≤(i:Int)))∧St w0 127 [(2,(.func (.func kid) #[] #[])),(7,lv2),(14,outv),(15,ptr b8 0),(16,ptr b9 0),(17,.bool i_),(57,lv2),(58,iN S.length),(59,iN i)] [.row (α:=Iv) 74 outv out,.blk b9 (cW fr) 199,.blk b8 (cJ n) 330,.row (α:=Ev) 332 lv2 S] a_ w_) (S.length+1) ⟨[],false,0,z_ev.at_,⟨0,0⟩,(.slice none 0 0),og,og,hR2,All.nil,SzW_d _,og,by decide,h.re [0,1,2,3]⟩ ?_
      clear h ac wo; rintro n3 ac wo ⟨out,i_,i,fr,n,outv,hm3,hi,hR3,zo,zf,lo,hn,h⟩
      obtain ⟨m3,rfl⟩:∃ m,n3=m+1:=⟨n3 - 1,by omega⟩
      obtain ⟨⟨he1,he2⟩,⟨he3,he4⟩⟩:=bS i
      refine gz h <| (ai) ?_ ?_ <;> clear h ac wo <;> intro ac wo h hc4
      ·
       have hd4:=of_decide_eq_true hc4
       rw [sw_step _ _ _ _ _ (by omega)] at hR3
       have zi:=All.gt zS (tE _) (i:=i)
       have zj:=All.gt zS (tE _) (i:=i+1)
       refine gz h <| (xa) fun b10=>(dr1 (H:=[⟨_,[]⟩,⟨_,[]⟩,⟨_,[]⟩,⟨.blk b8 (cJ n) 330,[(13,.con (.blk b8 (cJ ⟨n.n0+(gt S i).b0,n.n1⟩) 330)),(15,.con (.blk b8 (cJ ⟨n.n0+(gt S i).b0,n.n1+(gt S i).b1⟩) 330))]⟩,⟨_,[]⟩]) (hob:=oE)) <| (dr0 (hob:=(oG (by exact fun hg=>iJ (gt S i).at_ (gt S (i+1)).at_ zi zj)) <| oE)) <| (ai) ?_ ?_ <;> clear h ac wo <;> intro ac wo h hc5
       ·
        rw [hc5,cond_true] at hR3
        refine gz h <| (W) ?_; clear h ac wo; intro ac wo h
        exact aO ⟨m3,og,out,i_,i+1,fr,⟨n.n0+(gt S i).b0,n.n1+(gt S i).b1⟩,outv,og,og,hR3,zo,zf,og,⟨⟨by simp only; omega,by simp only; omega⟩,⟨by simp only; omega,by simp only; omega⟩⟩,h.re [1,2,3,4]⟩
       ·
        rw [hc5,cond_false] at hR3
        haveI:Cf Tryz.prog kid:=⟨hkc⟩
        refine gz h <| (xk (hkp (decide (n.n0+(gt S i).b0>0)) (decide (n.n1+(gt S i).b1>0)))) <| (ai) ?_ ?_ <;> clear h ac wo <;> intro ac wo h hc6
        ·
         rw [hc6,cond_true] at hR3
         refine gz h <| (W) ?_; clear h ac wo; intro ac wo h
         exact aO ⟨m3,og,out,(kp (decide (n.n0+(gt S i).b0>0)) (decide (n.n1+(gt S i).b1>0))),i+1,(gt S i).at_,⟨n.n0+(gt S i).b0,n.n1+(gt S i).b1⟩,outv,og,og,hR3,zo,zi,og,⟨⟨by simp only; omega,by simp only; omega⟩,⟨by simp only; omega,by simp only; omega⟩⟩,h.re [1,2,3,4]⟩
        ·
         rw [hc6,cond_false] at hR3
         refine gz h <| (ai) ?_ ?_ <;> clear h ac wo <;> intro ac wo h hc7
         ·
          rw [hc7,cond_true] at hR3
          have s16:=ap (j9 fr (gt S i).at_ zf zi w0)
          refine gz h <| (xk (j9 fr (gt S i).at_ zf zi)) <| (W) ?_; clear h ac wo; intro ac wo h
          refine nw h (dG (α:=Iv) (xs:=[.tmp 121]) (vs:=[vV (bZ fr (gt S i).at_)]) [bZ fr (gt S i).at_] lL rfl rfl rfl (by decide)) rfl ?_; clear h ac wo; intro sv17 ac wo _ h
          refine on2 h 2 0 rfl rfl (gQ (xs:=out) (ys:=[bZ fr (gt S i).at_]) lL (fun w hs=>(row_view hs 0 rfl)) rfl rfl og) rfl ?_; clear h ac wo; intro sv18 ac wo _ h
          refine gz h <| (W) ?_; clear h ac wo; intro ac wo h
          exact aO ⟨m3,og,_,(kp (decide (n.n0+(gt S i).b0>0)) (decide (n.n1+(gt S i).b1>0))),i+1,fr,⟨n.n0+(gt S i).b0,n.n1+(gt S i).b1⟩,_,og,og,hR3,(All.app zo (All.cons s16 All.nil)),zf,og,⟨⟨by simp only; omega,by simp only; omega⟩,⟨by simp only; omega,by simp only; omega⟩⟩,h.re [0,3,4,5]⟩
         ·
          rw [hc7,cond_false] at hR3
          refine gz h <| (W) ?_; clear h ac wo; intro ac wo h
          exact aO ⟨m3,og,out,(kp (decide (n.n0+(gt S i).b0>0)) (decide (n.n1+(gt S i).b1>0))),i+1,fr,⟨n.n0+(gt S i).b0,n.n1+(gt S i).b1⟩,outv,og,og,hR3,zo,zf,og,⟨⟨by simp only; omega,by simp only; omega⟩,⟨by simp only; omega,by simp only; omega⟩⟩,h.re [1,2,3,4]⟩
      ·
       have hd4:=of_decide_eq_false hc4
       rw [List.drop_of_length_le (by omega)] at hR3
       have e:out=R:=hR3
       refine gz h <| (W) ?_; clear h ac wo; intro ac wo h
       exact (rt h) (by rw [← e]; exact h.retR 0 rfl ⟨zo,by omega⟩)
   · cases hc2
 · cases hc1
attribute [irreducible] eE
def fm [K:Key] (a:List Iv) (b:List Iv):(List Iv):=eE dz a b
theorem j8 [K:Key] (a:List Iv) (av:Value) (b:List Iv) (bv:Value) (hla:a.length≤200) (hlb:b.length≤200) (hwa:∀ i∈a,Wv i) (hwb:∀ i∈b,Wv i) (za:All (SzV 30) a) (zb:All (SzV 30) b) (w0:World) (hav:View w0 av a) (hbv:View w0 bv b):Calls Tryz.prog 194 #[av,bv,(.func (.func 195) #[] #[])] w0 (RetR w0 74 (fm a b) (All (SzV 30) (fm a b)∧(fm a b).length≤2*a.length+2*b.length)) :=
 jb dz 195 Tryz.call195 kT a av b bv hla hlb hwa hwb za zb w0 hav hbv
attribute [irreducible] fm
def dq [K:Key] (a:List Iv) (b:List Iv):(List Iv) :=
 (fm a b)
theorem l5 [K:Key] (a:List Iv) (av:Value) (b:List Iv) (bv:Value) (hla:a.length≤200) (hlb:b.length≤200) (hwa:∀ i∈a,Wv i) (hwb:∀ i∈b,Wv i) (za:All (SzV 30) a) (zb:All (SzV 30) b) (w0:World) (hav:View w0 av a) (hbv:View w0 bv b):Calls Tryz.prog 93 #[av,bv] w0 (RetR w0 74 (dq a b) (All (SzV 30) (dq a b)∧(dq a b).length≤2*a.length+2*b.length)):=by
 refine enter (N:=8) (args:=[av,bv]) Tryz.func93 rfl rfl ?_; intro ac h
 haveI:On:=⟨trivial⟩
 have hlena:=hav.len
 have hlenb:=hbv.len
 refine gz h <| (W) ?_; clear h ac; intro ac wo h
 have s1:=RetR.pr ((fun w_ hB_ hS_=>j8 a av b bv og og og og za zb w_ (hav.below hB_) (hbv.below hB_)) _ h.bel h.sep)
 have p2:=s1.2
 refine jo (xs:=(fm a b)) h (dH cc194 rfl) (fun w_ hB_ hS_=>j8 a av b bv og og og og za zb w_ (hav.below hB_) (hbv.below hB_)) rfl ?_; clear h ac wo; intro sv3 ac wo _ h
 refine gz h <| (W) ?_; clear h ac wo; intro ac wo h
 exact (rt h) (by unfold dq; exact h.retR 0 rfl ⟨s1.1,og⟩)
attribute [irreducible] dq
end Go.Sx
namespace Go.Sx
open Go Go.RowKit Go.Proofs
set_option maxRecDepth 100000
set_option maxHeartbeats 40000000
attribute [local irreducible] Code.wp wpList Rd Step ObS Ent
attribute [local irreducible] ao aL ah au ax bN
def fk [K:Key] (a:List Iv) (b:List Iv):(List Iv):=eE eA a b
theorem j6 [K:Key] (a:List Iv) (av:Value) (b:List Iv) (bv:Value) (hla:a.length≤200) (hlb:b.length≤200) (hwa:∀ i∈a,Wv i) (hwb:∀ i∈b,Wv i) (za:All (SzV 30) a) (zb:All (SzV 30) b) (w0:World) (hav:View w0 av a) (hbv:View w0 bv b):Calls Tryz.prog 194 #[av,bv,(.func (.func 289) #[] #[])] w0 (RetR w0 74 (fk a b) (All (SzV 30) (fk a b)∧(fk a b).length≤2*a.length+2*b.length)) :=
 jb eA 289 Tryz.call289 nk a av b bv hla hlb hwa hwb za zb w0 hav hbv
attribute [irreducible] fk
def fp [K:Key] (a:List Iv) (b:List Iv):(List Iv) :=
 (fk a b)
theorem kR [K:Key] (a:List Iv) (av:Value) (b:List Iv) (bv:Value) (hla:a.length≤200) (hlb:b.length≤200) (hwa:∀ i∈a,Wv i) (hwb:∀ i∈b,Wv i) (za:All (SzV 30) a) (zb:All (SzV 30) b) (w0:World) (hav:View w0 av a) (hbv:View w0 bv b):Calls Tryz.prog 234 #[av,bv] w0 (RetR w0 74 (fp a b) (All (SzV 30) (fp a b)∧(fp a b).length≤2*a.length+2*b.length)):=by
 refine enter (N:=8) (args:=[av,bv]) Tryz.func234 rfl rfl ?_; intro ac h
 have hlena:=hav.len
 have hlenb:=hbv.len
 refine gz h <| (W) ?_; clear h ac; intro ac wo h
 have s1:=RetR.pr ((fun w_ hB_ hS_=>j6 a av b bv og og og og za zb w_ (hav.below hB_) (hbv.below hB_)) _ h.bel h.sep)
 have p2:=s1.2
 refine jo (xs:=(fk a b)) h (dH cc194 rfl) (fun w_ hB_ hS_=>j6 a av b bv og og og og za zb w_ (hav.below hB_) (hbv.below hB_)) rfl ?_; clear h ac wo; intro sv3 ac wo _ h
 refine gz h <| (W) ?_; clear h ac wo; intro ac wo h
 exact (rt h) (by unfold fp; exact h.retR 0 rfl ⟨s1.1,og⟩)
attribute [irreducible] fp
def fj [K:Key] (l:List Iv):(List Iv) :=
 (fp l ([]))
theorem kz [K:Key] (l:List Iv) (lv:Value) (hl:l.length≤200) (hw:∀ i∈l,Wv i) (zl:All (SzV 30) l) (w0:World) (hlv:View w0 lv l):Calls Tryz.prog 132 #[lv] w0 (RetR w0 74 (fj l) (All (SzV 30) (fj l)∧(fj l).length≤2*l.length)):=by
 refine enter (N:=5) (args:=[lv]) Tryz.func132 rfl rfl ?_; intro ac h
 have hlenl:=hlv.len
 refine gz h <| (W) ?_; clear h ac; intro ac wo h
 have s1:=RetR.pr ((fun w_ hB_ hS_=>kR l lv ([]) (.slice none 0 0) og (by simp) og (fun _ h=>by cases h) zl All.nil w_ (hlv.below hB_) View.nilv) _ h.bel h.sep)
 have p2:=s1.2
 refine jo (xs:=(fp l ([]))) h (dH Tryz.call234 rfl) (fun w_ hB_ hS_=>kR l lv ([]) (.slice none 0 0) og (by simp) og (fun _ h=>by cases h) zl All.nil w_ (hlv.below hB_) View.nilv) rfl ?_; clear h ac wo; intro sv3 ac wo _ h
 refine gz h <| (W) ?_; clear h ac wo; intro ac wo h
 exact (rt h) (by unfold fj; exact h.retR 0 rfl ⟨s1.1,og⟩)
attribute [irreducible] fj
end Go.Sx
namespace Go.Sx
open Go Go.RowKit Go.Proofs
set_option maxRecDepth 100000
set_option maxHeartbeats 40000000
attribute [local irreducible] Code.wp wpList Rd Step ObS Ent
attribute [local irreducible] ao aL ah au ax bN
def fl [K:Key] (a:List Iv) (b:List Iv):(List Iv):=eE eB a b
theorem j7 [K:Key] (a:List Iv) (av:Value) (b:List Iv) (bv:Value) (hla:a.length≤200) (hlb:b.length≤200) (hwa:∀ i∈a,Wv i) (hwb:∀ i∈b,Wv i) (za:All (SzV 30) a) (zb:All (SzV 30) b) (w0:World) (hav:View w0 av a) (hbv:View w0 bv b):Calls Tryz.prog 194 #[av,bv,(.func (.func 218) #[] #[])] w0 (RetR w0 74 (fl a b) (All (SzV 30) (fl a b)∧(fl a b).length≤2*a.length+2*b.length)) :=
 jb eB 218 Tryz.call218 nl a av b bv hla hlb hwa hwb za zb w0 hav hbv
attribute [irreducible] fl
def dK [K:Key] (a:List Iv) (b:List Iv):(List Iv) :=
 (fl a b)
theorem kS [K:Key] (a:List Iv) (av:Value) (b:List Iv) (bv:Value) (hla:a.length≤200) (hlb:b.length≤200) (hwa:∀ i∈a,Wv i) (hwb:∀ i∈b,Wv i) (za:All (SzV 30) a) (zb:All (SzV 30) b) (w0:World) (hav:View w0 av a) (hbv:View w0 bv b):Calls Tryz.prog 115 #[av,bv] w0 (RetR w0 74 (dK a b) (All (SzV 30) (dK a b)∧(dK a b).length≤2*a.length+2*b.length)):=by
 refine enter (N:=8) (args:=[av,bv]) Tryz.func115 rfl rfl ?_; intro ac h
 have hlena:=hav.len
 have hlenb:=hbv.len
 refine gz h <| (W) ?_; clear h ac; intro ac wo h
 have s1:=RetR.pr ((fun w_ hB_ hS_=>j7 a av b bv og og og og za zb w_ (hav.below hB_) (hbv.below hB_)) _ h.bel h.sep)
 have p2:=s1.2
 refine jo (xs:=(fl a b)) h (dH cc194 rfl) (fun w_ hB_ hS_=>j7 a av b bv og og og og za zb w_ (hav.below hB_) (hbv.below hB_)) rfl ?_; clear h ac wo; intro sv3 ac wo _ h
 refine gz h <| (W) ?_; clear h ac wo; intro ac wo h
 exact (rt h) (by unfold dK; exact h.retR 0 rfl ⟨s1.1,og⟩)
attribute [irreducible] dK
end Go.Sx
namespace Go.Sx
set_option maxRecDepth 100000
theorem m8 [K:Key] (kp:Bool→Bool→Bool) (a b:List Iv):∃ fr,eE kp a b=swS kp (aV (evA a++evB b)) [] false fr 0 0:=by
 unfold eE
 exact ⟨_,rfl⟩
theorem wn [K:Key] (a b:List Iv):∃ fr,fm a b=swS dz (aV (evA a++evB b)) [] false fr 0 0:=by
 unfold fm
 exact m8 dz a b
theorem wl [K:Key] (a b:List Iv):∃ fr,fk a b=swS eA (aV (evA a++evB b)) [] false fr 0 0:=by
 unfold fk
 exact m8 eA a b
theorem wm [K:Key] (a b:List Iv):∃ fr,fl a b=swS eB (aV (evA a++evB b)) [] false fr 0 0:=by
 unfold fl
 exact m8 eB a b
theorem keep_I:∀ x y,dz x y=(x && y):=fun x y=>by unfold dz; rfl
theorem keep_U:∀ x y,eA x y=(x || y):=fun x y=>by unfold eA; rfl
theorem keep_M:∀ x y,eB x y=(x && !y):=fun x y=>by unfold eB; rfl
section
variable {a b:List Iv}
theorem mM [K:Key] (ha:∀ i∈a,Wv i) (hb:∀ i∈b,Wv i):Cn (dq a b)∧∀ x,inP (dq a b) x↔inP a x∧inP b x:=by
 classical
 obtain ⟨fr,e⟩:=wn a b
 obtain ⟨h1,h2⟩:=qY (l:=evA a++evB b) (z2 ha hb)
 obtain ⟨h3,h4⟩:=oW (keep:=dz) (by rw [keep_I]; rfl) ha hb h1 h2 fr
 unfold dq
 rw [e]
 refine ⟨h3,fun x=>(h4 x).trans ?_⟩
 rw [keep_I,Bool.and_eq_true,decide_eq_true_eq,decide_eq_true_eq]
theorem xz [K:Key] (ha:∀ i∈a,Wv i) (hb:∀ i∈b,Wv i):Cn (fp a b)∧∀ x,inP (fp a b) x↔inP a x∨inP b x:=by
 classical
 obtain ⟨fr,e⟩:=wl a b
 obtain ⟨h1,h2⟩:=qY (l:=evA a++evB b) (z2 ha hb)
 obtain ⟨h3,h4⟩:=oW (keep:=eA) (by rw [keep_U]; rfl) ha hb h1 h2 fr
 unfold fp
 rw [e]
 refine ⟨h3,fun x=>(h4 x).trans ?_⟩
 rw [keep_U,Bool.or_eq_true,decide_eq_true_eq,decide_eq_true_eq]
theorem mB [K:Key] (ha:∀ i∈a,Wv i) (hb:∀ i∈b,Wv i):Cn (dK a b)∧∀ x,inP (dK a b) x↔inP a x∧¬ inP b x:=by
 classical
 obtain ⟨fr,e⟩:=wm a b
 obtain ⟨h1,h2⟩:=qY (l:=evA a++evB b) (z2 ha hb)
 obtain ⟨h3,h4⟩:=oW (keep:=eB) (by rw [keep_M]; rfl) ha hb h1 h2 fr
 unfold dK
 rw [e]
 refine ⟨h3,fun x=>(h4 x).trans ?_⟩
 rw [keep_M,Bool.and_eq_true,decide_eq_true_eq,Bool.not_eq_true',decide_eq_false_iff_not]
theorem wJ [K:Key] (ha:∀ i∈a,Wv i):Cn (fj a)∧∀ x,inP (fj a) x↔inP a x:=by
 unfold fj
 obtain ⟨h1,h2⟩:=xz ha (b:=[]) (fun _ h=>by cases h)
 exact ⟨h1,fun x=>(h2 x).trans ⟨fun h=>h.resolve_right (md x),.inl⟩⟩
theorem wv_sz [K:Key] (h:∀ i∈a,Wv i):All (SzV 30) a:=fun i hi=>⟨fh (tm_sz (h i hi).1.1) (by omega),fh (tm_sz (h i hi).1.2) (by omega)⟩
theorem Cn.sz [K:Key] (h:Cn a):All (SzV 30) a:=wv_sz h.wv
end
end Go.Sx
namespace Go.Sx
theorem sq2:∀ n d:Nat,n*n=2*(d*d)→d=0
 | n,d,h=>by
  rcases Nat.eq_zero_or_pos d with e | hd
  · exact e
  have hn:n % 2=0:=by
   rcases Nat.mod_two_eq_zero_or_one n with e | e
   · exact e
   · exfalso
     have:n*n % 2=1:=by rw [Nat.mul_mod,e]
     omega
  obtain ⟨m,rfl⟩:∃ m,n=2*m:=⟨n / 2,by omega⟩
  have h2:d*d=2*(m*m):=by
   have:2*m*(2*m)=2*(2*(m*m)):=by rw [Nat.mul_mul_mul_comm,Nat.mul_assoc]
   omega
  have hm:m < d:=by
   refine Nat.lt_of_not_le fun hle=>?_
   have:=Nat.mul_le_mul hle hle
   have:=Nat.mul_pos hd hd
   omega
  have:=sq2 d m h2
  subst this
  have:=Nat.mul_pos hd hd
  omega
 termination_by _ d=>d
theorem yB (q:Rat):q*q≠2:=by
 intro h
 have hd:(q.den:Rat)≠0:=fun e=>q.den_nz (by exact_mod_cast e)
 have e:q=(q.num:Rat) / (q.den:Rat):=by
  have:=Rat.num_divInt_den q
  rw [Rat.divInt_eq_div] at this
  exact this.symm
 have h2:(q.num:Rat)*(q.num:Rat)=2*((q.den:Rat)*(q.den:Rat)):=by
  rw [e] at h; grind
 have h3:q.num*q.num=2*((q.den:Int)*(q.den:Int)):=by exact_mod_cast h2
 have h4:q.num.natAbs*q.num.natAbs=2*(q.den*q.den):=by
  have:=congrArg Int.natAbs h3
  rw [Int.natAbs_mul,Int.natAbs_mul,Int.natAbs_mul] at this
  simpa using this
 exact q.den_nz (sq2 _ _ h4)
def qa (n:Nat):GQ:=(cK (aw (n:Int)) (aw 4)).1
theorem p7 (n:Nat):QOk (qa n)∧aZ (qa n)=((n:Int):Rat) / 4:=by
 have:=zk (n:=aw (n:Int)) (d:=aw 4) (kn _) (by rw [fO]; decide)
 rw [fO,fO] at this
 exact this
theorem qa_bq {n:Nat} (h:n < 1024):Bq 10 (qa n):=Bq.of (p7 n).1 n 4 (by decide) (by decide) (by omega) (p7 n).2
def two:GQ:=ah 2
theorem mi:QOk two∧aZ two=2:=bV 2
def gX (p:Nat):GR:=⟨qa p,two,false⟩
theorem gX_ok (p:Nat):ROk (gX p):=⟨(p7 p).1,mi.1,Or.inr ⟨by rw [show (gX p).r=two from rfl,mi.2]; decide,fun q=>by rw [show (gX p).r=two from rfl,mi.2]; exact yB q⟩⟩
theorem gX_make (p:Nat):eK (qa p) (ah 1) (ah 2)=(gX p,0):=by
 have h1:decide (au (ah 2) < 0)=false:=by
  rw [iP (bV 2).1,(bV 2).2]; decide
 have h2:(bJ (ah 2)).2=false:=yu mi.1 (by show 0≤aZ two; rw [mi.2]; decide) fun q=>by
  show q*q≠aZ two; rw [mi.2]; exact yB q
 have h3:decide (au (ah 1) < 0)=false:=by
  rw [iP (bV 1).1,(bV 1).2]; decide
 obtain ⟨a1,a2⟩:=eO (bV 1).1 (bV 1).1
 obtain ⟨b1,b2⟩:=eO a1 (bV 2).1
 have h4:am (am (ah 1) (ah 1)) (ah 2)=two:=dC b1 mi.1 (by rw [b2,a2,(bV 1).2,(bV 2).2,mi.2]; decide +kernel)
 unfold eK
 rw [h1,h2,h3,h4]
 rfl
def wN (x y:GR):GR:=bif decide (ao y x>0) then y else x
def pW (p q:Nat):Iv:=bif decide (p % 3=1) then ⟨an (qa p),wN (gX p) (an (qa (p+q))),decide (q % 2=1),false⟩ else ⟨an (qa p),an (qa (p+q)),false,false⟩
theorem qa_lt (p:Nat):ao (an (qa p)) (gX p)=-1:=by
 have h:=jz (n7 (p7 p).1) (gX_ok p)
 refine h.uniq ((Sg.neg (yj 1 (show (0:Rat)≤2 by decide))).congr fun k=>?_)
 rw [zK]
 unfold rv fac gX
 dsimp only
 rw [mi.2,cond_false]
 grind
theorem qa_le (p q:Nat):ao (an (qa p)) (an (qa (p+q)))≤0:=by
 rw [vA (p7 p).1 (p7 _).1,(p7 p).2,(p7 _).2]
 unfold rsg
 split
 · decide
 · split
   · exfalso
     rename_i h
     have h1:(0:Rat)≤((q:Nat):Rat):=by exact_mod_cast Nat.zero_le q
     push_cast at h
     grind
   · decide
section
variable [K:Key]
class KeyG (p q:Nat):Prop where
 a:Tm (an (qa p))
 b:Tm (an (qa (p+q)))
 x:Tm (gX p)
theorem zI {p q:Nat} [G:KeyG p q]:Wv (pW p q):=by
 have h1:=oU G.a G.x (qa_lt p)
 have h2:tk (an (qa p))≤tk (an (qa (p+q))):=by
  have:=G.a.cmp G.b
  have h:=qa_le p q
  rw [this] at h
  unfold sgn at h
  split at h
  · omega
  · split at h
    · omega
    · omega
 unfold pW
 cases decide (p % 3=1) with
 | false=>exact ⟨⟨G.a,G.b⟩,h2,fun _=>⟨rfl,rfl⟩⟩
 | true =>
  rw [cond_true]
  have hm:Tm (wN (gX p) (an (qa (p+q))))∧tk (an (qa p)) < tk (wN (gX p) (an (qa (p+q)))):=by
   unfold wN
   cases h:decide (ao (an (qa (p+q))) (gX p)>0) with
   | false=>exact ⟨G.x,h1⟩
   | true =>
    have h3:=of_decide_eq_true h
    rw [G.b.cmp G.x] at h3
    unfold sgn at h3
    split at h3
    · omega
    · split at h3
      · exact ⟨G.b,by rw [cond_true]; omega⟩
      · omega
  exact ⟨⟨G.a,hm.1⟩,Nat.le_of_lt hm.2,fun e=>by simp only at e; omega⟩
theorem iq {i:Iv} {q:Nat}:inI i q↔inU i q:=by
 unfold inI inU
 have h1:=l9 i
 rw [lE]
 omega
def ta (l:List (U Ln)):List Iv:=fj (l.map fun u=>u.iv)
theorem vH {l:List (U Ln)} (h:∀ u∈l,Wv u.iv):Cn (ta l)∧∀ q,inP (ta l) q↔∃ u∈l,inU u.iv q:=by
 obtain ⟨h1,h2⟩:=wJ (a:=l.map fun u=>u.iv) fun i hi=>by obtain ⟨u,hu,rfl⟩:=List.mem_map.1 hi; exact h u hu
 refine ⟨h1,fun q=>(h2 q).trans ⟨fun ⟨i,hi,hq⟩=>?_,fun ⟨u,hu,hq⟩=>⟨u.iv,List.mem_map_of_mem hu,iq.2 hq⟩⟩⟩
 obtain ⟨u,hu,rfl⟩:=List.mem_map.1 hi
 exact ⟨u,hu,iq.1 hq⟩
def rsI (l:List (U Ln)) (d:List Iv):List (U Ln):=l.flatMap fun u=>(dq [u.iv] d).map fun i=>⟨i,u.f⟩
theorem ju {i:Iv} (h:Wv i):∀ j∈[i],Wv j:=fun j hj=>by rw [List.mem_singleton.1 hj]; exact h
theorem jS {i:Iv} {q:Nat}:inP [i] q↔inU i q:=⟨fun ⟨j,hj,h⟩=>by rw [List.mem_singleton.1 hj] at h; exact iq.1 h,fun h=>⟨i,List.mem_singleton.2 rfl,iq.2 h⟩⟩
theorem tP {l:List (U Ln)} {d:List Iv} (hl:∀ u∈l,Wv u.iv) (hd:∀ i∈d,Wv i) {x:U Ln} (hx:x∈rsI l d):∃ u∈l,x.f=u.f∧Wv x.iv∧∀ q,inU x.iv q→inU u.iv q∧inP d q:=by
 obtain ⟨u,hu,h⟩:=List.mem_flatMap.1 hx
 obtain ⟨i,hi,rfl⟩:=List.mem_map.1 h
 obtain ⟨c,p⟩:=mM (ju (hl u hu)) hd
 refine ⟨u,hu,rfl,c.wv i hi,fun q hq=>?_⟩
 have:=(p q).1 ⟨i,hi,iq.2 hq⟩
 exact ⟨jS.1 this.1,this.2⟩
theorem cn_dj {p:List Iv} (h:Cn p):p.Pairwise Dj:=h.sep.imp fun {a b} h=>by
 have h1:=l9 a
 have h2:=lE b
 exact .inl (by omega)
theorem rsI_dj {l:List (U Ln)} {d:List Iv} (hl:∀ u∈l,Wv u.iv) (hD:l.Pairwise fun a b=>Dj a.iv b.iv) (hd:∀ i∈d,Wv i):(rsI l d).Pairwise fun a b=>Dj a.iv b.iv:=by
 unfold rsI
 rw [List.pairwise_flatMap]
 refine ⟨fun u hu=>List.pairwise_map.2 (cn_dj (mM (ju (hl u hu)) hd).1),hD.imp_of_mem fun {a b} ha hb h x hx y hy=>?_⟩
 have hx':x∈rsI [a] d:=by unfold rsI; rw [List.flatMap_singleton]; exact hx
 have hy':y∈rsI [b] d:=by unfold rsI; rw [List.flatMap_singleton]; exact hy
 obtain ⟨u,hu,_,wx,px⟩:=tP (fun u hu=>by rw [List.mem_singleton.1 hu]; exact hl a ha) hd hx'
 obtain ⟨v,hv,_,wy,py⟩:=tP (fun u hu=>by rw [List.mem_singleton.1 hu]; exact hl b hb) hd hy'
 rw [List.mem_singleton.1 hu] at px
 rw [List.mem_singleton.1 hv] at py
 exact dj_plc wx wy fun q _ h'=>no_dj h q ⟨(px q h'.1).1,(py q h'.2).1⟩
theorem xA {p:List Iv} {i g:Iv} (hp:Cn p) (h:∀ q,inP p q↔inU i q∧¬ inU g q):p.length≤2:=by
 match p,hp,h with
 | [],_,_=>exact Nat.zero_le _
 | [_],_,_=>exact Nat.le_succ _
 | [_,_],_,_=>exact Nat.le_refl _
 | a::b::c::r,hp,h =>
  exfalso
  obtain ⟨hb,sa,wa⟩:=hp.tail
  obtain ⟨hc,sb,wb⟩:=hb.tail
  have wc:=hc.wv c (List.mem_cons_self ..)
  have s1:=sa b (List.mem_cons_self ..)
  have s2:=sb c (List.mem_cons_self ..)
  have la:=wa.le
  have lb:=wb.le
  have lc:=wc.le
  have a1:=l9 a
  have b0:=lE b
  have b1:=l9 b
  have c0:=lE c
  have ha:inP (a::b::c::r) (eW a):=⟨a,List.mem_cons_self ..,iq.2 (nN wa)⟩
  have hbb:inP (a::b::c::r) (eW b):=⟨b,List.mem_cons_of_mem _ (List.mem_cons_self ..),iq.2 (nN wb)⟩
  have hcc:inP (a::b::c::r) (eW c):=⟨c,List.mem_cons_of_mem _ (List.mem_cons_of_mem _ (List.mem_cons_self ..)),iq.2 (nN wc)⟩
  have i1:=((h _).1 ha).1
  have i3:=((h _).1 hcc).1
  have n2:=((h _).1 hbb).2
  have g1:inU g (kB (aG a)):=by
   refine Classical.byContradiction fun hn=>?_
   have:inP (a::b::c::r) (kB (aG a)):=(h _).2 ⟨by unfold inU at i1 i3 ⊢; omega,hn⟩
   rcases dY.1 this with h | h
   · have:=(iq.1 h).2; omega
   · have:=hp.behind h; omega
  have g2:inU g (kB (aG b)):=by
   refine Classical.byContradiction fun hn=>?_
   have:inP (a::b::c::r) (kB (aG b)):=(h _).2 ⟨by unfold inU at i1 i3 ⊢; omega,hn⟩
   rcases dY.1 this with h | h
   · have:=(iq.1 h).2; omega
   · rcases dY.1 h with h | h
     · have:=(iq.1 h).2; omega
     · have:=hb.behind h; omega
  exact n2 (by unfold inU at g1 g2 ⊢; omega)
omit K in
theorem vC {α β:Type} {f:α→List β} {k:Nat}:∀ {l:List α},(∀ x∈l,(f x).length≤k)→(l.flatMap f).length≤k*l.length
 | [],_=>Nat.zero_le _
 | x::l,h=>by
  rw [List.flatMap_cons,List.length_append,List.length_cons,Nat.mul_succ]
  have h1:=h x (List.mem_cons_self ..)
  have h2:=vC fun y hy=>h y (List.mem_cons_of_mem _ hy)
  omega
theorem yt {l:List (U Ln)} {g:Iv} (hl:∀ u∈l,Wv u.iv) (hg:Wv g):(rsI l (dK (ta l) [g])).length≤2*l.length:=by
 obtain ⟨c,p⟩:=vH hl
 obtain ⟨c2,p2⟩:=mB c.wv (ju hg)
 refine vC fun u hu=>?_
 rw [List.length_map]
 obtain ⟨c3,p3⟩:=mM (ju (hl u hu)) c2.wv
 refine xA (i:=u.iv) (g:=g) c3 fun q=>(p3 q).trans ⟨fun ⟨a,b⟩=>⟨jS.1 a,fun hh=>((p2 q).1 b).2 (jS.2 hh)⟩,fun ⟨a,b⟩=>⟨jS.2 a,(p2 q).2 ⟨(p q).2 ⟨u,hu,a⟩,fun hh=>b (jS.1 hh)⟩⟩⟩
def gU (l:List (U Ln)) (d:List Iv):List (U Ln):=(aU (rsI l d)).1
def xh (c:Crq) (s:List Stq) (p q:Nat):List (U Ln):=bif decide (p % 3=0) then fF c s else gU (fF c s) (dK (ta (fF c s)) [pW p q])
class KeyB:Prop where
 b:∀ t,Tm t→Bq 100 t.p
variable [KeyZ] [KeyB]
abbrev DT:Ln→Prop:=DL 16 140
omit [KeyZ] in
theorem dkT:Dk DT:=⟨vm KeyB.b (by decide) (by decide),fun f h=>h.ok⟩
theorem tK (c:Crq) (s:List Stq):aU (trU c s)=(fF c s,0)∧NFL DT (trU c s) (fF c s)∧(fF c s).length≤7:=by
 obtain ⟨h1,h2,h3,_⟩:=uM c s
 obtain ⟨N,e,h⟩:=dkT.normal (fun x hx=>⟨(h1 x hx).1,Or.inl (h1 x hx).2⟩) (h2.imp fun h=>.inl h)
 have:fF c s=N:=by unfold fF; rw [e]
 rw [this]
 exact ⟨e,h,Nat.le_trans h.len h3⟩
omit [KeyZ] in
theorem q9 {l:List (U Ln)} {d:List Iv} (hl:NFl l) (hD:∀ u∈l,DT u.f) (hd:∀ i∈d,Wv i):(∀ x∈rsI l d,Wv x.iv∧DT x.f)∧(rsI l d).Pairwise (fun a b=>Dj a.iv b.iv)∧aU (rsI l d)=(gU l d,0)∧NFL DT (rsI l d) (gU l d):=by
 have h1:∀ x∈rsI l d,Wv x.iv∧DT x.f:=fun x hx=>by
  obtain ⟨u,hu,e,w,_⟩:=tP hl.wv hd hx
  exact ⟨w,by rw [e]; exact hD u hu⟩
 have h2:=rsI_dj hl.wv hl.dj hd
 obtain ⟨N,e,h⟩:=dkT.normal h1 h2
 have:gU l d=N:=by unfold gU; rw [e]
 rw [this]
 exact ⟨h1,h2,e,h⟩
theorem mov_ok (c:Crq) (s:List Stq) (p q:Nat) [KeyG p q]:NFl (xh c s p q)∧(∀ u∈xh c s p q,DT u.f)∧(xh c s p q).length≤14:=by
 obtain ⟨_,h,hl⟩:=tK c s
 unfold xh
 cases decide (p % 3=0) with
 | true=>exact ⟨h.nf,h.ok,by rw [cond_true]; omega⟩
 | false =>
  rw [cond_false]
  have hg:Wv (pW p q):=zI
  have hc:=(mB (vH h.nf.wv).1.wv (ju hg)).1
  obtain ⟨_,_,_,h4⟩:=q9 h.nf h.ok hc.wv
  have:=yt (g:=pW p q) h.nf.wv hg
  exact ⟨h4.nf,h4.ok,by have:=h4.len; omega⟩
end
end Go.Sx
namespace Go.Sx
open Go Go.RowKit Go.Proofs
set_option maxRecDepth 100000
set_option maxHeartbeats 40000000
attribute [local irreducible] Code.wp wpList Rd Step ObS Ent
attribute [local irreducible] ao aL ah au ax bN
attribute [local irreducible] aH aI am aq aE ak
def qAt (q:Qd) (t:GR):GR :=
 (eK (aq (aH q t.p) (am q.c2 t.r)) (bif t.neg then aE (aI q t.p) else aI q t.p) t.r).1
theorem u9 (q:Qd) (t:GR) (k:Nat) (hk:k≤10) (zq:SzD (k+19) q) (zt:SzR (k+19) t) (hr:Sm t.r) (z3:SzQ 30 t.r) (w0:World):Calls Tryz.prog 67 #[vD q,vR t] w0 (dE w0 (vR (qAt q t)) (SzR k (qAt q t))):=by
 refine enter (N:=36) (args:=[vD q,vR t]) Tryz.func67 rfl rfl ?_; intro ac h
 have c1:=iG q t.p (k+9) og zq zt.1
 have s1:=ap (c1 w0)
 have c2:=bo q.c2 t.r (k+9) og (cu zq.2.2 og) (cu zt.2 og)
 have s2:=ap (c2 w0)
 have c3:=bQ (aH q t.p) (am q.c2 t.r) (k+6) og s1 s2
 have s3:=ap (c3 w0)
 have c4:=io q t.p (k+6) og (lm zq og) (cu zt.1 og)
 have s4:=ap (c4 w0)
 refine gz h <| (xb) fun b1=>(xb) fun b2=>(xa) fun b3=>(W) ?_; clear h ac; intro ac wo h
 replace h:=h.emps 1
 refine eZ mixed [dw (vD q) [2],dv (ptr b2 0),dw (vQ t.p) [1],dv (vQ (aH q t.p)),dv (ptr b1 8),dw (vQ q.c2) [2],dv (ptr b2 4),dw (vQ t.r) [1],dv (vQ (am q.c2 t.r)),dv (vQ (aq (aH q t.p) (am q.c2 t.r))),⟨.nd (.one 10 fun x=>∃ b,x=ptr b 0),[3]⟩,dw undef [3]] [⟨_,[]⟩,⟨_,[]⟩,⟨_,[]⟩,⟨.emp,[(10,.one 10 fun x=>.blk (bu x) (cQ oQ) 29),(11,.one 10 fun x=>.blk (bu x) (cQ (aq (aH q t.p) (am q.c2 t.r))) 29)]⟩] h rfl (by kernel_rfl) ⟨fun _ _=>iy _ rfl rfl (js Tryz.isAgg72 Tryz.sizeOf72 rfl rfl rfl (v:=vD q) rfl),fun _ _=>aQ (fa uu46 rfl zz29 rfl rfl rfl (k':=0)),fun _ _=>iy _ rfl rfl (js aa29 zz29 rfl rfl rfl (v:=vQ t.p) rfl),oA fun _=>fD (dZ Tryz.call81 rfl c1),fun _ _=>aQ (fa Tryz.runUnderlying72 rfl zz29 rfl rfl rfl (k':=8)),fun _ _=>iy _ rfl rfl (js aa29 zz29 rfl rfl rfl (v:=vQ q.c2) rfl),fun _ _=>aQ (fa uu46 rfl zz29 rfl rfl rfl (k':=4)),fun _ _=>iy _ rfl rfl (js aa29 zz29 rfl rfl rfl (v:=vQ t.r) rfl),oA fun _=>fD (dZ Tryz.call172 rfl c2),oA fun _=>fD (dZ Tryz.call106 rfl c3),fun _ _=>i0 3 rfl (fun _=>rfl),fun ξ hφ=>iZ (u:=vQ (aq (aH q t.p) (am q.c2 t.r))) 3 (hφ 10 rfl) rfl rfl rfl rfl rfl rfl rfl,trivial⟩ ?_
 clear h ac wo; intro ξ ac wo hφ h
 obtain ⟨b5,hb5⟩:∃ b,ξ 10=ptr b 0:=hφ 10
 replace h:St w0 36 [(2,ptr b1 0),(3,ptr b2 0),(4,ptr b3 0),(5,ξ 10)] [.blk b3 (cR ⟨oQ,oQ,false⟩) 46,.blk b2 (cR t) 46,.blk b1 (cD q) 72,.blk (bu (ξ 10)) (cQ (aq (aH q t.p) (am q.c2 t.r))) 29] ac wo:=h.sub ⟨rfl,rfl,rfl,rfl,trivial⟩
 rw [hb5] at h
 clear hb5 hφ ξ
 obtain ⟨m,hm⟩:∃ m,(bif t.neg then aE (aI q t.p) else aI q t.p)=m:=⟨_,rfl⟩
 have zm:SzQ (k+6) m:=by
  rw [← hm]; cases t.neg
  · exact s4
  · exact ap ((fc (aI q t.p) (k+6) og s4) w0)
 have c6:=nG (aq (aH q t.p) (am q.c2 t.r)) m t.r k og s3 zm (cu zt.2 og) hr z3
 have e:qAt q t=(eK (aq (aH q t.p) (am q.c2 t.r)) m t.r).1:=by unfold qAt; rw [hm]
 rw [e]
 obtain ⟨tp,tr,tn⟩:=t
 cases tn
 ·
  subst hm
  refine gz h <| (xk c4) <| (xa) fun b6=>(ai) ?_ ?_ <;> clear h ac wo <;> intro ac wo h hc1
  · cases hc1
  refine gz h <| (xk c6) <| (xa) fun b7=>(W) ?_; clear h ac wo; intro ac wo h
  exact rtc 2 h (h.retP rfl (ap (c6 w0)))
 ·
  subst hm
  have c5:=fc (aI q tp) (k+6) og s4
  refine gz h <| (xk c4) <| (xa) fun b6=>(ai) ?_ ?_ <;> clear h ac wo <;> intro ac wo h hc1
  · refine gz h <| (xk c5) <| (xk c6) <| (xa) fun b7=>(W) ?_; clear h ac wo; intro ac wo h
    exact rtc 2 h (h.retP rfl (ap (c6 w0)))
  · cases hc1
attribute [irreducible] qAt
def tZ (f:Ln) (t:GR):RPt:=⟨qAt (lxs f) t,qAt (lys f) t⟩
def SzRP (k:Nat) (x:RPt):Prop:=SzR k x.x∧SzR k x.y
theorem yK (f:Ln) (t:GR) (k:Nat) (hk:k≤10) (zf:SzN (k+19) f) (zt:SzR (k+19) t) (hr:Sm t.r) (z3:SzQ 30 t.r) (w0:World):Calls Tryz.prog 116 #[vN f,vR t] w0 (dE w0 (vRP (tZ f t)) (SzRP k (tZ f t))):=by
 refine enter (N:=14) (args:=[vN f,vR t]) Tryz.func116 rfl rfl ?_; intro ac h
 have c1:=lxs_ct f (k+19) og zf
 have c2:=u9 (lxs f) t k hk (ap (c1 w0)) zt hr z3
 have c3:=lys_ct f (k+19) og zf
 have c4:=u9 (lys f) t k hk (ap (c3 w0)) zt hr z3
 refine gz h <| (xb) fun b1=>(xb) fun b2=>(xa) fun b3=>(dr1 (H:=[⟨.blk b3 (cRP ⟨⟨oQ,oQ,false⟩,⟨oQ,oQ,false⟩⟩) 49,[(9,.con (.blk b3 (cRP (⟨qAt (lxs f) t,qAt (lys f) t⟩:RPt)) 49))]⟩,⟨_,[]⟩,⟨_,[]⟩]) (hob:=(oK c1) <| (oK c2) <| (oK c3) <| (oK c4) <| oE)) <| (W) ?_; clear h ac; intro ac wo h
 exact rtc 0 h (h.retP (u:=vRP (tZ f t)) rfl ⟨ap (c2 w0),ap (c4 w0)⟩)
attribute [irreducible] tZ
def jC (l:List GR) (n:Nat):GR:=(List.range n).foldl (fun m i=>bif decide (ao (gt l (i+1)) m < 0) then gt l (i+1) else m) (gt l 0)
theorem sJ (l:List GR) (n:Nat):jC l (n+1)=(bif decide (ao (gt l (n+1)) (jC l n) < 0) then gt l (n+1) else jC l n):=by
 unfold jC; rw [List.range_succ,List.foldl_append]; rfl
theorem vh {P:GR→Prop} {l:List GR} (h:∀ i,P (gt l i)):∀ n,P (jC l n)
 | 0=>h 0
 | n+1=>by
  rw [sJ]
  cases decide (ao (gt l (n+1)) (jC l n) < 0)
  · exact vh h n
  · exact h _
theorem y8 (l:List GR) (lv:Value) (hl:l.length≤1000) (h0:0 < l.length) (zl:∀ i,SzR 30 (gt l i)) (w0:World) (hlv:View w0 lv l):Calls Tryz.prog 117 #[lv,.func (.func 59) #[] #[]] w0 (dE w0 (vR (jC l (l.length - 1))) (SzR 30 (jC l (l.length - 1)))):=by
 refine enter (N:=33) (args:=[lv,.func (.func 59) #[] #[]]) Tryz.func117 rfl rfl ?_; intro ac h
 have hlen:=hlv.len
 refine gz h <| (xa) fun b1=>(ai) ?_ ?_ <;> clear h ac <;> intro ac wo h hc1
 · have:=of_decide_eq_true hc1; omega
 refine gz h <| (xa) fun b2=>(W) ?_; clear h ac wo; intro ac wo h
 refine wp_loop_ghost (fun n_ a_ w_=>∃ (i:Nat),(l.length - i < n_)∧(i < l.length)∧St w0 33 [(0,lv),(1,.func (.func 59) #[] #[]),(4,ptr b1 0),(5,ptr b2 0),(6,iN (i+1))] [.blk b2 (cR (jC l i)) 46,.blk b1 (cR ⟨oQ,oQ,false⟩) 46] a_ w_) (l.length+1) ⟨0,by omega,by omega,h.rs⟩ ?_
 clear h ac wo; rintro n1 ac wo ⟨i,hm1,hi,h⟩
 obtain ⟨m1,rfl⟩:∃ m,n1=m+1:=⟨n1 - 1,by omega⟩
 have zm:SzR 30 (jC l i):=vh (P:=SzR 30) zl i
 refine gz h <| (ai) ?_ ?_ <;> clear h ac wo <;> intro ac wo h hc1
 ·
  have hd1:i+1 < l.length:=by have:=of_decide_eq_true hc1; omega
  have c1:=dO (gt l (i+1)) (jC l i) 10 og (zl _) zm
  have e:=sJ l i
  refine gz h <| (dr0 (hob:=(oK c1) <| oE)) <| (ai) ?_ ?_ <;> clear h ac wo <;> intro ac wo h hc2
  · rw [hc2] at e
    refine gz h <| (W) ?_; clear h ac wo; intro ac wo h
    exact aO ⟨m1,by omega,i+1,by omega,by omega,by rw [e]; exact h.rs⟩
  · rw [hc2] at e
    refine gz h <| (W) ?_; clear h ac wo; intro ac wo h
    exact aO ⟨m1,by omega,i+1,by omega,by omega,by rw [e]; exact h.rs⟩
 ·
  have hd1:¬ i+1 < l.length:=by have:=of_decide_eq_false hc1; omega
  obtain rfl:i=l.length - 1:=by omega
  refine gz h <| (W) ?_; clear h ac wo; intro ac wo h
  exact rtc 1 h (h.retP (u:=vR (jC l (l.length - 1))) rfl zm)
end Go.Sx
namespace Go.Sx
open Go Go.RowKit Go.Proofs
set_option maxRecDepth 100000
set_option maxHeartbeats 40000000
attribute [local irreducible] Code.wp wpList Rd Step ObS Ent
attribute [local irreducible] ao aL ah au ax bN
theorem to1_ct (u:U Ln) (w0:World):Calls Tryz.prog 232 #[vUN u] w0 (dE w0 (vUN u) True):=by
 refine enter (N:=8) (args:=[vUN u]) Tryz.func232 rfl rfl ?_; intro ac h
 refine gz h <| (xb) fun b1=>(xa) fun b2=>(W) ?_; clear h ac; intro ac wo h
 exact rtc 0 h (h.retP (u:=vUN u) rfl trivial)
theorem from1_ct (u:U Ln) (w0:World):Calls Tryz.prog 314 #[vUN u] w0 (dE w0 (vUN u) True):=by
 refine enter (N:=8) (args:=[vUN u]) Tryz.func314 rfl rfl ?_; intro ac h
 refine gz h <| (xb) fun b1=>(xa) fun b2=>(W) ?_; clear h ac; intro ac wo h
 exact rtc 0 h (h.retP (u:=vUN u) rfl trivial)
theorem lx {α:Type} [Inhabited α] {l:List α} {i:Nat} (h:i < l.length):l.take i++[gt l i]=l.take (i+1):=by
 rw [List.take_succ_eq_append_getElem h,gF h]
theorem mapTo_ct (l:List (U Ln)) (lv:Value) (hl:l.length≤1000) (w0:World) (hlv:View w0 lv l):Calls Tryz.prog 231 #[lv,.func (.func 232) #[] #[]] w0 (RetR w0 292 l True):=by
 refine enter (N:=22) (args:=[lv,.func (.func 232) #[] #[]]) Tryz.func231 rfl rfl ?_; intro ac h
 have hlen:=hlv.len
 refine gz h <| (W) ?_; clear h ac; intro ac wo h
 replace h:=h.nilRow (α:=U Ln) 292
 refine wp_loop_ghost (fun n_ a_ w_=>∃ (i:Nat) (sv:Value),(l.length - i < n_)∧(i≤l.length)∧St w0 22 [(1,.func (.func 232) #[] #[]),(5,sv),(8,lv),(9,iN l.length),(10,iN i)] [.row (α:=U Ln) 292 sv (l.take i)] a_ w_) (l.length+1) ⟨0,_,by omega,by omega,h.re [0]⟩ ?_
 clear h ac wo; rintro n1 ac wo ⟨i,sv,hm1,hi,h⟩
 obtain ⟨m1,rfl⟩:∃ m,n1=m+1:=⟨n1 - 1,by omega⟩
 refine gz h <| (ai) ?_ ?_ <;> clear h ac wo <;> intro ac wo h hc1
 ·
  have hd1:=of_decide_eq_true hc1
  refine gz h <| (xa) fun b1=>(xk (to1_ct (gt l i))) <| (W) ?_; clear h ac wo; intro ac wo h
  refine nw h (dG (α:=U Ln) (xs:=[.tmp 17]) (vs:=[vUN (gt l i)]) [gt l i] iz rfl rfl rfl (by decide)) rfl ?_; clear h ac wo; intro s1 ac wo _ h
  refine on2 h 2 0 rfl rfl (gQ (xs:=l.take i) (ys:=[gt l i]) iz (fun w hs=>(row_view hs 0 rfl)) rfl rfl (by rw [List.length_take]; show _+1≤_; omega)) rfl ?_; clear h ac wo; intro s2 ac wo _ h
  rw [lx (by omega)] at h
  refine gz h <| (W) ?_; clear h ac wo; intro ac wo h
  exact aO ⟨m1,by omega,i+1,s2,by omega,by omega,h.re [0]⟩
 ·
  have hd1:=of_decide_eq_false hc1
  obtain rfl:i=l.length:=by omega
  rw [List.take_length] at h
  refine gz h <| (W) ?_; clear h ac wo; intro ac wo h
  exact (rt h) (h.retR 0 rfl trivial)
theorem wO (l:List (U Ln)) (lv:Value) (hl:l.length≤1000) (w0:World) (hlv:View w0 lv l):Calls Tryz.prog 313 #[lv,.func (.func 314) #[] #[]] w0 (RetR w0 165 l True):=by
 refine enter (N:=22) (args:=[lv,.func (.func 314) #[] #[]]) Tryz.func313 rfl rfl ?_; intro ac h
 have hlen:=hlv.len
 refine gz h <| (W) ?_; clear h ac; intro ac wo h
 replace h:=h.nilRow (α:=U Ln) 165
 refine wp_loop_ghost (fun n_ a_ w_=>∃ (i:Nat) (sv:Value),(l.length - i < n_)∧(i≤l.length)∧St w0 22 [(1,.func (.func 314) #[] #[]),(5,sv),(8,lv),(9,iN l.length),(10,iN i)] [.row (α:=U Ln) 165 sv (l.take i)] a_ w_) (l.length+1) ⟨0,_,by omega,by omega,h.re [0]⟩ ?_
 clear h ac wo; rintro n1 ac wo ⟨i,sv,hm1,hi,h⟩
 obtain ⟨m1,rfl⟩:∃ m,n1=m+1:=⟨n1 - 1,by omega⟩
 refine gz h <| (ai) ?_ ?_ <;> clear h ac wo <;> intro ac wo h hc1
 ·
  have hd1:=of_decide_eq_true hc1
  refine gz h <| (xa) fun b1=>(xk (from1_ct (gt l i))) <| (W) ?_; clear h ac wo; intro ac wo h
  refine nw h (dG (α:=U Ln) (xs:=[.tmp 17]) (vs:=[vUN (gt l i)]) [gt l i] lS rfl rfl rfl (by decide)) rfl ?_; clear h ac wo; intro s1 ac wo _ h
  refine on2 h 2 0 rfl rfl (gQ (xs:=l.take i) (ys:=[gt l i]) lS (fun w hs=>(row_view hs 0 rfl)) rfl rfl (by rw [List.length_take]; show _+1≤_; omega)) rfl ?_; clear h ac wo; intro s2 ac wo _ h
  rw [lx (by omega)] at h
  refine gz h <| (W) ?_; clear h ac wo; intro ac wo h
  exact aO ⟨m1,by omega,i+1,s2,by omega,by omega,h.re [0]⟩
 ·
  have hd1:=of_decide_eq_false hc1
  obtain rfl:i=l.length:=by omega
  rw [List.take_length] at h
  refine gz h <| (W) ?_; clear h ac wo; intro ac wo h
  exact (rt h) (h.retR 0 rfl trivial)
theorem to_ct (l:List (U Ln)) (lv:Value) (hl:l.length≤1000) (w0:World) (hlv:View w0 lv l):Calls Tryz.prog 126 #[lv] w0 (RetR w0 292 l True):=by
 refine enter (N:=5) (args:=[lv]) Tryz.func126 rfl rfl ?_; intro ac h
 refine gz h <| (W) ?_; clear h ac; intro ac wo h
 refine jo (xs:=l) h (dH Tryz.call231 rfl) (fun w_ hB_ hS_=>mapTo_ct l lv hl w_ (hlv.below hB_)) rfl ?_; clear h ac wo; intro s1 ac wo _ h
 refine gz h <| (W) ?_; clear h ac wo; intro ac wo h
 exact (rt h) (h.retR 0 rfl trivial)
theorem from_ct (l:List (U Ln)) (lv:Value) (hl:l.length≤1000) (w0:World) (hlv:View w0 lv l):Calls Tryz.prog 279 #[lv] w0 (RetR w0 165 l True):=by
 refine enter (N:=5) (args:=[lv]) Tryz.func279 rfl rfl ?_; intro ac h
 refine gz h <| (W) ?_; clear h ac; intro ac wo h
 refine jo (xs:=l) h (dH Tryz.call313 rfl) (fun w_ hB_ hS_=>wO l lv hl w_ (hlv.below hB_)) rfl ?_; clear h ac wo; intro s1 ac wo _ h
 refine gz h <| (W) ?_; clear h ac wo; intro ac wo h
 exact (rt h) (h.retR 0 rfl trivial)
theorem units_ct (l:List (U Ln)) (lv:Value) (hl:l.length≤1000) (w0:World) (hlv:View w0 lv l):Calls Tryz.prog 213 #[lv] w0 (RetR w0 292 l True):=by
 refine enter (N:=26) (args:=[lv]) Tryz.func213 rfl rfl ?_; intro ac h
 have hlen:=hlv.len
 refine gz h <| (W) ?_; clear h ac; intro ac wo h
 replace h:=h.nilRow (α:=U Ln) 292
 refine wp_loop_ghost (fun n_ a_ w_=>∃ (i:Nat) (sv:Value),(l.length - i < n_)∧(i≤l.length)∧St w0 26 [(0,lv),(3,sv),(4,iN i)] [.row (α:=U Ln) 292 sv (l.take i)] a_ w_) (l.length+1) ⟨0,_,by omega,by omega,h.re [0]⟩ ?_
 clear h ac wo; rintro n1 ac wo ⟨i,sv,hm1,hi,h⟩
 obtain ⟨m1,rfl⟩:∃ m,n1=m+1:=⟨n1 - 1,by omega⟩
 refine gz h <| (ai) ?_ ?_ <;> clear h ac wo <;> intro ac wo h hc1
 ·
  have hd1:=of_decide_eq_true hc1
  refine gz h <| (W) ?_; clear h ac wo; intro ac wo h
  replace h:=h.emps 1
  refine eZ mixed [dv _,dv _,dv _,dv _,dv _,dv (vV (gt l i).iv),dv _,dv _,dv _,dv _,dv (vN (gt l i).f),dv (vUN (gt l i)),⟨.nd (.one 12 fun v=>NN v 1),[1]⟩,⟨.nd (.con True),[0,1]⟩,⟨.nd (.two 14 13 fun a b=>a=b),[]⟩]
   [⟨.row (α:=U Ln) 292 sv (l.take i),[(13,.one 13 fun v=>.row (α:=U Ln) 292 v (l.take i++[gt l i]))]⟩,⟨.emp,[(12,.one 12 fun v=>.row (α:=U Ln) 292 v [gt l i])]⟩] h rfl (by kernel_rfl)
   ⟨oA obA,oA obA,oA obA,oA obA,oA obA,oA obA,oA obA,oA obA,oA obA,oA obA,oA obA,oA fun _=>aQ (bK pN rfl rfl rfl),fun _ _=>l6 1 (gt l i) iz rfl rfl,fun _ _=>wH (j:=12) 0 1 iz rfl rfl (by rw [List.length_take]; omega) rfl (fun v=>by simp only [dg,bA] <;> rfl),fun _ _=>pm (j:=13) (by decide) rfl,trivial⟩ ?_
  clear h ac wo; intro ξ ac wo hφ h
  replace h:St w0 26 [(0,lv),(3,ξ 14),(4,iN i)] [.row (α:=U Ln) 292 (ξ 13) (l.take i++[gt l i])] ac wo:=(h.pick [0] (by decide)).sub ⟨rfl,rfl,rfl,trivial⟩
  rw [show ξ 14=ξ 13 from hφ 14,lx (by omega)] at h
  generalize ξ 13=s2 at h; clear hφ ξ
  refine gz h <| (W) ?_; clear h ac wo; intro ac wo h
  exact aO ⟨m1,by omega,i+1,s2,by omega,by omega,h.re [0]⟩
 ·
  have hd1:=of_decide_eq_false hc1
  obtain rfl:i=l.length:=by omega
  rw [List.take_length] at h
  refine gz h <| (W) ?_; clear h ac wo; intro ac wo h
  exact (rt h) (h.retR 0 rfl trivial)
theorem yO (l:List (U Ln)) (lv:Value) (hl:l.length≤1000) (w0:World) (hlv:View w0 lv l):Calls Tryz.prog 214 #[lv] w0 (RetR w0 165 l True):=by
 refine enter (N:=26) (args:=[lv]) Tryz.func214 rfl rfl ?_; intro ac h
 have hlen:=hlv.len
 refine gz h <| (W) ?_; clear h ac; intro ac wo h
 replace h:=h.nilRow (α:=U Ln) 165
 refine wp_loop_ghost (fun n_ a_ w_=>∃ (i:Nat) (sv:Value),(l.length - i < n_)∧(i≤l.length)∧St w0 26 [(0,lv),(3,sv),(4,iN i)] [.row (α:=U Ln) 165 sv (l.take i)] a_ w_) (l.length+1) ⟨0,_,by omega,by omega,h.re [0]⟩ ?_
 clear h ac wo; rintro n1 ac wo ⟨i,sv,hm1,hi,h⟩
 obtain ⟨m1,rfl⟩:∃ m,n1=m+1:=⟨n1 - 1,by omega⟩
 refine gz h <| (ai) ?_ ?_ <;> clear h ac wo <;> intro ac wo h hc1
 ·
  have hd1:=of_decide_eq_true hc1
  refine gz h <| (W) ?_; clear h ac wo; intro ac wo h
  replace h:=h.emps 1
  refine eZ mixed [dv _,dv _,dv _,dv _,dv _,dv (vV (gt l i).iv),dv _,dv _,dv _,dv _,dv (vN (gt l i).f),dv (vUN (gt l i)),⟨.nd (.one 12 fun v=>NN v 1),[1]⟩,⟨.nd (.con True),[0,1]⟩,⟨.nd (.two 14 13 fun a b=>a=b),[]⟩]
   [⟨.row (α:=U Ln) 165 sv (l.take i),[(13,.one 13 fun v=>.row (α:=U Ln) 165 v (l.take i++[gt l i]))]⟩,⟨.emp,[(12,.one 12 fun v=>.row (α:=U Ln) 165 v [gt l i])]⟩] h rfl (by kernel_rfl)
   ⟨oA obA,oA obA,oA obA,oA obA,oA obA,oA obA,oA obA,oA obA,oA obA,oA obA,oA obA,oA fun _=>aQ (bK uC rfl rfl rfl),fun _ _=>l6 1 (gt l i) lS rfl rfl,fun _ _=>wH (j:=12) 0 1 lS rfl rfl (by rw [List.length_take]; omega) rfl (fun v=>by simp only [dg,bA] <;> rfl),fun _ _=>pm (j:=13) (by decide) rfl,trivial⟩ ?_
  clear h ac wo; intro ξ ac wo hφ h
  replace h:St w0 26 [(0,lv),(3,ξ 14),(4,iN i)] [.row (α:=U Ln) 165 (ξ 13) (l.take i++[gt l i])] ac wo:=(h.pick [0] (by decide)).sub ⟨rfl,rfl,rfl,trivial⟩
  rw [show ξ 14=ξ 13 from hφ 14,lx (by omega)] at h
  generalize ξ 13=s2 at h; clear hφ ξ
  refine gz h <| (W) ?_; clear h ac wo; intro ac wo h
  exact aO ⟨m1,by omega,i+1,s2,by omega,by omega,h.re [0]⟩
 ·
  have hd1:=of_decide_eq_false hc1
  obtain rfl:i=l.length:=by omega
  rw [List.take_length] at h
  refine gz h <| (W) ?_; clear h ac wo; intro ac wo h
  exact (rt h) (h.retR 0 rfl trivial)
end Go.Sx
namespace Go.Sx
open Go Go.RowKit Go.Proofs
set_option maxRecDepth 100000
set_option maxHeartbeats 40000000
attribute [local irreducible] Code.wp wpList Rd Step ObS Ent
attribute [local irreducible] ao aL ah au ax bN
attribute [local irreducible] aH aI am aq aE ak
def jN (l:List GR) (n:Nat):GR:=(List.range n).foldl (fun m i=>bif decide (ao (gt l (i+1)) m>0) then gt l (i+1) else m) (gt l 0)
theorem mE (l:List GR) (n:Nat):jN l (n+1)=(bif decide (ao (gt l (n+1)) (jN l n)>0) then gt l (n+1) else jN l n):=by
 unfold jN; rw [List.range_succ,List.foldl_append]; rfl
theorem vj {P:GR→Prop} {l:List GR} (h:∀ i,P (gt l i)):∀ n,P (jN l n)
 | 0=>h 0
 | n+1=>by
  rw [mE]
  cases decide (ao (gt l (n+1)) (jN l n)>0)
  · exact vj h n
  · exact h _
theorem zh (l:List GR) (lv:Value) (hl:l.length≤1000) (h0:0 < l.length) (zl:∀ i,SzR 30 (gt l i)) (w0:World) (hlv:View w0 lv l):Calls Tryz.prog 118 #[lv,.func (.func 59) #[] #[]] w0 (dE w0 (vR (jN l (l.length - 1))) (SzR 30 (jN l (l.length - 1)))):=by
 refine enter (N:=33) (args:=[lv,.func (.func 59) #[] #[]]) Tryz.func118 rfl rfl ?_; intro ac h
 have hlen:=hlv.len
 refine gz h <| (xa) fun b1=>(ai) ?_ ?_ <;> clear h ac <;> intro ac wo h hc1
 · have:=of_decide_eq_true hc1; omega
 refine gz h <| (xa) fun b2=>(W) ?_; clear h ac wo; intro ac wo h
 refine wp_loop_ghost (fun n_ a_ w_=>∃ (i:Nat),(l.length - i < n_)∧(i < l.length)∧St w0 33 [(0,lv),(1,.func (.func 59) #[] #[]),(4,ptr b1 0),(5,ptr b2 0),(6,iN (i+1))] [.blk b2 (cR (jN l i)) 46,.blk b1 (cR ⟨oQ,oQ,false⟩) 46] a_ w_) (l.length+1) ⟨0,by omega,by omega,h.rs⟩ ?_
 clear h ac wo; rintro n1 ac wo ⟨i,hm1,hi,h⟩
 obtain ⟨m1,rfl⟩:∃ m,n1=m+1:=⟨n1 - 1,by omega⟩
 have zm:SzR 30 (jN l i):=vj (P:=SzR 30) zl i
 refine gz h <| (ai) ?_ ?_ <;> clear h ac wo <;> intro ac wo h hc1
 ·
  have hd1:i+1 < l.length:=by have:=of_decide_eq_true hc1; omega
  have c1:=dO (gt l (i+1)) (jN l i) 10 og (zl _) zm
  have e:=mE l i
  refine gz h <| (dr0 (hob:=(oK c1) <| oE)) <| (ai) ?_ ?_ <;> clear h ac wo <;> intro ac wo h hc2
  · rw [hc2] at e
    refine gz h <| (W) ?_; clear h ac wo; intro ac wo h
    exact aO ⟨m1,by omega,i+1,by omega,by omega,by rw [e]; exact h.rs⟩
  · rw [hc2] at e
    refine gz h <| (W) ?_; clear h ac wo; intro ac wo h
    exact aO ⟨m1,by omega,i+1,by omega,by omega,by rw [e]; exact h.rs⟩
 ·
  have hd1:¬ i+1 < l.length:=by have:=of_decide_eq_false hc1; omega
  obtain rfl:i=l.length - 1:=by omega
  refine gz h <| (W) ?_; clear h ac wo; intro ac wo h
  exact rtc 1 h (h.retP (u:=vR (jN l (l.length - 1))) rfl zm)
theorem wP (l:List (U Ln)) (lv:Value) (hl:l.length < 20) (zl:All (jD 30) l) (w0:World) (hlv:View w0 lv l):Calls Tryz.prog 206 #[lv] w0 (RetT w0 165 (aU l).1 [.int .i64 (aU l).2] (All (jD 20) (aU l).1∧(aU l).1.length≤3*l.length)):=by
 refine enter (N:=17) (args:=[lv]) Tryz.func206 rfl rfl ?_; intro ac h
 have p1:=RetT.pr (fI l lv hl zl w0 hlv)
 refine gz h <| (W) ?_; clear h ac; intro ac wo h
 refine jo (xs:=l) h (dH Tryz.call126 rfl) (fun w_ hB_ hS_=>to_ct l lv (by omega) w_ (hlv.below hB_)) rfl ?_; clear h ac wo; intro s1 ac wo _ h
 refine gz h <| (W) ?_; clear h ac wo; intro ac wo h
 refine ux (xs:=(aU l).1) h (dH Tryz.call212 rfl) (fun w_ hB_ hS_=>fI l s1 hl zl w_ (row_view hS_ 0 rfl)) rfl ?_; clear h ac wo; intro s2 ac wo _ h
 refine gz h <| (W) ?_; clear h ac wo; intro ac wo h
 refine jo (xs:=(aU l).1) h (dH Tryz.call279 rfl) (fun w_ hB_ hS_=>from_ct _ s2 (by omega) w_ (row_view hS_ 0 rfl)) rfl ?_; clear h ac wo; intro s3 ac wo _ h
 refine gz h <| (W) ?_; clear h ac wo; intro ac wo h
 exact (rt h) (h.retT 0 rfl rfl p1)
theorem ls (l:List (U Ln)) (lv:Value) (hl:l.length < 20) (zl:All (jD 30) l) (w0:World) (hlv:View w0 lv l):Calls Tryz.prog 108 #[lv] w0 (RetT w0 165 (aU l).1 [.int .i64 (aU l).2] (All (jD 20) (aU l).1∧(aU l).1.length≤3*l.length)):=by
 refine enter (N:=17) (args:=[lv]) Tryz.func108 rfl rfl ?_; intro ac h
 have p1:=RetT.pr (fI l lv hl zl w0 hlv)
 refine gz h <| (W) ?_; clear h ac; intro ac wo h
 refine jo (xs:=l) h (dH Tryz.call213 rfl) (fun w_ hB_ hS_=>units_ct l lv (by omega) w_ (hlv.below hB_)) rfl ?_; clear h ac wo; intro s1 ac wo _ h
 refine gz h <| (W) ?_; clear h ac wo; intro ac wo h
 refine ux (xs:=(aU l).1) h (dH Tryz.call212 rfl) (fun w_ hB_ hS_=>fI l s1 hl zl w_ (row_view hS_ 0 rfl)) rfl ?_; clear h ac wo; intro s2 ac wo _ h
 refine gz h <| (W) ?_; clear h ac wo; intro ac wo h
 refine jo (xs:=(aU l).1) h (dH Tryz.call214 rfl) (fun w_ hB_ hS_=>yO _ s2 (by omega) w_ (row_view hS_ 0 rfl)) rfl ?_; clear h ac wo; intro s3 ac wo _ h
 refine gz h <| (W) ?_; clear h ac wo; intro ac wo h
 exact (rt h) (h.retT 0 rfl rfl p1)
end Go.Sx
