import Derived.Test.YtbenbmdkhcfcfaaGreatDoorHb
import Derived.Test.YtbenbmdkhcfcfaaGreatDoorQ4
import Derived.Test.YtbenbmdkhcfcfaaGreatDoorR2
import Derived.Test.YtbenbmdkhcfcfaaGreatDoorC1
set_option linter.unusedVariables false
set_option linter.unusedSimpArgs false
open Go.Proofs.Tryz renaming prog → zP
namespace Go.Sx
open Go Go.RowKit Go.Proofs
instance zi28:Bu zP 55 [] [] (.agg #[]):=Bu.of bld55 rfl rfl
instance zi29:Ie zP 55:=⟨fun hx=>xe Tryz.runUnderlying55 rfl hx⟩
instance zi30 (x:Iv) (f:Qd):Bu zP 126 [0,1] [vV x,vD f] (vUD (⟨x,f⟩:U Qd)):=Bu.of je rfl rfl
instance zi31:Cf zP 76:=⟨Tryz.call76⟩
instance zi32:Cf zP 75:=⟨Tryz.call75⟩
end Go.Sx
namespace Go.Sx
open Go Go.RowKit Go.Proofs
set_option maxRecDepth 100000
set_option maxHeartbeats 40000000
attribute [local irreducible] Code.wp wpList Rd gX ObS Ent
attribute [local irreducible] an bD ah aN aC dg
theorem join_is (a b:List (U Qd)):dc a b=bh (a++b):=by unfold dc; rfl
def fR (l m:List Stp):Bool:=true
theorem take_iv {l:List (U Qd)} {i:Nat} (h:i < l.length):((l.take i).map fun x=>x.iv)++[(gt l i).iv]=(l.take (i+1)).map fun x=>x.iv:=by
 rw [List.take_succ_eq_append_getElem h,List.map_append,fK h]; rfl
theorem iv_z {l:List (U Qd)} (h:All (gW 30) l):All (SzV 30) (l.map fun x=>x.iv):=fun x hx=>by
 obtain ⟨u,hu,rfl⟩:=List.mem_map.1 hx
 exact (h u hu).1
theorem jR (l:List Stp) (lv:Value) (m:List Stp) (mv:Value) (w0:World) (hlv:View w0 lv l) (hmv:View w0 mv m):Calls zP 12 #[lv,mv] w0 (RetP w0 (.bool (fR l m)) (True)):=by
 refine enter (N:=136) Tryz.func12 rfl rfl ?_; intro ac h
 haveI:On:=⟨trivial⟩
 refine gz h <| (xk (mV)) <| (ai) ?_ ?_ <;> clear h ac <;> intro ac wo h hc1
 ·
  rw [knw] at hc1; cases hc1
 ·
  clear hc1
  refine gz h <| (W) ?_; clear h ac wo; intro ac wo h
  refine ky (xs:=aq l) h (ck Tryz.call27 rfl) (fun w_ hB_ hS_=>j8 l lv w_ (hlv.below hB_)) rfl ?_; clear h ac wo; intro s1 ac wo p1 h
  obtain ⟨zb,nlb⟩:=p1
  refine ky (xs:=nb l) h (ck Tryz.call26 rfl) (fun w_ hB_ hS_=>kC _ s1 og zb w_ (row_view hS_ 0 rfl)) rfl ?_; clear h ac wo; intro s2 ac wo _ h
  have zu:All (gW 30) (nb l):=bn_sz l
  have lu:(nb l).length≤16:=nb_len l nlb
  refine gz h <| (W) ?_; clear h ac wo; intro ac wo h
  refine ky (xs:=aq m) h (ck Tryz.call27 rfl) (fun w_ hB_ hS_=>j8 m mv w_ (hmv.below hB_)) rfl ?_; clear h ac wo; intro s3 ac wo p3 h
  obtain ⟨zv,lv3⟩:=p3
  refine gz h <| (W) ?_; clear h ac wo; intro ac wo h
  replace h:=h.nilRow (α:=Iv) 86
  refine wp_loop_ghost (fun n_ a_ w_=>∃ (i:Nat) (v:Value),((aq m).length - i < n_)∧(i≤(aq m).length)∧St w0 136 [(5,s2),(6,s3),(7,v),(8,iN i)] [.row (α:=Iv) 86 v (((aq m).take i).map fun x=>x.iv),.row (α:=U Qd) 126 s3 (aq m),.row (α:=U Qd) 126 s2 (nb l)] a_ w_) ((aq m).length+1) ⟨0,_,by omega,by omega,h.re [0,1,2]⟩ ?_
  clear h ac wo; rintro n1 ac wo ⟨i,v,hm1,hi,h⟩
  obtain ⟨m1,rfl⟩:∃ m,n1=m+1:=⟨n1 - 1,by omega⟩
  refine gz h <| (ai) ?_ ?_ <;> clear h ac wo <;> intro ac wo h hc1
  ·
   have hd1:=of_decide_eq_true hc1
   refine gz h <| (W) ?_; clear h ac wo; intro ac wo h
   refine nw h (cB (α:=Iv) (xs:=[.tmp 40]) (vs:=[(vV ((gt (aq m) i).iv))]) [(gt (aq m) i).iv] pn rfl rfl rfl DC) rfl ?_; clear h ac wo; intro sv ac wo _ h
   refine on2 h 1 0 rfl rfl (eY (xs:=((aq m).take i).map fun x=>x.iv) (ys:=[(gt (aq m) i).iv]) pn (fun w hs=>(row_view hs 0 rfl)) rfl rfl (by rw [List.length_map,List.length_take]; show _+1≤_; omega)) rfl ?_; clear h ac wo; intro v2 ac wo _ h
   rw [take_iv og] at h
   exact (nx h) fun _ _ h=>by exact ⟨m1,by omega,i+1,v2,by omega,by omega,h.re [0,2,3]⟩
  ·
   have hd1:=of_decide_eq_false hc1
   obtain rfl:i=(aq m).length:=by omega
   rw [List.take_length] at h
   refine gz h <| (W) ?_; clear h ac wo; intro ac wo h
   refine ky (xs:=pv m) h (ck Tryz.call77 rfl) (fun w_ hB_ hS_=>j6 _ v (by rw [List.length_map]; omega) (pv_w m) (iv_z zv) w_ (row_view hS_ 0 rfl)) rfl ?_; clear h ac wo; intro s4 ac wo p4 h
   obtain ⟨zp,lp⟩:=p4
   have lp2:(pv m).length≤32:=Nat.le_trans lp (by rw [List.length_map]; omega)
   have zp:All (SzV 30) (pv m):=zp
   have cp:=pv_cn m
   refine gz h <| (W) ?_; clear h ac wo; intro ac wo h
   refine ky (xs:=ba (nb l) (pv m)) h (ck Tryz.call78 rfl) (fun w_ hB_ hS_=>jj _ s2 _ s4 og og (r_z l cp) (Nat.le_trans (w8 l cp) og) zu zp w_ (row_view hS_ 3 rfl) (row_view hS_ 0 rfl)) rfl ?_; clear h ac wo; intro s5 ac wo p5 h
   refine gz h <| (W) ?_; clear h ac wo; intro ac wo h
   obtain ⟨du,_⟩:=uY (mr l).wv
   refine ky (xs:=bU (nb l)) h (ck Tryz.call56 rfl) (fun w_ hB_ hS_=>mj _ s2 og (mr l).wv zu w_ (row_view hS_ 4 rfl)) rfl ?_; clear h ac wo; intro s6 ac wo p6 h
   obtain ⟨zd,ld⟩:=p6
   refine gz h <| (W) ?_; clear h ac wo; intro ac wo h
   refine ky (xs:=dW (bU (nb l)) (pv m)) h (ck Tryz.call79 rfl) (fun w_ hB_ hS_=>pA _ s6 _ s4 og og du.wv cp.wv zd zp w_ (row_view hS_ 0 rfl) (row_view hS_ 2 rfl)) rfl ?_; clear h ac wo; intro s7 ac wo p7 h
   obtain ⟨zn,ln⟩:=p7
   have cn:=Cn.minus du cp
   refine ky (xs:=ba (nb l) (dW (bU (nb l)) (pv m))) h (ck Tryz.call78 rfl) (fun w_ hB_ hS_=>jj _ s2 _ s7 og og (r_z l cn) (Nat.le_trans (w8 l cn) og) zu zn w_ (row_view hS_ 6 rfl) (row_view hS_ 0 rfl)) rfl ?_; clear h ac wo; intro s8 ac wo p8 h
   refine gz h <| (W) ?_; clear h ac wo; intro ac wo h
   refine ky (xs:=bm (nb l)) h (ck Tryz.call35 rfl) (fun w_ hB_ hS_=>iy _ s2 og (mp_gap l) zu w_ (row_view hS_ 7 rfl)) rfl ?_; clear h ac wo; intro s9 ac wo p9 h
   refine gz h <| (W) ?_; clear h ac wo; intro ac wo h
   refine ky (xs:=bm (aq m)) h (ck Tryz.call35 rfl) (fun w_ hB_ hS_=>iy _ s3 og (mo_gap m) zv w_ (row_view hS_ 7 rfl)) rfl ?_; clear h ac wo; intro s10 ac wo p10 h
   have l9:=p9.2
   have l10:=p10.2
   refine on2 h 1 0 rfl rfl (eY (xs:=bm (nb l)) (ys:=bm (aq m)) nW (fun w hs=>(row_view hs 0 rfl)) rfl rfl og) rfl ?_; clear h ac wo; intro s11 ac wo _ h
   have tA:∀ i,i < (bm (nb l)++bm (aq m)).length→Tm (gt (bm (nb l)++bm (aq m)) i):=fun i hi=>by
    rcases List.mem_append.1 (j7 hi) with h | h
    ·exact qM (mr l).wv (nb_far l) _ h
    ·exact qM (fun u hu=>(nQ m u hu).1) (mo_far m) _ h
   have hAl:(bm (nb l)++bm (aq m)).length≤1000:=by rw [List.length_append]; omega
   generalize bm (nb l)++bm (aq m)=AT at h tA hAl
   have za:=r_z2 l cp
   have zb2:=r_z2 l cn
   have la:=tI l cp
   have lb2:=tI l cn
   have fA:=fun (t:GR) (ht:Tm t)=>r_at l cp ht
   have fC:=r_chk l cp og
   have fJ:dc (ba (nb l) (pv m)) (ba (nb l) (dW (bU (nb l)) (pv m)))=(nb l,0):=by rw [join_is]; exact r_join l cp
   have rA:=nf_rt (q8 l cp).nf.wv
   generalize ba (nb l) (dW (bU (nb l)) (pv m))=B at h zb2 lb2 fJ
   generalize ba (nb l) (pv m)=A at h za la fA fC fJ rA
   refine gz h <| (W) ?_; clear h ac wo; intro ac wo h
   refine wp_loop_ghost (fun n_ a_ w_=>∃ (i:Nat),(AT.length - i < n_)∧(i≤AT.length)∧St w0 136 [(5,s2),(9,s4),(10,s5),(11,s8),(12,s11),(13,iN i)] [.row (α:=GR) 71 s11 AT,.row (α:=U Qd) 126 s8 B,.row (α:=U Qd) 126 s5 A,.row (α:=Iv) 86 s4 (pv m),.row (α:=U Qd) 126 s2 (nb l)] a_ w_) (AT.length+1) ⟨0,by omega,by omega,h.re [0,2,5,6,9]⟩ ?_
   clear h ac wo; rintro n2 ac wo ⟨i,hm2,hi,h⟩
   obtain ⟨m2,rfl⟩:∃ m,n2=m+1:=⟨n2 - 1,by omega⟩
   refine gz h <| (ai) ?_ ?_ <;> clear h ac wo <;> intro ac wo h hc2
   ·
    have hd2:=of_decide_eq_true hc2
    have ht:=tA i og
    have zt:=cu (k:=40) (j:=30) (nT ht) DC
    have z1:=ay (lm A s5 (gt AT i) og za zt wo (h.row_view 2 rfl))
    have z2:=ay (iK (nb l) s2 (gt AT i) zu zt wo (h.row_view 4 rfl))
    obtain ⟨f1,f2⟩:=fA _ ht
    refine gz h <| (xc (ct:=by exact fun w_ hB_ hS_=>lm A s5 (gt AT i) og za zt w_ (row_view hS_ 2 rfl))) <| (xa) fun b1=>(xc (ct:=by exact fun w_ hB_ hS_=>iK (nb l) s2 (gt AT i) zu zt w_ (row_view hS_ 5 rfl))) <| (xa) fun b2=>(xg (hs:=by exact fun hg=>fi enA (fun w_ hB_ hS_=>nG (pv m) s4 (gt AT i) og zp zt w_ (row_view hS_ 5 rfl)))) <| (dr0 (hob:=(oG (by exact fun hg=>lj (dG A (gt AT i)).1 (bX (nb l) (gt AT i)).1 (gt AT i) 16 og z1 z2 zt)) <| oE)) <| (ai) ?_ ?_ <;> clear h ac wo <;> intro ac wo h hc3
    ·
     rw [← f1,bne_self_eq_false,Bool.false_or,Bool.and_eq_true] at hc3
     rw [f2 hc3.1] at hc3; cases hc3.2
    ·
     exact (nx h) fun _ _ h=>by exact ⟨m2,by omega,i+1,by omega,by omega,h.re [2,3,4,5,6]⟩
   ·
    clear hc2
    have hvj:(dc A B).1=nb l∧(dc A B).2=0:=by rw [fJ]; exact ⟨rfl,rfl⟩
    have hvs:dH (dc A B).1 (nb l)=true:=by rw [hvj.1]; exact qm (fun f=>(gC f f).2 rfl) _
    refine gz h <| (W) ?_; clear h ac wo; intro ac wo h
    refine yy (vs:=[.int .i64 ((dc A B).2)]) (xs:=(dc A B).1) h (ck Tryz.call74 rfl) (fun w_ hB_ hS_=>nh A s5 B s8 og za zb2 w_ (row_view hS_ 2 rfl) (row_view hS_ 1 rfl)) rfl ?_; clear h ac wo; intro s12 ac wo p12 h
    refine gz h <| (xc (ct:=by exact fun w_ hB_ hS_=>ml A s5 og rA za w_ (row_view hS_ 3 rfl))) <| (xg (hs:=by exact fun hg=>fi enA (fun w_ hB_ hS_=>kX _ s12 (nb l) s2 p12.1 (All.mono zu fun _ h=>rV h DC) w_ (row_view hS_ 0 rfl) (row_view hS_ 5 rfl)))) <| (W) ?_; clear h ac wo; intro ac wo h
    exact (rt h) (h.retP (by rw [fC,hvj.2,hvs]; unfold fR; rfl) trivial)
theorem qo (l m:List Stp):fR l m=true:=rfl
end Go.Sx
