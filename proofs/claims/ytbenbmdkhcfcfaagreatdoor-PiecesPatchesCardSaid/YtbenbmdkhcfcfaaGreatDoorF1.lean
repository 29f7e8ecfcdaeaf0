import Derived.Test.YtbenbmdkhcfcfaaGreatDoorHb
import Derived.Test.YtbenbmdkhcfcfaaGreatDoorQ4
import Derived.Test.YtbenbmdkhcfcfaaGreatDoorR2
import Derived.Test.YtbenbmdkhcfcfaaGreatDoorC1
set_option linter.unusedVariables false
set_option linter.unusedSimpArgs false
set_option maxRecDepth 100000
set_option maxHeartbeats 40000000
open Go.Proofs.Tryz renaming prog → zP
namespace Go.Sx
open Go Go.RowKit Go.Proofs
instance zi28:Bu zP 55 [] [] (.agg #[]):=Bu.of bld55 rfl rfl
instance zi29:Ie zP 55:=⟨fun hx=>xt Tryz.runUnderlying55 rfl hx⟩
instance zi30 (x:Iv) (f:Qd):Bu zP 126 [0,1] [vV x,vD f] (vUD (⟨x,f⟩:U Qd)):=Bu.of jh rfl rfl
instance zi31:Cf zP 76:=⟨Tryz.call76⟩
instance zi32:Cf zP 75:=⟨Tryz.call75⟩
end Go.Sx
namespace Go.Sx
open Go Go.RowKit Go.Proofs
attribute [local irreducible] Code.wp wpList Rd gW ObS Ent
attribute [local irreducible] an bB ah aO az c8
theorem join_is (a b:List (U Qd)):d5 a b=aV (a++b):=by unfold d5; rfl
end Go.Sx
namespace Go.Sx
open Go Go.RowKit Go.Proofs
attribute [local irreducible] Code.wp wpList Rd gW ObS Ent
attribute [local irreducible] an bB ah aO az c8
def iB (a b:List Iv):Bool:=decide (((dB a b).length:Int)>0)
theorem nL (a:List Iv) (av:Value) (b:List Iv) (bv:Value) (hla:a.length≤200) (hlb:b.length≤200) (hwa:∀ i∈a,Wv i) (hwb:∀ i∈b,Wv i) (za:All (SzV 30) a) (zb:All (SzV 30) b) (w0:World) (hav:View w0 av a) (hbv:View w0 bv b) :
 Calls zP 75 #[av,bv] w0 (RetP w0 (.bool (iB a b)) True):=by
 refine enter (N:=10) Tryz.func75 rfl rfl ?_; intro ac h
 haveI:On:=⟨trivial⟩
 refine gz h <| (W) ?_; clear h; intro _ _ h
 refine jj (xs:=dB a b) h (ck Tryz.call177 rfl) (fun w_ hB_ hS_=>nl a av b bv hla hlb hwa hwb za zb w_ (hav.below hB_) (hbv.below hB_)) rfl ?_; clear h; intro s _ _ _ h
 exact (rx h) fun _ _ h=>(h.retP (by unfold iB; rfl) trivial)
attribute [irreducible] iB
theorem over_iff (l m:List Stp):iB (aJ (nb l)) (aJ (nb m))=true↔Ov l m:=by
 unfold iB
 rw [decide_eq_true_iff,← ov_int]
 omega
theorem patch_is (l m:List Stp):eD (nb l) (nb m)=pq l m:=by unfold eD; rfl
theorem xP {α:Type} [Cod α] (w:World) (xs:List α) (hl:xs.length≤maxLen):∃ w' sv,Below w.heap.size w w'∧View w' sv xs:=by
 have hh:(w.alloc (.cells (flat xs).toArray 0)).heap=w.heap.push (.cells (flat xs).toArray 0 (0,0)):=rfl
 refine ⟨w.alloc (.cells (flat xs).toArray 0),.slice (some ⟨w.heap.size,0,none⟩) xs.length xs.length,⟨rfl,rfl,rfl,?_,fun k hk=>?_,Nat.le_refl _⟩,⟨hl,Nat.le_refl _⟩,.inr ⟨w.heap.size,0,xs.length,(flat xs).toArray,0,(0,0),rfl,?_,fun j hj=>?_⟩⟩
 ·rw [hh,Array.size_push]; omega
 ·rw [hh,Array.getElem?_push_lt hk]; exact (Array.getElem?_eq_getElem hk).symm
 ·rw [hh,Array.getElem?_push_size]
 ·rw [Nat.zero_add,List.getElem?_toArray]
theorem xQ (w:World) {a b:List Iv} (hla:a.length≤200) (hlb:b.length≤200) (ha:Cn a) (hb:Cn b) (za:All (SzV 30) a) (zb:All (SzV 30) b):(dg a b).length≤2*a.length+2*b.length:=by
 obtain ⟨w1,av,_,h1⟩:=xP w a (by unfold maxLen; omega)
 obtain ⟨w2,bv,h2,h3⟩:=xP w1 b (by unfold maxLen; omega)
 exact (RetR.pr (mm a av b bv hla hlb ha.wv hb.wv za zb w2 (h1.below h2) h3)).2
def iP (l m:List Stp):Bool:=true
theorem kf (l:List Stp) (lv:Value) (m:List Stp) (mv:Value) (w0:World) (hlv:View w0 lv l) (hmv:View w0 mv m):Calls zP 11 #[lv,mv] w0 (RetP w0 (.bool (iP l m)) (True)):=by
 refine enter (N:=140) Tryz.func11 rfl rfl ?_; intro ac h
 haveI:On:=⟨trivial⟩
 refine gz h <| (xk (mW)) <| (ai) ?_ ?_ <;> clear h ac <;> intro ac wo h hc1
 ·
  rw [knw] at hc1; cases hc1
 ·
  clear hc1
  refine gz h <| (W) ?_; clear h ac wo; intro ac wo h
  refine jj (xs:=aM l) h (ck Tryz.call27 rfl) (fun w_ hB_ hS_=>ka l lv w_ (hlv.below hB_)) rfl ?_; clear h ac wo; intro s1 ac wo p1 h
  obtain ⟨zb,nlb⟩:=p1
  refine jj (xs:=nb l) h (ck Tryz.call26 rfl) (fun w_ hB_ hS_=>iI _ s1 og zb w_ (row_view hS_ 0 rfl)) rfl ?_; clear h ac wo; intro s2 ac wo _ h
  have zu:All (gk 30) (nb l):=bn_sz l
  have lu:(nb l).length≤16:=uV l nlb
  refine gz h <| (W) ?_; clear h ac wo; intro ac wo h
  refine jj (xs:=aM m) h (ck Tryz.call27 rfl) (fun w_ hB_ hS_=>ka m mv w_ (hmv.below hB_)) rfl ?_; clear h ac wo; intro s3 ac wo p3 h
  obtain ⟨zb3,nlb3⟩:=p3
  refine jj (xs:=nb m) h (ck Tryz.call26 rfl) (fun w_ hB_ hS_=>iI _ s3 og zb3 w_ (row_view hS_ 0 rfl)) rfl ?_; clear h ac wo; intro s4 ac wo _ h
  have zv:All (gk 30) (nb m):=bn_sz m
  have lv4:(nb m).length≤16:=uV m nlb3
  replace h:=h.pick [0,2] DC
  refine gz h <| (W) ?_; clear h ac wo; intro ac wo h
  have q1:=RetR.pr (eE (nb l) s2 og (iU l).wv zu wo (h.row_view 1 rfl))
  have q2:=RetR.pr (eE (nb m) s4 og (iU m).wv zv wo (h.row_view 0 rfl))
  obtain ⟨qz1,ql1⟩:=q1
  obtain ⟨qz2,ql2⟩:=q2
  have hpd:(pd l m).length≤128:=Nat.le_trans (xQ w0 og og (pc l) (pc m) qz1 qz2) og
  have cd:=l5 l m
  have e1:(rsL (nb l) (pd l m)).length≤300:=Nat.le_trans (rp_len l cd) og
  have e2:(bE (nb l) (pd l m)).length≤280:=Nat.le_trans (xp l cd) og
  refine jj (xs:=eD (nb l) (nb m)) h (ck Tryz.call73 rfl) (fun w_ hB_ hS_=>mX (nb l) s2 (nb m) s4 og og (iU l).wv (iU m).wv (pc l).wv (pc m).wv (r_z l cd) e1 (r_z2 l cd) e2 zu zv w_ (row_view hS_ 1 rfl) (row_view hS_ 0 rfl)) rfl ?_; clear h ac wo; intro s5 ac wo p5 h
  clear p5
  rw [patch_is] at h
  have zp:=pq_z l m
  have lp:=pq_len l m hpd
  have fC:=pq_chk l m hpd
  have rP:=nf_rt (pG l m).nf.wv
  have fA:=fun (t:GR) (ht:Tm t)=>pq_at l m ht
  have fN:=ov_no l m
  have fY:=ov_yes l m
  have fV:=fun (t:GR) (ht:Tm t)=>ov_val l m ht
  generalize pq l m=P at h zp lp fC rP fA fN
  refine gz h <| (xc (ct:=by exact fun w_ hB_ hS_=>mj P s5 og rP zp w_ (row_view hS_ 0 rfl))) <| (ai) ?_ ?_ <;> clear h ac wo <;> intro ac wo h hc1
  ·
   rw [fC] at hc1; cases hc1
  ·
   clear hc1
   refine gz h <| (W) ?_; clear h ac wo; intro ac wo h
   refine jj (xs:=bk (nb l)) h (ck Tryz.call35 rfl) (fun w_ hB_ hS_=>it _ s2 og (mp_gap l) zu w_ (row_view hS_ 2 rfl)) rfl ?_; clear h ac wo; intro s9 ac wo p9 h
   refine gz h <| (W) ?_; clear h ac wo; intro ac wo h
   refine jj (xs:=bk (nb m)) h (ck Tryz.call35 rfl) (fun w_ hB_ hS_=>it _ s4 og (mp_gap m) zv w_ (row_view hS_ 2 rfl)) rfl ?_; clear h ac wo; intro s10 ac wo p10 h
   have l9:=p9.2
   have l10:=p10.2
   refine on2 h 1 0 rfl rfl (fe (xs:=bk (nb l)) (ys:=bk (nb m)) n7 (fun w hs=>(row_view hs 0 rfl)) rfl rfl og) rfl ?_; clear h ac wo; intro s11 ac wo _ h
   have tA:∀ i,i < (bk (nb l)++bk (nb m)).length→Tm (gt (bk (nb l)++bk (nb m)) i):=fun i hi=>by
    rcases List.mem_append.1 (j9 hi) with h | h
    ·exact qO (iU l).wv (xN l) _ h
    ·exact qO (iU m).wv (xN m) _ h
   have hAl:(bk (nb l)++bk (nb m)).length≤1000:=by rw [List.length_append]; omega
   generalize bk (nb l)++bk (nb m)=AT at h tA hAl
   refine gz h <| (W) ?_; clear h ac wo; intro ac wo h
   refine wp_loop_ghost (fun n_ a_ w_=>∃ (i:Nat) (b:Bool),(AT.length - i < n_)∧(i≤AT.length)∧(b=true→Ov l m)∧St w0 140 [(5,s2),(6,s4),(7,s5),(8,.bool b),(9,s11),(10,iN i)] [.row (α:=GR) 71 s11 AT,.row (α:=U Qd) 126 s5 P,.row (α:=U Qd) 126 s4 (nb m),.row (α:=U Qd) 126 s2 (nb l)] a_ w_) (AT.length+1) ⟨0,false,by omega,by omega,(fun h=>by cases h),h.re [0,2,3,4]⟩ ?_
   clear h ac wo; rintro n2 ac wo ⟨i,b,hm2,hi,hb,h⟩
   obtain ⟨m2,rfl⟩:∃ m,n2=m+1:=⟨n2 - 1,by omega⟩
   refine gz h <| (ai) ?_ ?_ <;> clear h ac wo <;> intro ac wo h hc2
   ·
    have hd2:=of_decide_eq_true hc2
    have ht:=tA i og
    have zt:=cr (k:=40) (j:=30) (nW ht) DC
    have z1:=au (lj P s5 (gt AT i) og zp zt wo (h.row_view 1 rfl))
    have z2:=au (fg (nb l) s2 (gt AT i) zu zt wo (h.row_view 3 rfl))
    have z3:=au (fg (nb m) s4 (gt AT i) zv zt wo (h.row_view 2 rfl))
    obtain ⟨f1,f2⟩:=fA _ ht
    have hb2:(b || ((bp (nb l) (gt AT i)).2 && (bp (nb m) (gt AT i)).2))=true→Ov l m:=fun e=>by
     rw [Bool.or_eq_true,Bool.and_eq_true] at e
     rcases e with e | e
     ·exact hb e
     ·exact fV _ ht e.1 e.2
    refine gz h <| (xc (ct:=by exact fun w_ hB_ hS_=>lj P s5 (gt AT i) og zp zt w_ (row_view hS_ 1 rfl))) <| (xa) fun b1=>(xc (ct:=by exact fun w_ hB_ hS_=>fg (nb l) s2 (gt AT i) zu zt w_ (row_view hS_ 4 rfl))) <| (xa) fun b2=>(xc (ct:=by exact fun w_ hB_ hS_=>fg (nb m) s4 (gt AT i) zv zt w_ (row_view hS_ 4 rfl))) <| (xa) fun b3=>(ai) ?_ ?_ <;> clear h ac wo <;> intro ac wo h hc3
    ·
     refine gz h <| (dr0 (hob:=(oG (by exact fun hg=>jI (dq P (gt AT i)).1 (bp (nb m) (gt AT i)).1 (gt AT i) 16 og z1 z3 zt)) <| oE)) <| (ai) ?_ ?_ <;> clear h ac wo <;> intro ac wo h hc4
     ·
      rw [f1,bne_self_eq_false,Bool.false_or,Bool.and_eq_true] at hc4
      rw [hc3,cond_true] at f2
      rw [f2 (by rw [f1]; exact hc4.1)] at hc4; cases hc4.2
     ·
      exact (nx h) fun _ _ h=>by exact ⟨m2,by omega,i+1,_,by omega,by omega,hb2,h.re [3,4,5,6]⟩
    ·
     refine gz h <| (dr0 (hob:=(oG (by exact fun hg=>jI (dq P (gt AT i)).1 (bp (nb l) (gt AT i)).1 (gt AT i) 16 og z1 z2 zt)) <| oE)) <| (ai) ?_ ?_ <;> clear h ac wo <;> intro ac wo h hc4
     ·
      rw [f1,bne_self_eq_false,Bool.false_or,Bool.and_eq_true] at hc4
      rw [hc3,cond_false] at f2
      rw [f2 (by rw [f1]; exact hc4.1)] at hc4; cases hc4.2
     ·
      exact (nx h) fun _ _ h=>by exact ⟨m2,by omega,i+1,_,by omega,by omega,hb2,h.re [3,4,5,6]⟩
   ·
    clear hc2
    have eO:=over_iff l m
    have pvs:dG P P=true:=qo (fun f=>(gy f f).2 rfl) _
    refine gz h <| (W) ?_; clear h ac wo; intro ac wo h
    refine yO (vs:=[.int .i64 ((d5 (nb l) (nb m)).2)]) (xs:=(d5 (nb l) (nb m)).1) h (ck Tryz.call74 rfl) (fun w_ hB_ hS_=>nj (nb l) s2 (nb m) s4 og zu zv w_ (row_view hS_ 3 rfl) (row_view hS_ 2 rfl)) rfl ?_; clear h ac wo; intro s12 ac wo p12 h
    rw [join_is] at h p12
    cases b with
    | true =>
     rw [fY (hb rfl)] at h
     refine gz h <| (xg (v:=undef) (g:=false) (hs:=by exact fun hg=>by cases hg) (hg:=rfl)) <| (xg (v:=undef) (g:=false) (hs:=by exact fun hg=>by cases hg) (hg:=rfl)) <| (xg (v:=undef) (g:=false) (hs:=by exact fun hg=>by cases hg) (hg:=rfl)) <| (xo (hs:=by exact r_or (b':=false) rfl (fun e=>by cases e))) <| (ai) ?_ ?_ <;> clear h ac wo <;> intro ac wo h hc3
     ·
      exact (rx h) fun _ _ h=>(h.retP rfl trivial)
     ·cases hc3
    | false =>
     refine gz h <| (W) ?_; clear h ac wo; intro ac wo h
     refine gK (c:=true) h rfl rfl rfl rfl ?_
     refine jj (xs:=aJ (nb l)) h (ck Tryz.call56 rfl) (fun w_ hB_ hS_=>eE _ s2 og (iU l).wv zu w_ (row_view hS_ 4 rfl)) rfl ?_; clear h ac wo; intro d1 ac wo _ h
     refine gz h <| (W) ?_; clear h ac wo; intro ac wo h
     refine gK (c:=true) h rfl rfl rfl rfl ?_
     refine jj (xs:=aJ (nb m)) h (ck Tryz.call56 rfl) (fun w_ hB_ hS_=>eE _ s4 og (iU m).wv zv w_ (row_view hS_ 4 rfl)) rfl ?_; clear h ac wo; intro d2 ac wo _ h
     refine gz h <| (xg (hs:=by exact fun hg=>fB enA (fun w_ hB_ hS_=>nL _ d1 _ d2 og og (pc l).wv (pc m).wv qz1 qz2 w_ (row_view hS_ 1 rfl) (row_view hS_ 0 rfl)))) <| (ai) ?_ ?_ <;> clear h ac wo <;> intro ac wo h hc3
     ·
      rw [Bool.false_or] at hc3
      rw [fY (eO.1 hc3)] at h
      exact (rx h) fun _ _ h=>(h.retP rfl trivial)
     ·
      rw [Bool.false_or] at hc3
      have no:¬ Ov l m:=fun e=>by rw [eO.2 e] at hc3; cases hc3
      rw [fN no] at h p12
      refine gz h <| (xg (hs:=by exact fun hg=>fB enA (fun w_ hB_ hS_=>kY P s12 P s5 p12.1 (All.mono zp fun _ h=>rZ h DC) w_ (row_view hS_ 2 rfl) (row_view hS_ 4 rfl)))) <| (W) ?_; clear h ac wo; intro ac wo h
      exact (rt h) (h.retP (by rw [pvs]; rfl) trivial)
theorem sC (l m:List Stp):iP l m=true:=rfl
end Go.Sx
