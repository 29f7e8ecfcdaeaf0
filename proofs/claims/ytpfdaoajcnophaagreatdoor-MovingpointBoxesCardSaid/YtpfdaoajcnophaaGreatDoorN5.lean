/- A part of the proof of movingpointBoxes. -/
import Derived.Test.YtpfdaoajcnophaaGreatDoorN4
import Derived.Test.YtpfdaoajcnophaaGreatDoorN2
import Derived.Test.YtpfdaoajcnophaaGreatDoorN3
set_option linter.unusedVariables false
set_option linter.unusedSimpArgs false
open Go.Proofs.Tryz renaming runUnderlying9 → uu9, underlying30 → nn30
namespace Go.Sx
open Go Go.RowKit Go.Proofs
set_option maxRecDepth 100000
set_option maxHeartbeats 40000000
attribute [local irreducible] Code.wp wpList Rd Step ObS Ent
attribute [local irreducible] ao aL ah au ax bN an aP
attribute [local irreducible] aH aI am aq aE ak aS dA ij bI aw bq bH
instance sz30:Sz Tryz.prog 30 8:=⟨Tryz.sizeOf30⟩
instance ag30:Ag Tryz.prog 30 true:=⟨Tryz.isAgg30⟩
instance un30:Un Tryz.prog 30 (.array 2 29):=⟨Tryz.runUnderlying30⟩
def cX2 (x y:XQ):List Value:=cXQ x++cXQ y
def vX2 (x y:XQ):Value:=.agg (cX2 x y).toArray
instance celX2 (x y:XQ):Cel (vX2 x y) (cX2 x y):=⟨rfl⟩
instance dcX2 (x y:XQ):Dc (cX2 x y) (vX2 x y):=⟨rfl⟩
section
attribute [local instance 2000] xY xZ
theorem aa0 (c:Crq) (s:List Stq) (sv:Value) (p q:Nat) (x0 x1:XQ) (hz:xsz x0≤9223372036854775807∧xsz x1≤9223372036854775807) (hng:¬ (Gd x0∧Gd x1)) (w0:World):Calls Tryz.prog 3 #[vCr c sv,vCt p q,vX2 x0 x1] w0 (dE w0 (.bool true) True):=by
 refine enter (N:=85) (args:=[vCr c sv,vCt p q,vX2 x0 x1]) Tryz.func3 rfl rfl ?_; intro ac h
 haveI:On:=⟨trivial⟩
 refine gz h <| (xb) fun b3=>(xb) fun b4=>(xb) fun b5=>(W) ?_; clear h ac; intro ac wo h
 refine wp_loop_ghost (fun n_ a_ w_=>∃ (i:Nat),(2 - i < n_)∧(i≤2)∧(0 < i→Gd x0)∧(1 < i→Gd x1)∧St w0 85 [(3,ptr b3 0),(4,ptr b4 0),(5,ptr b5 0),(7,iN i)] [.blk b5 (cX2 x0 x1) 30,.blk b4 (cCt p q) 25,.blk b3 (cCr c sv) 24] a_ w_) 3 ⟨0,by omega,by omega,fun h=>by omega,fun h=>by omega,h.re [0,1,2]⟩ ?_
 clear h ac wo; rintro n1 ac wo ⟨i,hm1,hi,g0',g1',h⟩
 obtain ⟨m1,rfl⟩:∃ m,n1=m+1:=⟨n1 - 1,by omega⟩
 refine gz h <| (ai) ?_ ?_ <;> clear h ac wo <;> intro ac wo h hc1
 ·
  have hd1:i < 2:=by have:=of_decide_eq_true hc1; omega
  obtain rfl | rfl:i=0∨i=1:=by omega
  ·
   by_cases hs8:xsz x0≤8
   ·
    obtain ⟨e,he,hG⟩:=tw x0 hs8
    have hs':x0.n.b.size+x0.d.b.size≤8:=hs8
    refine gz h <| (dr0 (hob:=(oX (h:=by exact fun _=>aQ (ie uu9 rfl))) <| (oX (h:=by exact fun _=>aQ (ie uu9 rfl))) <| (oG (by exact fun hg=>he)) <| oE)) <| (ai) ?_ ?_ <;> clear h ac wo <;> intro ac wo h hc2
    · refine gz h <| (xk jO) <| (W) ?_; clear h ac wo; intro ac wo h
      exact (rt h) (h.retP rfl trivial)
    · have he0:e=0:=by
       rw [Bool.or_eq_false_iff] at hc2
       exact Classical.byContradiction fun hn=>by rw [show (e != 0)=true from bne_iff_ne.2 hn] at hc2; exact Bool.noConfusion hc2.2
      refine gz h <| (W) ?_; clear h ac wo; intro ac wo h
      exact aO ⟨m1,by omega,1,by omega,by omega,fun _=>hG he0,fun h=>by omega,h.re [0,1,2]⟩
   ·
    have hs':x0.n.b.size+x0.d.b.size≤9223372036854775807:=hz.1
    have hs9:¬ x0.n.b.size+x0.d.b.size≤8:=hs8
    refine gz h <| (dr0 (hob:=(oX (h:=by exact fun _=>aQ (ie uu9 rfl))) <| (oX (h:=by exact fun _=>aQ (ie uu9 rfl))) <| (oG (by exact fun hg=>(big_no hs9 hg:∀ w0,Calls Tryz.prog 15 #[vXQ x0] w0 (dE w0 (.int .i64 0) True)))) <| oE)) <| (ai) ?_ ?_ <;> clear h ac wo <;> intro ac wo h hc2
    · refine gz h <| (xk jO) <| (W) ?_; clear h ac wo; intro ac wo h
      exact (rt h) (h.retP rfl trivial)
    · exfalso
      rw [decide_eq_true (by omega:(((x0.n.b.size+x0.d.b.size:Nat)):Int)>8)] at hc2
      exact Bool.noConfusion hc2
  ·
   by_cases hs8:xsz x1≤8
   ·
    obtain ⟨e,he,hG⟩:=tw x1 hs8
    have hs':x1.n.b.size+x1.d.b.size≤8:=hs8
    refine gz h <| (dr0 (hob:=(oX (h:=by exact fun _=>aQ (ie uu9 rfl))) <| (oX (h:=by exact fun _=>aQ (ie uu9 rfl))) <| (oG (by exact fun hg=>he)) <| oE)) <| (ai) ?_ ?_ <;> clear h ac wo <;> intro ac wo h hc2
    · refine gz h <| (xk jO) <| (W) ?_; clear h ac wo; intro ac wo h
      exact (rt h) (h.retP rfl trivial)
    · have he0:e=0:=by
       rw [Bool.or_eq_false_iff] at hc2
       exact Classical.byContradiction fun hn=>by rw [show (e != 0)=true from bne_iff_ne.2 hn] at hc2; exact Bool.noConfusion hc2.2
      refine gz h <| (W) ?_; clear h ac wo; intro ac wo h
      exact aO ⟨m1,by omega,2,by omega,by omega,fun _=>g0' (by omega),fun _=>hG he0,h.re [0,1,2]⟩
   ·
    have hs':x1.n.b.size+x1.d.b.size≤9223372036854775807:=hz.2
    have hs9:¬ x1.n.b.size+x1.d.b.size≤8:=hs8
    refine gz h <| (dr0 (hob:=(oX (h:=by exact fun _=>aQ (ie uu9 rfl))) <| (oX (h:=by exact fun _=>aQ (ie uu9 rfl))) <| (oG (by exact fun hg=>(big_no hs9 hg:∀ w0,Calls Tryz.prog 15 #[vXQ x1] w0 (dE w0 (.int .i64 0) True)))) <| oE)) <| (ai) ?_ ?_ <;> clear h ac wo <;> intro ac wo h hc2
    · refine gz h <| (xk jO) <| (W) ?_; clear h ac wo; intro ac wo h
      exact (rt h) (h.retP rfl trivial)
    · exfalso
      rw [decide_eq_true (by omega:(((x1.n.b.size+x1.d.b.size:Nat)):Int)>8)] at hc2
      exact Bool.noConfusion hc2
 ·
  have:i=2:=by have:=of_decide_eq_false hc1; omega
  exact absurd ⟨g0' (by omega),g1' (by omega)⟩ hng
end
end Go.Sx
namespace Go.Sx
theorem gt_no {β:Type} [Inhabited β] {d:List β} {i:Nat} (h:d.length≤i):gt d i=default:=by simp [gt,List.getD,List.getElem?_eq_none h]
def BxF (T:List (U Ln)):Prop:=∀ i,EnO (gt T i).f (gt T i).iv.lo∧EnO (gt T i).f (gt T i).iv.hi
theorem ou:ROk (default:GR):=⟨fB.1,fB.1,.inl ⟨fB.2,rfl⟩⟩
theorem qW:SzR 36 (default:GR):=uW (m:=1) (n:=1) (Bq.zero (by decide)) (Bq.zero (by decide)) (by decide) (by decide)
theorem vF:EnO (default:Ln) (default:GR) :=
 ⟨⟨fB.1,fB.1,fB.1,fB.1⟩,ou,⟨Bq.zero (by decide),Bq.zero (by decide),Bq.zero (by decide),Bq.zero (by decide)⟩,Bq.zero (by decide),Bq.zero (by decide)⟩
theorem bxf_of [K:Key] (hK:∀ t,Tm t→Bq 100 t.p∧Bq 100 t.r) {l:List (U Ln)} (hw:∀ u∈l,Wv u.iv) (hD:∀ u∈l,DL 16 140 u.f) {P:Pnt} (bx:Bq 64 P.x) (by_:Bq 64 P.y):BxF (l.map (mvU zQ P)):=fun i=>by
 by_cases hi:i < l.length
 · rw [jh (mvU zQ P) hi]
   have hm:=gtmL hi
   have w:=hw _ hm
   have b:=mvF_bl (h:=zQ) (hD _ hm) (Bq.zero (by decide)) bx by_
   have key:∀ t,Tm t→EnO (mvF zQ P (gt l i).f) (bH t zQ):=fun t ht=>by
    rw [rsh_zero ht.ok.1]
    exact ⟨b.ok,ht.ok,⟨b.1.le (by decide),b.2.1.le (by decide),b.2.2.1.le (by decide),b.2.2.2.le (by decide)⟩,(hK t ht).1,(hK t ht).2⟩
   exact ⟨key _ w.1.1,key _ w.1.2⟩
 · rw [gt_no (by rw [List.length_map]; omega)]
   exact ⟨vF,vF⟩
section
variable {T:List (U Ln)} (hT:BxF T)
include hT
theorem tB (k:Nat):EnO (gt T (k / 2)).f (enR T k):=by
 unfold enR
 cases (k % 2 == 0)
 · exact (hT _).2
 · exact (hT _).1
theorem bxf_f (i:Nat):SzN 30 (gt T i).f:=by
 have b:=(hT i).1.b
 exact ⟨cu (b.1.sz (by decide)) (by decide),cu (b.2.1.sz (by decide)) (by decide),cu (b.2.2.1.sz (by decide)) (by decide),cu (b.2.2.2.sz (by decide)) (by decide)⟩
theorem bxf_t (k:Nat):SzR 36 (enR T k):=uW (tB hT k).bp (tB hT k).br (by decide) (by decide)
theorem bxf_x (k:Nat):ROk (enP T k).x∧SzR 36 (enP T k).x:=(tB hT k).x.1
theorem bxf_y (k:Nat):ROk (enP T k).y∧SzR 36 (enP T k).y:=(tB hT k).x.2
theorem aav (n:Nat):∀ i,(ROk (gt (bX T n) i)∧SzR 36 (gt (bX T n) i))∧(ROk (gt (bY T n) i)∧SzR 36 (gt (bY T n) i))∧(ROk (gt (bT T n) i)∧SzR 36 (gt (bT T n) i)):=fun i=>by
 by_cases hi:i < n
 · unfold bX bY bT
   rw [jh (fun k=>(enP T k).x) (by simpa using hi),jh (fun k=>(enP T k).y) (by simpa using hi),jh (enR T) (by simpa using hi),vv hi]
   exact ⟨bxf_x hT i,bxf_y hT i,(tB hT i).ok,bxf_t hT i⟩
 · rw [gt_no (by rw [qO]; omega),gt_no (by rw [qN]; omega),gt_no (by rw [qP]; omega)]
   exact ⟨⟨ou,qW⟩,⟨ou,qW⟩,⟨ou,qW⟩⟩
end
end Go.Sx
namespace Go.Sx
open Go Go.RowKit Go.Proofs
set_option maxRecDepth 100000
set_option maxHeartbeats 40000000
attribute [local irreducible] Code.wp wpList Rd Step ObS Ent
attribute [local irreducible] ao aL ah au ax bN an aP
attribute [local irreducible] aH aI am aq aE ak aS dA ij bI aw bq bH
attribute [local irreducible] w6
def cPr2 (x y:GQ):List Value:=cQ x++cQ y
def vPr2 (x y:GQ):Value:=.agg (cPr2 x y).toArray
instance celPr2 (x y:GQ):Cel (vPr2 x y) (cPr2 x y):=⟨rfl⟩
instance dcPr2 (x y:GQ):Dc (cPr2 x y) (vPr2 x y):=⟨rfl⟩
theorem aa2 (lv:Value) (w0:World) (hlv:View w0 lv ([]:List (U Ln))):Calls Tryz.prog 20 #[lv] w0 (dE w0 (.tuple #[vBx ⟨0,0,0,0,0,0⟩,.int .i64 10]) True):=by
 refine enter (N:=124) (args:=[lv]) Tryz.func20 rfl rfl ?_; intro ac h
 have hlen:=hlv.len
 refine gz h <| (xa) fun b1=>(ai) ?_ ?_ <;> clear h ac <;> intro ac wo h hc1
 · refine gz h <| (W) ?_; clear h ac wo; intro ac wo h
   exact qp 0 h (h.retP (u:=.tuple #[vBx ⟨0,0,0,0,0,0⟩,.int .i64 10]) rfl trivial)
 · cases hc1
theorem vbox0_ct (lv:Value) (w0:World) (hlv:View w0 lv ([]:List (U Ln))):Calls Tryz.prog 21 #[lv] w0 (dE w0 (.tuple #[vBx ⟨0,0,0,0,0,0⟩,.int .i64 10]) True):=by
 refine enter (N:=83) (args:=[lv]) Tryz.func21 rfl rfl ?_; intro ac h
 have hlen:=hlv.len
 refine gz h <| (xa) fun b1=>(ai) ?_ ?_ <;> clear h ac <;> intro ac wo h hc1
 · refine gz h <| (W) ?_; clear h ac wo; intro ac wo h
   exact qp 0 h (h.retP (u:=.tuple #[vBx ⟨0,0,0,0,0,0⟩,.int .i64 10]) rfl trivial)
 · cases hc1
instance cf20:Cf Tryz.prog 20:=⟨Tryz.call20⟩
instance cf21:Cf Tryz.prog 21:=⟨Tryz.call21⟩
attribute [local instance] aa4 bld27'
theorem aa1 (c:Crq) (s:List Stq) (sv:Value) (p q:Nat) (a0 a1:GQ) (hp:p < 256) (hq:q < 256) (k0:Gq a0) (k1:Gq a1) (hc:c.time < 256∧c.x < 256∧c.y < 256) (hs:∀ i,B4 (gt s i)) (w0:World) (hsv:View w0 sv s):Calls Tryz.prog 3 #[vCr c sv,vCt p q,vPr2 a0 a1] w0 (dE w0 (.bool true) True):=by
 refine enter (N:=85) (args:=[vCr c sv,vCt p q,vPr2 a0 a1]) Tryz.func3 rfl rfl ?_; intro ac h
 haveI:On:=⟨trivial⟩
 have tI:TmI (an zQ):=⟨n7 fB.1,by rw [(vz zQ).1]; exact Bq.zero (by decide),by rw [(vz zQ).2.1]; exact Bq.zero (by decide)⟩
 letI:Key:=keyT p q (an zQ) hp hq tI
 haveI:KeyZ:=ktZ
 haveI:KeyB:=ktB
 haveI:KeyG p q:=ktG
 have hK:∀ t,Tm t→Bq 100 t.p∧Bq 100 t.r:=fun t ht=>kt_bq hp hq tI (wg.1 ht)
 refine gz h <| (xb) fun b3=>(xb) fun b4=>(xb) fun b5=>(W) ?_; clear h ac; intro ac wo h
 refine wp_loop_ghost (fun n_ a_ w_=>∃ (i:Nat),(2 - i < n_)∧(i≤2)∧St w0 85 [(3,ptr b3 0),(4,ptr b4 0),(5,ptr b5 0),(7,iN i)] [.blk b5 (cPr2 a0 a1) 30,.blk b4 (cCt p q) 25,.blk b3 (cCr c sv) 24] a_ w_) 3 ⟨0,by omega,by omega,h.re [0,1,2]⟩ ?_
 clear h ac wo; rintro n1 ac wo ⟨i,hm1,hi,h⟩
 obtain ⟨m1,rfl⟩:∃ m,n1=m+1:=⟨n1 - 1,by omega⟩
 refine gz h <| (ai) ?_ ?_ <;> clear h ac wo <;> intro ac wo h hc1
 ·
  have hd1:i < 2:=by have:=of_decide_eq_true hc1; omega
  obtain rfl | rfl:i=0∨i=1:=by omega
  ·
   have hs':(bs a0.num.mag).size+(bs a0.den.mag).size≤16:=by
    rw [em,em]
    have u1:=(cp 8 a0.num.mag).2 k0.2.1
    have u2:=(cp 8 a0.den.mag).2 k0.2.2
    omega
   refine gz h <| (dr0 (hob:=(oX (h:=by exact fun _=>aQ (ie uu9 rfl))) <| (oX (h:=by exact fun _=>aQ (ie uu9 rfl))) <| (oG (by exact fun hg=>fq a0 (sz16 k0))) <| oE)) <| (ai) ?_ ?_ <;> clear h ac wo <;> intro ac wo h hc2
   · refine gz h <| (xk jO) <| (W) ?_; clear h ac wo; intro ac wo h
     exact (rt h) (h.retP rfl trivial)
   · refine gz h <| (W) ?_; clear h ac wo; intro ac wo h
     exact aO ⟨m1,by omega,1,by omega,by omega,h.re [0,1,2]⟩
  ·
   have hs':(bs a1.num.mag).size+(bs a1.den.mag).size≤16:=by
    rw [em,em]
    have u1:=(cp 8 a1.num.mag).2 k1.2.1
    have u2:=(cp 8 a1.den.mag).2 k1.2.2
    omega
   refine gz h <| (dr0 (hob:=(oX (h:=by exact fun _=>aQ (ie uu9 rfl))) <| (oX (h:=by exact fun _=>aQ (ie uu9 rfl))) <| (oG (by exact fun hg=>fq a1 (sz16 k1))) <| oE)) <| (ai) ?_ ?_ <;> clear h ac wo <;> intro ac wo h hc2
   · refine gz h <| (xk jO) <| (W) ?_; clear h ac wo; intro ac wo h
     exact (rt h) (h.retP rfl trivial)
   · refine gz h <| (W) ?_; clear h ac wo; intro ac wo h
     exact aO ⟨m1,by omega,2,by omega,by omega,h.re [0,1,2]⟩
 ·
  refine gz h <| (xk jO) <| (xg (hs:=by exact fun hg=>gk enA (fun w_ hB_ hS_=>short_ct c s sv w_ (hsv.below hB_)))) <| (ai) ?_ ?_ <;> clear h ac wo <;> intro ac wo h hc2
  ·
   refine gz h <| (xk jO) <| (W) ?_; clear h ac wo; intro ac wo h
   exact (rt h) (h.retP rfl trivial)
  have hl:s.length≤6:=by
   have h9:decide (((s.length:Nat):Int)≤6)=true:=by simpa using hc2
   have:=of_decide_eq_true h9; omega
  obtain ⟨hN,hD,_⟩:=mov_ok c s p q
  have hn:=mov_len c s p q
  obtain ⟨l,hle⟩:∃ l,xh c s p q=l:=⟨_,rfl⟩
  rw [hle] at hN hD hn
  have q0:=gq_bq k0
  have q1:=gq_bq k1
  have qz:Bq 64 zQ:=Bq.zero (by decide)
  obtain ⟨P,hP⟩:∃ P:Pnt,(⟨a0,a1⟩:Pnt)=P:=⟨_,rfl⟩
  have hPo:POk P:=by rw [← hP]; exact ⟨k0.1,k1.1⟩
  have bPx:Bq 64 P.x:=by rw [← hP]; exact q0
  have bPy:Bq 64 P.y:=by rw [← hP]; exact q1
  have zP:SzP 20 P:=⟨cu (bPx.sz (by decide)) og,cu (bPy.sz (by decide)) og⟩
  have zz:SzQ 30 zQ:=cu (qz.sz (by decide)) og
  have hLO:∀ u∈l,LOk u.f:=fun u hu=>(hD u hu).ok
  have zl:All (jD 30) l:=mv_sz hN hD 30 (by decide)
  have nT:=moved_nf (h:=zQ) (p:=P) fB.1 hPo hN hLO
  have zT:All (jD 30) (l.map (mvU zQ P)):=mvU_sz hN hD qz bPx bPy
  have bf:BxF (l.map (mvU zQ P)):=bxf_of hK hN.wv hD bPx bPy
  have lT:(l.map (mvU zQ P)).length < 20:=by rw [List.length_map]; omega
  have cm:=fun (lv:Value) (w:World) (hv:View w lv l)=>moved_ct l lv zQ P (by omega) zl zz zP zT w hv
  have f2:(aU (l.map (mvU zQ P))).1=l.map (mvU zQ P):=by rw [nT]
  rw [f2] at cm
  obtain ⟨T,hT⟩:∃ T,l.map (mvU zQ P)=T:=⟨_,rfl⟩
  rw [hT] at cm bf lT
  clear nT f2 zT
  refine gz h <| (W) ?_; clear h ac wo; intro ac wo h
  replace h:=h.emps 2
  refine eZ mixed [dw (vCr c sv) [2],dw (vCt p q) [1],⟨.nd (.con True),[3]⟩,dv (vQ oQ),dv _,dw (vQ a0) [0],dv _,dw (vQ a1) [0],dv (vPt P),⟨.nd (.con True),[4,3]⟩,⟨.nd (.two 10 9 fun a b=>a=b),[]⟩]
   [⟨_,[]⟩,⟨_,[]⟩,⟨_,[]⟩,⟨.emp,[(2,.one 2 fun x=>.row (α:=U Ln) 165 x l)]⟩,⟨.emp,[(9,.one 9 fun x=>.row (α:=U Ln) 165 x T)]⟩] h rfl (by kernel_rfl)
   ⟨oA obA,oA obA,
    fun ξ _=>oB (B:=fun x=>[.row (α:=U Ln) 165 x l]) [.emp] rfl (fun v _=>by simp only [dg,bA] <;> rfl) (fun _ _=>trivial) (jX (s_row (dH Tryz.call19 rfl) (fun w_ hB_ hS_=>by rw [← hle]; exact y7 c s sv p q hp hq hc hs hl w_ (hsv.below hB_)))),
    oA (fun _=>aQ (bK nv exs rfl (v:=vQ oQ) rfl)),oA obA,oA obA,oA obA,oA obA,(by rw [← hP]; exact oA fun _=>aQ (bK bld29 rfl rfl rfl)),
    fun ξ _=>oB (B:=fun x=>[.row (α:=U Ln) 165 x T,.row (α:=U Ln) 165 (ξ 2) l]) [.emp,.row (α:=U Ln) 165 (ξ 2) l] rfl (fun v _=>by simp only [dg,bA] <;> rfl) (fun _ _=>trivial) (s_empR (s_row (dH Tryz.call18 rfl) (fun w_ hB_ hS_=>cm (ξ 2) w_ (row_view hS_ 0 rfl)))),
    fun _ _=>pm (j:=9) (by decide) rfl,trivial⟩ ?_
  clear h ac wo; intro ξ ac wo hφ h
  replace h:St w0 85 [(8,ξ 9)] [.row (α:=U Ln) 165 (ξ 9) T] ac wo:=(by have:=(h.pick [4] (by decide)).sub (F':=[(8,ξ 10)]) ⟨rfl,trivial⟩; rw [show ξ 10=ξ 9 from hφ 10] at this; exact this)
  generalize ξ 9=lv at h
  clear hφ ξ
  obtain ⟨V,cb,cv⟩:∃ V:Bx×Int,(∀ (lv:Value) (w:World),View w lv T→Calls Tryz.prog 20 #[lv] w (dE w (.tuple #[vBx V.1,.int .i64 V.2]) True))∧(∀ (lv:Value) (w:World),View w lv T→Calls Tryz.prog 21 #[lv] w (dE w (.tuple #[vBx V.1,.int .i64 V.2]) True)):=by
   by_cases h0:0 < T.length
   · have bl:=aav bf (2*T.length)
     exact ⟨_,fun lv w hv=>boxG_ct T lv h0 (by omega) (bxf_f bf) (fun k=>⟨fh (bxf_t bf k) og,trivial⟩) (fun i=>(bl i).1.2) (fun i=>(bl i).2.1.2) (fun i=>(bl i).2.2.2) w hv,
      fun lv w hv=>vbox_ct T lv h0 (by omega) (bxf_f bf) (bxf_t bf) (fun k=>(bxf_x bf k).2) (fun k=>(bxf_y bf k).2) (fun i=>(bl i).1.1) (fun i=>(bl i).2.1.1) (fun i=>(bl i).2.2.1) w hv⟩
   · have:T=[]:=List.eq_nil_of_length_eq_zero (by omega)
     rw [this]
     exact ⟨(⟨0,0,0,0,0,0⟩,10),fun lv w hv=>aa2 lv w hv,fun lv w hv=>vbox0_ct lv w hv⟩
  have c0:=fun w=>aa2 (.slice none 0 0) w View.nilv
  refine gz h <| (xc (ct:=by exact fun w_ hB_ hS_=>cb lv w_ (row_view hS_ 0 rfl))) <| (xa) fun b9=>(W) ?_; clear h ac wo; intro ac wo h
  refine gz h <| (xc (ct:=by exact fun w_ hB_ hS_=>cv lv w_ (row_view hS_ 1 rfl))) <| (xa) fun b11=>(W) ?_; clear h ac wo; intro ac wo h
  refine gz h <| (xk c0) <| (xa) fun b13=>(W) ?_; clear h ac wo; intro ac wo h
  exact (rt h) (h.retP (by simp; rfl) trivial)
end Go.Sx
namespace Go.Sx
open Go Go.RowKit Go.Proofs
theorem boxes_ct (c:Crq) (s:List Stq) (sv:Value) (p q:Nat) (x0 x1:XQ) (hp:p < 256) (hq:q < 256) (hz:xsz x0≤9223372036854775807∧xsz x1≤9223372036854775807) (hc:c.time < 256∧c.x < 256∧c.y < 256) (hs:∀ i,B4 (gt s i)) (w0:World) (hsv:View w0 sv s):Calls Tryz.prog 3 #[vCr c sv,vCt p q,vX2 x0 x1] w0 (dE w0 (.bool true) True):=by
 by_cases hg:Gd x0∧Gd x1
 · obtain ⟨a0,rfl,k0⟩:=gd_gq hg.1
   obtain ⟨a1,rfl,k1⟩:=gd_gq hg.2
   exact aa1 c s sv p q a0 a1 hp hq k0 k1 hc hs w0 hsv
 · exact aa0 c s sv p q x0 x1 hz hg w0
end Go.Sx
namespace Go.Sx
open Go Go.RowKit Go.Proofs Go.ChangeShapes Go.WideShapes
set_option maxRecDepth 100000
section
variable {H:Type} {enc:TypeId×Value→H} {W:World} {base:Nat} {sp:Nat→Bool} {held:Bool}
theorem wE {v:Value} {d:DataW H} {p:List MemPlace} (hval:Value.okWide Tryz.prog W .any base 30 v) (h:DataW.Trod enc Tryz.prog W 0 sp held 30 v d p) (hw:(DataW.weights Tryz.prog 30 d).all (·≤reachBytes)=true) :
 ∃ x y:XQ,v=vX2 x y∧xsz x≤9223372036854775807∧xsz y≤9223372036854775807:=by
 unfold Value.okWide at hval
 rw [nn30] at hval
 obtain ⟨ar,rfl,hsz,_,_⟩:=hval
 obtain ⟨fuel,hf⟩:=h
 obtain ⟨ys,m,_,hx,hlen,hyl,hg⟩:=DataW.trod_array nn30 hf
 have ka:Tryz.prog.cellsOf 30=8:=by kernel_rfl
 have k27:Tryz.prog.cellsOf 29=4:=by kernel_rfl
 rw [ka] at hsz
 have g0:=hg 0 (by decide)
 have g1:=hg 1 (by decide)
 rw [k27] at g0 g1
 obtain ⟨y0,y1,rfl⟩:∃ y0 y1,ys=[y0,y1]:=by
  have:ys.length=2:=hyl
  match ys,this with
  | [y0,y1],_=>exact ⟨_,_,rfl⟩
 obtain ⟨x,e0,d0⟩:=uI g0
 obtain ⟨y,e1,d1⟩:=uI g1
 have hd:d=.agg [dXQ x,dXQ y]:=by
  have:d=.agg ([y0,y1].map (·.1)):=congrArg Prod.fst hx
  rw [this]
  show DataW.agg [y0.1,y1.1]=_
  rw [d0,d1]
 have hb:∀ u:XQ,u.n.b.data.toList.length≤reachBytes→u.d.b.data.toList.length≤reachBytes→xsz u≤9223372036854775807:=fun u h1 h2=>by
  have e1:u.n.b.size=u.n.b.data.toList.length:=rfl
  have e2:u.d.b.size=u.d.b.data.toList.length:=rfl
  unfold reachBytes at h1 h2
  unfold xsz
  omega
 rw [hd] at hw
 have hw2:(DataW.weights Tryz.prog 30 (.agg [dXQ (H:=H) x,dXQ y]))=[x.n.b.data.toList.length,x.d.b.data.toList.length,y.n.b.data.toList.length,y.d.b.data.toList.length]:=by
  simp [DataW.weights,DataW.weightsAll,nn30,w_xq]
 rw [hw2] at hw
 simp only [List.all_cons,List.all_nil,Bool.and_true,Bool.and_eq_true,decide_eq_true_eq] at hw
 obtain ⟨w1,w2,w3,w4⟩:=hw
 refine ⟨x,y,?_,hb x w1 w2,hb y w3 w4⟩
 show Value.agg ar=.agg (cXQ x++cXQ y).toArray
 congr 1
 apply Array.toList_inj.1
 have hl:ar.toList.length=8:=by rw [Array.length_toList]; exact hsz
 have ec:(Value.cells (.agg ar)).toList=ar.toList:=by simp [Value.cells]
 rw [ec] at e0 e1
 rw [← e0,← e1]
 match h9:ar.toList,hl with
 | [a,b,c,d,e,f,g,h],_=>simp
end
end Go.Sx
