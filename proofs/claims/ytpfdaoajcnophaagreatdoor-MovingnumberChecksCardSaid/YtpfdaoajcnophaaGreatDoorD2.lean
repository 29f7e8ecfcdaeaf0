/- A part of the proof of movingnumberChecks. -/
import Derived.Test.YtpfdaoajcnophaaGreatDoorD1
import Derived.Test.YtpfdaoajcnophaaGreatDoorC9
import Derived.Shelf.Spec.SlicesGrow
set_option linter.unusedVariables false
set_option linter.unusedSimpArgs false
open Go.Proofs.Tryz renaming runUnderlying328 → uu328, zeroValue328 → vv328, sizeOf74 → zz74, sizeOf3 → zz3, runUnderlying86 → uu86, sizeOf88 → zz88, runUnderlying88 → uu88, isAgg74 → aa74, sizeOf72 → zz72, sizeOf4 → zz4, runUnderlying326 → uu326, zeroValue326 → vv326, zeroValue99 → vv99, runUnderlying99 → uu99
namespace Go.Sx
structure Pc where
 iv:Iv
 s:Int
deriving DecidableEq
instance inhPc:Inhabited Pc:=⟨⟨default,0⟩⟩
def vk (i:Iv):Int :=
 bif (dO i.lo != 0) || (dO i.hi != 0) then 5
 else bif decide (ah i.lo i.hi>0) || (ah i.lo i.hi == 0 && (i.openLo || i.openHi)) then 10 else 0
def sW (i:Iv) (t:GR):Bool :=
 (decide (ah i.lo t < 0) || (ah i.lo t == 0 && !i.openLo)) && (decide (ah t i.hi < 0) || (ah t i.hi == 0 && !i.openHi))
def qI (S:Iv→Int) (i:Iv) (st:List Pc×Iv) (r:GR):List Pc×Iv :=
 bif !sW i r then st else
 ((bif decide (ah st.2.lo r < 0) then st.1++[⟨⟨st.2.lo,r,st.2.openLo,true⟩,S ⟨st.2.lo,r,st.2.openLo,true⟩⟩] else st.1)++[⟨⟨r,r,false,false⟩,0⟩],⟨r,st.2.hi,true,st.2.openHi⟩)
def m8 (S:Iv→Int) (q:Qd) (i:Iv):List Pc×Iv:=(dU q).1.foldl (qI S i) ([],i)
def qt (S:Iv→Int) (q:Qd) (i:Iv):List Pc×Int :=
 bif vk i != 0 then ([],vk i) else (bif vk (m8 S q i).2 == 0 then (m8 S q i).1++[⟨(m8 S q i).2,S (m8 S q i).2⟩] else (m8 S q i).1,0)
def mW (W:Int→Bool) (st:List Iv×Bool) (p:Pc):List Iv×Bool :=
 (bif W p.s && st.2 then st.1.set (st.1.length - 1) ⟨(gt st.1 (st.1.length - 1)).lo,p.iv.hi,(gt st.1 (st.1.length - 1)).openLo,p.iv.openHi⟩ else bif W p.s then st.1++[p.iv] else st.1,W p.s)
def whR (W:Int→Bool) (l:List Pc):List Iv:=(l.foldl (mW W) ([],false)).1
def wnt (a b c:Bool) (s:Int):Bool:=if s=-1 then a else if s=0 then b else c
def exF:Qd:=⟨⟨⟨true,2⟩,⟨false,0⟩⟩,oQ,⟨⟨false,1⟩,⟨false,0⟩⟩⟩
def in4:GR:=⟨⟨⟨false,4⟩,⟨false,0⟩⟩,oQ,false⟩
def exI:Iv:=⟨⟨oQ,oQ,false⟩,in4,false,false⟩
def nN:GR:=⟨oQ,⟨⟨false,2⟩,⟨false,0⟩⟩,false⟩
def sqm2:GR:=⟨oQ,⟨⟨false,2⟩,⟨false,0⟩⟩,true⟩
theorem rY:dU exF=([sqm2,nN],0):=by decide +kernel
theorem ex_sgns:∀ S,qt S exF exI=([⟨⟨⟨oQ,oQ,false⟩,nN,false,true⟩,S ⟨⟨oQ,oQ,false⟩,nN,false,true⟩⟩,⟨⟨nN,nN,false,false⟩,0⟩,⟨⟨nN,in4,true,false⟩,S ⟨nN,in4,true,false⟩⟩],0):=fun S=>by kernel_rfl
theorem ex_wh {s1 s2:Int} (h1:s1=-1) (h2:s2=1):whR (wnt true false false) [⟨⟨⟨oQ,oQ,false⟩,nN,false,true⟩,s1⟩,⟨⟨nN,nN,false,false⟩,0⟩,⟨⟨nN,in4,true,false⟩,s2⟩]=[⟨⟨oQ,oQ,false⟩,nN,false,true⟩]:=by
 subst h1; subst h2; decide +kernel
theorem ok0:ROk (⟨oQ,oQ,false⟩:GR):=ji (by decide +kernel)
theorem ok4:ROk in4:=ji (by decide +kernel)
theorem ok2:ROk nN:=ji (by decide +kernel)
theorem okm:ROk sqm2:=ji (by decide +kernel)
end Go.Sx
namespace Go.Sx
section
variable [K:Key]
structure EOk (E:List GR):Prop where
 tm:∀ k,k < E.length→Tm (gt E k)
 lt:∀ j k,j < k→k < E.length→tk (gt E j) < tk (gt E k)
variable {H S:Nat→Bool} {E:List GR}
theorem EOk.le (h:EOk E) {j k:Nat} (hj:j≤k) (hk:k < E.length):tk (gt E j)≤tk (gt E k):=by
 rcases Nat.lt_or_eq_of_le hj with h1 | rfl
 · exact Nat.le_of_lt (h.lt j k h1 hk)
 · exact Nat.le_refl _
theorem lst_kB (i:Iv):kB (aI i)=2*tk i.hi+(bif !i.openHi then 1 else 0):=by rw [pl]; rfl
theorem fst_kB (i:Iv):kB (aJ i)=2*tk i.lo+(bif i.openLo then 1 else 0):=by rw [pf]; rfl
theorem inP_1 {i:Iv} {q:Nat}:inP [i] q↔inI i q:=⟨fun h=>(fF.1 h).elim id fun h=>absurd h (l9 _),fun h=>fF.2 (.inl h)⟩
end
end Go.Sx
namespace Go.Sx
open Go Go.RowKit Go.Proofs
set_option maxRecDepth 100000
set_option maxHeartbeats 8000000
attribute [local irreducible] Code.wp wpList Rd Step ObS Ent
attribute [local irreducible] ah ak aq an bN aQ
attribute [local irreducible] aW aR aj aB aM ao bA ab aa aZ cM aw aH
attribute [local irreducible] bE
instance cf242:Cf Tryz.prog 242:=⟨Tryz.call242⟩
theorem bldQ0:Bu Tryz.prog 29 [] [] (vQ oQ):=Bu.of mR rfl rfl
attribute [local instance] bldQ0
theorem ye (q:Qd) (zq:SzD 40 q) (w0:World):Calls Tryz.prog 242 #[vD q] w0 (RetT w0 46 (dU q).1 [.int .i64 (dU q).2] True):=by
 refine enter (N:=98) (args:=[vD q]) Tryz.func242 rfl rfl ?_; intro ac h
 haveI:On:=⟨trivial⟩
 have c1:=fi (-2) 40 og og
 have s1:=ar (c1 w0)
 have c2:=bq (ak (-2)) q.c2 38 og s1 zq.2.2
 have s2:=ar (c2 w0)
 have c3:=mH q.c1 (aj (ak (-2)) q.c2) 36 og (di zq.2.1 og) s2
 have s3:=ar (c3 w0)
 unfold dU
 obtain ⟨half,hh⟩:∃ half,bE q.c1 (aj (ak (-2)) q.c2)=half:=⟨_,rfl⟩
 rw [hh] at c3 s3 ⊢
 have c4:=bq half half 34 og s3 s3
 have s4:=ar (c4 w0)
 have c5:=mH q.c0 q.c2 38 og zq.1 zq.2.2
 have s5:=ar (c5 w0)
 have c6:=dA (aj half half) (bE q.c0 q.c2) 31 og s4 (di s5 og)
 have s6:=ar (c6 w0)
 obtain ⟨r,hr⟩:∃ r,ao (aj half half) (bE q.c0 q.c2)=r:=⟨_,rfl⟩
 rw [hr] at c6 s6 ⊢
 have c7:=fi 1 40 og og
 have s7:=ar (c7 w0)
 have c8:=cB r
 have c9:=eN (ak 1) 40 og s7
 have s9:=ar (c9 w0)
 have c10:=lK half (aM (ak 1)) r 10 og (di s3 og) (di s9 og) (di s6 og) trivial (di s6 og)
 have c11:=lK half (ak 1) r 10 og (di s3 og) (di s7 og) (di s6 og) trivial (di s6 og)
 have c12:=g8 half 36 og s3
 refine gz h <| (xb) fun b1=>(xa) fun b2=>(ai) ?_ ?_ <;> clear h ac <;> intro ac wo h hc1
 · rw [hc1]
   refine gz h <| (W) ?_; clear h ac wo; intro ac wo h
   replace h:=h.nilRow (α:=GR) 46
   exact (rt h) (h.retT 0 rfl rfl trivial)
 rw [hc1,cond_false]
 refine gz h <| (ai) ?_ ?_ <;> clear h ac wo <;> intro ac wo h hc2
 · rw [hc2]
   refine gz h <| (W) ?_; clear h ac wo; intro ac wo h
   replace h:=h.nilRow (α:=GR) 46
   exact (rt h) (h.retT 0 rfl rfl trivial)
 rw [hc2,cond_false]
 refine gz h <| (ai) ?_ ?_ <;> clear h ac wo <;> intro ac wo h hc3
 · rw [hc3]
   have d1:=mH q.c0 q.c1 38 og zq.1 zq.2.1
   have d2:=eN (bE q.c0 q.c1) 38 og (ar (d1 w0))
   have d3:=g8 (aM (bE q.c0 q.c1)) 38 og (ar (d2 w0))
   refine gz h <| (xk d1) <| (xk d2) <| (xk d3) <| (W) ?_; clear h ac wo; intro ac wo h
   refine nw h (bT (α:=GR) (xs:=[.tmp 52]) (vs:=[vR (aQ (aM (bE q.c0 q.c1)))]) [aQ (aM (bE q.c0 q.c1))] wD rfl rfl rfl (by decide)) rfl ?_; clear h ac wo; intro v1 ac wo _ h
   refine gz h <| (W) ?_; clear h ac wo; intro ac wo h
   exact (rt h) (h.retT 0 rfl rfl trivial)
 rw [hc3,cond_false]
 refine gz h <| (W) ?_; clear h ac wo; intro ac wo h
 replace h:St w0 98 [(1,ptr b1 0),(4,ptr b2 0)] [.blk b2 (cQ oQ) 29,.blk b1 (cD q) 72] ac wo:=h.re [0,1]
 replace h:=h.emps 1
 refine fU mixed [dv (ptr b1 4),dw (vQ q.c1) [1],dv _,dv (ptr b1 8),dw (vQ q.c2) [1],dv _,dv _,⟨.nd (.one 7 fun x=>∃ b,x=ptr b 0),[2]⟩,dw undef [2]] [⟨_,[]⟩,⟨_,[]⟩,⟨.emp,[(7,.one 7 fun x=>.blk (bR x) (cQ oQ) 29),(8,.one 7 fun y=>.blk (bR y) (cQ half) 29)]⟩] h rfl (by kernel_rfl)
  ⟨oA obA,oA obA,oA fun _=>i0 (iC Tryz.call101 rfl c1),oA obA,oA obA,oA fun _=>i0 (iC Tryz.call172 rfl c2),oA fun _=>i0 (iC Tryz.call291 rfl c3),fun _ _=>pS 2 rfl (fun _=>rfl),fun ξ hφ=>pQ (u:=vQ half) 2 (hφ 7 rfl) rfl rfl rfl rfl rfl rfl rfl,trivial⟩ ?_
 clear h ac wo; intro ξ ac wo hφ h
 obtain ⟨b3,hb⟩:∃ b,ξ 7=ptr b 0:=hφ 7
 replace h:St w0 98 [(1,ptr b1 0),(5,ξ 7)] [.blk b1 (cD q) 72,.blk (bR (ξ 7)) (cQ half) 29] ac wo:=(h.pick [1,2] (by decide)).sub ⟨rfl,rfl,trivial⟩
 rw [hb] at h
 clear hb hφ ξ
 refine gz h <| (W) ?_; clear h ac wo; intro ac wo h
 replace h:St w0 98 [(1,ptr b1 0),(5,ptr b3 0)] [.blk b1 (cD q) 72,.blk b3 (cQ half) 29] ac wo:=h.re [0,1]
 replace h:=h.emps 1
 refine fU mixed [dw (vQ half) [1],dw (vQ half) [1],dv _,dv (ptr b1 0),dw (vQ q.c0) [0],dv (ptr b1 8),dw (vQ q.c2) [0],dv _,dv _,⟨.nd (.one 9 fun x=>∃ b,x=ptr b 0),[2]⟩,dw undef [2]] [⟨_,[]⟩,⟨_,[]⟩,⟨.emp,[(9,.one 9 fun x=>.blk (bR x) (cQ oQ) 29),(10,.one 9 fun y=>.blk (bR y) (cQ r) 29)]⟩] h rfl (by kernel_rfl)
  ⟨oA obA,oA obA,oA fun _=>i0 (iC Tryz.call172 rfl c4),oA obA,oA obA,oA obA,oA obA,oA fun _=>i0 (iC Tryz.call291 rfl c5),oA fun _=>i0 (iC Tryz.call148 rfl c6),fun _ _=>pS 2 rfl (fun _=>rfl),fun ξ hφ=>pQ (u:=vQ r) 2 (hφ 9 rfl) rfl rfl rfl rfl rfl rfl rfl,trivial⟩ ?_
 clear h ac wo; intro ξ ac wo hφ h
 obtain ⟨b4,hb⟩:∃ b,ξ 9=ptr b 0:=hφ 9
 replace h:St w0 98 [(5,ptr b3 0),(6,ξ 9)] [.blk b3 (cQ half) 29,.blk (bR (ξ 9)) (cQ r) 29] ac wo:=(h.pick [1,2] (by decide)).sub ⟨rfl,rfl,trivial⟩
 rw [hb] at h
 clear hb hφ ξ
 refine gz h <| (xk c7) <| (xa) fun b5=>(xk c8) <| (ai) ?_ ?_ <;> clear h ac wo <;> intro ac wo h hc4
 · rw [hc4]
   refine gz h <| (W) ?_; clear h ac wo; intro ac wo h
   replace h:=h.nilRow (α:=GR) 46
   exact (rt h) (h.retT 0 rfl rfl trivial)
 rw [hc4,cond_false]
 refine gz h <| (ai) ?_ ?_ <;> clear h ac wo <;> intro ac wo h hc5
 · rw [hc5]
   refine gz h <| (xk c12) <| (W) ?_; clear h ac wo; intro ac wo h
   refine nw h (bT (α:=GR) (xs:=[.tmp 78]) (vs:=[vR (aQ half)]) [aQ half] wD rfl rfl rfl (by decide)) rfl ?_; clear h ac wo; intro v1 ac wo _ h
   refine gz h <| (W) ?_; clear h ac wo; intro ac wo h
   exact (rt h) (h.retT 0 rfl rfl trivial)
 rw [hc5,cond_false]
 obtain ⟨lo,hlo⟩:∃ lo,eF half (aM (ak 1)) r=lo:=⟨_,rfl⟩
 obtain ⟨hi,hhi⟩:∃ hi,eF half (ak 1) r=hi:=⟨_,rfl⟩
 rw [hlo] at c10 ⊢
 rw [hhi] at c11 ⊢
 refine gz h <| (W) ?_; clear h ac wo; intro ac wo h
 replace h:St w0 98 [(5,ptr b3 0),(6,ptr b4 0),(7,ptr b5 0)] [.blk b5 (cQ (ak 1)) 29,.blk b3 (cQ half) 29,.blk b4 (cQ r) 29] ac wo:=h.re [0,1,2]
 replace h:=h.emps 1
 refine fU mixed [dw (vQ half) [1],dw (vQ (ak 1)) [0],dv _,dw (vQ r) [2],dv _,dv _,dv (vR lo.1),dv (.int .i64 lo.2),⟨.nd (.one 8 fun x=>∃ b,x=ptr b 0),[3]⟩,dw undef [3],dv _] [⟨_,[]⟩,⟨_,[]⟩,⟨_,[]⟩,⟨.emp,[(8,.one 8 fun x=>.blk (bR x) (cR ⟨oQ,oQ,false⟩) 46),(9,.one 8 fun y=>.blk (bR y) (cR lo.1) 46)]⟩] h rfl (by kernel_rfl)
  ⟨oA obA,oA obA,oA fun _=>i0 (iC Tryz.call170 rfl c9),oA obA,oA fun _=>i0 (iC Tryz.call112 rfl c10),oA obA,oA obA,oA obA,fun _ _=>pS 3 rfl (fun _=>rfl),fun ξ hφ=>pQ (u:=vR lo.1) 3 (hφ 8 rfl) rfl rfl rfl rfl rfl rfl rfl,oA obA,trivial⟩ ?_
 clear h ac wo; intro ξ ac wo hφ h
 obtain ⟨b6,hb⟩:∃ b,ξ 8=ptr b 0:=hφ 8
 replace h:St w0 98 [(5,ptr b3 0),(6,ptr b4 0),(7,ptr b5 0),(8,ξ 8)] [.blk b5 (cQ (ak 1)) 29,.blk b3 (cQ half) 29,.blk b4 (cQ r) 29,.blk (bR (ξ 8)) (cR lo.1) 46] ac wo:=h.sub ⟨rfl,rfl,rfl,rfl,trivial⟩
 rw [hb] at h
 clear hb hφ ξ
 refine gz h <| (xk c11) <| (xa) fun b7=>(W) ?_; clear h ac wo; intro ac wo h
 refine nw h (bT (α:=GR) (xs:=[.tmp 95,.tmp 96]) (vs:=[vR lo.1,vR hi.1]) [lo.1,hi.1] wD rfl rfl rfl (by decide)) rfl ?_; clear h ac wo; intro v1 ac wo _ h
 refine gz h <| (W) ?_; clear h ac wo; intro ac wo h
 exact (rt h) (h.retT 0 rfl rfl trivial)
theorem sV (q:Qd) (zq:SzD 40 q) (w0:World):Calls Tryz.prog 145 #[vD q] w0 (RetT w0 46 (dU q).1 [.int .i64 (dU q).2] True):=by
 refine enter (N:=8) (args:=[vD q]) Tryz.func145 rfl rfl ?_; intro ac h
 refine gz h <| (xb) fun b1=>(W) ?_; clear h ac; intro ac wo h
 refine sg (xs:=(dU q).1) h (cz Tryz.call242 rfl) (fun w_ hB_ hS_=>ye q zq w_) rfl ?_; clear h ac wo; intro v1 ac wo _ h
 refine gz h <| (W) ?_; clear h ac wo; intro ac wo h
 exact (rt h) (h.retT 0 rfl rfl trivial)
theorem uw (i:Iv) (zi:SzV 30 i) (w0:World):Calls Tryz.prog 297 #[vV i] w0 (dh w0 (.int .i64 (vk i)) True):=by
 refine enter (N:=33) (args:=[vV i]) Tryz.func297 rfl rfl ?_; intro ac h
 haveI:On:=⟨trivial⟩
 have c1:=iY i.lo trivial zi.1
 have c2:=iY i.hi trivial zi.2
 have c3:=aL i.lo i.hi 10 og zi.1 zi.2
 unfold vk
 refine gz h <| (xb) fun b1=>(xk c1) <| (xg (hs:=by exact fun hg=>fq enA (kk c2))) <| (ai) ?_ ?_ <;> clear h ac <;> intro ac wo h hc1
 · rw [hc1]
   refine gz h <| (W) ?_; clear h ac wo; intro ac wo h
   exact (rt h) (h.retP rfl trivial)
 rw [hc1,cond_false]
 refine gz h <| (xk c3) <| (ai) ?_ ?_ <;> clear h ac wo <;> intro ac wo h hc2
 · rw [hc2]
   refine gz h <| (W) ?_; clear h ac wo; intro ac wo h
   exact (rt h) (h.retP rfl trivial)
 · rw [hc2]
   refine gz h <| (W) ?_; clear h ac wo; intro ac wo h
   exact (rt h) (h.retP rfl trivial)
theorem uu (i:Iv) (t:GR) (zi:SzV 30 i) (zt:SzR 30 t) (w0:World):Calls Tryz.prog 298 #[vV i,vR t] w0 (dh w0 (.bool (sW i t)) True):=by
 refine enter (N:=39) (args:=[vV i,vR t]) Tryz.func298 rfl rfl ?_; intro ac h
 haveI:On:=⟨trivial⟩
 have c1:=aL i.lo t 10 og zi.1 zt
 have c2:=aL t i.hi 10 og zt zi.2
 unfold sW
 refine gz h <| (xb) fun b1=>(xb) fun b2=>(dr0 (hob:=(oK c1) <| (oK c2) <| oE)) <| (W) ?_; clear h ac; intro ac wo h
 exact (rt h) (h.retP rfl trivial)
end Go.Sx
namespace Go.Sx
open Go Go.RowKit Go.Proofs
set_option maxRecDepth 100000
set_option maxHeartbeats 8000000
attribute [local irreducible] Code.wp wpList Rd Step ObS Ent
attribute [local irreducible] ah ak aq an bN aQ dU vk sW sO
theorem szb {m:Nat} {q:GQ} (h:Bq m q) (hm:m≤512):SzQ 40 q:=h.szk2 64 (by omega) (by decide)
def RBq (m:Nat) (x:GR):Prop:=ROk x∧Bq m x.p∧Bq m x.r
theorem RBq.sz {m:Nat} {x:GR} (h:RBq m x) (hm:m≤512):SzR 40 x:=⟨szb h.2.1 hm,szb h.2.2 hm⟩
theorem aal {m:Nat} {q:Qd} (h:BD m q) (hm:m≤512):SzD 40 q:=⟨szb h.1 hm,szb h.2.1 hm,szb h.2.2 hm⟩
theorem eval_bqD {m T:Nat} {q:Qd} {t:GQ} (h:BD m q) (ht:Bq T t):Bq (m+(T+(m+(T+m)+1))+1) (aW q t):=by
 unfold aW
 exact h.1.add (ht.mul (h.2.1.add (ht.mul h.2.2)))
theorem sJ {m T:Nat} {q:Qd} {t:GQ} (h:BD m q) (ht:Bq T t):Bq (m+((m+m+1)+T)+1) (aR q t):=by
 unfold aR
 exact h.2.1.add ((h.2.2.add h.2.2).mul ht)
theorem rB {m T:Nat} {q:Qd} {t:GR} (h:BD m q) (ht:RBq T t) (hT:0 < T):ROk (qAt q t)∧Bq (20*(m+T+1)) (qAt q t).p∧Bq (20*(m+T+1)) (qAt q t).r:=by
 have b1:=(eval_bqD h ht.2.1).add (h.2.2.mul ht.2.2)
 obtain ⟨mm,hm,bm⟩:∃ mm,(bif t.neg then aM (aR q t.p) else aR q t.p)=mm∧Bq (m+((m+m+1)+T)+1) mm:=by
  refine ⟨_,rfl,?_⟩
  cases t.neg
  · exact sJ h ht.2.1
  · exact (sJ h ht.2.1).neg
 unfold qAt
 rw [hm]
 have:=make_rok b1.1 bm.1 ht.2.2.1 ht.1.nn b1 bm ht.2.2 hT
 exact ⟨this.1,this.2.1.le (by omega),this.2.2.le (by omega)⟩
theorem wc {x:GR} {M:Nat} (hM:M≤60000) (h:Bq M x.p∧Bq M x.r):SzR 30 x:=⟨h.1.szk2 7500 (by omega) (by decide),h.2.szk2 7500 (by omega) (by decide)⟩
instance cf147:Cf Tryz.prog 147:=⟨Tryz.call147⟩
instance cf67:Cf Tryz.prog 67:=⟨Tryz.call67⟩
theorem x6 {m T:Nat} (q:Qd) (t:GR) (h:BD m q) (ht:RBq T t) (hm:m≤512) (hT:0 < T) (hT2:T≤2400) (w0:World):Calls Tryz.prog 40 #[vD q,vR t] w0 (dh w0 (.int .i64 (sO q t)) True):=by
 refine enter (N:=9) (args:=[vD q,vR t]) Tryz.func40 rfl rfl ?_; intro ac h'
 have zt:SzR 36 t:=⟨ht.2.1.szk2 300 (by omega) (by decide),ht.2.2.szk2 300 (by omega) (by decide)⟩
 have c1:=yq q t 10 og (fD (aal h hm) og) (dG zt og) trivial (di zt.2 og)
 have b:=rB h ht hT
 have c2:=lJ (qAt q t) (wc (by omega) b.2)
 unfold sO
 refine gz h' <| (xb) fun b1=>(xb) fun b2=>(xk c1) <| (xk c2) <| (W) ?_; clear h' ac; intro ac wo h'
 exact (rt h') (h'.retP rfl trivial)
def cPc (x:Pc):List Value:=cV x.iv++[.int .i64 x.s]
def vPc (x:Pc):Value:=.agg (cPc x).toArray
def oPc:Pc:=⟨⟨⟨oQ,oQ,false⟩,⟨oQ,oQ,false⟩,false,false⟩,0⟩
instance celPc (x:Pc):Cel (vPc x) (cPc x):=⟨rfl⟩
instance dcPc (x:Pc):Dc (cPc x) (vPc x):=⟨rfl⟩
instance sz328:Sz Tryz.prog 328 21:=⟨Tryz.sizeOf328⟩
instance ag328:Ag Tryz.prog 328 true:=⟨Tryz.isAgg328⟩
instance sh328:Sh Tryz.prog 328 Pc vPc:=⟨trivial⟩
instance un323:Un Tryz.prog 323 (.slice 328):=⟨Tryz.runUnderlying323⟩
instance fl328a:Fl Tryz.prog 328 0 74 0:=⟨⟨_,_,uu328,rfl,rfl,rfl⟩⟩
instance fl328b:Fl Tryz.prog 328 1 3 20:=⟨⟨_,_,uu328,rfl,rfl,rfl⟩⟩
instance zc328:Zc Tryz.prog 328 (cPc oPc):=⟨⟨_,vv328,rfl⟩⟩
theorem bld328:BuildF Tryz.prog 328 (cPc oPc) [(0,20),(20,1)]:=BuildF.of vv328 rfl uu328 (by intro w; simp [zz74,zz3])
instance bu328 (x:Iv) (s:Int):Bu Tryz.prog 328 [0,1] [vV x,.int .i64 s] (vPc ⟨x,s⟩):=Bu.of bld328 rfl rfl
instance bu328b (x:Iv):Bu Tryz.prog 328 [0] [vV x] (vPc ⟨x,0⟩):=Bu.of bld328 rfl rfl
theorem oH:SlT Tryz.prog 323 328 21 224 (cPc oPc):=⟨Tryz.underlying323,Tryz.t328,_,Tryz.type328,rfl,rfl,rfl,rfl,rfl,by decide,by decide⟩
theorem oneV' (x:Iv):∀ c∈cV x,c.oneCell'=true:=Cod.one x
theorem onePc (x:Pc):∀ c∈cPc x,c.oneCell'=true:=dB (oneV' _) (fun c h=>by rw [List.mem_singleton.1 h]; rfl)
instance codPc:Cod Pc:=⟨cPc,21,fun _=>rfl,onePc,by decide⟩
instance cf241:Cf Tryz.prog 241:=⟨Tryz.call241⟩
instance cf40:Cf Tryz.prog 40:=⟨Tryz.call40⟩
instance cf26:Cf Tryz.prog 26:=⟨Tryz.call26⟩
theorem yx {m T:Nat} (q:Qd) (i:Iv) (r:GQ) (e:Int) (h:BD m q) (hm:m≤512) (hlo:RBq 90 i.lo) (hr:QOk r∧Bq 1817 r) (cb:∀ w0,Calls Tryz.prog 241 #[vR i.lo,vR i.hi] w0 (dh w0 (.tuple #[vQ r,.int .i64 e]) True)) (w0:World):Calls Tryz.prog 306 #[vD q,vV i] w0 (dh w0 (vPc ⟨i,bif e == 0 then sO q (aQ r) else sO q i.lo⟩) True):=by
 refine enter (N:=27) (args:=[vD q,vV i]) Tryz.func306 rfl rfl ?_; intro ac h'
 haveI:On:=⟨trivial⟩
 obtain ⟨e1,e2,e3⟩:=fr_p r
 have c1:=g8 r 30 og (hr.2.szk2 300 (by omega) (by decide))
 have c2:=x6 (T:=1817) q (aQ r) h ⟨fr_ok hr.1,by rw [e1]; exact hr.2,by rw [e2]; exact Bq.zero (by decide)⟩ hm (by decide) (by decide)
 have c3:=x6 q i.lo h hlo hm (by decide) (by decide)
 refine gz h' <| (xb) fun b1=>(xb) fun b2=>(xa) fun b3=>(xa) fun b4=>(xk cb) <| (xa) fun b5=>(ai) ?_ ?_ <;> clear h' ac <;> intro ac wo h' hc1
 · rw [hc1,cond_true]
   refine gz h' <| (xk c1) <| (W) ?_; clear h' ac wo; intro ac wo h'
   replace h':St w0 27 [(5,ptr b4 0),(4,ptr b3 0),(3,ptr b2 0),(2,ptr b1 0)] [.blk b4 (cR (aQ r)) 46,.blk b3 (cPc oPc) 328,.blk b2 (cV i) 74,.blk b1 (cD q) 72] ac wo:=h'.re [1,2,3,4]
   refine gz h' <| (dr1 (H:=[⟨_,[]⟩,⟨.blk b3 (cPc oPc) 328,[(5,.con (.blk b3 (cPc ⟨i,sO q (aQ r)⟩) 328))]⟩,⟨_,[]⟩,⟨_,[]⟩]) (hob:=(oK c2) <| oE)) <| (W) ?_; clear h' ac wo; intro ac wo h'
   exact rtc 1 h' (h'.retP (u:=vPc ⟨i,sO q (aQ r)⟩) rfl trivial)
 · rw [hc1,cond_false]
   refine gz h' <| (W) ?_; clear h' ac wo; intro ac wo h'
   replace h':St w0 27 [(5,ptr b4 0),(4,ptr b3 0),(3,ptr b2 0),(2,ptr b1 0)] [.blk b4 (cR i.lo) 46,.blk b3 (cPc oPc) 328,.blk b2 (cV i) 74,.blk b1 (cD q) 72] ac wo:=h'.re [1,2,3,4]
   refine gz h' <| (dr1 (H:=[⟨_,[]⟩,⟨.blk b3 (cPc oPc) 328,[(5,.con (.blk b3 (cPc ⟨i,sO q i.lo⟩) 328))]⟩,⟨_,[]⟩,⟨_,[]⟩]) (hob:=(oK c3) <| oE)) <| (W) ?_; clear h' ac wo; intro ac wo h'
   exact rtc 1 h' (h'.retP (u:=vPc ⟨i,sO q i.lo⟩) rfl trivial)
instance cf297:Cf Tryz.prog 297:=⟨Tryz.call297⟩
instance cf298:Cf Tryz.prog 298:=⟨Tryz.call298⟩
instance cf306:Cf Tryz.prog 306:=⟨Tryz.call306⟩
def sgK (S:Iv→Int) (q:Qd) (i:Iv) (k:Nat):List Pc×Iv:=((dU q).1.take k).foldl (qI S i) ([],i)
theorem sgK_succ {S:Iv→Int} {q:Qd} {i:Iv} {k:Nat} (hk:k < (dU q).1.length):sgK S q i (k+1)=qI S i (sgK S q i k) (gt (dU q).1 k):=by
 unfold sgK
 rw [List.take_succ_eq_append_getElem hk,List.foldl_append,gU hk]; rfl
theorem pH {i:Iv} (h1:RBq 90 i.lo) (h2:RBq 90 i.hi):SzV 30 i:=⟨dG (h1.sz (by decide)) og,dG (h2.sz (by decide)) og⟩
theorem signs_ct {m:Nat} (S:Iv→Int) (q:Qd) (i:Iv) (h:BD m q) (hm:m≤512) (h1:RBq 90 i.lo) (h2:RBq 90 i.hi) (hR:∀ r∈(dU q).1,RBq 90 r) (hl:(dU q).1.length≤2)
 (G:Iv→Prop) (hS:∀ i,G i→∀ w0,Calls Tryz.prog 306 #[vD q,vV i] w0 (dh w0 (vPc ⟨i,S i⟩) True))
 (hG1:∀ k,k < (dU q).1.length→sW i (gt (dU q).1 k)=true→decide (ah (sgK S q i k).2.lo (gt (dU q).1 k) < 0)=true→G ⟨(sgK S q i k).2.lo,gt (dU q).1 k,(sgK S q i k).2.openLo,true⟩) (hG2:vk (m8 S q i).2=0→G (m8 S q i).2) (w0:World):Calls Tryz.prog 266 #[vD q,vV i] w0 (RetT w0 328 (qt S q i).1 [.int .i64 (qt S q i).2] True):=by
 refine enter (N:=71) (args:=[vD q,vV i]) Tryz.func266 rfl rfl ?_; intro ac h'
 haveI:On:=⟨trivial⟩
 have c1:=uw i (pH h1 h2)
 have c2:=sV q (aal h hm)
 unfold qt
 refine gz h' <| (xb) fun b1=>(xb) fun b2=>(xk c1) <| (ai) ?_ ?_ <;> clear h' ac <;> intro ac wo h' hc1
 · rw [hc1]
   refine gz h' <| (W) ?_; clear h' ac wo; intro ac wo h'
   replace h':=h'.nilRow (α:=Pc) 328
   exact (rt h') (h'.retT 0 rfl rfl trivial)
 rw [hc1,cond_false]
 refine gz h' <| (W) ?_; clear h' ac wo; intro ac wo h'
 refine sg (xs:=(dU q).1) h' (cz Tryz.call145 rfl) (fun w_ hB_ hS_=>c2 w_) rfl ?_; clear h' ac wo; intro rv1 ac wo hrv h'
 refine gz h' <| (xa) fun b3=>(W) ?_; clear h' ac wo; intro ac wo h'
 have hsl:=h'.row_sl 1 rfl
 replace h':St w0 71 [(2,ptr b1 0),(3,ptr b2 0),(7,.slice none 0 0),(10,ptr b3 0),(24,rv1)] [.blk b3 (cV i) 74,.row 46 rv1 (dU q).1,.blk b2 (cV i) 74,.blk b1 (cD q) 72] ac wo:=h'.re [0,1,2,3]
 refine gz h' <| (W) ?_; clear h' ac wo; intro ac wo h'
 replace h':=h'.nilRow (α:=Pc) 328
 refine wp_loop_ghost (fun n_ a_ w_=>∃ (k:Nat) (sv:Value),((dU q).1.length - k < n_)∧(k≤(dU q).1.length)∧(sgK S q i k).1.length≤2*k∧RBq 90 (sgK S q i k).2.lo∧RBq 90 (sgK S q i k).2.hi∧St w0 71 [(2,ptr b1 0),(3,ptr b2 0),(7,sv),(10,ptr b3 0),(24,rv1),(25,iN (dU q).1.length),(26,iN k)] [.row 328 sv (sgK S q i k).1,.blk b3 (cV (sgK S q i k).2) 74,.row 46 rv1 (dU q).1,.blk b2 (cV i) 74,.blk b1 (cD q) 72] a_ w_) ((dU q).1.length+1) ⟨0,_,by omega,by omega,Nat.le_refl 0,h1,h2,h'.re [0,1,2,3,4]⟩ ?_
 clear h' ac wo; rintro n1 ac wo ⟨k,sv,hm1,hk,hln,z1,z2,h'⟩
 obtain ⟨m1,rfl⟩:∃ m,n1=m+1:=⟨n1 - 1,by omega⟩
 obtain ⟨st,hst⟩:∃ st,sgK S q i k=st:=⟨_,rfl⟩
 rw [hst] at hln z1 z2 h'
 obtain ⟨out,rest⟩:=st
 simp only at hln z1 z2 h'
 refine gz h' <| (ai) ?_ ?_ <;> clear h' ac wo <;> intro ac wo h' hc2
 ·
  have hd1:k < (dU q).1.length:=by have:=of_decide_eq_true hc2; omega
  have es:=sgK_succ (S:=S) (i:=i) hd1
  rw [hst] at es
  have zr:RBq 90 (gt (dU q).1 k):=hR _ (by rw [gU hd1]; exact List.getElem_mem _)
  have cc:=uu i (gt (dU q).1 k) (pH h1 h2) (dG (zr.sz (by decide)) og)
  have n1':=h'.row_nn 2 rfl (by omega)
  have cl:SzR 30 rest.lo:=dG (z1.sz (by decide)) og
  have ck:=aL rest.lo (gt (dU q).1 k) 10 og cl (dG (zr.sz (by decide)) og)
  refine gz h' <| (xa) fun b4=>(xk cc) <| (ai) ?_ ?_ <;> clear h' ac wo <;> intro ac wo h' hc3
  ·
   have e3:sW i (gt (dU q).1 k)=false:=by simpa using hc3
   have es':sgK S q i (k+1)=(out,rest):=by rw [es]; unfold qI; rw [e3]; rfl
   refine gz h' <| (W) ?_; clear h' ac wo; intro ac wo h'
   exact az ⟨m1,by omega,k+1,sv,by omega,by omega,by rw [es']; simp only; omega,by rw [es']; exact z1,by rw [es']; exact z2,by rw [es']; exact h'.re [1,2,3,4,5]⟩
  have e3:sW i (gt (dU q).1 k)=true:=by simpa using hc3
  refine gz h' <| (xk ck) <| (ai) ?_ ?_ <;> clear h' ac wo <;> intro ac wo h' hc4
  ·
   have g1:=hG1 k hd1 e3 (by rw [hst]; exact hc4)
   rw [hst] at g1
   obtain ⟨r,hr⟩:∃ r,gt (dU q).1 k=r:=⟨_,rfl⟩
   rw [hr] at h' es zr hc4 e3 g1
   have cp:=hS ⟨rest.lo,r,rest.openLo,true⟩ g1
   have es':sgK S q i (k+1)=(out++[⟨⟨rest.lo,r,rest.openLo,true⟩,S ⟨rest.lo,r,rest.openLo,true⟩⟩]++[⟨⟨r,r,false,false⟩,0⟩],⟨r,rest.hi,true,rest.openHi⟩):=by rw [es]; unfold qI; rw [e3]; simp only [hc4]; rfl
   obtain ⟨p1,hp1⟩:∃ p1:Pc,p1=⟨⟨rest.lo,r,rest.openLo,true⟩,S ⟨rest.lo,r,rest.openLo,true⟩⟩:=⟨_,rfl⟩
   rw [← hp1] at cp es'
   refine gz h' <| (xo (hs:=by exact bX qE exs rfl (v:=vV ⟨rest.lo,r,rest.openLo,true⟩) rfl)) <| (xk cp) <| (W) ?_; clear h' ac wo; intro ac wo h'
   refine nw h' (bT (α:=Pc) (xs:=[.tmp 47]) (vs:=[vPc p1]) [p1] oH rfl rfl rfl (by decide)) rfl ?_; clear h' ac wo; intro v1 ac wo _ h'
   refine on2 h' 2 0 rfl rfl (eA (xs:=out) (ys:=[p1]) oH (fun w hs=>(row_view hs 0 rfl)) rfl rfl (by show _+1≤_; omega)) rfl ?_; clear h' ac wo; intro v2 ac wo _ h'
   replace h':St w0 71 [(49,v2),(12,ptr b4 0),(2,ptr b1 0),(3,ptr b2 0),(10,ptr b3 0),(24,rv1),(25,iN (dU q).1.length),(26,iN k)] [.row 328 v2 (out++[p1]),.blk b4 (cR r) 46,.blk b3 (cV rest) 74,.row 46 rv1 (dU q).1,.blk b2 (cV i) 74,.blk b1 (cD q) 72] ac wo:=h'.re [0,2,3,4,5,6]
   refine gz h' <| (W) ?_; clear h' ac wo; intro ac wo h'
   refine nw h' (bT (α:=Pc) (xs:=[.tmp 54]) (vs:=[vPc ⟨⟨r,r,false,false⟩,0⟩]) [⟨⟨r,r,false,false⟩,0⟩] oH rfl rfl rfl (by decide)) rfl ?_; clear h' ac wo; intro v3 ac wo _ h'
   refine on2 h' 1 0 rfl rfl (eA (xs:=(out++[p1])) (ys:=[⟨⟨r,r,false,false⟩,0⟩]) oH (fun w hs=>(row_view hs 0 rfl)) rfl rfl (by rw [List.length_append]; show _+1+1≤_; omega)) rfl ?_; clear h' ac wo; intro v4 ac wo _ h'
   replace h':St w0 71 [(56,v4),(12,ptr b4 0),(2,ptr b1 0),(3,ptr b2 0),(10,ptr b3 0),(24,rv1),(25,iN (dU q).1.length),(26,iN k)] [.row 328 v4 ((out++[p1])++[⟨⟨r,r,false,false⟩,0⟩]),.blk b4 (cR r) 46,.blk b3 (cV rest) 74,.row 46 rv1 (dU q).1,.blk b2 (cV i) 74,.blk b1 (cD q) 72] ac wo:=h'.re [0,2,3,4,5,6]
   refine gz h' <| (xs 2 (cV ⟨r,rest.hi,rest.openLo,rest.openHi⟩)) <| (xs 2 (cV ⟨r,rest.hi,true,rest.openHi⟩)) <| (W) ?_; clear h' ac wo; intro ac wo h'
   exact az ⟨m1,by omega,k+1,v4,by omega,by omega,by rw [es']; simp only [List.length_append,List.length_cons,List.length_nil]; omega,by rw [es']; exact zr,by rw [es']; exact z2,by rw [es']; exact h'.re [0,2,3,4,5]⟩
  ·
   obtain ⟨r,hr⟩:∃ r,gt (dU q).1 k=r:=⟨_,rfl⟩
   rw [hr] at h' es zr hc4 e3
   have es':sgK S q i (k+1)=(out++[⟨⟨r,r,false,false⟩,0⟩],⟨r,rest.hi,true,rest.openHi⟩):=by rw [es]; unfold qI; rw [e3]; simp only [hc4]; rfl
   replace h':St w0 71 [(7,sv),(12,ptr b4 0),(2,ptr b1 0),(3,ptr b2 0),(10,ptr b3 0),(24,rv1),(25,iN (dU q).1.length),(26,iN k)] [.row 328 sv out,.blk b4 (cR r) 46,.blk b3 (cV rest) 74,.row 46 rv1 (dU q).1,.blk b2 (cV i) 74,.blk b1 (cD q) 72] ac wo:=h'.re [1,0,2,3,4,5]
   refine gz h' <| (W) ?_; clear h' ac wo; intro ac wo h'
   refine nw h' (bT (α:=Pc) (xs:=[.tmp 54]) (vs:=[vPc ⟨⟨r,r,false,false⟩,0⟩]) [⟨⟨r,r,false,false⟩,0⟩] oH rfl rfl rfl (by decide)) rfl ?_; clear h' ac wo; intro v3 ac wo _ h'
   refine on2 h' 1 0 rfl rfl (eA (xs:=out) (ys:=[⟨⟨r,r,false,false⟩,0⟩]) oH (fun w hs=>(row_view hs 0 rfl)) rfl rfl (by show _+1≤_; omega)) rfl ?_; clear h' ac wo; intro v4 ac wo _ h'
   replace h':St w0 71 [(56,v4),(12,ptr b4 0),(2,ptr b1 0),(3,ptr b2 0),(10,ptr b3 0),(24,rv1),(25,iN (dU q).1.length),(26,iN k)] [.row 328 v4 (out++[⟨⟨r,r,false,false⟩,0⟩]),.blk b4 (cR r) 46,.blk b3 (cV rest) 74,.row 46 rv1 (dU q).1,.blk b2 (cV i) 74,.blk b1 (cD q) 72] ac wo:=h'.re [0,2,3,4,5,6]
   refine gz h' <| (xs 2 (cV ⟨r,rest.hi,rest.openLo,rest.openHi⟩)) <| (xs 2 (cV ⟨r,rest.hi,true,rest.openHi⟩)) <| (W) ?_; clear h' ac wo; intro ac wo h'
   exact az ⟨m1,by omega,k+1,v4,by omega,by omega,by rw [es']; simp only [List.length_append,List.length_cons,List.length_nil]; omega,by rw [es']; exact zr,by rw [es']; exact z2,by rw [es']; exact h'.re [0,2,3,4,5]⟩
 ·
  have hke:k=(dU q).1.length:=by have:=of_decide_eq_false hc2; omega
  have est:m8 S q i=(out,rest):=by rw [← hst,hke]; unfold sgK m8; rw [List.take_length]
  rw [est] at hG2
  rw [est]
  have c3:=uw rest (pH z1 z2)
  refine gz h' <| (xk c3) <| (ai) ?_ ?_ <;> clear h' ac wo <;> intro ac wo h' hc3
  · have cp:=hS rest (hG2 (by simpa using hc3))
    simp only [hc3,cond_true]
    obtain ⟨p1,hp1⟩:∃ p1:Pc,p1=⟨rest,S rest⟩:=⟨_,rfl⟩
    rw [← hp1] at cp ⊢
    refine gz h' <| (xk cp) <| (W) ?_; clear h' ac wo; intro ac wo h'
    refine nw h' (bT (α:=Pc) (xs:=[.tmp 67]) (vs:=[vPc p1]) [p1] oH rfl rfl rfl (by decide)) rfl ?_; clear h' ac wo; intro v1 ac wo _ h'
    refine on2 h' 1 0 rfl rfl (eA (xs:=out) (ys:=[p1]) oH (fun w hs=>(row_view hs 0 rfl)) rfl rfl (by show _+1≤_; omega)) rfl ?_; clear h' ac wo; intro v2 ac wo _ h'
    refine gz h' <| (W) ?_; clear h' ac wo; intro ac wo h'
    exact (rt h') (h'.retT 0 rfl rfl trivial)
  · simp only [hc3,cond_false]
    refine gz h' <| (W) ?_; clear h' ac wo; intro ac wo h'
    exact (rt h') (h'.retT 0 rfl rfl trivial)
end Go.Sx
namespace Go.Sx
open Go Go.RowKit Go.Proofs
set_option maxRecDepth 100000
set_option maxHeartbeats 40000000
attribute [local irreducible] Code.wp wpList Rd Step ObS Ent
attribute [local irreducible] ah ak aq an bN
theorem slt179:SlT Tryz.prog 129 132 44 504 [.bool false,.string ⟨#[]⟩,.bool false,.string ⟨#[]⟩,.bool false,.string ⟨#[]⟩,.bool false,.string ⟨#[]⟩,.bool false,.bool false,.string ⟨#[]⟩,.bool false,.string ⟨#[]⟩,.bool false,.string ⟨#[]⟩,.bool false,.string ⟨#[]⟩,.bool false,.bool false,.bool false,.bool false,.string ⟨#[]⟩,.bool false,.string ⟨#[]⟩,.bool false,.string ⟨#[]⟩,.bool false,.string ⟨#[]⟩,.bool false,.string ⟨#[]⟩,.bool false,.string ⟨#[]⟩,.bool false,.string ⟨#[]⟩,.bool false,.string ⟨#[]⟩,.bool false,.string ⟨#[]⟩,.bool false,.string ⟨#[]⟩,.bool false,.string ⟨#[]⟩,.bool false,.string ⟨#[]⟩]:=⟨Tryz.underlying129,Tryz.t132,_,Tryz.type132,rfl,rfl,rfl,rfl,rfl,by decide,by decide⟩
def lP (a:List (U Qd)) (b:List (U Qd)) (out:List (Bt Qd Qd)) (i:Nat) (k1:Nat):(List (Bt Qd Qd)) :=
 out
def ia (a:List (U Qd)) (b:List (U Qd)) (out:List (Bt Qd Qd)) (i:Nat) (k1:Nat):Nx ((List (Bt Qd Qd))×Nat×Nat) (List (Bt Qd Qd)) :=
 bif ((decide (((i:Nat):Int) < ((a.length:Nat):Int))) && (decide (((k1:Nat):Int) < ((b.length:Nat):Int)))) then
  bif (bO ((gt a i).iv) ((gt b k1).iv)).2 then
   bif (iH ((gt a i).iv) ((gt b k1).iv)) then
    .go ((out++[(⟨(bO ((gt a i).iv) ((gt b k1).iv)).1,(gt a i).f,(gt b k1).f⟩:Bt Qd Qd)]),(i+1),k1)
   else
    .go ((out++[(⟨(bO ((gt a i).iv) ((gt b k1).iv)).1,(gt a i).f,(gt b k1).f⟩:Bt Qd Qd)]),i,(k1+1))
  else
   bif (iH ((gt a i).iv) ((gt b k1).iv)) then
    .go (out,(i+1),k1)
   else
    .go (out,i,(k1+1))
 else
  .out (out,i,k1)
def ef (a:List (U Qd)) (b:List (U Qd)):(List (Bt Qd Qd)) :=
 fin (bZ (fun s=>ia a b s.1 s.2.1 s.2.2) ((a.length - 0)+(b.length - 0)+1) ([],0,0)) (fun s=>lP a b s.1 s.2.1 s.2.2) (fun r=>r)
theorem lO (a:List (U Qd)) (av:Value) (b:List (U Qd)) (bv:Value) (hla:a.length≤100) (hlb:b.length≤100) (za:All (g6 30) a) (zb:All (g6 30) b) (w0:World) (hav:View w0 av a) (hbv:View w0 bv b):Calls Tryz.prog 78 #[av,bv] w0 (RetR w0 132 (ef a b) (All (SzBD 10) (ef a b)∧(ef a b).length≤a.length+b.length)):=by
 refine enter (N:=66) (args:=[av,bv]) Tryz.func78 rfl rfl ?_; intro ac h
 have hlena:=hav.len
 have hlenb:=hbv.len
 refine gz h <| (W) ?_; clear h ac; intro ac wo h
 replace h:=h.nilRow (α:=Bt Qd Qd) 132
 obtain ⟨X1,hX1⟩:∃ X,bZ (fun s=>ia a b s.1 s.2.1 s.2.2) ((a.length - 0)+(b.length - 0)+1) ([],0,0)=X:=⟨_,rfl⟩
 refine wp_loop_ghost (fun n_ a_ w_=>∃ (out:List (Bt Qd Qd)) (i:Nat) (k1:Nat) (outv:Value),((a.length - i)+(b.length - k1) < n_)∧(bZ (fun s=>ia a b s.1 s.2.1 s.2.2) n_ (out,i,k1)=X1)∧(k1≤b.length)∧(i≤a.length)∧(All (SzBD 10) out)∧(out.length≤i+k1)∧St w0 66 [(0,av),(1,bv),(5,outv),(6,(.int .i64 ((i:Nat):Int))),(7,(.int .i64 ((k1:Nat):Int)))] [.row (α:=Bt Qd Qd) 132 outv out] a_ w_) ((a.length - 0)+(b.length - 0)+1) ⟨[],0,0,(.slice none 0 0),og,hX1,og,og,All.nil,og,h.rs⟩ ?_
 clear h ac wo; rintro n1 ac wo ⟨out,i,k1,outv,hm1,hL1,hk1,hi,zout,hol,h⟩
 obtain ⟨m1,rfl⟩:∃ m,n1=m+1:=⟨n1 - 1,by omega⟩
 refine gz h <| (ai) ?_ ?_ <;> clear h ac wo <;> intro ac wo h hc1
 ·
  have hq1:=hc1; try simp at hq1
  refine gz h <| (W) ?_; clear h ac wo; intro ac wo h
  have s2:=ar ((mw ((gt a i).iv) ((gt b k1).iv) 10 og (All.gt za (bG _)).1 (All.gt zb (bG _)).1) w0)
  replace h:=h.emps 1
  refine fU mixed [dv _,dv _,dv _,dv _,dv _,dv _,dv _,dv _,dv _,dv _,dv _,dv _,dv _,dv _,⟨.nd (.one 14 fun v=>∃ b,v=ptr b 0),[1]⟩,⟨.det undef,[1]⟩,dv _] [⟨_,[]⟩,⟨.emp,[(14,.one 14 fun v=>.blk (bR v) (cV (⟨(⟨oQ,oQ,false⟩:GR),(⟨oQ,oQ,false⟩:GR),false,false⟩:Iv)) 74),(15,.one 14 fun v=>.blk (bR v) (cV ((bO ((gt a i).iv) ((gt b k1).iv)).1)) 74)]⟩] h rfl (by kernel_rfl) ⟨fun _ _=>om rfl,fun _ _=>om rfl,fun _ _=>bk (iT (i:=i) uu86 zz88 rfl rfl (hav.nn (i:=i) og) og),fun _ _=>bk (fs uu88 rfl zz74 rfl (hav.nn (i:=0) og) rfl rfl (k':=i*32+0)),fun _ _=>bk (oW (k:=0) aa74 zz74 hav (iF og) rfl rfl rfl rfl (v:=(vV ((gt a i).iv))) rfl),fun _ _=>om rfl,fun _ _=>om rfl,fun _ _=>bk (iT (i:=k1) uu86 zz88 rfl rfl (hbv.nn (i:=k1) og) og),fun _ _=>bk (fs uu88 rfl zz74 rfl (hbv.nn (i:=0) og) rfl rfl (k':=k1*32+0)),fun _ _=>bk (oW (k:=0) aa74 zz74 hbv (iF og) rfl rfl rfl rfl (v:=(vV ((gt b k1).iv))) rfl),fun _ _=>i0 (fq (cz Tryz.call183 rfl) (kk (mw ((gt a i).iv) ((gt b k1).iv) 10 og (All.gt za (bG _)).1 (All.gt zb (bG _)).1))),fun _ _=>om rfl,fun _ _=>bk (cY rfl rfl),fun _ _=>bk (cY rfl rfl),fun _ _=>my (ψ:=fun v=>∃ b,v=ptr b 0) (B:=fun v=>[.blk (bR v) (cV (⟨(⟨oQ,oQ,false⟩:GR),(⟨oQ,oQ,false⟩:GR),false,false⟩:Iv)) 74]) [.emp] rfl (fun v _=>by simp only [dJ,bt] <;> rfl) (fun v hv=>by simpa [DF.one,bt] using hv) (jh (gO Tryz.zeroValue74 rfl)),(fun ξ hφ=>by obtain ⟨b1,hb14⟩:=hφ 14 rfl; exact lS [.blk b1 (cV (⟨(⟨oQ,oQ,false⟩:GR),(⟨oQ,oQ,false⟩:GR),false,false⟩:Iv)) 74] [.blk b1 (cV ((bO ((gt a i).iv) ((gt b k1).iv)).1)) 74] (congrArg (fun v=>[Asn.blk (bR v) (cV (⟨(⟨oQ,oQ,false⟩:GR),(⟨oQ,oQ,false⟩:GR),false,false⟩:Iv)) 74]) hb14) (congrArg (fun v=>[Asn.blk (bR v) (cV ((bO ((gt a i).iv) ((gt b k1).iv)).1)) 74]) hb14) (qK zz74 (Eq.trans rfl (congrArg some hb14)) rfl rfl rfl rfl rfl rfl)),fun _ _=>bk (aA rfl),trivial⟩ ?_
  clear h ac wo; intro ξ ac wo hφ h
  replace h:St w0 66 [(0,av),(1,bv),(5,outv),(6,(.int .i64 ((i:Nat):Int))),(7,(.int .i64 ((k1:Nat):Int))),(8,ξ 14),(9,(.bool ((bO ((gt a i).iv) ((gt b k1).iv)).2)))] [.row (α:=Bt Qd Qd) 132 outv out,.blk (bR (ξ 14)) (cV ((bO ((gt a i).iv) ((gt b k1).iv)).1)) 74] ac wo:=(h.pick [0,1] (by decide)).sub ⟨rfl,rfl,rfl,rfl,rfl,rfl,rfl,trivial⟩
  revert h
  obtain ⟨b1,hb14⟩:∃ b,ξ 14=ptr b 0:=hφ 14
  rw [hb14]; intro h
  clear hb14
  clear hφ ξ
  refine gz h <| (ai) ?_ ?_ <;> clear h ac wo <;> intro ac wo h hc2
  ·
   have hq2:=hc2; try simp at hq2
   replace h:=h.emps 1
   refine fU mixed [dv _,dw _ [1],dv _,dv _,dv _,dv _,dv _,dv _,dv _,dv _,dv _,dv _,dv _,⟨.nd (.one 13 fun v=>NN v 1),[2]⟩,⟨.nd (.con True),[0,2]⟩,⟨.nd (.two 15 14 fun a b=>a=b),[]⟩] [⟨.row (α:=Bt Qd Qd) 132 outv out,[(14,.one 14 fun v=>.row (α:=Bt Qd Qd) 132 v (out++[(⟨(bO ((gt a i).iv) ((gt b k1).iv)).1,(gt a i).f,(gt b k1).f⟩:Bt Qd Qd)]))]⟩,⟨_,[]⟩,⟨.emp,[(13,.one 13 fun v=>.row (α:=Bt Qd Qd) 132 v ([(⟨(bO ((gt a i).iv) ((gt b k1).iv)).1,(gt a i).f,(gt b k1).f⟩:Bt Qd Qd)]))]⟩] h rfl (by kernel_rfl) ⟨fun _ _=>om rfl,fun _ _=>jB _ rfl rfl (kt aa74 zz74 rfl rfl rfl (v:=(vV ((bO ((gt a i).iv) ((gt b k1).iv)).1))) rfl),fun _ _=>om rfl,fun _ _=>om rfl,fun _ _=>bk (iT (i:=i) uu86 zz88 rfl rfl (hav.nn (i:=i) og) og),fun _ _=>bk (fs uu88 rfl zz72 rfl (hav.nn (i:=0) og) rfl rfl (k':=i*32+20)),fun _ _=>bk (oW (k:=20) Tryz.isAgg72 zz72 hav (iF og) rfl rfl rfl rfl (v:=(vD ((gt a i).f))) rfl),fun _ _=>om rfl,fun _ _=>om rfl,fun _ _=>bk (iT (i:=k1) uu86 zz88 rfl rfl (hbv.nn (i:=k1) og) og),fun _ _=>bk (fs uu88 rfl zz72 rfl (hbv.nn (i:=0) og) rfl rfl (k':=k1*32+20)),fun _ _=>bk (oW (k:=20) Tryz.isAgg72 zz72 hbv (iF og) rfl rfl rfl rfl (v:=(vD ((gt b k1).f))) rfl),fun _ _=>bk (bX bld182 rfl rfl (v:=(vBD (⟨(bO ((gt a i).iv) ((gt b k1).iv)).1,(gt a i).f,(gt b k1).f⟩:Bt Qd Qd))) rfl),fun _ _=>my (ψ:=fun v=>NN v 1) (B:=fun v=>[.row (α:=Bt Qd Qd) 132 v ([(⟨(bO ((gt a i).iv) ((gt b k1).iv)).1,(gt a i).f,(gt b k1).f⟩:Bt Qd Qd)])]) [.emp] rfl (fun v _=>by simp only [dJ,bt] <;> rfl) (fun v hv=>by simpa [DF.one,bt] using hv) (jh (bT (α:=Bt Qd Qd) (xs:=[.tmp 47]) (vs:=[(vBD (⟨(bO ((gt a i).iv) ((gt b k1).iv)).1,(gt a i).f,(gt b k1).f⟩:Bt Qd Qd))]) [(⟨(bO ((gt a i).iv) ((gt b k1).iv)).1,(gt a i).f,(gt b k1).f⟩:Bt Qd Qd)] slt179 rfl rfl rfl (by decide))),fun ξ hφ=>my (B:=fun v=>[.row (α:=Bt Qd Qd) 132 v (out++[(⟨(bO ((gt a i).iv) ((gt b k1).iv)).1,(gt a i).f,(gt b k1).f⟩:Bt Qd Qd)]),.row (α:=Bt Qd Qd) 132 (ξ 13) ([(⟨(bO ((gt a i).iv) ((gt b k1).iv)).1,(gt a i).f,(gt b k1).f⟩:Bt Qd Qd)])]) [.row (α:=Bt Qd Qd) 132 outv out,.row (α:=Bt Qd Qd) 132 (ξ 13) ([(⟨(bO ((gt a i).iv) ((gt b k1).iv)).1,(gt a i).f,(gt b k1).f⟩:Bt Qd Qd)])] rfl (fun v _=>by simp only [dJ,bt] <;> rfl) (fun _ _=>trivial) (eA (xs:=out) (ys:=[(⟨(bO ((gt a i).iv) ((gt b k1).iv)).1,(gt a i).f,(gt b k1).f⟩:Bt Qd Qd)]) slt179 (fun w hs=>(row_view hs 0 rfl)) rfl rfl og),fun ξ hφ=>ob_n (φ:=.two 15 14 fun a b=>a=b) (v:=ξ 14) [] rfl rfl (by show upd ξ 15 (ξ 14) 15=upd ξ 15 (ξ 14) 14; rw [bt,mt (by decide)]) (aA rfl),trivial⟩ ?_
   clear h ac wo; intro ξ ac wo hφ h
   replace h:St w0 66 [(0,av),(1,bv),(5,ξ 15),(6,(.int .i64 ((i:Nat):Int))),(7,(.int .i64 ((k1:Nat):Int)))] [.row (α:=Bt Qd Qd) 132 (ξ 14) (out++[(⟨(bO ((gt a i).iv) ((gt b k1).iv)).1,(gt a i).f,(gt b k1).f⟩:Bt Qd Qd)]),.blk b1 (cV ((bO ((gt a i).iv) ((gt b k1).iv)).1)) 74] ac wo:=(h.pick [0,1] (by decide)).sub ⟨rfl,rfl,rfl,rfl,rfl,trivial⟩
   rw [show ξ 15=ξ 14 from hφ 15] at h
   generalize hsv14:ξ 14=sv3 at h; clear hsv14
   clear hφ ξ
   refine gz h <| (dr0 (hob:=(oK (jW ((gt a i).iv) ((gt b k1).iv) 10 og (All.gt za (bG _)).1 (All.gt zb (bG _)).1)) <| oE)) <| (ai) ?_ ?_ <;> clear h ac wo <;> intro ac wo h hc3
   ·
    have hq3:=hc3; try simp at hq3
    refine gz h <| (W) ?_; clear h ac wo; intro ac wo h
    have hg:=cZ hL1 pt
    exact az ⟨m1,og,_,_,_,_,og,hg,og,og,(All.app zout (All.cons ⟨s2,(fD (All.gt za (bG _)).2 og),(fD (All.gt zb (bG _)).2 og)⟩ All.nil)),og,h.re [0]⟩
   ·
    have hq3:=hc3; try simp at hq3
    refine gz h <| (W) ?_; clear h ac wo; intro ac wo h
    have hg:=cZ hL1 pt
    exact az ⟨m1,og,_,_,_,_,og,hg,og,og,(All.app zout (All.cons ⟨s2,(fD (All.gt za (bG _)).2 og),(fD (All.gt zb (bG _)).2 og)⟩ All.nil)),og,h.re [0]⟩
  ·
   have hq2:=hc2; try simp at hq2
   refine gz h <| (dr0 (hob:=(oK (jW ((gt a i).iv) ((gt b k1).iv) 10 og (All.gt za (bG _)).1 (All.gt zb (bG _)).1)) <| oE)) <| (ai) ?_ ?_ <;> clear h ac wo <;> intro ac wo h hc4
   ·
    have hq4:=hc4; try simp at hq4
    refine gz h <| (W) ?_; clear h ac wo; intro ac wo h
    have hg:=cZ hL1 pt
    exact az ⟨m1,og,_,_,_,_,og,hg,og,og,zout,og,h.re [0]⟩
   ·
    have hq4:=hc4; try simp at hq4
    refine gz h <| (W) ?_; clear h ac wo; intro ac wo h
    have hg:=cZ hL1 pt
    exact az ⟨m1,og,_,_,_,_,og,hg,og,og,zout,og,h.re [0]⟩
 ·
  have hq1:=hc1; try simp at hq1
  have hx1:=eh hL1 pt
  have hd:ef a b=out:=pt
  refine gz h <| (W) ?_; clear h ac wo; intro ac wo h
  exact (rt h) (by rw [hd]; exact h.retR 0 rfl ⟨zout,og⟩)
attribute [irreducible] ef
end Go.Sx
namespace Go.Proofs
open Go.Shelf
def Tryz.layGrowI_ren:Go.Shelf.Ren:=⟨fun | 4=>333 | n=>n,fun | 22=>56 | 25=>74 | n=>n,fun | n=>n⟩
theorem Tryz.layGrowI:Go.Proofs.Lays8.n4 Tryz.prog Tryz.layGrowI_ren:={
 mixed:=by kernel_rfl
 f4:=⟨Tryz.f333.name,by decide,Tryz.func333.trans (congrArg some (by kernel_rfl))⟩
 t0:=Tryz.underlying0
 a0:=Tryz.isAgg0
 z0:=Tryz.sizeOf0
 v0:=Tryz.zeroValue0
 t3:=Tryz.underlying3
 a3:=Tryz.isAgg3
 z3:=zz3
 v3:=Tryz.zeroValue3
 t4:=Tryz.underlying4
 a4:=Tryz.isAgg4
 z4:=zz4
 v4:=Tryz.zeroValue4
 t9:=Tryz.underlying9
 a9:=Tryz.isAgg9
 z9:=Tryz.sizeOf9
 v9:=Tryz.zeroValue9
 t20:=Tryz.underlying20
 a20:=Tryz.isAgg20
 z20:=Tryz.sizeOf20
 v20:=Tryz.zeroValue20
 t22:=Tryz.underlying56
 a22:=Tryz.isAgg56
 z22:=Tryz.sizeOf56
 v22:=Tryz.zeroValue56
}
end Go.Proofs
namespace Go.Sx
open Go Go.RowKit Go.Proofs
set_option maxRecDepth 100000
set_option maxHeartbeats 40000000
attribute [local irreducible] Code.wp wpList Rd Step ObS Ent
theorem growI_ct (n:Nat) (hn:n≤1000000) (w0:World):Calls Tryz.prog 333 #[.slice none 0 0,.int .i64 (n:Int)] w0 (RetR w0 74 ([]:List (Iv)) True):=by
 by_cases h0:n=0
 · subst h0
   refine (Any8.slices_Grow_room Tryz.layGrowI none 0 0 0 w0 (Nat.le_refl _) (by decide) (by decide) (by decide)).mono fun e w' h=>?_
   obtain ⟨rfl,rfl⟩:=h
   refine ⟨_,fun _=>False,rfl,⟨⟨_,_,rfl⟩,trivial⟩,Moves.same _ _,fun _=>False,fun _=>False,fun k=>by simp,fun _ h=>h.elim,fun _ h=>h.elim,⟨⟨by simp [flat],.inl ⟨rfl,rfl⟩⟩,fun k=>by simp [Value.ownBlock]⟩,fun _ h=>h⟩
 · obtain ⟨i,z,h1,h2,h3,h4,h5,h6,h7,h8⟩:=slt103.inf
   refine (Any8.slices_Grow_grow Tryz.layGrowI i z h1 h2 (by rw [h4]; decide) none 0 0 n [] w0 (Nat.le_refl _) (by omega) (by rw [h5]; omega) (by omega) (by simp) (fun _=>rfl) (fun a h=>by cases h)).mono fun e w' h=>?_
   obtain ⟨rfl,rfl⟩:=h
   have hG:=grownCap_ge w0 (0+n) 0 74
   have hG2:=grownCap_le_maxLen w0 (0+n) 0 74 (by unfold maxLen; omega)
   have hs:Array.size ((#[]:Array Value)++Builtin.zeroCells z.cells (0+n - 0)++Builtin.zeroCells z.cells (grownCap w0 (0+n) 0 74 - (0+n)))=grownCap w0 (0+n) 0 74*Cod.n (Iv):=by
    have hz:z.cells.size=Cod.n (Iv):=by have:=h6; rw [← h3] at this; exact (Array.length_toList ..).symm.trans this
    have k:∀ q,(Builtin.zeroCells z.cells q).size=q*Cod.n (Iv):=fun q=>by unfold Builtin.zeroCells; rw [Array.size_map,Array.size_range,hz]
    rw [Array.size_append,Array.size_append,k,k,← hz]
    show 0+_+_=_
    rw [Nat.zero_add,← Nat.add_mul]
    congr 1; omega
   show RetR w0 74 ([]:List (Iv)) True (.returned (.slice (some ⟨w0.heap.size,0,none⟩) 0 (grownCap w0 (0+n) 0 74))) (w0.drew.alloc (.cells ((#[]:Array Value)++Builtin.zeroCells z.cells (0+n - 0)++Builtin.zeroCells z.cells (grownCap w0 (0+n) 0 74 - (0+n))) 74))
   generalize (#[]:Array Value)++Builtin.zeroCells z.cells (0+n - 0)++Builtin.zeroCells z.cells (grownCap w0 (0+n) 0 74 - (0+n))=C at hs ⊢
   generalize grownCap w0 (0+n) 0 74=G at *
   have hh:(w0.drew.alloc (.cells C 74)).heap=w0.heap.push (.cells C 74 (0,0)):=rfl
   refine ⟨_,fun k=>Value.ownBlock (.slice (some ⟨w0.heap.size,0,none⟩) 0 G)=some k,rfl,⟨⟨_,_,rfl⟩,trivial⟩,⟨rfl,rfl,rfl,fun q hq _=>?_,fun k hk _=>?_,fun k hk=>.inr ?_,fun h=>Nat.le_trans h (Nat.le_succ _)⟩,
    rm ⟨rfl,.inr ⟨w0.heap.size,G,C,rfl,Nat.zero_le _,?_,Nat.zero_le _,hG2,hs,?_⟩⟩ fun k hk=>?_⟩
   · rw [hh,Array.size_push]; omega
   · rw [hh,Array.getElem?_push_lt hk]; exact (Array.getElem?_eq_getElem hk).symm
   · cases hk; exact Nat.le_refl _
   · rw [hh,Array.getElem?_push_size]
   · show C.toList.take (0*_)=[]
     rw [Nat.zero_mul]; rfl
   · cases hk; exact Nat.le_refl _
structure SLW where
 v:Value
 h:ue v
instance yD2_1:Inhabited SLW:=⟨⟨.slice none 0 0,isNil⟩⟩
instance yD2_2:Cod SLW:=⟨fun x=>[x.v],1,fun _=>rfl,fun x c hc=>by rw [List.mem_singleton.1 hc]; obtain ⟨_,_,_,h⟩:=x.h; rw [h]; rfl,by decide⟩
instance yD2_3:Un Tryz.prog 224 (.slice 56):=⟨Tryz.runUnderlying224⟩
def ctw (ls:List (List (Iv))) (s:Nat):List (Iv):=(ls.take s).flatten
theorem vX {ls:List (List (Iv))} {s:Nat} (h:s < ls.length):ctw ls (s+1)=ctw ls s++gt ls s:=by
 unfold ctw
 rw [List.take_succ_eq_append_getElem h,gU h,List.flatten_append,List.flatten_singleton]
theorem zO (ls:List (List (Iv))):ctw ls ls.length=ls.flatten:=by unfold ctw; rw [List.take_length]
theorem ctw_le (ls:List (List (Iv))) (s:Nat):(ctw ls s).length≤ls.flatten.length:=by
 unfold ctw
 have h:=congrArg List.length (congrArg List.flatten (List.take_append_drop s ls))
 rw [List.flatten_append,List.length_append] at h
 omega
attribute [irreducible] ctw
theorem w8 (ls:List (List (Iv))) (svs:List SLW) (sv:Value) (hn:svs.length=ls.length) (hl:ls.flatten.length≤1000000) (hc:ls.length≤100) (w0:World) (hv:∀ i,i < ls.length→View w0 (gt svs i).v (gt ls i)) (hsv:View w0 sv svs) :
 Calls Tryz.prog 296 #[sv] w0 (RetR w0 74 ls.flatten True):=by
 refine enter (N:=36) (args:=[sv]) Tryz.func296 rfl rfl ?_; intro ac h
 haveI:On:=⟨trivial⟩
 have hlen:=hsv.len
 have c0:(ctw ls 0).length=0:=by unfold ctw; rfl
 refine gz h <| (W) ?_; clear h ac; intro ac wo h
 refine wp_loop_ghost (fun n_ a_ w_=>∃ (s:Nat),(ls.length - s < n_)∧(s≤ls.length)∧St w0 36 [(0,sv),(3,iN (ctw ls s).length),(9,sv),(10,iN svs.length),(11,iN s)] [] a_ w_) (ls.length+1) ⟨0,by omega,by omega,by rw [c0]; exact h.rs⟩ ?_
 clear h ac wo; rintro n1 ac wo ⟨s,hm1,hs,h⟩
 obtain ⟨m1,rfl⟩:∃ m,n1=m+1:=⟨n1 - 1,by omega⟩
 refine gz h <| (ai) ?_ ?_ <;> clear h ac wo <;> intro ac wo h hc1
 ·
  have hd1:=of_decide_eq_true hc1
  have hx:=(hv s (by omega)).sl
  have hs1:=vX (show s < ls.length by omega)
  have hs2:=ctw_le ls (s+1)
  have hs3:(ctw ls (s+1)).length=(ctw ls s).length+(gt ls s).length:=by rw [hs1,List.length_append]
  refine gz h <| (ai) ?_ ?_ <;> clear h ac wo <;> intro ac wo h hc2
  ·
   have:=of_decide_eq_true hc2
   omega
  ·
   refine gz h <| (W) ?_; clear h ac wo; intro ac wo h
   exact az ⟨m1,by omega,s+1,by omega,by omega,by rw [hs3]; exact h.rs⟩
 ·
  have hd1:=of_decide_eq_false hc1
  obtain rfl:s=ls.length:=by omega
  rw [zO] at h
  refine gz h <| (W) ?_; clear h ac wo; intro ac wo h
  refine iu (xs:=([]:List (Iv))) h (cz Tryz.call333 rfl) (fun w_ hB_ hS_=>growI_ct ls.flatten.length hl w_) rfl ?_; clear h ac wo; intro gv ac wo _ h
  have e0:ctw ls 0=[]:=by unfold ctw; rfl
  refine gz h <| (W) ?_; clear h ac wo; intro ac wo h
  refine wp_loop_ghost (fun n_ a_ w_=>∃ (s:Nat) (v:Value),(ls.length - s < n_)∧(s≤ls.length)∧St w0 36 [(0,sv),(6,v),(25,sv),(26,iN svs.length),(27,iN s)] [.row (α:=Iv) 74 v (ctw ls s)] a_ w_) (ls.length+1) ⟨0,gv,by omega,by omega,by rw [e0]; exact h.re [0]⟩ ?_
  clear h ac wo; rintro n2 ac wo ⟨s,v,hm2,hs,h⟩
  obtain ⟨m2,rfl⟩:∃ m,n2=m+1:=⟨n2 - 1,by omega⟩
  refine gz h <| (ai) ?_ ?_ <;> clear h ac wo <;> intro ac wo h hc2
  ·
   have hd2:=of_decide_eq_true hc2
   have hw:=hv s (by omega)
   have hx:=hw.sl
   have hs1:=vX (show s < ls.length by omega)
   have hs2:=ctw_le ls (s+1)
   have hs3:(ctw ls (s+1)).length=(ctw ls s).length+(gt ls s).length:=by rw [hs1,List.length_append]
   refine gz h <| (W) ?_; clear h ac wo; intro ac wo h
   refine on1 h 0 rfl (s_appV (xs:=ctw ls s) (ys:=gt ls s) slt103 hw rfl rfl (by omega)) rfl ?_; clear h ac wo; intro v2 ac wo _ h
   refine gz h <| (W) ?_; clear h ac wo; intro ac wo h
   exact az ⟨m2,by omega,s+1,v2,by omega,by omega,by rw [hs1]; exact h.re [0]⟩
  ·
   have hd2:=of_decide_eq_false hc2
   obtain rfl:s=ls.length:=by omega
   rw [zO] at h
   refine gz h <| (W) ?_; clear h ac wo; intro ac wo h
   exact (rt h) (h.retR 0 rfl trivial)
theorem slt224:SlT Tryz.prog 224 56 1 24 [.slice none 0 0]:=⟨Tryz.underlying224,Tryz.t56,_,Tryz.type56,rfl,rfl,rfl,rfl,rfl,by decide,by decide⟩
theorem flatI2 (a b:List (Iv)):[a,b].flatten=a++b:=by simp
theorem concatI2 {a b:List (Iv)} {av bv sv:Value} {ha:ue av} {hb:ue bv} (hl:a.length+b.length≤1000000) {w0:World} (hav:View w0 av a) (hbv:View w0 bv b) (hsv:View w0 sv [(⟨av,ha⟩:SLW),(⟨bv,hb⟩:SLW)]):Calls Tryz.prog 296 #[sv] w0 (RetR w0 74 (a++b) True):=by
 have h:=w8 [a,b] [(⟨av,ha⟩:SLW),(⟨bv,hb⟩:SLW)] sv rfl (by rw [flatI2,List.length_append]; exact hl) (by show 2≤100; decide) w0 (fun i hi=>by
  have hi:i < 2:=hi
  rcases (by omega:i=0∨i=1) with rfl | rfl
  · exact hav
  · exact hbv) hsv
 rw [flatI2] at h; exact h
end Go.Sx
namespace Go.Sx
open Go Go.RowKit Go.Proofs
set_option maxRecDepth 100000
set_option maxHeartbeats 8000000
attribute [local irreducible] Code.wp wpList Rd Step ObS Ent
attribute [local irreducible] ah ak aq an bN aQ dU vk sW sO qt
def c3B (a b c:Bool):List Value:=[.bool a,.bool b,.bool c]
def v3B (a b c:Bool):Value:=.agg (c3B a b c).toArray
instance yD2_4 (a b c:Bool):Cel (v3B a b c) (c3B a b c):=⟨rfl⟩
instance yD2_5 (a b c:Bool):Dc (c3B a b c) (v3B a b c):=⟨rfl⟩
instance sz326:Sz Tryz.prog 326 3:=⟨Tryz.sizeOf326⟩
instance ag326:Ag Tryz.prog 326 true:=⟨Tryz.isAgg326⟩
instance un326:Un Tryz.prog 326 (.array 3 4):=⟨uu326⟩
instance zc326:Zc Tryz.prog 326 (c3B false false false):=⟨⟨_,vv326,rfl⟩⟩
instance codBool:Cod Bool:=⟨fun b=>[.bool b],1,fun _=>rfl,fun b c h=>by rw [List.mem_singleton.1 h]; rfl,by decide⟩
def whK (W:Int→Bool) (l:List Pc) (k:Nat):List Iv×Bool:=(l.take k).foldl (mW W) ([],false)
theorem whK_succ {W:Int→Bool} {l:List Pc} {k:Nat} (hk:k < l.length):whK W l (k+1)=mW W (whK W l k) (gt l k):=by
 unfold whK
 rw [List.take_succ_eq_append_getElem hk,List.foldl_append,gU hk]; rfl
theorem xC (P:List Pc) (e:Int) (q:Qd) (i:Iv) (a b c:Bool) (hP:P.length≤100) (hs:∀ w0,Calls Tryz.prog 266 #[vD q,vV i] w0 (RetT w0 328 P [.int .i64 e] True)) (hr:∀ k,k < P.length→(gt P k).s=-1∨(gt P k).s=0∨(gt P k).s=1) (hno:∀ k,k < P.length→(wnt a b c (gt P k).s && (whK (wnt a b c) P k).2)=false) (w0:World) :
 Calls Tryz.prog 193 #[vD q,vV i,.bool a,.bool b,.bool c] w0 (RetT w0 74 (whR (wnt a b c) P) [.int .i64 e] True):=by
 refine enter (N:=75) (args:=[vD q,vV i,.bool a,.bool b,.bool c]) Tryz.func193 rfl rfl ?_; intro ac h
 haveI:On:=⟨trivial⟩
 refine gz h <| (xb) fun b1=>(xb) fun b2=>(W) ?_; clear h ac; intro ac wo h
 refine sg (xs:=P) h (cz Tryz.call266 rfl) (fun w_ hB_ hS_=>hs w_) rfl ?_; clear h ac wo; intro pv ac wo hpv h
 refine gz h <| (W) ?_; clear h ac wo; intro ac wo h
 have hsl:=h.row_sl 0 rfl
 refine gz h <| (xo (hs:=by exact pd (α:=Bool) (xs:=[.tmp 26,.tmp 27,.tmp 28]) (vs:=[.bool a,.bool b,.bool c]) [a,b,c] vv326 uu326 zz4 rfl rfl rfl)) <| (W) ?_; clear h ac wo; intro ac wo h
 replace h:St w0 75 [(29,v3B a b c),(12,pv),(13,.int .i64 e)] [.row 328 pv P] ac wo:=h.re [0]
 refine gz h <| (xa) fun b3=>(W) ?_; clear h ac wo; intro ac wo h
 replace h:=h.nilRow (α:=Iv) 74
 refine wp_loop_ghost (fun n_ a_ w_=>∃ (k:Nat) (sv:Value),(P.length - k < n_)∧(k≤P.length)∧(whK (wnt a b c) P k).1.length≤k∧St w0 75 [(13,.int .i64 e),(14,ptr b3 0),(15,sv),(16,.bool (whK (wnt a b c) P k).2),(30,pv),(31,iN P.length),(32,iN k)] [.row 74 sv (whK (wnt a b c) P k).1,.blk b3 (c3B a b c) 326,.row 328 pv P] a_ w_) (P.length+1) ⟨0,_,by omega,by omega,Nat.le_refl 0,h.re [0,1,2]⟩ ?_
 clear h ac wo; rintro n1 ac wo ⟨k,sv,hm1,hk,hln,h⟩
 obtain ⟨m1,rfl⟩:∃ m,n1=m+1:=⟨n1 - 1,by omega⟩
 refine gz h <| (ai) ?_ ?_ <;> clear h ac wo <;> intro ac wo h hc2
 ·
  have hd1:k < P.length:=by have:=of_decide_eq_true hc2; omega
  have es:=whK_succ (W:=wnt a b c) hd1
  have hn:=hno k hd1
  have hs':=hr k hd1
  have n1':=h.row_nn 2 rfl (by omega)
  refine gz h <| (xa) fun b4=>(W) ?_; clear h ac wo; intro ac wo h
  obtain ⟨p,hp⟩:∃ p,gt P k=p:=⟨_,rfl⟩
  rw [hp] at h hn hs' es
  obtain ⟨st,hst⟩:∃ st,whK (wnt a b c) P k=st:=⟨_,rfl⟩
  rw [hst] at h hn es hln
  obtain ⟨out,bf⟩:=st
  obtain ⟨iv,s⟩:=p
  simp only at hs' hn hln
  rcases hs' with hs' | hs' | hs'
  ·
   subst hs'
   have hw:wnt a b c (-1)=a:=rfl
   rw [hw] at hn
   replace h:St w0 75 [(38,iN 0),(18,ptr b4 0),(13,.int .i64 e),(14,ptr b3 0),(15,sv),(16,.bool bf),(30,pv),(31,iN P.length),(32,iN k)] [.blk b4 (cPc ⟨iv,-1⟩) 328,.row 74 sv out,.blk b3 (c3B a b c) 326,.row 328 pv P] ac wo:=h.re [0,1,2,3]
   refine gz h <| (ai) ?_ ?_ <;> clear h ac wo <;> intro ac wo h hc3
   · exfalso
     have:(a && bf)=true:=hc3
     rw [hn] at this; cases this
   refine gz h <| (ai) ?_ ?_ <;> clear h ac wo <;> intro ac wo h hc4
   · have hc4:a=true:=hc4
     have es':whK (wnt a b c) P (k+1)=(out++[iv],a):=by
      rw [es]; unfold mW; simp only; rw [hw,hn,hc4]; rfl
     refine gz h <| (W) ?_; clear h ac wo; intro ac wo h
     refine nw h (bT (α:=Iv) (xs:=[.tmp 68]) (vs:=[vV iv]) [iv] slt103 rfl rfl rfl (by decide)) rfl ?_; clear h ac wo; intro v1 ac wo _ h
     refine on2 h 2 0 rfl rfl (eA (xs:=out) (ys:=[iv]) slt103 (fun w hs=>(row_view hs 0 rfl)) rfl rfl (by show _+1≤_; omega)) rfl ?_; clear h ac wo; intro v2 ac wo _ h
     refine gz h <| (W) ?_; clear h ac wo; intro ac wo h
     exact az ⟨m1,by omega,k+1,v2,by omega,by omega,by rw [es']; simp only [List.length_append,List.length_cons,List.length_nil]; omega,by rw [es']; exact h.re [0,3,4]⟩
   · have hc4:a=false:=hc4
     have es':whK (wnt a b c) P (k+1)=(out,a):=by
      rw [es]; unfold mW; simp only; rw [hw,hn,hc4]; rfl
     refine gz h <| (W) ?_; clear h ac wo; intro ac wo h
     exact az ⟨m1,by omega,k+1,sv,by omega,by omega,by rw [es']; simp only; omega,by rw [es']; exact h.re [1,2,3]⟩
  ·
   subst hs'
   have hw:wnt a b c (0)=b:=rfl
   rw [hw] at hn
   replace h:St w0 75 [(38,iN 1),(18,ptr b4 0),(13,.int .i64 e),(14,ptr b3 0),(15,sv),(16,.bool bf),(30,pv),(31,iN P.length),(32,iN k)] [.blk b4 (cPc ⟨iv,0⟩) 328,.row 74 sv out,.blk b3 (c3B a b c) 326,.row 328 pv P] ac wo:=h.re [0,1,2,3]
   refine gz h <| (ai) ?_ ?_ <;> clear h ac wo <;> intro ac wo h hc3
   · exfalso
     have:(b && bf)=true:=hc3
     rw [hn] at this; cases this
   refine gz h <| (ai) ?_ ?_ <;> clear h ac wo <;> intro ac wo h hc4
   · have hc4:b=true:=hc4
     have es':whK (wnt a b c) P (k+1)=(out++[iv],b):=by
      rw [es]; unfold mW; simp only; rw [hw,hn,hc4]; rfl
     refine gz h <| (W) ?_; clear h ac wo; intro ac wo h
     refine nw h (bT (α:=Iv) (xs:=[.tmp 68]) (vs:=[vV iv]) [iv] slt103 rfl rfl rfl (by decide)) rfl ?_; clear h ac wo; intro v1 ac wo _ h
     refine on2 h 2 0 rfl rfl (eA (xs:=out) (ys:=[iv]) slt103 (fun w hs=>(row_view hs 0 rfl)) rfl rfl (by show _+1≤_; omega)) rfl ?_; clear h ac wo; intro v2 ac wo _ h
     refine gz h <| (W) ?_; clear h ac wo; intro ac wo h
     exact az ⟨m1,by omega,k+1,v2,by omega,by omega,by rw [es']; simp only [List.length_append,List.length_cons,List.length_nil]; omega,by rw [es']; exact h.re [0,3,4]⟩
   · have hc4:b=false:=hc4
     have es':whK (wnt a b c) P (k+1)=(out,b):=by
      rw [es]; unfold mW; simp only; rw [hw,hn,hc4]; rfl
     refine gz h <| (W) ?_; clear h ac wo; intro ac wo h
     exact az ⟨m1,by omega,k+1,sv,by omega,by omega,by rw [es']; simp only; omega,by rw [es']; exact h.re [1,2,3]⟩
  ·
   subst hs'
   have hw:wnt a b c (1)=c:=rfl
   rw [hw] at hn
   replace h:St w0 75 [(38,iN 2),(18,ptr b4 0),(13,.int .i64 e),(14,ptr b3 0),(15,sv),(16,.bool bf),(30,pv),(31,iN P.length),(32,iN k)] [.blk b4 (cPc ⟨iv,1⟩) 328,.row 74 sv out,.blk b3 (c3B a b c) 326,.row 328 pv P] ac wo:=h.re [0,1,2,3]
   refine gz h <| (xo (hs:=by exact r_iaA (i:=2) uu326 zz4 rfl rfl (by decide))) <| (ai) ?_ ?_ <;> clear h ac wo <;> intro ac wo h hc3
   · exfalso
     have:(c && bf)=true:=hc3
     rw [hn] at this; cases this
   refine gz h <| (ai) ?_ ?_ <;> clear h ac wo <;> intro ac wo h hc4
   · have hc4:c=true:=hc4
     have es':whK (wnt a b c) P (k+1)=(out++[iv],c):=by
      rw [es]; unfold mW; simp only; rw [hw,hn,hc4]; rfl
     refine gz h <| (W) ?_; clear h ac wo; intro ac wo h
     refine nw h (bT (α:=Iv) (xs:=[.tmp 68]) (vs:=[vV iv]) [iv] slt103 rfl rfl rfl (by decide)) rfl ?_; clear h ac wo; intro v1 ac wo _ h
     refine on2 h 2 0 rfl rfl (eA (xs:=out) (ys:=[iv]) slt103 (fun w hs=>(row_view hs 0 rfl)) rfl rfl (by show _+1≤_; omega)) rfl ?_; clear h ac wo; intro v2 ac wo _ h
     refine gz h <| (W) ?_; clear h ac wo; intro ac wo h
     exact az ⟨m1,by omega,k+1,v2,by omega,by omega,by rw [es']; simp only [List.length_append,List.length_cons,List.length_nil]; omega,by rw [es']; exact h.re [0,3,4]⟩
   · have hc4:c=false:=hc4
     have es':whK (wnt a b c) P (k+1)=(out,c):=by
      rw [es]; unfold mW; simp only; rw [hw,hn,hc4]; rfl
     refine gz h <| (W) ?_; clear h ac wo; intro ac wo h
     exact az ⟨m1,by omega,k+1,sv,by omega,by omega,by rw [es']; simp only; omega,by rw [es']; exact h.re [1,2,3]⟩
 ·
  have hke:k=P.length:=by have:=of_decide_eq_false hc2; omega
  have ew:(whK (wnt a b c) P k).1=whR (wnt a b c) P:=by rw [hke]; unfold whK whR; rw [List.take_length]
  rw [ew] at h
  refine gz h <| (W) ?_; clear h ac wo; intro ac wo h
  exact (rt h) (h.retT 0 rfl rfl trivial)
end Go.Sx
namespace Go.Sx
open Go Go.RowKit Go.Proofs
set_option maxRecDepth 100000
set_option maxHeartbeats 8000000
attribute [local irreducible] Code.wp wpList Rd Step ObS Ent
attribute [local irreducible] ah ak aq an bN aQ dU vk sW sO qt
def bvD (v:Value):Value:=agc v 0
def bvT (v:Value):Value:=agc v 1
instance sz99:Sz Tryz.prog 99 2:=⟨Tryz.sizeOf99⟩
instance ag99:Ag Tryz.prog 99 true:=⟨Tryz.isAgg99⟩
instance zc99:Zc Tryz.prog 99 [.slice none 0 0,.slice none 0 0]:=⟨⟨_,vv99,rfl⟩⟩
theorem bld99:BuildF Tryz.prog 99 [.slice none 0 0,.slice none 0 0] [(0,1),(1,1)]:=BuildF.of vv99 rfl uu99 (by intro w; simp [Tryz.sizeOf56])
instance fl99a:Fl Tryz.prog 99 0 56 0:=⟨⟨_,_,uu99,rfl,rfl,rfl⟩⟩
instance fl99b:Fl Tryz.prog 99 1 56 1:=⟨⟨_,_,uu99,rfl,rfl,rfl⟩⟩
def IsBv (v:Value):Prop:=∃ a b:Value,v=.agg #[a,b]∧ue a∧ue b
instance celBv (a b:Value):Cel (.agg #[a,b]) [a,b]:=⟨rfl⟩
instance dcBv (a b:Value):Dc [a,b] (.agg #[a,b]):=⟨rfl⟩
instance cf174:Cf Tryz.prog 174:=⟨Tryz.call174⟩
theorem vch (K:Key) {i:Iv} (h:Wv i) (zi:SzV 30 i):∀ w0,Calls Tryz.prog 174 #[vV i] w0 (dh w0 (.int .i64 0) True):=by
 have:=gw i ⟨trivial,trivial⟩ zi
 rw [vcheck h] at this
 exact this
theorem make_ct [K:Key] (d t:List Iv) (dv tv:Value) (hld:d.length≤60) (hlt:t.length≤60) (hd:∀ i∈d,Wv i) (ht:∀ i∈t,Wv i) (zd:All (SzV 30) d) (zt:All (SzV 30) t) (w0:World) (hdv:View w0 dv d) (htv:View w0 tv t) :
 Calls Tryz.prog 251 #[dv,tv] w0 (Ret w0 (fun v=>v=.tuple #[kh v,.int .i64 0]∧IsBv (kh v)) (fun v=>[.row 74 (bvD (kh v)) (bo d),.row 74 (bvT (kh v)) (dp (bo d) (bo t))])):=by
 refine enter (N:=34) (args:=[dv,tv]) Tryz.func251 rfl rfl ?_; intro ac h
 haveI:On:=⟨trivial⟩
 have hlen:=hdv.len
 have hlen2:=htv.len
 refine gz h <| (xa) fun b1=>(W) ?_; clear h ac; intro ac wo h
 refine nw h (bT (α:=SLW) (xs:=[.tmp 10,.tmp 11]) (vs:=[dv,tv]) [⟨dv,hdv.sl.is⟩,⟨tv,htv.sl.is⟩] slt224 rfl (by obtain ⟨_,_,_,ha⟩:=hdv.sl.is; obtain ⟨_,_,_,hb⟩:=htv.sl.is; subst ha; subst hb; rfl) rfl (by decide)) rfl ?_; clear h ac wo; intro ss ac wo _ h
 refine iu (xs:=d++t) h (cz Tryz.call296 rfl) (fun w_ hB_ hS_=>concatI2 (by omega) (hdv.below hB_) (htv.below hB_) (row_view hS_ 0 rfl)) rfl ?_; clear h ac wo; intro cv ac wo _ h
 have hsl:=h.row_sl 0 rfl
 refine gz h <| (W) ?_; clear h ac wo; intro ac wo h
 obtain ⟨c,hc⟩:∃ c,d++t=c:=⟨_,rfl⟩
 have hwc:∀ i∈c,Wv i:=fun i hi=>by
  rw [← hc] at hi
  rcases List.mem_append.1 hi with hi | hi
  · exact hd i hi
  · exact ht i hi
 have hzc:All (SzV 30) c:=fun i hi=>by
  rw [← hc] at hi
  rcases List.mem_append.1 hi with hi | hi
  · exact zd i hi
  · exact zt i hi
 rw [hc] at h hsl
 replace h:St w0 34 [(0,dv),(1,tv),(4,ptr b1 0),(13,cv),(14,iN c.length),(15,iN 0)] [.row 74 cv c,.blk b1 [.slice none 0 0,.slice none 0 0] 99] ac wo:=h.re [0,2]
 refine wp_loop_ghost (fun n_ a_ w_=>∃ (k:Nat),(c.length - k < n_)∧(k≤c.length)∧St w0 34 [(0,dv),(1,tv),(4,ptr b1 0),(13,cv),(14,iN c.length),(15,iN k)] [.row 74 cv c,.blk b1 [.slice none 0 0,.slice none 0 0] 99] a_ w_) (c.length+1) ⟨0,by omega,by omega,h⟩ ?_
 clear h ac wo; rintro n1 ac wo ⟨k,hm1,hk,h⟩
 obtain ⟨m1,rfl⟩:∃ m,n1=m+1:=⟨n1 - 1,by omega⟩
 refine gz h <| (ai) ?_ ?_ <;> clear h ac wo <;> intro ac wo h hc2
 ·
  have hd1:k < c.length:=by have:=of_decide_eq_true hc2; omega
  have hm:gt c k∈c:=by rw [gU hd1]; exact List.getElem_mem _
  have c1:=vch K (hwc _ hm) (hzc _ hm)
  have n1':=h.row_nn 0 rfl (by omega)
  refine gz h <| (xa) fun b2=>(xk c1) <| (ai) ?_ ?_ <;> clear h ac wo <;> intro ac wo h hc3
  · cases hc3
  refine gz h <| (W) ?_; clear h ac wo; intro ac wo h
  exact az ⟨m1,by omega,k+1,by omega,by omega,h.re [1,2]⟩
 ·
  have nd:=kP hd
  have nt:=kP ht
  replace h:St w0 34 [(0,dv),(1,tv),(4,ptr b1 0)] [.blk b1 [.slice none 0 0,.slice none 0 0] 99] ac wo:=h.re [1]
  refine gz h <| (W) ?_; clear h ac wo; intro ac wo h
  have cd:=fun w_ hv=>gF d dv (by omega) hd zd w_ hv
  have cdp:=RetR.pr (cd w0 hdv)
  have ct:=fun w_ hv=>gF t tv (by omega) ht zt w_ hv
  have ctp:=RetR.pr (ct w0 htv)
  refine iu (xs:=bo d) h (cz Tryz.call132 rfl) (fun w_ hB_ hS_=>cd w_ (hdv.below hB_)) rfl ?_; clear h ac wo; intro nv ac wo _ h
  have hsn:=(h.row_sl 0 rfl)
  refine gz h <| (W) ?_; clear h ac wo; intro ac wo h
  refine iu (xs:=bo t) h (cz Tryz.call132 rfl) (fun w_ hB_ hS_=>ct w_ (htv.below hB_)) rfl ?_; clear h ac wo; intro mv ac wo _ h
  refine gz h <| (W) ?_; clear h ac wo; intro ac wo h
  refine iu (xs:=dp (bo d) (bo t)) h (cz Tryz.call93 rfl) (fun w_ hB_ hS_=>mJ (bo d) nv (bo t) mv (by omega) (by omega) nd.1.wv nt.1.wv cdp.1 ctp.1 w_ (row_view hS_ 1 rfl) (row_view hS_ 0 rfl)) rfl ?_; clear h ac wo; intro iv ac wo _ h
  have hsi:=(h.row_sl 0 rfl)
  have es1:=hsn.is
  have es2:=hsi.is
  obtain ⟨x1,x2,x3,rfl⟩:=hsn.is
  obtain ⟨y1,y2,y3,rfl⟩:=hsi.is
  refine gz h <| (xo (hs:=by exact r_build2 bld99 rfl es1 es2)) <| (W) ?_; clear h ac wo; intro ac wo h
  exact xw 3 h (h.retA (v:=.tuple #[.agg #[.slice x1 x2 x3,.slice y1 y2 y3],.int .i64 0]) ⟨rfl,_,_,rfl,es1,es2⟩ (h.pick [2,0] (by decide)))
end Go.Sx
