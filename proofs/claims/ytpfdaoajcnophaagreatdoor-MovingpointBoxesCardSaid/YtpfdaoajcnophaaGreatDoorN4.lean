/- A part of the proof of movingpointBoxes. -/
import Derived.Test.YtpfdaoajcnophaaGreatDoorN3
import Derived.Test.YtpfdaoajcnophaaGreatDoorM5
import Derived.Test.YtpfdaoajcnophaaGreatDoorM4
import Derived.Test.YtpfdaoajcnophaaGreatDoorM8
set_option linter.unusedVariables false
set_option linter.unusedSimpArgs false
open Go.Proofs.Tryz renaming runUnderlying260 → uu260, runUnderlying3 → uu3, runUnderlying179 → uu179, sizeOf77 → zz77, runUnderlying181 → uu181, sizeOf3 → zz3, isAgg46 → aa46, sizeOf46 → zz46, runUnderlying41 → uu41, call122 → cc122, call104 → cc104, call67 → cc67, call105 → cc105
namespace Go.Sx
open Go Go.RowKit Go.Proofs
set_option maxRecDepth 100000
set_option maxHeartbeats 4000000
attribute [local irreducible] Code.wp wpList Rd Step ObS Ent
def toI (a:GI):Int×Bool :=
 bif decide (a.mag < 18446744073709551616) then
  bif a.neg && decide (a.mag≤9223372036854775808) then (-(a.mag:Int),true) else bif (!a.neg) && decide (a.mag≤9223372036854775807) then ((a.mag:Int),true) else (0,false)
 else (0,false)
theorem i9 (a:GI) (w0:World):Calls Tryz.prog 119 #[vI a] w0 (dE w0 (.tuple #[.int .i64 (toI a).1,.bool (toI a).2]) True):=by
 have c1:=ip a.mag
 by_cases hm:a.mag < 18446744073709551616
 ·
  have e:dL a.mag=(a.mag,true):=by rw [mh,if_pos hm]
  rw [e] at c1
  refine enter (N:=35) (args:=[vI a]) Tryz.func119 rfl rfl ?_; intro ac h
  refine gz h <| (xb) fun b1=>(xk c1) <| (ai) ?_ ?_ <;> clear h ac <;> intro ac wo h hc1
  · cases hc1
  have e0:toI a=bif a.neg && decide (a.mag≤9223372036854775808) then (-(a.mag:Int),true) else bif (!a.neg) && decide (a.mag≤9223372036854775807) then ((a.mag:Int),true) else (0,false):=by unfold toI; rw [decide_eq_true hm]; rfl
  have k1:decide ((a.mag:Int)≤9223372036854775808)=decide (a.mag≤9223372036854775808):=by rw [decide_eq_decide]; omega
  have k2:decide ((a.mag:Int)≤9223372036854775807)=decide (a.mag≤9223372036854775807):=by rw [decide_eq_decide]; omega
  refine gz h <| (ai) ?_ ?_ <;> clear h ac wo <;> intro ac wo h hc2
  ·
   have hc2':(a.neg && decide (a.mag≤9223372036854775808))=true:=by rw [← k1]; exact hc2
   obtain ⟨h1,h2⟩:=Bool.and_eq_true_iff.mp hc2'
   have h3:=of_decide_eq_true h2
   rw [e0,hc2',cond_true]
   refine gz h <| (xo (hs:=by exact r_neg rfl (r:=IntKind.u64.wrap (-(a.mag:Int))) rfl)) <| (xo (hs:=by exact bh uu260 uu3 rfl (r:=-(a.mag:Int)) (by rw [IntKind.wrap_u64,IntKind.wrap_i64]; omega))) <| (W) ?_; clear h ac wo; intro ac wo h
   exact (rt h) (h.retP rfl trivial)
  ·
   have hc2':(a.neg && decide (a.mag≤9223372036854775808))=false:=by rw [← k1]; exact hc2
   rw [e0,hc2',cond_false]
   refine gz h <| (ai) ?_ ?_ <;> clear h ac wo <;> intro ac wo h hc3
   ·
    have hc3':((!a.neg) && decide (a.mag≤9223372036854775807))=true:=by rw [← k2]; exact hc3
    have h3:=of_decide_eq_true (Bool.and_eq_true_iff.mp hc3').2
    rw [hc3',cond_true]
    refine gz h <| (xo (hs:=by exact bh uu260 uu3 rfl (r:=(a.mag:Int)) (by rw [IntKind.wrap_i64]; omega))) <| (W) ?_; clear h ac wo; intro ac wo h
    exact (rt h) (h.retP rfl trivial)
   ·
    have hc3':((!a.neg) && decide (a.mag≤9223372036854775807))=false:=by rw [← k2]; exact hc3
    rw [hc3',cond_false]
    refine gz h <| (W) ?_; clear h ac wo; intro ac wo h
    exact (rt h) (h.retP rfl trivial)
 ·
  have e:dL a.mag=(0,false):=by rw [mh,if_neg hm]
  rw [e] at c1
  have e0:toI a=(0,false):=by unfold toI; rw [decide_eq_false hm]; rfl
  rw [e0]
  refine enter (N:=35) (args:=[vI a]) Tryz.func119 rfl rfl ?_; intro ac h
  refine gz h <| (xb) fun b1=>(xk c1) <| (ai) ?_ ?_ <;> clear h ac <;> intro ac wo h hc1
  · refine gz h <| (W) ?_; clear h ac wo; intro ac wo h
    exact (rt h) (h.retP rfl trivial)
  · cases hc1
theorem qU {a:GI} (h:(toI a).2=true):(toI a).1=dN a:=by
 unfold toI at h ⊢
 unfold dN
 cases h1:decide (a.mag < 18446744073709551616) with
 | false=>rw [h1] at h; cases h
 | true =>
  rw [h1,cond_true] at h
  rw [cond_true]
  cases hn:a.neg with
  | true =>
   rw [hn] at h
   cases h2:decide (a.mag≤9223372036854775808) with
   | false=>rw [h2] at h; cases h
   | true=>rfl
  | false =>
   rw [hn] at h
   cases h2:decide (a.mag≤9223372036854775807) with
   | false=>rw [h2] at h; cases h
   | true=>rfl
theorem toI_no {a:GI} (h:(toI a).2=false):9223372036854775807 < dN a∨dN a < -9223372036854775808:=by
 unfold toI at h
 unfold dN
 cases h1:decide (a.mag < 18446744073709551616) with
 | false =>
  have:=of_decide_eq_false h1
  cases a.neg with
  | true=>right; show -(a.mag:Int) < _; omega
  | false=>left; show _ < (a.mag:Int); omega
 | true =>
  rw [h1,cond_true] at h
  cases hn:a.neg with
  | true =>
   rw [hn] at h
   cases h2:decide (a.mag≤9223372036854775808) with
   | true=>rw [h2] at h; cases h
   | false=>right; have:=of_decide_eq_false h2; show -(a.mag:Int) < _; omega
  | false =>
   rw [hn] at h
   cases h2:decide (a.mag≤9223372036854775807) with
   | true=>rw [h2] at h; cases h
   | false=>left; have:=of_decide_eq_false h2; show _ < (a.mag:Int); omega
def pX (f c:Int×Bool):Bool:=!f.2 || !c.2 || decide (f.1 < -1099511627776) || decide (c.1>1099511627776)
theorem uF {f c:GI} {u v:Int} (hu:dN f=u) (hv:dN c=v) (h:u≤v):pX (toI f) (toI c)=false↔-1099511627776≤u∧v≤1099511627776:=by
 unfold pX
 cases h1:(toI f).2 with
 | false =>
  have:=toI_no h1
  rw [hu] at this
  constructor
  · intro e; cases e
  · intro e; exfalso; omega
 | true =>
  have e1:=qU h1
  rw [hu] at e1
  cases h2:(toI c).2 with
  | false =>
   have:=toI_no h2
   rw [hv] at this
   constructor
   · intro e; cases e
   · intro e; exfalso; omega
  | true =>
   have e2:=qU h2
   rw [hv] at e2
   rw [e1,e2]
   simp only [Bool.not_true,Bool.false_or,Bool.or_eq_false_iff,decide_eq_false_iff_not]
   omega
theorem vX {f c:GI} {u v:Int} (hu:dN f=u) (hv:dN c=v) (h:pX (toI f) (toI c)=false):(toI f).1=u∧(toI c).1=v:=by
 unfold pX at h
 simp only [Bool.or_eq_false_iff] at h
 obtain ⟨⟨⟨h1,h2⟩,_⟩,_⟩:=h
 exact ⟨by rw [qU (by simpa using h1),hu],by rw [qU (by simpa using h2),hv]⟩
end Go.Sx
namespace Go.Sx
open Go Go.RowKit Go.Proofs
set_option maxRecDepth 100000
set_option maxHeartbeats 40000000
attribute [local irreducible] Code.wp wpList Rd Step ObS Ent
attribute [local irreducible] ao aL ah au ax bN
attribute [local irreducible] aH aI am aq aE ak aS
instance bu41z:Bu Tryz.prog 41 [] [] (vBx ⟨0,0,0,0,0,0⟩):=Bu.of aa5 rfl rfl
def loB (L:List GR):Int×Bool:=toI (bc (jC L (L.length - 1)))
def hiB (L:List GR):Int×Bool:=toI (bO (jN L (L.length - 1)))
def nz (L:List GR):Bool:=pX (loB L) (hiB L)
def w6 (X Y T:List GR):Bx×Int:=bif nz X || nz Y || nz T then (⟨0,0,0,0,0,0⟩,2) else (⟨(loB X).1,(hiB X).1,(loB Y).1,(hiB Y).1,(loB T).1,(hiB T).1⟩,0)
theorem boxG_ct (l:List (U Ln)) (lv:Value) (h0:0 < l.length) (hl:l.length≤400) (zf:∀ i,SzN 30 (gt l i).f) (zt:∀ k,SzR 30 (enR l k)∧Sm (enR l k).r)
 (hX:∀ i,SzR 36 (gt (bX l (2*l.length)) i)) (hY:∀ i,SzR 36 (gt (bY l (2*l.length)) i)) (hT:∀ i,SzR 36 (gt (bT l (2*l.length)) i)) (w0:World) (hlv:View w0 lv l):Calls Tryz.prog 20 #[lv] w0 (dE w0 (.tuple #[vBx (w6 (bX l (2*l.length)) (bY l (2*l.length)) (bT l (2*l.length))).1,.int .i64 (w6 (bX l (2*l.length)) (bY l (2*l.length)) (bT l (2*l.length))).2]) True):=by
 refine enter (N:=124) (args:=[lv]) Tryz.func20 rfl rfl ?_; intro ac h
 haveI:On:=⟨trivial⟩
 have hlen:=hlv.len
 refine gz h <| (xa) fun b1=>(ai) ?_ ?_ <;> clear h ac <;> intro ac wo h hc1
 · have:=eq_of_beq hc1; omega
 refine gz h <| (xa) fun b2=>(W) ?_; clear h ac wo; intro ac wo h
 replace h:=((h.nilRow (α:=GR) 46).nilRow (α:=GR) 46).nilRow (α:=GR) 46
 refine wp_loop_ghost (fun n_ a_ w_=>∃ (i:Nat) (sx sy st:Value),(l.length - i < n_)∧(i≤l.length)∧lJ sx∧lJ sy∧lJ st∧St w0 124 [(2,ptr b1 0),(4,ptr b2 0),(24,lv),(25,iN l.length),(26,iN i)] [.blk b2 [sx,sy,st] 179,.row (α:=GR) 46 sx (bX l (2*i)),.row (α:=GR) 46 sy (bY l (2*i)),.row (α:=GR) 46 st (bT l (2*i)),.blk b1 (cBx ⟨0,0,0,0,0,0⟩) 41] a_ w_) (l.length+1) ⟨0,_,_,_,by omega,by omega,⟨_,_,_,rfl⟩,⟨_,_,_,rfl⟩,⟨_,_,_,rfl⟩,h.re [3,0,1,2,4]⟩ ?_
 clear h ac wo; rintro n1 ac wo ⟨i,sx,sy,st,hm1,hi,isx,isy,ist,h⟩
 obtain ⟨m1,rfl⟩:∃ m,n1=m+1:=⟨n1 - 1,by omega⟩
 refine gz h <| (ai) ?_ ?_ <;> clear h ac wo <;> intro ac wo h hc2
 ·
  have hlt:i < l.length:=by have:=of_decide_eq_true hc2; omega
  have n1:=hlv.nn hlt
  have e0:enR l (2*i)=(gt l i).iv.lo:=by
   unfold enR; rw [show 2*i % 2=0 by omega,show 2*i / 2=i by omega]; rfl
  have e1:enR l (2*i+1)=(gt l i).iv.hi:=by
   unfold enR; rw [show (2*i+1) % 2=1 by omega,show (2*i+1) / 2=i by omega]; rfl
  refine gz h <| (xa) fun b6=>(W) ?_; clear h ac wo; intro ac wo h
  refine nw h (dG (α:=GR) (xs:=[.tmp 32,.tmp 35]) (vs:=[vR (gt l i).iv.lo,vR (gt l i).iv.hi]) [(gt l i).iv.lo,(gt l i).iv.hi] kK rfl rfl rfl (by decide)) rfl ?_; clear h ac wo; intro s0 ac wo hs0 h
  refine gz h <| (W) ?_; clear h ac wo; intro ac wo h
  obtain ⟨LH,hLH⟩:∃ LH:List GR,[(gt l i).iv.lo,(gt l i).iv.hi]=LH:=⟨_,rfl⟩
  have hl2:LH.length=2:=by rw [← hLH]; rfl
  have E:∀ j,j < 2→gt LH j=enR l (2*i+j):=by
   intro j hj
   rw [← hLH]
   rcases j with _ | _ | j
   · exact e0.symm
   · exact e1.symm
   · omega
  rw [hLH] at h hs0
  clear hLH e0 e1
  replace h:St w0 124 [(2,ptr b1 0),(4,ptr b2 0),(6,ptr b6 0),(24,lv),(25,iN l.length),(26,iN i),(36,s0),(37,iN LH.length),(38,iN 0)] [.row (α:=GR) 46 s0 LH,.blk b6 (cUN (gt l i)) 165,.blk b2 [sx,sy,st] 179,.row (α:=GR) 46 sx (bX l (2*i+0)),.row (α:=GR) 46 sy (bY l (2*i+0)),.row (α:=GR) 46 st (bT l (2*i+0)),.blk b1 (cBx ⟨0,0,0,0,0,0⟩) 41] ac wo:=h.re [0,1,2,3,4,5,6]
  refine wp_loop_ghost (fun n_ a_ w_=>∃ (j:Nat) (sx sy st:Value),(2 - j < n_)∧(j≤2)∧lJ sx∧lJ sy∧lJ st∧St w0 124 [(2,ptr b1 0),(4,ptr b2 0),(6,ptr b6 0),(24,lv),(25,iN l.length),(26,iN i),(36,s0),(37,iN LH.length),(38,iN j)] [.row (α:=GR) 46 s0 LH,.blk b6 (cUN (gt l i)) 165,.blk b2 [sx,sy,st] 179,.row (α:=GR) 46 sx (bX l (2*i+j)),.row (α:=GR) 46 sy (bY l (2*i+j)),.row (α:=GR) 46 st (bT l (2*i+j)),.blk b1 (cBx ⟨0,0,0,0,0,0⟩) 41] a_ w_) 3 ⟨0,sx,sy,st,by omega,by omega,isx,isy,ist,h⟩ ?_
  clear h ac wo isx isy ist sx sy st; rintro n2 ac wo ⟨j,sx,sy,st,hm2,hj,isx,isy,ist,h⟩
  obtain ⟨m2,rfl⟩:∃ m,n2=m+1:=⟨n2 - 1,by omega⟩
  refine gz h <| (ai) ?_ ?_ <;> clear h ac wo <;> intro ac wo h hc3
  ·
   have hj2:j < LH.length:=by have:=of_decide_eq_true hc3; omega
   have ej:=E j (by omega)
   have zj:=zt (2*i+j)
   rw [← ej] at zj
   have c1:=yK (gt l i).f (gt LH j) 10 og (jB (zf i) og) (fh zj.1 og) trivial zj.1.2
   refine gz h <| (xa) fun b8=>(xk c1) <| (xa) fun b9=>(W) ?_; clear h ac wo; intro ac wo h
   obtain ⟨q,hq⟩:∃ q,tZ (gt l i).f (gt LH j)=q:=⟨_,rfl⟩
   obtain ⟨t,ht⟩:∃ t,gt LH j=t:=⟨_,rfl⟩
   have ep:enP l (2*i+j)=q:=by
    unfold enP; rw [show (2*i+j) / 2=i by omega,← ej,hq]
   have et:enR l (2*i+j)=t:=by rw [← ej,ht]
   have eX:bX l (2*i+(j+1))=bX l (2*i+j)++[q.x]:=by unfold bX; rw [← Nat.add_assoc,lB,ep]
   have eY:bY l (2*i+(j+1))=bY l (2*i+j)++[q.y]:=by unfold bY; rw [← Nat.add_assoc,lB,ep]
   have eT:bT l (2*i+(j+1))=bT l (2*i+j)++[t]:=by unfold bT; rw [← Nat.add_assoc,lB,et]
   have lX:=qO l (2*i+j)
   have lY:=qN l (2*i+j)
   have lT:=qP l (2*i+j)
   rw [hq,ht] at h
   obtain ⟨X,hX'⟩:∃ X,bX l (2*i+j)=X:=⟨_,rfl⟩
   obtain ⟨Y,hY'⟩:∃ Y,bY l (2*i+j)=Y:=⟨_,rfl⟩
   obtain ⟨T,hT'⟩:∃ T,bT l (2*i+j)=T:=⟨_,rfl⟩
   rw [hX',hY',hT'] at h
   rw [hX'] at eX lX; rw [hY'] at eY lY; rw [hT'] at eT lT
   replace h:St w0 124 [(2,ptr b1 0),(4,ptr b2 0),(6,ptr b6 0),(8,ptr b8 0),(9,ptr b9 0),(24,lv),(25,iN l.length),(26,iN i),(36,s0),(37,iN LH.length),(38,iN j)] [.blk b9 (cRP q) 49,.blk b8 (cR t) 46,.row (α:=GR) 46 s0 LH,.blk b6 (cUN (gt l i)) 165,.blk b2 [sx,sy,st] 179,.row (α:=GR) 46 sx X,.row (α:=GR) 46 sy Y,.row (α:=GR) 46 st T,.blk b1 (cBx ⟨0,0,0,0,0,0⟩) 41] ac wo:=h.re [0,1,2,3,4,5,6,7,8]
   replace h:=h.emps 3
   refine eZ mixed [dv (ptr b2 (0+0*1)),dw sx [4],dv (ptr b9 0),dw (vR q.x) [0],⟨.nd (.one 4 fun v=>NN v 1),[9]⟩,⟨.nd (.one 5 fun v=>lJ v),[5,9]⟩,dv (ptr b2 (0+1*1)),dw sy [4],dv (ptr b9 9),dw (vR q.y) [0],⟨.nd (.one 10 fun v=>NN v 1),[10]⟩,⟨.nd (.one 11 fun v=>lJ v),[6,10]⟩,dv (ptr b2 (0+2*1)),dw st [4],dw (vR t) [1],⟨.nd (.one 15 fun v=>NN v 1),[11]⟩,⟨.nd (.one 16 fun v=>lJ v),[7,11]⟩,dv (ptr b2 (0+0*1)),dw undef [4],dv (ptr b2 (0+1*1)),dw undef [4],dv (ptr b2 (0+2*1)),dw undef [4]]
    [⟨_,[]⟩,⟨_,[]⟩,⟨_,[]⟩,⟨_,[]⟩,⟨.blk b2 [sx,sy,st] 179,[(18,.one 5 fun v=>.blk b2 [v,sy,st] 179),(20,.two 5 11 fun v u=>.blk b2 [v,u,st] 179),(22,.three 5 11 16 fun v u w=>.blk b2 [v,u,w] 179)]⟩,
     ⟨.row (α:=GR) 46 sx X,[(5,.one 5 fun v=>.row (α:=GR) 46 v (X++[q.x]))]⟩,⟨.row (α:=GR) 46 sy Y,[(11,.one 11 fun v=>.row (α:=GR) 46 v (Y++[q.y]))]⟩,⟨.row (α:=GR) 46 st T,[(16,.one 16 fun v=>.row (α:=GR) 46 v (T++[t]))]⟩,⟨_,[]⟩,
     ⟨.emp,[(4,.one 4 fun v=>.row (α:=GR) 46 v [q.x])]⟩,⟨.emp,[(10,.one 10 fun v=>.row (α:=GR) 46 v [q.y])]⟩,⟨.emp,[(15,.one 15 fun v=>.row (α:=GR) 46 v [t])]⟩] h rfl (by kernel_rfl)
    ⟨fun _ _=>aQ (jF (i:=0) uu179 zz77 rfl rfl (by decide)),oA obA,oA obA,oA obA,fun _ _=>l6 9 q.x kK rfl rfl,fun _ _=>qu (j:=4) 5 9 kK rfl rfl (by rw [lX]; show _+1≤_; omega) rfl (fun v=>by simp only [dg,bA] <;> rfl),
     fun _ _=>aQ (jF (i:=1) uu179 zz77 rfl rfl (by decide)),oA obA,oA obA,oA obA,fun _ _=>l6 10 q.y kK rfl rfl,fun _ _=>qu (j:=10) 6 10 kK rfl rfl (by rw [lY]; show _+1≤_; omega) rfl (fun v=>by simp only [dg,bA] <;> rfl),
     fun _ _=>aQ (jF (i:=2) uu179 zz77 rfl rfl (by decide)),oA obA,oA obA,fun _ _=>l6 11 t kK rfl rfl,fun _ _=>qu (j:=15) 7 11 kK rfl rfl (by rw [lT]; show _+1≤_; omega) rfl (fun v=>by simp only [dg,bA] <;> rfl),
     fun _ _=>aQ (jF (i:=0) uu179 zz77 rfl rfl (by decide)),fun ξ hφ=>kb [.blk b2 [sx,sy,st] 179] [.blk b2 [ξ 5,sy,st] 179] rfl rfl (oi zz77 rfl rfl (i7 (hφ 5 rfl)) rfl (ma (hφ 5 rfl)) rfl rfl),
     fun _ _=>aQ (jF (i:=1) uu179 zz77 rfl rfl (by decide)),fun ξ hφ=>kb [.blk b2 [ξ 5,sy,st] 179] [.blk b2 [ξ 5,ξ 11,st] 179] rfl rfl (oi zz77 rfl rfl (i7 (hφ 11 rfl)) rfl (ma (hφ 11 rfl)) rfl rfl),
     fun _ _=>aQ (jF (i:=2) uu179 zz77 rfl rfl (by decide)),fun ξ hφ=>kb [.blk b2 [ξ 5,ξ 11,st] 179] [.blk b2 [ξ 5,ξ 11,ξ 16] 179] rfl rfl (oi zz77 rfl rfl (i7 (hφ 16 rfl)) rfl (ma (hφ 16 rfl)) rfl rfl),trivial⟩ ?_
   clear h ac wo; intro ξ ac wo hφ h
   have i5:lJ (ξ 5):=hφ 5
   have i11:lJ (ξ 11):=hφ 11
   have i16:lJ (ξ 16):=hφ 16
   replace h:St w0 124 [(2,ptr b1 0),(4,ptr b2 0),(6,ptr b6 0),(24,lv),(25,iN l.length),(26,iN i),(36,s0),(37,iN LH.length),(38,iN j)] [.row (α:=GR) 46 s0 LH,.blk b6 (cUN (gt l i)) 165,.blk b2 [ξ 5,ξ 11,ξ 16] 179,.row (α:=GR) 46 (ξ 5) (X++[q.x]),.row (α:=GR) 46 (ξ 11) (Y++[q.y]),.row (α:=GR) 46 (ξ 16) (T++[t]),.blk b1 (cBx ⟨0,0,0,0,0,0⟩) 41] ac wo:=(h.pick [2,3,4,5,6,7,8] (by decide)).sub ⟨rfl,rfl,rfl,rfl,rfl,rfl,rfl,rfl,rfl,trivial⟩
   generalize ξ 5=u5 at h i5
   generalize ξ 11=u11 at h i11
   generalize ξ 16=u16 at h i16
   clear hφ ξ
   refine gz h <| (W) ?_; clear h ac wo; intro ac wo h
   exact aO ⟨m2,by omega,j+1,u5,u11,u16,by omega,by omega,i5,i11,i16,by rw [eX,eY,eT]; exact h.re [0,1,2,3,4,5,6]⟩
  ·
   obtain rfl:j=2:=by have:=of_decide_eq_false hc3; omega
   refine gz h <| (W) ?_; clear h ac wo; intro ac wo h
   rw [show 2*i+2=2*(i+1) by omega] at h
   exact aO ⟨m1,by omega,i+1,sx,sy,st,by omega,by omega,isx,isy,ist,h.re [2,3,4,5,6]⟩
 ·
  obtain rfl:i=l.length:=by have:=of_decide_eq_false hc2; omega
  refine gz h <| (xa) fun b3=>(xa) fun b4=>(W) ?_; clear h ac wo; intro ac wo h
  clear hm1 hi hc2
  haveI:Dc [sx,sy,st] (.agg #[sx,sy,st]):=⟨rfl⟩
  refine gz h <| (W) ?_; clear h ac wo; intro ac wo h
  have lX:=qO l (2*l.length)
  have lY:=qN l (2*l.length)
  have lT:=qP l (2*l.length)
  generalize bX l (2*l.length)=X at *
  generalize bY l (2*l.length)=Y at *
  generalize bT l (2*l.length)=T at *
  refine wp_loop_ghost (fun n_ a_ w_=>∃ (k:Nat),(3 - k < n_)∧(k≤3)∧((1≤k→nz X=false)∧(2≤k→nz Y=false)∧(3≤k→nz T=false))∧St w0 124 [(2,ptr b1 0),(4,ptr b2 0),(10,ptr b3 0),(11,ptr b4 0),(68,.agg #[sx,sy,st]),(69,iN k)] [.blk b4 (tri k (hiB X).1 (hiB Y).1 (hiB T).1) 181,.blk b3 (tri k (loB X).1 (loB Y).1 (loB T).1) 181,.row (α:=GR) 46 sx X,.row (α:=GR) 46 sy Y,.row (α:=GR) 46 st T,.blk b1 (cBx ⟨0,0,0,0,0,0⟩) 41] a_ w_) 4 ⟨0,by omega,by omega,⟨fun h=>by omega,fun h=>by omega,fun h=>by omega⟩,h.re [0,1,3,4,5,6]⟩ ?_
  clear h ac wo; rintro n1 ac wo ⟨k,hm1,hk,⟨g1,g2,g3⟩,h⟩
  obtain ⟨m1,rfl⟩:∃ m,n1=m+1:=⟨n1 - 1,by omega⟩
  refine gz h <| (ai) ?_ ?_ <;> clear h ac wo <;> intro ac wo h hc2
  ·
   have hk3:k < 3:=by have:=of_decide_eq_true hc2; omega
   obtain ⟨s,L,A,B,hO,hbad,hgood,hL,hs,hlo,hhi,hh,back⟩:∃ s L A B,(∀ i,SzR 36 (gt L i))∧(nz L=true→(nz X || nz Y || nz T)=true)∧(nz L=false→(1≤k+1→nz X=false)∧(2≤k+1→nz Y=false)∧(3≤k+1→nz T=false))∧L.length=2*l.length∧[sx,sy,st][k]?=some s∧spl (tri k (loB X).1 (loB Y).1 (loB T).1) (0+k*1) [.int .i64 (loB L).1]=tri (k+1) (loB X).1 (loB Y).1 (loB T).1∧spl (tri k (hiB X).1 (hiB Y).1 (hiB T).1) (0+k*1) [.int .i64 (hiB L).1]=tri (k+1) (hiB X).1 (hiB Y).1 (hiB T).1 ∧
    St w0 124 [(2,ptr b1 0),(4,ptr b2 0),(10,ptr b3 0),(11,ptr b4 0),(68,.agg #[sx,sy,st]),(69,iN k)] [.blk b4 (tri k (hiB X).1 (hiB Y).1 (hiB T).1) 181,.blk b3 (tri k (loB X).1 (loB Y).1 (loB T).1) 181,.row (α:=GR) 46 s L,A,B,.blk b1 (cBx ⟨0,0,0,0,0,0⟩) 41] ac wo ∧
    ∀ {F:List (Nat×Value)} {C D:Asn} {a w},St w0 124 F [C,D,.row (α:=GR) 46 s L,A,B,.blk b1 (cBx ⟨0,0,0,0,0,0⟩) 41] a w→St w0 124 F [C,D,.row (α:=GR) 46 sx X,.row (α:=GR) 46 sy Y,.row (α:=GR) 46 st T,.blk b1 (cBx ⟨0,0,0,0,0,0⟩) 41] a w:=by
    rcases k with _ | _ | _ | k
    · exact ⟨sx,X,_,_,hX,fun e=>by rw [e]; rfl,fun e=>⟨fun _=>e,fun h=>by omega,fun h=>by omega⟩,lX,rfl,rfl,rfl,h.re [0,1,2,3,4,5],fun h=>h⟩
    · exact ⟨sy,Y,_,_,hY,fun e=>by rw [e,Bool.or_true,Bool.true_or],fun e=>⟨fun _=>g1 (by omega),fun _=>e,fun h=>by omega⟩,lY,rfl,rfl,rfl,h.re [0,1,3,2,4,5],fun h=>h.pick [0,1,3,2,4,5] (by decide)⟩
    · exact ⟨st,T,_,_,hT,fun e=>by rw [e,Bool.or_true],fun e=>⟨fun _=>g1 (by omega),fun _=>g2 (by omega),fun _=>e⟩,lT,rfl,rfl,rfl,h.re [0,1,4,2,3,5],fun h=>h.pick [0,1,3,4,2,5] (by decide)⟩
    · omega
   clear h; have h:=hh; clear hh
   have zm:=vh (P:=SzR 36) hO (L.length - 1)
   have zM:=vj (P:=SzR 36) hO (L.length - 1)
   have z30:∀ i,SzR 30 (gt L i):=fun i=>fh (hO i) og
   refine gz h <| (xo (hs:=by exact u4 uu179 zz77 Tryz.isAgg77 rfl rfl hk3 hs)) <| (xc (ct:=by exact fun w_ hB_ hS_=>y8 L s (by omega) (by omega) z30 w_ (row_view hS_ 2 rfl))) <| (xa) fun b5=>(xc (ct:=by exact fun w_ hB_ hS_=>zh L s (by omega) (by omega) z30 w_ (row_view hS_ 3 rfl))) <| (xa) fun b6=>(W) ?_; clear h ac wo; intro ac wo h
   have c3:=lq (jC L (L.length - 1)) zm
   have c4:=i9 (bc (jC L (L.length - 1)))
   have c5:=oH (jN L (L.length - 1)) zM
   have c6:=i9 (bO (jN L (L.length - 1)))
   refine gz h <| (xk c3) <| (xk c4) <| (xk c5) <| (xk c6) <| (ai) ?_ ?_ <;> clear h ac wo <;> intro ac wo h hc3
   ·
    have e:nz L=true:=hc3
    have e2:w6 X Y T=(⟨0,0,0,0,0,0⟩,2):=by unfold w6; rw [hbad e]; rfl
    rw [e2]
    refine gz h <| (W) ?_; clear h ac wo; intro ac wo h
    exact qp 7 h (h.retP (u:=.tuple #[vBx ⟨0,0,0,0,0,0⟩,.int .i64 2]) rfl trivial)
   ·
    have hf:∀ a b c,Nat.ble (0+k*1+1) (tri k a b c).length=true:=fun a b c=>by
     show Nat.ble (0+k*1+1) 3=true
     exact Nat.ble_eq_true_of_le (by omega)
    refine gz h <| (xo (hs:=by exact jF (i:=k) uu181 zz3 rfl rfl hk3)) <| (xs 3 (tri (k+1) (loB X).1 (loB Y).1 (loB T).1) (hf:=hf _ _ _) (hr:=hlo)) <| (xo (hs:=by exact jF (i:=k) uu181 zz3 rfl rfl hk3)) <| (xs 2 (tri (k+1) (hiB X).1 (hiB Y).1 (hiB T).1) (hf:=hf _ _ _) (hr:=hhi)) <| (W) ?_; clear h ac wo; intro ac wo h
    refine aO ⟨m1,by omega,k+1,by omega,by omega,hgood hc3,?_⟩
    have h2:=back (h.pick [2,3,4,5,6,7] (by decide))
    exact h2.sub ⟨rfl,rfl,rfl,rfl,rfl,rfl,trivial⟩
  ·
   obtain rfl:k=3:=by have:=of_decide_eq_false hc2; omega
   have e2:w6 X Y T=(⟨(loB X).1,(hiB X).1,(loB Y).1,(hiB Y).1,(loB T).1,(hiB T).1⟩,0):=by unfold w6; rw [g1 (by omega),g2 (by omega),g3 (by omega)]; rfl
   rw [e2]
   have e3:∀ a b c,tri 3 a b c=[.int .i64 a,.int .i64 b,.int .i64 c]:=fun _ _ _=>rfl
   rw [e3,e3] at h
   refine gz h <| (xo (hs:=by exact jF (i:=2) uu181 zz3 rfl rfl (by decide))) <| (xo (hs:=by exact jF (i:=2) uu181 zz3 rfl rfl (by decide))) <| (W) ?_; clear h ac wo; intro ac wo h
   exact qp 5 h (h.retP rfl trivial)
end Go.Sx
namespace Go.Sx
open Go Go.RowKit Go.Proofs
set_option maxRecDepth 100000
set_option maxHeartbeats 4000000
attribute [local irreducible] Code.wp wpList Rd Step ObS Ent
attribute [local irreducible] ao aL ah au ax bN toI bO
def wlo (g:Bool) (f u:Int):Int:=bif g || decide (f < u) then f else u
def whi (g:Bool) (f u:Int):Int:=bif g || decide (f>u) then f else u
theorem xt (b:Nat) (a0 a1 a2 a3 a4 a5:Int) (g:Bool) (x:GR) (zx:SzR 36 x) (w0 w:World) (B:Asn) (hbel:Below w0.heap.size w0 w) (hsep:∃ Z_,Sep w0.heap.size w [.blk b (cBx ⟨a0,a1,a2,a3,a4,a5⟩) 41,B] Z_) :
 Calls Tryz.prog 122 #[ptr b 0,ptr b 1,.bool g,vR x] w (RetY w0 (fun r=>r=.bool (!pX (toI (bc x)) (toI (bO x)))) (fun r=>[.blk b (cBx (bif pX (toI (bc x)) (toI (bO x)) then ⟨a0,a1,a2,a3,a4,a5⟩ else ⟨(wlo g (toI (bc x)).1 a0),(whi g (toI (bO x)).1 a1),a2,a3,a4,a5⟩)) 41,B])):=by
 have c1:=lq x zx
 have c2:=i9 (bc x)
 have c3:=oH x zx
 have c4:=i9 (bO x)
 refine lh (N:=61) (args:=[ptr b 0,ptr b 1,.bool g,vR x]) Tryz.func122 rfl rfl hbel hsep ?_; intro ac h
 obtain ⟨F,hF⟩:∃ F,toI (bc x)=F:=⟨_,rfl⟩
 obtain ⟨C,hC⟩:∃ C,toI (bO x)=C:=⟨_,rfl⟩
 rw [hF] at c2; rw [hC] at c4
 rw [hF,hC]
 refine gz h <| (xb) fun b7=>(xk c1) <| (xk c2) <| (xk c3) <| (xk c4) <| (ai) ?_ ?_ <;> clear h ac <;> intro ac wo h hc1
 · have e:pX F C=true:=hc1
   rw [e]
   refine gz h <| (W) ?_; clear h ac wo; intro ac wo h
   exact pc (vs:=[.bool false]) h rfl (.tmp rfl .nil) rfl ((h.pick [1,2] (by decide)).retY rfl (by rfl))
 have e:pX F C=false:=hc1
 rw [e]
 refine gz h <| (ai) ?_ ?_ <;> clear h ac wo <;> intro ac wo h hc2
 · have e2:wlo g F.1 a0=F.1:=by unfold wlo; rw [show (g || decide (F.1 < a0))=true from hc2]; rfl
   rw [e2]
   refine gz h <| (xs 1 (cBx ⟨F.1,a1,a2,a3,a4,a5⟩)) <| (ai) ?_ ?_ <;> clear h ac wo <;> intro ac wo h hc3
   · have e3:whi g C.1 a1=C.1:=by unfold whi; rw [show (g || decide (C.1>a1))=true from hc3]; rfl
     rw [e3]
     refine gz h <| (xs 1 (cBx ⟨F.1,C.1,a2,a3,a4,a5⟩)) <| (W) ?_; clear h ac wo; intro ac wo h
     exact pc (vs:=[.bool true]) h rfl (.tmp rfl .nil) rfl ((h.pick [1,2] (by decide)).retY rfl (by rfl))
   · have e3:whi g C.1 a1=a1:=by unfold whi; rw [show (g || decide (C.1>a1))=false from hc3]; rfl
     rw [e3]
     refine gz h <| (W) ?_; clear h ac wo; intro ac wo h
     exact pc (vs:=[.bool true]) h rfl (.tmp rfl .nil) rfl ((h.pick [1,2] (by decide)).retY rfl (by rfl))
 · have e2:wlo g F.1 a0=a0:=by unfold wlo; rw [show (g || decide (F.1 < a0))=false from hc2]; rfl
   rw [e2]
   refine gz h <| (ai) ?_ ?_ <;> clear h ac wo <;> intro ac wo h hc3
   · have e3:whi g C.1 a1=C.1:=by unfold whi; rw [show (g || decide (C.1>a1))=true from hc3]; rfl
     rw [e3]
     refine gz h <| (xs 1 (cBx ⟨a0,C.1,a2,a3,a4,a5⟩)) <| (W) ?_; clear h ac wo; intro ac wo h
     exact pc (vs:=[.bool true]) h rfl (.tmp rfl .nil) rfl ((h.pick [1,2] (by decide)).retY rfl (by rfl))
   · have e3:whi g C.1 a1=a1:=by unfold whi; rw [show (g || decide (C.1>a1))=false from hc3]; rfl
     rw [e3]
     refine gz h <| (W) ?_; clear h ac wo; intro ac wo h
     exact pc (vs:=[.bool true]) h rfl (.tmp rfl .nil) rfl ((h.pick [1,2] (by decide)).retY rfl (by rfl))
theorem xr (b:Nat) (a0 a1 a2 a3 a4 a5:Int) (g:Bool) (x:GR) (zx:SzR 36 x) (w0 w:World) (B:Asn) (hbel:Below w0.heap.size w0 w) (hsep:∃ Z_,Sep w0.heap.size w [.blk b (cBx ⟨a0,a1,a2,a3,a4,a5⟩) 41,B] Z_) :
 Calls Tryz.prog 122 #[ptr b 2,ptr b 3,.bool g,vR x] w (RetY w0 (fun r=>r=.bool (!pX (toI (bc x)) (toI (bO x)))) (fun r=>[.blk b (cBx (bif pX (toI (bc x)) (toI (bO x)) then ⟨a0,a1,a2,a3,a4,a5⟩ else ⟨a0,a1,(wlo g (toI (bc x)).1 a2),(whi g (toI (bO x)).1 a3),a4,a5⟩)) 41,B])):=by
 have c1:=lq x zx
 have c2:=i9 (bc x)
 have c3:=oH x zx
 have c4:=i9 (bO x)
 refine lh (N:=61) (args:=[ptr b 2,ptr b 3,.bool g,vR x]) Tryz.func122 rfl rfl hbel hsep ?_; intro ac h
 obtain ⟨F,hF⟩:∃ F,toI (bc x)=F:=⟨_,rfl⟩
 obtain ⟨C,hC⟩:∃ C,toI (bO x)=C:=⟨_,rfl⟩
 rw [hF] at c2; rw [hC] at c4
 rw [hF,hC]
 refine gz h <| (xb) fun b7=>(xk c1) <| (xk c2) <| (xk c3) <| (xk c4) <| (ai) ?_ ?_ <;> clear h ac <;> intro ac wo h hc1
 · have e:pX F C=true:=hc1
   rw [e]
   refine gz h <| (W) ?_; clear h ac wo; intro ac wo h
   exact pc (vs:=[.bool false]) h rfl (.tmp rfl .nil) rfl ((h.pick [1,2] (by decide)).retY rfl (by rfl))
 have e:pX F C=false:=hc1
 rw [e]
 refine gz h <| (ai) ?_ ?_ <;> clear h ac wo <;> intro ac wo h hc2
 · have e2:wlo g F.1 a2=F.1:=by unfold wlo; rw [show (g || decide (F.1 < a2))=true from hc2]; rfl
   rw [e2]
   refine gz h <| (xs 1 (cBx ⟨a0,a1,F.1,a3,a4,a5⟩)) <| (ai) ?_ ?_ <;> clear h ac wo <;> intro ac wo h hc3
   · have e3:whi g C.1 a3=C.1:=by unfold whi; rw [show (g || decide (C.1>a3))=true from hc3]; rfl
     rw [e3]
     refine gz h <| (xs 1 (cBx ⟨a0,a1,F.1,C.1,a4,a5⟩)) <| (W) ?_; clear h ac wo; intro ac wo h
     exact pc (vs:=[.bool true]) h rfl (.tmp rfl .nil) rfl ((h.pick [1,2] (by decide)).retY rfl (by rfl))
   · have e3:whi g C.1 a3=a3:=by unfold whi; rw [show (g || decide (C.1>a3))=false from hc3]; rfl
     rw [e3]
     refine gz h <| (W) ?_; clear h ac wo; intro ac wo h
     exact pc (vs:=[.bool true]) h rfl (.tmp rfl .nil) rfl ((h.pick [1,2] (by decide)).retY rfl (by rfl))
 · have e2:wlo g F.1 a2=a2:=by unfold wlo; rw [show (g || decide (F.1 < a2))=false from hc2]; rfl
   rw [e2]
   refine gz h <| (ai) ?_ ?_ <;> clear h ac wo <;> intro ac wo h hc3
   · have e3:whi g C.1 a3=C.1:=by unfold whi; rw [show (g || decide (C.1>a3))=true from hc3]; rfl
     rw [e3]
     refine gz h <| (xs 1 (cBx ⟨a0,a1,a2,C.1,a4,a5⟩)) <| (W) ?_; clear h ac wo; intro ac wo h
     exact pc (vs:=[.bool true]) h rfl (.tmp rfl .nil) rfl ((h.pick [1,2] (by decide)).retY rfl (by rfl))
   · have e3:whi g C.1 a3=a3:=by unfold whi; rw [show (g || decide (C.1>a3))=false from hc3]; rfl
     rw [e3]
     refine gz h <| (W) ?_; clear h ac wo; intro ac wo h
     exact pc (vs:=[.bool true]) h rfl (.tmp rfl .nil) rfl ((h.pick [1,2] (by decide)).retY rfl (by rfl))
theorem xq (b:Nat) (a0 a1 a2 a3 a4 a5:Int) (g:Bool) (x:GR) (zx:SzR 36 x) (w0 w:World) (B:Asn) (hbel:Below w0.heap.size w0 w) (hsep:∃ Z_,Sep w0.heap.size w [.blk b (cBx ⟨a0,a1,a2,a3,a4,a5⟩) 41,B] Z_) :
 Calls Tryz.prog 122 #[ptr b 4,ptr b 5,.bool g,vR x] w (RetY w0 (fun r=>r=.bool (!pX (toI (bc x)) (toI (bO x)))) (fun r=>[.blk b (cBx (bif pX (toI (bc x)) (toI (bO x)) then ⟨a0,a1,a2,a3,a4,a5⟩ else ⟨a0,a1,a2,a3,(wlo g (toI (bc x)).1 a4),(whi g (toI (bO x)).1 a5)⟩)) 41,B])):=by
 have c1:=lq x zx
 have c2:=i9 (bc x)
 have c3:=oH x zx
 have c4:=i9 (bO x)
 refine lh (N:=61) (args:=[ptr b 4,ptr b 5,.bool g,vR x]) Tryz.func122 rfl rfl hbel hsep ?_; intro ac h
 obtain ⟨F,hF⟩:∃ F,toI (bc x)=F:=⟨_,rfl⟩
 obtain ⟨C,hC⟩:∃ C,toI (bO x)=C:=⟨_,rfl⟩
 rw [hF] at c2; rw [hC] at c4
 rw [hF,hC]
 refine gz h <| (xb) fun b7=>(xk c1) <| (xk c2) <| (xk c3) <| (xk c4) <| (ai) ?_ ?_ <;> clear h ac <;> intro ac wo h hc1
 · have e:pX F C=true:=hc1
   rw [e]
   refine gz h <| (W) ?_; clear h ac wo; intro ac wo h
   exact pc (vs:=[.bool false]) h rfl (.tmp rfl .nil) rfl ((h.pick [1,2] (by decide)).retY rfl (by rfl))
 have e:pX F C=false:=hc1
 rw [e]
 refine gz h <| (ai) ?_ ?_ <;> clear h ac wo <;> intro ac wo h hc2
 · have e2:wlo g F.1 a4=F.1:=by unfold wlo; rw [show (g || decide (F.1 < a4))=true from hc2]; rfl
   rw [e2]
   refine gz h <| (xs 1 (cBx ⟨a0,a1,a2,a3,F.1,a5⟩)) <| (ai) ?_ ?_ <;> clear h ac wo <;> intro ac wo h hc3
   · have e3:whi g C.1 a5=C.1:=by unfold whi; rw [show (g || decide (C.1>a5))=true from hc3]; rfl
     rw [e3]
     refine gz h <| (xs 1 (cBx ⟨a0,a1,a2,a3,F.1,C.1⟩)) <| (W) ?_; clear h ac wo; intro ac wo h
     exact pc (vs:=[.bool true]) h rfl (.tmp rfl .nil) rfl ((h.pick [1,2] (by decide)).retY rfl (by rfl))
   · have e3:whi g C.1 a5=a5:=by unfold whi; rw [show (g || decide (C.1>a5))=false from hc3]; rfl
     rw [e3]
     refine gz h <| (W) ?_; clear h ac wo; intro ac wo h
     exact pc (vs:=[.bool true]) h rfl (.tmp rfl .nil) rfl ((h.pick [1,2] (by decide)).retY rfl (by rfl))
 · have e2:wlo g F.1 a4=a4:=by unfold wlo; rw [show (g || decide (F.1 < a4))=false from hc2]; rfl
   rw [e2]
   refine gz h <| (ai) ?_ ?_ <;> clear h ac wo <;> intro ac wo h hc3
   · have e3:whi g C.1 a5=C.1:=by unfold whi; rw [show (g || decide (C.1>a5))=true from hc3]; rfl
     rw [e3]
     refine gz h <| (xs 1 (cBx ⟨a0,a1,a2,a3,a4,C.1⟩)) <| (W) ?_; clear h ac wo; intro ac wo h
     exact pc (vs:=[.bool true]) h rfl (.tmp rfl .nil) rfl ((h.pick [1,2] (by decide)).retY rfl (by rfl))
   · have e3:whi g C.1 a5=a5:=by unfold whi; rw [show (g || decide (C.1>a5))=false from hc3]; rfl
     rw [e3]
     refine gz h <| (W) ?_; clear h ac wo; intro ac wo h
     exact pc (vs:=[.bool true]) h rfl (.tmp rfl .nil) rfl ((h.pick [1,2] (by decide)).retY rfl (by rfl))
end Go.Sx
namespace Go.Sx
open Go Go.RowKit Go.Proofs
set_option maxRecDepth 100000
set_option maxHeartbeats 40000000
attribute [local irreducible] Code.wp wpList Rd Step ObS Ent
attribute [local irreducible] ao aL ah au ax bN
end Go.Sx
namespace Go.Sx
def kcT (p q:Nat) (t:GR):List GR:=kcL p q++[t,an t.p]
structure TmI (t:GR):Prop where
 ok:ROk t
 bp:Bq 100 t.p
 br:Bq 100 t.r
theorem TmI.fr {t:GR} (h:TmI t):ROk (an t.p):=n7 h.ok.1
theorem zE {p q:Nat} {t x:GR} (h:x∈kcT p q t):x∈kcL p q∨x=t∨x=an t.p:=by
 unfold kcT at h
 rcases List.mem_append.1 h with h | h
 · exact .inl h
 · simp at h; exact .inr h
theorem kt_ok {p q:Nat} {t:GR} (ht:TmI t) {x:GR} (h:x∈kcT p q t):ROk x:=by
 rcases zE h with h | rfl | rfl
 · exact kc_ok h
 · exact ht.ok
 · exact ht.fr
theorem kt_bq {p q:Nat} (hp:p < 256) (hq:q < 256) {t:GR} (ht:TmI t) {x:GR} (h:x∈kcT p q t):Bq 100 x.p∧Bq 100 x.r:=by
 rcases zE h with h | rfl | rfl
 · exact kc_bq hp hq h
 · exact ⟨ht.bp,ht.br⟩
 · exact ⟨ht.bp,Bq.zero (by decide)⟩
abbrev keyT (p q:Nat) (t:GR) (hp:p < 256) (hq:q < 256) (ht:TmI t):Key where
 l:=kcT p q t
 ok:=fun _ h=>kt_ok ht h
 sz:=by unfold kcT kcL; simp
 z:=List.mem_append_left _ (by rw [inZ0]; exact kcL_z (by decide))
 rt:=fun x h=>trivial
 szr:=fun x h=>⟨cu ((kt_bq hp hq ht h).1.sz (by decide)) (by decide),cu ((kt_bq hp hq ht h).2.sz (by decide)) (by decide)⟩
section
variable {p q:Nat} {t:GR} {hp:p < 256} {hq:q < 256} {ht:TmI t}
theorem wg {x:GR}:@Tm (keyT p q t hp hq ht) x↔x∈kcT p q t:=by
 letI:=keyT p q t hp hq ht
 rw [← Tm.iff,decide_eq_true_iff]; rfl
theorem ktZ:@KeyZ (keyT p q t hp hq ht):=@KeyZ.mk (keyT p q t hp hq ht) fun n hn=>wg.2 (List.mem_append_left _ (kcL_z hn))
theorem ktB:@KeyB (keyT p q t hp hq ht):=@KeyB.mk (keyT p q t hp hq ht) fun t h=>(kt_bq hp hq ht (wg.1 h)).1
theorem ktG:@KeyG (keyT p q t hp hq ht) p q:=@KeyG.mk (keyT p q t hp hq ht) p q (wg.2 (List.mem_append_left _ (List.mem_append_right _ (by simp)))) (wg.2 (List.mem_append_left _ (List.mem_append_right _ (by simp)))) (wg.2 (List.mem_append_left _ (List.mem_append_right _ (by simp))))
end
def rp0:RPt:=⟨⟨oQ,oQ,false⟩,⟨oQ,oQ,false⟩⟩
section
variable [K:Key]
end
end Go.Sx
namespace Go.Sx
open Go Go.RowKit Go.Proofs
set_option maxRecDepth 100000
set_option maxHeartbeats 40000000
attribute [local irreducible] Code.wp wpList Rd Step ObS Ent
attribute [local irreducible] ao aL ah au ax bN an
attribute [local irreducible] aH aI am aq aE ak aS dA ij
theorem aa3:Bu Tryz.prog 49 [] [] (vRP rp0):=by
 first
 | infer_instance
 | exact Bu.of bld247 rfl rfl
attribute [local instance] aa3
end Go.Sx
namespace Go.Sx
open Go Go.RowKit Go.Proofs
set_option maxRecDepth 100000
set_option maxHeartbeats 40000000
attribute [local irreducible] Code.wp wpList Rd Step ObS Ent
attribute [local irreducible] ao aL ah au ax bN an
attribute [local irreducible] aH aI am aq aE ak aS dA ij
attribute [local instance] aa3
instance cf127:Cf Tryz.prog 127:=⟨Tryz.call127⟩
instance cf130:Cf Tryz.prog 130:=⟨Tryz.call130⟩
section
variable [K:Key]
end
end Go.Sx
namespace Go.Sx
open Go Go.RowKit Go.Proofs
set_option maxRecDepth 100000
set_option maxHeartbeats 40000000
attribute [local irreducible] Code.wp wpList Rd Step ObS Ent
attribute [local irreducible] ao aL ah au ax bN an
attribute [local irreducible] aH aI am aq aE ak aS dA ij
attribute [local instance] aa3 aa4
instance cf23:Cf Tryz.prog 23:=⟨Tryz.call23⟩
instance cf24:Cf Tryz.prog 24:=⟨Tryz.call24⟩
theorem eqi49:EqIn Tryz.prog 5 49 vRP:=eqS (c:=cRP) (fun _=>rfl) Tryz.underlying49 Tryz.stoodInHeld49 fun d x y w hd=>by
 refine Eq.trans (eqF (by decide) (dc aa46 zz46 (v:=vR x.x) rfl w) (dc aa46 zz46 (v:=vR y.x) rfl w) (z7 d _ _ w og) (eqF (by decide) (dc aa46 zz46 (v:=vR x.y) rfl w) (dc aa46 zz46 (v:=vR y.y) rfl w) (z7 d _ _ w og) eqF0)) ?_
 congr 1
 rw [decide_eq_decide]
 cases x; cases y; simp
theorem eqp49:EqP Tryz.prog 49 vRP:=EqIn.p (k:=5) rfl (c:=fun x=>(cRP x).toArray) (fun _=>rfl) Tryz.eqGuardType49 eqi49
instance ep49:Ep Tryz.prog 49 RPt inferInstance vRP:=⟨eqp49⟩
section
attribute [local instance 2000] xY xZ sh71X
end
end Go.Sx
namespace Go.Sx
open Go Go.RowKit Go.Proofs
section
variable {P:Program} {w0:World} {ops:List Oper} {H:List Hist} {i:Nat} {G:(Nat→Value)→List (Nat×Value)} {d:DOp} {R:(Nat→Value)→Prop}
theorem oI {o:Oper} (h:∀ ξ,ObS P w0 ops H G ξ i o d):∀ ξ,R ξ→ObS2 P w0 ops H G ξ i o d:=fun ξ _=>obI (h ξ)
theorem oJ {op:Op} {ty:TypeId} {pos:String} {aft:Array Edge} {dst:Option Tmp} {j:Nat} {want:Bool} (h:∀ ξ,ObS P w0 ops H G ξ i ⟨dst,op,ty,pos,aft,none⟩ d)
 (hl:∀ ξ,look (G ξ) (((ops[j]?).bind (·.dst)).getD 0)=some (.bool want):=by intro _; rfl) (hd:((ops[j]?).bind (·.dst)).isSome=true:=by rfl):∀ ξ,R ξ→ObS2 P w0 ops H G ξ i ⟨dst,op,ty,pos,aft,some (j,want)⟩ d:=fun ξ _=>obK (hl ξ) hd (h ξ)
theorem oN {op:Op} {ty:TypeId} {pos:String} {aft:Array Edge} {dst:Option Tmp} {j:Nat} {b want:Bool}
 (hl:∀ ξ,look (G ξ) (((ops[j]?).bind (·.dst)).getD 0)=some (.bool b):=by intro _; rfl) (hd:((ops[j]?).bind (·.dst)).isSome=true:=by rfl) (hg:(b == want)=false:=by rfl):∀ ξ,R ξ→ObS2 P w0 ops H G ξ i ⟨dst,op,ty,pos,aft,some (j,want)⟩ ⟨.det (gv false undef),[]⟩:=fun ξ _ =>
 obI (ko (c:=true) (b:=b) (g:=false) [] rfl rfl (hl ξ) hd (by rw [Bool.true_and]; exact hg) (fun h=>Bool.noConfusion h))
end
end Go.Sx
namespace Go.Sx
theorem zG {a:GI} (h:(a7 a).2=true):∃ m,a.neg=false∧a.mag=m*m∧(a7 a).1=aB false m:=by
 unfold a7 at h ⊢
 cases hn:a.neg with
 | true=>rw [hn] at h; cases h
 | false =>
  rw [hn,cond_false] at h
  rw [cond_false]
  cases hd:decide (dX (bC a.mag) (bC a.mag)=a.mag) with
  | false=>rw [hd] at h; cases h
  | true =>
   refine ⟨bC a.mag,rfl,?_,rfl⟩
   have:=of_decide_eq_true hd
   exact this.symm.trans (by unfold dX; rfl)
theorem sL (m:Nat):IOk (aB false m)∧dN (aB false m)=(m:Int):=by
 unfold aB
 cases h:decide (m=0) <;> first | exact ⟨fun _=>rfl,rfl⟩ | (simp_all; exact ⟨fun _=>rfl,rfl⟩)
theorem root_val {r:GQ} (hr:QOk r) (h:(bJ r).2=true):QOk (bJ r).1∧aZ (bJ r).1*aZ (bJ r).1=aZ r∧∀ M,Bq M r→Bq M (bJ r).1:=by
 unfold bJ at h ⊢
 have hb:((!(a7 r.num).2) || (!(a7 (aa r)).2))=false:=by
  cases hh:((!(a7 r.num).2) || (!(a7 (aa r)).2)) with
  | false=>rfl
  | true=>rw [hh] at h; cases h
 rw [hb,cond_false]
 rw [Bool.or_eq_false_iff] at hb
 obtain ⟨m,nn,nm,ne⟩:=zG (by simpa using hb.1)
 obtain ⟨k,dn,dm,de⟩:=zG (by simpa using hb.2)
 rw [ne,de]
 obtain ⟨o1,v1⟩:=sL m
 obtain ⟨o2,v2⟩:=sL k
 obtain ⟨dv,_⟩:=iu hr
 have hk:gy r=k*k:=by
  unfold dN at dv
  rw [dn,dm,cond_false] at dv
  exact_mod_cast dv.symm
 have hp:=hr.pos
 have k0:0 < k:=Nat.pos_of_ne_zero fun e=>by rw [e] at hk; omega
 have hn:dN r.num=((m*m:Nat):Int):=by unfold dN; rw [nn,nm]; rfl
 obtain ⟨oc,vc⟩:=oF (n:=aB false m) (d:=aB false k) o1 (by rw [v2]; omega)
 rw [v1,v2] at vc
 refine ⟨oc,?_,fun M hB=>?_⟩
 · show aZ (ba _ _)*aZ (ba _ _)=_
   rw [vc]
   unfold aZ
   rw [hn,hk]
   have:=fX k0
   push_cast
   generalize (m:Rat)=x at *
   generalize (k:Rat)=y at *
   grind
 · obtain ⟨b1,b2⟩:=hB.mag
   have hd:gy r < 2 ^ M:=by
    unfold gy
    by_cases e:r.den=z0
    · rw [if_pos e]
      obtain ⟨_,a,b,h1,h2,_⟩:=hB
      omega
    · rw [if_neg e]; exact b2
   have m1:m≤m*m:=by
    rcases m with _ | m
    · omega
    · exact Nat.le_mul_of_pos_left _ (by omega)
   have k1:k≤k*k:=Nat.le_mul_of_pos_left _ k0
   exact Bq.of oc (m:Int) k k0 (by omega) (by simpa using (by omega:m < 2 ^ M)) (by rw [vc]; push_cast; rfl)
theorem make_rok {p m r:GQ} (hp:QOk p) (hm:QOk m) (hr:QOk r) (h0:0≤aZ r) {P M R:Nat} (bp:Bq P p) (bm:Bq M m) (br:Bq R r) (hR:0 < R) :
 ROk (eK p m r).1∧Bq (P+(M+R)+1) (eK p m r).1.p∧Bq (M+M+R) (eK p m r).1.r:=by
 unfold eK
 have hs:decide (au r < 0)=false:=by
  rw [decide_eq_false_iff_not,iP hr]
  unfold rsgn
  rw [if_neg (by grind)]
  split <;> decide
 rw [hs,cond_false]
 cases h:(bJ r).2 with
 | true =>
  obtain ⟨o,v,b⟩:=root_val hr h
  rw [cond_true]
  have om:=eO hm o
  have oa:=fz hp om.1
  refine ⟨⟨oa.1,fB.1,.inl ⟨fB.2,rfl⟩⟩,bp.add (bm.mul (b R br)),Bq.zero (by omega)⟩
 | false =>
  rw [cond_false]
  have o1:=eO hm hm
  have o2:=eO o1.1 hr
  refine ⟨⟨hp,o2.1,?_⟩,bp.le (by omega),(bm.mul bm).mul br⟩
  have no:∀ q:Rat,q*q≠aZ r:=fun q hq=>by rw [root_yes hr hq] at h; cases h
  have v:aZ (am (am m m) r)=aZ m*aZ m*aZ r:=by rw [o2.2,o1.2]
  show (aZ (am (am m m) r)=0∧decide (au m < 0)=false)∨(0 < aZ (am (am m m) r)∧∀ q:Rat,q*q≠aZ (am (am m m) r))
  rw [v]
  by_cases e:aZ m=0
  · left
    refine ⟨by rw [e]; grind,?_⟩
    rw [decide_eq_false_iff_not,iP hm,e]
    decide +kernel
  · right
    have r0:0 < aZ r:=by
     have:=no 0
     grind
    have m0:0 < aZ m*aZ m:=by
     have h1:=kr (aZ m)
     have h2:aZ m*aZ m≠0:=fun h=>by
      rcases Rat.mul_eq_zero.1 h with h | h <;> exact e h
     grind
    refine ⟨Rat.mul_pos m0 r0,fun q hq=>no (q / aZ m) ?_⟩
    generalize aZ m=x at *
    generalize aZ r=y at *
    have:q / x*(q / x)=(q*q) / (x*x):=by grind
    rw [this,hq]
    grind
end Go.Sx
namespace Go.Sx
theorem yI {f:Qd} (hf:DOk f) {t:GR} (ht:ROk t) {A T:Nat} (hT:0 < T) (b0:Bq A f.c0) (b1:Bq A f.c1) (b2:Bq A f.c2) (bp:Bq T t.p) (br:Bq T t.r) :
 ROk (qAt f t)∧Bq (7*A+5*T+6) (qAt f t).p∧Bq (6*A+3*T+4) (qAt f t).r:=by
 have oe:=pD hf ht.1
 have os:=uO hf ht.1
 have e:Bq (3*A+2*T+2) (aH f t.p):=by
  unfold aH
  exact (b0.add (bp.mul (b1.add (bp.mul b2)))).le (by omega)
 have s:Bq (3*A+T+2) (aI f t.p):=by
  unfold aI
  exact (b1.add ((b2.add b2).mul bp)).le (by omega)
 have bm:Bq (3*A+T+2) (bif t.neg then aE (aI f t.p) else aI f t.p):=by
  cases t.neg
  · exact s
  · exact s.neg
 have om:QOk (bif t.neg then aE (aI f t.p) else aI f t.p):=bm.1
 have bP:Bq (4*A+3*T+3) (aq (aH f t.p) (am f.c2 t.r)):=(e.add (b2.mul br)).le (by omega)
 obtain ⟨h1,h2,h3⟩:=make_rok bP.1 om ht.2.1 ht.nn bP bm br hT
 unfold qAt
 exact ⟨h1,h2.le (by omega),h3.le (by omega)⟩
theorem uW {x:GR} {m n:Nat} (h1:Bq m x.p) (h2:Bq n x.r) (hm:m≤8192) (hn:n≤8192):SzR 36 x:=⟨h1.szk 1024 (by omega) (by decide),h2.szk 1024 (by omega) (by decide)⟩
structure EnO (f:Ln) (t:GR):Prop where
 lo:LOk f
 ok:ROk t
 b:Bq 240 f.x0∧Bq 240 f.x1∧Bq 240 f.y0∧Bq 240 f.y1
 bp:Bq 100 t.p
 br:Bq 100 t.r
theorem EnO.x {f:Ln} {t:GR} (h:EnO f t):(ROk (tZ f t).x∧SzR 36 (tZ f t).x)∧(ROk (tZ f t).y∧SzR 36 (tZ f t).y):=by
 have z:Bq 240 zQ:=Bq.zero (by decide)
 unfold tZ
 obtain ⟨a1,a2,a3⟩:=yI (f:=lxs f) ⟨h.lo.1,h.lo.2.1,fB.1⟩ h.ok (by decide) h.b.1 h.b.2.1 z h.bp h.br
 obtain ⟨c1,c2,c3⟩:=yI (f:=lys f) ⟨h.lo.2.2.1,h.lo.2.2.2,fB.1⟩ h.ok (by decide) h.b.2.2.1 h.b.2.2.2 z h.bp h.br
 exact ⟨⟨a1,uW a2 a3 (by decide) (by decide)⟩,⟨c1,uW c2 c3 (by decide) (by decide)⟩⟩
end Go.Sx
namespace Go.Sx
open Go Go.RowKit Go.Proofs
set_option maxRecDepth 100000
set_option maxHeartbeats 40000000
attribute [local irreducible] Code.wp wpList Rd Step ObS Ent
attribute [local irreducible] ao aL ah au ax bN toI bO wlo whi
attribute [local irreducible] aH aI am aq aE ak aS
instance fl41_0:Fl Tryz.prog 41 0 3 0:=⟨⟨_,_,uu41,rfl,rfl,rfl⟩⟩
instance fl41_1:Fl Tryz.prog 41 1 3 1:=⟨⟨_,_,uu41,rfl,rfl,rfl⟩⟩
instance fl41_2:Fl Tryz.prog 41 2 3 2:=⟨⟨_,_,uu41,rfl,rfl,rfl⟩⟩
instance fl41_3:Fl Tryz.prog 41 3 3 3:=⟨⟨_,_,uu41,rfl,rfl,rfl⟩⟩
instance fl41_4:Fl Tryz.prog 41 4 3 4:=⟨⟨_,_,uu41,rfl,rfl,rfl⟩⟩
instance fl41_5:Fl Tryz.prog 41 5 3 5:=⟨⟨_,_,uu41,rfl,rfl,rfl⟩⟩
instance cf122:Cf Tryz.prog 122:=⟨cc122⟩
def stB (X Y T:List GR) (n:Nat):Bx:=⟨lo1 X n,hi1 X n,lo1 Y n,hi1 Y n,lo1 T n,hi1 T n⟩
theorem rV {L:List GR} (h:∀ i,ROk (gt L i)) (h0:0 < L.length):nz L=false↔∀ i,i < L.length→okB (gt L i):=by
 obtain ⟨n,hn⟩:∃ n,L.length=n+1:=⟨L.length - 1,by omega⟩
 obtain ⟨⟨a,ha,ea⟩,hm⟩:=mC h n
 obtain ⟨⟨b,hb,eb⟩,hM⟩:=mF h n
 have om:ROk (jC L n):=by rw [ea]; exact h a
 have oM:ROk (jN L n):=by rw [eb]; exact h b
 have h1:=lG om (h 0) (hm 0 (by omega))
 have h2:=oC (h 0) oM (hM 0 (by omega))
 have h3:=uq (h 0)
 unfold nz loB hiB
 rw [hn,Nat.add_sub_cancel,uF (u:=flr (jC L n)) (v:=cel (jN L n)) rfl (tx _) (by omega),← okB_all h n]
 exact ⟨fun hh i hi=>hh i (by omega),fun hh i hi=>hh i (by omega)⟩
theorem aa9 {x:GR} (hx:ROk x) (h:pX (toI (bc x)) (toI (bO x))=false):okB x∧(toI (bc x)).1=flr x∧(toI (bO x)).1=cel x :=
 ⟨(uF (u:=flr x) (v:=cel x) rfl (tx x) (uq hx)).1 h,vX (u:=flr x) (v:=cel x) rfl (tx x) h⟩
theorem aba {x:GR} (hx:ROk x) (h:pX (toI (bc x)) (toI (bO x))=true):¬ okB x:=fun ho=>by
 rw [(uF (u:=flr x) (v:=cel x) rfl (tx x) (uq hx)).2 ho] at h; cases h
theorem xn {L:List GR} {n:Nat} {g:Bool} (hg:g=decide (n=0)):wlo g (flr (gt L n)) (lo1 L n)=lo1 L (n+1):=by
 unfold wlo
 rw [show lo1 L (n+1)=if n=0∨flr (gt L n) < lo1 L n then flr (gt L n) else lo1 L n from rfl]
 rw [hg,← Bool.decide_or]
 by_cases hh:n=0∨flr (gt L n) < lo1 L n
 · rw [if_pos hh,decide_eq_true hh]; rfl
 · rw [if_neg hh,decide_eq_false hh]; rfl
theorem xu {L:List GR} {n:Nat} {g:Bool} (hg:g=decide (n=0)):whi g (cel (gt L n)) (hi1 L n)=hi1 L (n+1):=by
 unfold whi
 rw [show hi1 L (n+1)=if n=0∨cel (gt L n)>hi1 L n then cel (gt L n) else hi1 L n from rfl]
 rw [hg,← Bool.decide_or]
 by_cases hh:n=0∨cel (gt L n)>hi1 L n
 · rw [if_pos hh,decide_eq_true hh]; rfl
 · rw [if_neg hh,decide_eq_false hh]; rfl
theorem uE {L:List GR} (h:∀ i,ROk (gt L i)) {k:Nat} (hk:k < L.length) (hn:¬ okB (gt L k)):nz L=true:=by
 cases e:nz L with
 | true=>rfl
 | false=>exact absurd ((rV h (by omega)).1 e k hk) hn
theorem rU {L:List GR} (h:∀ i,ROk (gt L i)) {n:Nat} (hn:L.length=n+1) (hb:nz L=false):(loB L).1=lo1 L (n+1)∧(hiB L).1=hi1 L (n+1):=by
 unfold nz loB hiB at hb
 unfold loB hiB
 rw [hn,Nat.add_sub_cancel] at hb ⊢
 rw [zC h n,zH h n]
 exact vX (u:=flr (jC L n)) (v:=cel (jN L n)) rfl (tx _) hb
theorem first_is (i j:Nat):(((i+j:Nat):Int) == 0)=decide (2*i+j=0):=by
 by_cases hz:2*i+j=0
 · rw [decide_eq_true hz]
   obtain ⟨rfl,rfl⟩:i=0∧j=0:=by omega
   rfl
 · rw [decide_eq_false hz]; exact beq_false_of_ne (by omega)
def okE (X Y T:List GR) (k:Nat):Prop:=okB (gt X k)∧okB (gt Y k)∧okB (gt T k)
section
variable {X Y T:List GR} (oX:∀ i,ROk (gt X i)) (oY:∀ i,ROk (gt Y i)) (oT:∀ i,ROk (gt T i)) {N:Nat} (lX:X.length=N) (lY:Y.length=N) (lT:T.length=N)
include oX oY oT lX lY lT
theorem uB {k:Nat} (hk:k < N) (hn:¬ okE X Y T k):w6 X Y T=(⟨0,0,0,0,0,0⟩,2):=by
 have e:(nz X || nz Y || nz T)=true:=by
  rw [Bool.or_eq_true,Bool.or_eq_true]
  by_cases h1:okB (gt X k)
  · by_cases h2:okB (gt Y k)
    · exact .inr (uE oT (by omega) fun h3=>hn ⟨h1,h2,h3⟩)
    · exact .inl (.inr (uE oY (by omega) h2))
  · exact .inl (.inl (uE oX (by omega) h1))
 unfold w6; rw [e]; rfl
theorem boxB_yes {n:Nat} (hN:N=n+1) (h:∀ k,k < N→okE X Y T k):w6 X Y T=(stB X Y T (n+1),0):=by
 have e1:nz X=false:=(rV oX (by omega)).2 fun i hi=>(h i (by omega)).1
 have e2:nz Y=false:=(rV oY (by omega)).2 fun i hi=>(h i (by omega)).2.1
 have e3:nz T=false:=(rV oT (by omega)).2 fun i hi=>(h i (by omega)).2.2
 obtain ⟨a,b⟩:=rU oX (by omega:X.length=n+1) e1
 obtain ⟨c,d⟩:=rU oY (by omega:Y.length=n+1) e2
 obtain ⟨p,q⟩:=rU oT (by omega:T.length=n+1) e3
 unfold w6 stB
 rw [e1,e2,e3,a,b,c,d,p,q]; rfl
end
theorem un {β:Type} [Inhabited β] (f:Nat→β) {N n:Nat} (h:n < N):gt ((List.range N).map f) n=f n:=by
 rw [jh f (by simpa using h),vv h]
theorem vbox_ct (l:List (U Ln)) (lv:Value) (h0:0 < l.length) (hl:l.length≤400) (zf:∀ i,SzN 30 (gt l i).f) (zt:∀ k,SzR 36 (enR l k)) (zX:∀ k,SzR 36 (enP l k).x) (zY:∀ k,SzR 36 (enP l k).y) (oX:∀ i,ROk (gt (bX l (2*l.length)) i)) (oY:∀ i,ROk (gt (bY l (2*l.length)) i)) (oT:∀ i,ROk (gt (bT l (2*l.length)) i)) (w0:World) (hlv:View w0 lv l) :
 Calls Tryz.prog 21 #[lv] w0 (dE w0 (.tuple #[vBx (w6 (bX l (2*l.length)) (bY l (2*l.length)) (bT l (2*l.length))).1,.int .i64 (w6 (bX l (2*l.length)) (bY l (2*l.length)) (bT l (2*l.length))).2]) True):=by
 refine enter (N:=83) (args:=[lv]) Tryz.func21 rfl rfl ?_; intro ac h
 haveI:On:=⟨trivial⟩
 have hlen:=hlv.len
 have lX:=qO l (2*l.length)
 have lY:=qN l (2*l.length)
 have lT:=qP l (2*l.length)
 have elX:∀ n,n < 2*l.length→gt (bX l (2*l.length)) n=(enP l n).x:=fun n hn=>un _ hn
 have elY:∀ n,n < 2*l.length→gt (bY l (2*l.length)) n=(enP l n).y:=fun n hn=>un _ hn
 have elT:∀ n,n < 2*l.length→gt (bT l (2*l.length)) n=enR l n:=fun n hn=>un _ hn
 generalize bX l (2*l.length)=X at *
 generalize bY l (2*l.length)=Y at *
 generalize bT l (2*l.length)=T at *
 refine gz h <| (xa) fun b2=>(ai) ?_ ?_ <;> clear h ac <;> intro ac wo h hc1
 · have:=eq_of_beq hc1; omega
 refine gz h <| (xa) fun b4=>(W) ?_; clear h ac wo; intro ac wo h
 refine wp_loop_ghost (fun n_ a_ w_=>∃ (i:Nat),(l.length - i < n_)∧(i≤l.length)∧(∀ k,k < 2*i→okE X Y T k)∧St w0 83 [(0,lv),(2,ptr b2 0),(4,ptr b4 0),(5,iN i)] [.blk b4 (cBx (stB X Y T (2*i))) 41,.blk b2 (cBx ⟨0,0,0,0,0,0⟩) 41] a_ w_) (l.length+1) ⟨0,by omega,by omega,fun k hk=>by omega,h.re [0,1]⟩ ?_
 clear h ac wo; rintro n1 ac wo ⟨i,hm1,hi,hok,h⟩
 obtain ⟨m1,rfl⟩:∃ m,n1=m+1:=⟨n1 - 1,by omega⟩
 refine gz h <| (ai) ?_ ?_ <;> clear h ac wo <;> intro ac wo h hc2
 ·
  have hlt:i < l.length:=by have:=of_decide_eq_true hc2; omega
  have n1':=hlv.nn hlt
  refine gz h <| (W) ?_; clear h ac wo; intro ac wo h
  replace h:=h.emps 1
  refine eZ mixed [dv lv,dv (iN i),dv _,dv _,dv _,dv (vR (gt l i).iv.lo),dv lv,dv (iN i),dv _,dv _,dv _,dv (vR (gt l i).iv.hi),⟨.nd (.one 12 fun v=>NN v 2),[2]⟩,⟨.nd (.two 13 12 fun a b=>a=b),[]⟩]
   [⟨_,[]⟩,⟨_,[]⟩,⟨.emp,[(12,.one 12 fun v=>.row (α:=GR) 46 v [(gt l i).iv.lo,(gt l i).iv.hi])]⟩] h rfl (by kernel_rfl)
   ⟨oA obA,oA obA,oA obA,oA obA,oA obA,oA obA,oA obA,oA obA,oA obA,oA obA,oA obA,oA obA,
    fun ξ _=>oB (ψ:=fun v=>NN v 2) (B:=fun v=>[.row (α:=GR) 46 v [(gt l i).iv.lo,(gt l i).iv.hi]]) [.emp] rfl (fun v _=>by simp only [dg,bA] <;> rfl) (fun v hv=>by simpa [DF.one,bA] using hv) (jX (dG (α:=GR) (xs:=[.tmp 25,.tmp 31]) (vs:=[vR (gt l i).iv.lo,vR (gt l i).iv.hi]) [(gt l i).iv.lo,(gt l i).iv.hi] kK rfl rfl rfl (by decide))),
    fun _ _=>pm (j:=12) (by decide) rfl,trivial⟩ ?_
  clear h ac wo; intro ξ ac wo hφ h
  have i12:NN (ξ 12) 2:=hφ 12
  replace h:St w0 83 [(0,lv),(2,ptr b2 0),(4,ptr b4 0),(5,iN i),(6,ξ 13)] [.blk b4 (cBx (stB X Y T (2*i+0))) 41,.row (α:=GR) 46 (ξ 12) [(gt l i).iv.lo,(gt l i).iv.hi],.blk b2 (cBx ⟨0,0,0,0,0,0⟩) 41] ac wo:=(h.pick [0,2,1] (by decide)).sub ⟨rfl,rfl,rfl,rfl,rfl,trivial⟩
  rw [show ξ 13=ξ 12 from hφ 13] at h
  generalize ξ 12=s0 at h i12
  clear hφ ξ
  obtain ⟨LH,hLH⟩:∃ LH:List GR,[(gt l i).iv.lo,(gt l i).iv.hi]=LH:=⟨_,rfl⟩
  have hl2:LH.length=2:=by rw [← hLH]; rfl
  have E:∀ j,j < 2→gt LH j=enR l (2*i+j):=by
   intro j hj
   rw [← hLH]
   rcases j with _ | _ | j
   · unfold enR; rw [show (2*i+0) % 2=0 by omega,show (2*i+0) / 2=i by omega]; rfl
   · unfold enR; rw [show (2*i+1) % 2=1 by omega,show (2*i+1) / 2=i by omega]; rfl
   · omega
  rw [hLH] at h
  clear hLH
  refine gz h <| (W) ?_; clear h ac wo; intro ac wo h
  refine wp_loop_ghost (fun n_ a_ w_=>∃ (j:Nat),(2 - j < n_)∧(j≤2)∧(∀ k,k < 2*i+j→okE X Y T k)∧St w0 83 [(0,lv),(2,ptr b2 0),(4,ptr b4 0),(5,iN i),(6,s0),(7,iN j)] [.blk b4 (cBx (stB X Y T (2*i+j))) 41,.row (α:=GR) 46 s0 LH,.blk b2 (cBx ⟨0,0,0,0,0,0⟩) 41] a_ w_) 3 ⟨0,by omega,by omega,hok,h.re [0,1,2]⟩ ?_
  clear h ac wo; rintro n2 ac wo ⟨j,hm2,hj,hok2,h⟩
  obtain ⟨m2,rfl⟩:∃ m,n2=m+1:=⟨n2 - 1,by omega⟩
  refine gz h <| (ai) ?_ ?_ <;> clear h ac wo <;> intro ac wo h hc3
  ·
   have hj2:j < LH.length:=by have:=of_decide_eq_true hc3; omega
   have nj:=(row_view h.sep 1 rfl).nn hj2
   have ej:=E j (by omega)
   refine gz h <| (xa) fun b8=>(W) ?_; clear h ac wo; intro ac wo h
   have hgi:l[i]?=some (gt l i):=by rw [gF hlt]; exact List.getElem?_eq_getElem hlt
   obtain ⟨t,ht⟩:∃ t,gt LH j=t:=⟨_,rfl⟩
   rw [ht] at h ej
   obtain ⟨g,hg⟩:∃ g,(((i+j:Nat):Int) == 0)=g:=⟨_,rfl⟩
   rw [hg] at h
   have ep:enP l (2*i+j)=tZ (gt l i).f t:=by unfold enP; rw [show (2*i+j) / 2=i by omega,← ej]
   have e_x:(enP l (2*i+j)).x=qAt (lxs (gt l i).f) t:=by rw [ep]; unfold tZ; rfl
   have e_y:(enP l (2*i+j)).y=qAt (lys (gt l i).f) t:=by rw [ep]; unfold tZ; rfl
   have zt1:=zt (2*i+j)
   rw [← ej] at zt1
   have c1:=vxs_ct (gt l i).f 29 og (jB (zf i) og)
   have c2:=u9 (lxs (gt l i).f) t 10 og (ap (c1 w0)) (fh zt1 og) trivial (cu zt1.2 og)
   have c3:=vys_ct (gt l i).f 29 og (jB (zf i) og)
   have c4:=u9 (lys (gt l i).f) t 10 og (ap (c3 w0)) (fh zt1 og) trivial (cu zt1.2 og)
   have hn2:2*i+j < 2*l.length:=by omega
   have xx:=elX _ hn2
   have yy:=elY _ hn2
   have tt:=elT _ hn2
   rw [← ej] at tt
   have r_x:=oX (2*i+j)
   have r_y:=oY (2*i+j)
   have r_t:=oT (2*i+j)
   have hg2:g=decide (2*i+j=0):=by rw [← hg]; exact first_is i j
   have zx1:=zX (2*i+j)
   have zy1:=zY (2*i+j)
   rw [e_x] at zx1; rw [e_y] at zy1
   obtain ⟨x,hx⟩:∃ x,qAt (lxs (gt l i).f) t=x:=⟨_,rfl⟩
   obtain ⟨y,hy⟩:∃ x,qAt (lys (gt l i).f) t=x:=⟨_,rfl⟩
   rw [hx] at c2 zx1 e_x; rw [hy] at c4 zy1 e_y
   rw [e_x] at xx; rw [e_y] at yy
   obtain ⟨S0,hS0⟩:∃ s,stB X Y T (2*i+j)=s:=⟨_,rfl⟩
   rw [hS0] at h
   replace h:St w0 83 [(0,lv),(2,ptr b2 0),(4,ptr b4 0),(5,iN i),(6,s0),(7,iN j),(8,ptr b8 0),(9,.bool g)] [.blk b8 (cR t) 46,.blk b4 (cBx S0) 41,.row (α:=GR) 46 s0 LH,.blk b2 (cBx ⟨0,0,0,0,0,0⟩) 41] ac wo:=h.re [0,1,2,3]
   obtain ⟨S1,hS1⟩:∃ s:Bx,(⟨wlo g (toI (bc x)).1 S0.a,whi g (toI (bO x)).1 S0.b,S0.c,S0.d,S0.e,S0.f⟩:Bx)=s:=⟨_,rfl⟩
   obtain ⟨S2,hS2⟩:∃ s:Bx,(⟨S1.a,S1.b,wlo g (toI (bc y)).1 S1.c,whi g (toI (bO y)).1 S1.d,S1.e,S1.f⟩:Bx)=s:=⟨_,rfl⟩
   obtain ⟨S3,hS3⟩:∃ s:Bx,(⟨S2.a,S2.b,S2.c,S2.d,wlo g (toI (bc t)).1 S2.e,whi g (toI (bO t)).1 S2.f⟩:Bx)=s:=⟨_,rfl⟩
   have w1:=fun w B hb hs=>xt b4 S0.a S0.b S0.c S0.d S0.e S0.f g x zx1 w0 w B hb hs
   have w2:=fun w B hb hs=>xr b4 S1.a S1.b S1.c S1.d S1.e S1.f g y zy1 w0 w B hb hs
   have w3:=fun w B hb hs=>xq b4 S2.a S2.b S2.c S2.d S2.e S2.f g t zt1 w0 w B hb hs
   rw [hS1] at w1; rw [hS2] at w2; rw [hS3] at w3
   cases hbx:pX (toI (bc x)) (toI (bO x)) with
   | true =>
    rw [hbx] at w1
    refine vG mixed [dv (ptr b4 0),dv (ptr b4 1),dv (.bool g),dv lv,dv (iN i),dv (sel lv (i*36+0)),dv (sel lv (i*36+20)),dv (vN (gt l i).f),dv (vD (lxs (gt l i).f)),dw (vR t) [0],dv (vR x),dw (.bool false) [1],dv (.bool true),dv (.bool true),dv (gv false undef),dv (gv false undef),dv (gv false undef),dv (gv false undef),dv (gv false undef),dv (gv false undef),dv (gv false undef),dv (gv false undef),dv (gv false undef),dv (gv false undef),dv (gv false undef),dv (gv false undef),dv (gv false undef),dv (.bool true),dv (.bool true),dv (gv false undef),dv (gv false undef),dv (gv false undef),dv (gv false undef),dv (gv false undef),dv (gv false undef),dv (.bool true)]
     [⟨_,[]⟩,⟨.blk b4 (cBx S0) 41,[]⟩,⟨_,[]⟩,⟨_,[]⟩] h rfl (by kernel_rfl)
     ⟨fun _ _=>obI (aQ (rX rfl rfl rfl)),
     fun _ _=>obI (aQ (rX rfl rfl rfl)),
     fun _ _=>obI (aQ (ay rfl)),
     fun _ _=>obI (aQ (ay rfl)),
     fun _ _=>obI (aQ (ay rfl)),
     fun _ _=>obI (aQ (a_ia rfl rfl ⟨n1',hlt⟩)),
     fun _ _=>obI (aQ (a_fs (b:=i*36) (k:=0) rfl rfl n1' rfl)),
     fun _ _=>obI (aQ (nU (i:=i) (u:=gt l i) (y:=(gt l i).f) rfl hlv rfl hgi rfl rfl rfl)),
     oI (fun _=>fD (dZ cc104 rfl c1)),
     fun _ _=>obI (iy _ rfl rfl (js aa46 zz46 rfl rfl rfl (v:=vR t) rfl)),
     oI (fun _=>fD (dZ cc67 rfl c2)),
     fun ξ _=>by
     refine obI (kb [.blk b4 (cBx S0) 41] [.blk b4 (cBx S0) 41] ?_ ?_ ?_)
     · rfl
     · rfl
     · exact lU (dH cc122 rfl) (fun w B hb hs=>w1 w B hb hs),
     fun _ _=>obI (aQ (pZ (b:=false) rfl)),
     fun _ _=>obI (aQ (ay rfl)),
     oN,
     oN,
     oN,
     oN,
     oN,
     oN,
     oN,
     oN,
     oN,
     oN,
     oN,
     oN,
     oN,
     fun _ _=>obI (aQ (j3 rfl (fun _=>rfl) (fun h=>Bool.noConfusion h))),
     fun _ _=>obI (aQ (ay rfl)),
     oN,
     oN,
     oN,
     oN,
     oN,
     oN,
     fun _ _=>obI (aQ (j3 rfl (fun _=>rfl) (fun h=>Bool.noConfusion h))),trivial⟩ ?_
    clear h ac wo; intro ξ ac wo hφ h
    replace h:St w0 83 [(2,ptr b2 0),(80,.bool true)] [.blk b2 (cBx ⟨0,0,0,0,0,0⟩) 41] ac wo:=(h.pick [3] (by decide)).sub ⟨rfl,rfl,trivial⟩
    have e:=uB oX oY oT lX lY lT hn2 (fun ho=>aba (xx ▸ r_x) hbx (xx ▸ ho.1))
    rw [e]
    refine gz h <| (ai) ?_ ?_ <;> clear h ac wo <;> intro ac wo h hc4
    · refine gz h <| (W) ?_; clear h ac wo; intro ac wo h
      exact qp 0 h (h.retP (u:=.tuple #[vBx ⟨0,0,0,0,0,0⟩,.int .i64 2]) rfl trivial)
    · cases hc4
   | false =>
    rw [hbx] at w1
    cases hby:pX (toI (bc y)) (toI (bO y)) with
    | true =>
     rw [hby] at w2
     refine vG mixed [dv (ptr b4 0),dv (ptr b4 1),dv (.bool g),dv lv,dv (iN i),dv (sel lv (i*36+0)),dv (sel lv (i*36+20)),dv (vN (gt l i).f),dv (vD (lxs (gt l i).f)),dw (vR t) [0],dv (vR x),dw (.bool true) [1],dv (.bool false),dv (.bool false),dv (ptr b4 2),dv (ptr b4 3),dv (.bool g),dv lv,dv (iN i),dv (sel lv (i*36+0)),dv (sel lv (i*36+20)),dv (vN (gt l i).f),dv (vD (lys (gt l i).f)),dw (vR t) [0],dv (vR y),dw (.bool false) [1],dv (.bool true),dv (.bool true),dv (.bool true),dv (gv false undef),dv (gv false undef),dv (gv false undef),dv (gv false undef),dv (gv false undef),dv (gv false undef),dv (.bool true)]
      [⟨_,[]⟩,⟨.blk b4 (cBx S0) 41,[(11,.con (.blk b4 (cBx S1) 41))]⟩,⟨_,[]⟩,⟨_,[]⟩] h rfl (by kernel_rfl)
      ⟨fun _ _=>obI (aQ (rX rfl rfl rfl)),
      fun _ _=>obI (aQ (rX rfl rfl rfl)),
      fun _ _=>obI (aQ (ay rfl)),
      fun _ _=>obI (aQ (ay rfl)),
      fun _ _=>obI (aQ (ay rfl)),
      fun _ _=>obI (aQ (a_ia rfl rfl ⟨n1',hlt⟩)),
      fun _ _=>obI (aQ (a_fs (b:=i*36) (k:=0) rfl rfl n1' rfl)),
      fun _ _=>obI (aQ (nU (i:=i) (u:=gt l i) (y:=(gt l i).f) rfl hlv rfl hgi rfl rfl rfl)),
      oI (fun _=>fD (dZ cc104 rfl c1)),
      fun _ _=>obI (iy _ rfl rfl (js aa46 zz46 rfl rfl rfl (v:=vR t) rfl)),
      oI (fun _=>fD (dZ cc67 rfl c2)),
      fun ξ _=>by
      refine obI (kb [.blk b4 (cBx S0) 41] [.blk b4 (cBx S1) 41] ?_ ?_ ?_)
      · rfl
      · rfl
      · exact lU (dH cc122 rfl) (fun w B hb hs=>w1 w B hb hs),
      fun _ _=>obI (aQ (pZ (b:=true) rfl)),
      fun _ _=>obI (aQ (ay rfl)),
      fun _ _=>obK rfl rfl (aQ (rX rfl rfl rfl)),
      fun _ _=>obK rfl rfl (aQ (rX rfl rfl rfl)),
      fun _ _=>obK rfl rfl (aQ (ay rfl)),
      fun _ _=>obK rfl rfl (aQ (ay rfl)),
      fun _ _=>obK rfl rfl (aQ (ay rfl)),
      fun _ _=>obK rfl rfl (aQ (a_ia rfl rfl ⟨n1',hlt⟩)),
      fun _ _=>obK rfl rfl (aQ (a_fs (b:=i*36) (k:=0) rfl rfl n1' rfl)),
      fun _ _=>obK rfl rfl (aQ (nU (i:=i) (u:=gt l i) (y:=(gt l i).f) rfl hlv rfl hgi rfl rfl rfl)),
      oJ (fun _=>fD (dZ cc105 rfl c3)),
      fun _ _=>obK rfl rfl (iy _ rfl rfl (js aa46 zz46 rfl rfl rfl (v:=vR t) rfl)),
      oJ (fun _=>fD (dZ cc67 rfl c4)),
      fun ξ _=>by
      refine obK rfl rfl (kb [.blk b4 (cBx S1) 41] [.blk b4 (cBx S1) 41] ?_ ?_ ?_)
      · rfl
      · rfl
      · exact lU (dH cc122 rfl) (fun w B hb hs=>w2 w B hb hs),
      fun _ _=>obK rfl rfl (aQ (pZ (b:=false) rfl)),
      fun _ _=>obI (aQ (j3 rfl (fun h=>Bool.noConfusion h) (fun _=>rfl))),
      fun _ _=>obI (aQ (ay rfl)),
      oN,
      oN,
      oN,
      oN,
      oN,
      oN,
      fun _ _=>obI (aQ (j3 rfl (fun _=>rfl) (fun h=>Bool.noConfusion h))),trivial⟩ ?_
     clear h ac wo; intro ξ ac wo hφ h
     replace h:St w0 83 [(2,ptr b2 0),(80,.bool true)] [.blk b2 (cBx ⟨0,0,0,0,0,0⟩) 41] ac wo:=(h.pick [3] (by decide)).sub ⟨rfl,rfl,trivial⟩
     have e:=uB oX oY oT lX lY lT hn2 (fun ho=>aba (yy ▸ r_y) hby (yy ▸ ho.2.1))
     rw [e]
     refine gz h <| (ai) ?_ ?_ <;> clear h ac wo <;> intro ac wo h hc4
     · refine gz h <| (W) ?_; clear h ac wo; intro ac wo h
       exact qp 0 h (h.retP (u:=.tuple #[vBx ⟨0,0,0,0,0,0⟩,.int .i64 2]) rfl trivial)
     · cases hc4
    | false =>
     rw [hby] at w2
     cases hbt:pX (toI (bc t)) (toI (bO t)) with
     | true =>
      rw [hbt] at w3
      refine vG mixed [dv (ptr b4 0),dv (ptr b4 1),dv (.bool g),dv lv,dv (iN i),dv (sel lv (i*36+0)),dv (sel lv (i*36+20)),dv (vN (gt l i).f),dv (vD (lxs (gt l i).f)),dw (vR t) [0],dv (vR x),dw (.bool true) [1],dv (.bool false),dv (.bool false),dv (ptr b4 2),dv (ptr b4 3),dv (.bool g),dv lv,dv (iN i),dv (sel lv (i*36+0)),dv (sel lv (i*36+20)),dv (vN (gt l i).f),dv (vD (lys (gt l i).f)),dw (vR t) [0],dv (vR y),dw (.bool true) [1],dv (.bool false),dv (.bool false),dv (.bool false),dv (ptr b4 4),dv (ptr b4 5),dv (.bool g),dw (vR t) [0],dw (.bool false) [1],dv (.bool true),dv (.bool true)]
       [⟨_,[]⟩,⟨.blk b4 (cBx S0) 41,[(11,.con (.blk b4 (cBx S1) 41)),(25,.con (.blk b4 (cBx S2) 41))]⟩,⟨_,[]⟩,⟨_,[]⟩] h rfl (by kernel_rfl)
       ⟨fun _ _=>obI (aQ (rX rfl rfl rfl)),
       fun _ _=>obI (aQ (rX rfl rfl rfl)),
       fun _ _=>obI (aQ (ay rfl)),
       fun _ _=>obI (aQ (ay rfl)),
       fun _ _=>obI (aQ (ay rfl)),
       fun _ _=>obI (aQ (a_ia rfl rfl ⟨n1',hlt⟩)),
       fun _ _=>obI (aQ (a_fs (b:=i*36) (k:=0) rfl rfl n1' rfl)),
       fun _ _=>obI (aQ (nU (i:=i) (u:=gt l i) (y:=(gt l i).f) rfl hlv rfl hgi rfl rfl rfl)),
       oI (fun _=>fD (dZ cc104 rfl c1)),
       fun _ _=>obI (iy _ rfl rfl (js aa46 zz46 rfl rfl rfl (v:=vR t) rfl)),
       oI (fun _=>fD (dZ cc67 rfl c2)),
       fun ξ _=>by
       refine obI (kb [.blk b4 (cBx S0) 41] [.blk b4 (cBx S1) 41] ?_ ?_ ?_)
       · rfl
       · rfl
       · exact lU (dH cc122 rfl) (fun w B hb hs=>w1 w B hb hs),
       fun _ _=>obI (aQ (pZ (b:=true) rfl)),
       fun _ _=>obI (aQ (ay rfl)),
       fun _ _=>obK rfl rfl (aQ (rX rfl rfl rfl)),
       fun _ _=>obK rfl rfl (aQ (rX rfl rfl rfl)),
       fun _ _=>obK rfl rfl (aQ (ay rfl)),
       fun _ _=>obK rfl rfl (aQ (ay rfl)),
       fun _ _=>obK rfl rfl (aQ (ay rfl)),
       fun _ _=>obK rfl rfl (aQ (a_ia rfl rfl ⟨n1',hlt⟩)),
       fun _ _=>obK rfl rfl (aQ (a_fs (b:=i*36) (k:=0) rfl rfl n1' rfl)),
       fun _ _=>obK rfl rfl (aQ (nU (i:=i) (u:=gt l i) (y:=(gt l i).f) rfl hlv rfl hgi rfl rfl rfl)),
       oJ (fun _=>fD (dZ cc105 rfl c3)),
       fun _ _=>obK rfl rfl (iy _ rfl rfl (js aa46 zz46 rfl rfl rfl (v:=vR t) rfl)),
       oJ (fun _=>fD (dZ cc67 rfl c4)),
       fun ξ _=>by
       refine obK rfl rfl (kb [.blk b4 (cBx S1) 41] [.blk b4 (cBx S2) 41] ?_ ?_ ?_)
       · rfl
       · rfl
       · exact lU (dH cc122 rfl) (fun w B hb hs=>w2 w B hb hs),
       fun _ _=>obK rfl rfl (aQ (pZ (b:=true) rfl)),
       fun _ _=>obI (aQ (j3 rfl (fun h=>Bool.noConfusion h) (fun _=>rfl))),
       fun _ _=>obI (aQ (ay rfl)),
       fun _ _=>obK rfl rfl (aQ (rX rfl rfl rfl)),
       fun _ _=>obK rfl rfl (aQ (rX rfl rfl rfl)),
       fun _ _=>obK rfl rfl (aQ (ay rfl)),
       fun _ _=>obK rfl rfl (iy _ rfl rfl (js aa46 zz46 rfl rfl rfl (v:=vR t) rfl)),
       fun ξ _=>by
       refine obK rfl rfl (kb [.blk b4 (cBx S2) 41] [.blk b4 (cBx S2) 41] ?_ ?_ ?_)
       · rfl
       · rfl
       · exact lU (dH cc122 rfl) (fun w B hb hs=>w3 w B hb hs),
       fun _ _=>obK rfl rfl (aQ (pZ (b:=false) rfl)),
       fun _ _=>obI (aQ (j3 rfl (fun h=>Bool.noConfusion h) (fun _=>rfl))),trivial⟩ ?_
      clear h ac wo; intro ξ ac wo hφ h
      replace h:St w0 83 [(2,ptr b2 0),(80,.bool true)] [.blk b2 (cBx ⟨0,0,0,0,0,0⟩) 41] ac wo:=(h.pick [3] (by decide)).sub ⟨rfl,rfl,trivial⟩
      have e:=uB oX oY oT lX lY lT hn2 (fun ho=>aba (tt ▸ r_t) hbt (tt ▸ ho.2.2))
      rw [e]
      refine gz h <| (ai) ?_ ?_ <;> clear h ac wo <;> intro ac wo h hc4
      · refine gz h <| (W) ?_; clear h ac wo; intro ac wo h
        exact qp 0 h (h.retP (u:=.tuple #[vBx ⟨0,0,0,0,0,0⟩,.int .i64 2]) rfl trivial)
      · cases hc4
     | false =>
      rw [hbt] at w3
      refine vG mixed [dv (ptr b4 0),dv (ptr b4 1),dv (.bool g),dv lv,dv (iN i),dv (sel lv (i*36+0)),dv (sel lv (i*36+20)),dv (vN (gt l i).f),dv (vD (lxs (gt l i).f)),dw (vR t) [0],dv (vR x),dw (.bool true) [1],dv (.bool false),dv (.bool false),dv (ptr b4 2),dv (ptr b4 3),dv (.bool g),dv lv,dv (iN i),dv (sel lv (i*36+0)),dv (sel lv (i*36+20)),dv (vN (gt l i).f),dv (vD (lys (gt l i).f)),dw (vR t) [0],dv (vR y),dw (.bool true) [1],dv (.bool false),dv (.bool false),dv (.bool false),dv (ptr b4 4),dv (ptr b4 5),dv (.bool g),dw (vR t) [0],dw (.bool true) [1],dv (.bool false),dv (.bool false)]
       [⟨_,[]⟩,⟨.blk b4 (cBx S0) 41,[(11,.con (.blk b4 (cBx S1) 41)),(25,.con (.blk b4 (cBx S2) 41)),(33,.con (.blk b4 (cBx S3) 41))]⟩,⟨_,[]⟩,⟨_,[]⟩] h rfl (by kernel_rfl)
       ⟨fun _ _=>obI (aQ (rX rfl rfl rfl)),
       fun _ _=>obI (aQ (rX rfl rfl rfl)),
       fun _ _=>obI (aQ (ay rfl)),
       fun _ _=>obI (aQ (ay rfl)),
       fun _ _=>obI (aQ (ay rfl)),
       fun _ _=>obI (aQ (a_ia rfl rfl ⟨n1',hlt⟩)),
       fun _ _=>obI (aQ (a_fs (b:=i*36) (k:=0) rfl rfl n1' rfl)),
       fun _ _=>obI (aQ (nU (i:=i) (u:=gt l i) (y:=(gt l i).f) rfl hlv rfl hgi rfl rfl rfl)),
       oI (fun _=>fD (dZ cc104 rfl c1)),
       fun _ _=>obI (iy _ rfl rfl (js aa46 zz46 rfl rfl rfl (v:=vR t) rfl)),
       oI (fun _=>fD (dZ cc67 rfl c2)),
       fun ξ _=>by
       refine obI (kb [.blk b4 (cBx S0) 41] [.blk b4 (cBx S1) 41] ?_ ?_ ?_)
       · rfl
       · rfl
       · exact lU (dH cc122 rfl) (fun w B hb hs=>w1 w B hb hs),
       fun _ _=>obI (aQ (pZ (b:=true) rfl)),
       fun _ _=>obI (aQ (ay rfl)),
       fun _ _=>obK rfl rfl (aQ (rX rfl rfl rfl)),
       fun _ _=>obK rfl rfl (aQ (rX rfl rfl rfl)),
       fun _ _=>obK rfl rfl (aQ (ay rfl)),
       fun _ _=>obK rfl rfl (aQ (ay rfl)),
       fun _ _=>obK rfl rfl (aQ (ay rfl)),
       fun _ _=>obK rfl rfl (aQ (a_ia rfl rfl ⟨n1',hlt⟩)),
       fun _ _=>obK rfl rfl (aQ (a_fs (b:=i*36) (k:=0) rfl rfl n1' rfl)),
       fun _ _=>obK rfl rfl (aQ (nU (i:=i) (u:=gt l i) (y:=(gt l i).f) rfl hlv rfl hgi rfl rfl rfl)),
       oJ (fun _=>fD (dZ cc105 rfl c3)),
       fun _ _=>obK rfl rfl (iy _ rfl rfl (js aa46 zz46 rfl rfl rfl (v:=vR t) rfl)),
       oJ (fun _=>fD (dZ cc67 rfl c4)),
       fun ξ _=>by
       refine obK rfl rfl (kb [.blk b4 (cBx S1) 41] [.blk b4 (cBx S2) 41] ?_ ?_ ?_)
       · rfl
       · rfl
       · exact lU (dH cc122 rfl) (fun w B hb hs=>w2 w B hb hs),
       fun _ _=>obK rfl rfl (aQ (pZ (b:=true) rfl)),
       fun _ _=>obI (aQ (j3 rfl (fun h=>Bool.noConfusion h) (fun _=>rfl))),
       fun _ _=>obI (aQ (ay rfl)),
       fun _ _=>obK rfl rfl (aQ (rX rfl rfl rfl)),
       fun _ _=>obK rfl rfl (aQ (rX rfl rfl rfl)),
       fun _ _=>obK rfl rfl (aQ (ay rfl)),
       fun _ _=>obK rfl rfl (iy _ rfl rfl (js aa46 zz46 rfl rfl rfl (v:=vR t) rfl)),
       fun ξ _=>by
       refine obK rfl rfl (kb [.blk b4 (cBx S2) 41] [.blk b4 (cBx S3) 41] ?_ ?_ ?_)
       · rfl
       · rfl
       · exact lU (dH cc122 rfl) (fun w B hb hs=>w3 w B hb hs),
       fun _ _=>obK rfl rfl (aQ (pZ (b:=true) rfl)),
       fun _ _=>obI (aQ (j3 rfl (fun h=>Bool.noConfusion h) (fun _=>rfl))),trivial⟩ ?_
      clear h ac wo; intro ξ ac wo hφ h
      replace h:St w0 83 [(0,lv),(2,ptr b2 0),(4,ptr b4 0),(5,iN i),(6,s0),(7,iN j),(80,.bool false)] [.blk b4 (cBx S3) 41,.row (α:=GR) 46 s0 LH,.blk b2 (cBx ⟨0,0,0,0,0,0⟩) 41] ac wo:=(h.pick [1,2,3] (by decide)).sub ⟨rfl,rfl,rfl,rfl,rfl,rfl,rfl,trivial⟩
      refine gz h <| (ai) ?_ ?_ <;> clear h ac wo <;> intro ac wo h hc4
      · cases hc4
      obtain ⟨o1,v1,v2⟩:=aa9 (xx ▸ r_x) hbx
      obtain ⟨o2,v3,v4⟩:=aa9 (yy ▸ r_y) hby
      obtain ⟨o3,v5,v6⟩:=aa9 (tt ▸ r_t) hbt
      have eS:S3=stB X Y T (2*i+(j+1)):=by
       rw [← hS3,← hS2,← hS1,← hS0,v1,v2,v3,v4,v5,v6]
       unfold stB
       rw [← xx,← yy,← tt,xn hg2,xn hg2,xn hg2,xu hg2,xu hg2,xu hg2]; rfl
      rw [eS] at h
      refine gz h <| (W) ?_; clear h ac wo; intro ac wo h
      exact aO ⟨m2,by omega,j+1,by omega,by omega,fun k hk=>by
       by_cases hk2:k < 2*i+j
       · exact hok2 k hk2
       · obtain rfl:k=2*i+j:=by omega
         exact ⟨xx ▸ o1,yy ▸ o2,tt ▸ o3⟩,h.re [0,1,2]⟩
  ·
   obtain rfl:j=2:=by have:=of_decide_eq_false hc3; omega
   refine gz h <| (W) ?_; clear h ac wo; intro ac wo h
   rw [show 2*i+2=2*(i+1) by omega] at h
   exact aO ⟨m1,by omega,i+1,by omega,by omega,fun k hk=>hok2 k (by omega),h.re [0,2]⟩
 · obtain rfl:i=l.length:=by have:=of_decide_eq_false hc2; omega
   have e:=boxB_yes oX oY oT lX lY lT (n:=2*l.length - 1) (by omega) hok
   rw [show 2*l.length - 1+1=2*l.length by omega] at e
   rw [e]
   refine gz h <| (W) ?_; clear h ac wo; intro ac wo h
   exact qp 1 h (h.retP (u:=.tuple #[vBx (stB X Y T (2*l.length)),.int .i64 0]) rfl trivial)
end Go.Sx
