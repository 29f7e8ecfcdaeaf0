/- A part of the proof of movingpointBoxes. -/
import Derived.Test.YtpfdaoajcnophaaGreatDoorM7
set_option linter.unusedVariables false
set_option linter.unusedSimpArgs false
open Go.Proofs.Tryz renaming call26 → cc26, zeroValue41 → vv41, runUnderlying179 → uu179, runUnderlying181 → uu181, sizeOf3 → zz3, sizeOf77 → zz77, isAgg3 → aa3
namespace Go.Sx
open Go Go.RowKit Go.Proofs
set_option maxRecDepth 100000
set_option maxHeartbeats 40000000
attribute [local irreducible] Code.wp wpList Rd Step ObS Ent
attribute [local irreducible] ao aL ah au ax bN
attribute [local irreducible] aH aI am aq aE ak aS
def badS (a:Smp):Bool:=((cP a.t != 0) || (cP a.p.x != 0)) || (cP a.p.y != 0)
def t7 (l:List Smp) (i:Nat):Bool:=decide (0 < i) && decide (aS (gt l i).t (gt l (i - 1)).t≤0)
def frF (l:List Smp) (i:Nat):U Ln:=⟨⟨an (gt l i).t,an (gt l (i+1)).t,decide (0 < i),false⟩,dA (gt l i) (gt l (i+1))⟩
def frP (l:List Smp) (n:Nat):List (U Ln):=(List.range n).map (frF l)
def frO (l:List Smp):U Ln:=⟨⟨an (gt l 0).t,an (gt l 0).t,false,false⟩,ij (gt l 0).p⟩
def frS (l:List Smp) (N:List (U Ln)×Int):List (U Ln)×Int :=
 if 256 < l.length then ([],3) else if ∃ i,i < l.length∧badS (gt l i)=true then ([],5) else if ∃ i,i < l.length∧t7 l i=true then ([],7)
 else if l.length=1 then ([frO l],0) else N
theorem frP_succ (l:List Smp) (n:Nat):frP l (n+1)=frP l n++[frF l n]:=by unfold frP; rw [List.range_succ,List.map_append]; rfl
theorem frP_len (l:List Smp) (n:Nat):(frP l n).length=n:=by unfold frP; simp
theorem frS_ct (l:List Smp) (lv:Value) (hl:l.length≤1000) (zl:∀ i,xi 40 (gt l i)) (N:List (U Ln)×Int) (p:Prop) (hN:∀ lv' w,View w lv' (frP l (l.length - 1))→Calls Tryz.prog 206 #[lv'] w (RetT w 165 N.1 [.int .i64 N.2] p)) (w0:World) (hlv:View w0 lv l):Calls Tryz.prog 98 #[lv] w0 (RetT w0 165 (frS l N).1 [.int .i64 (frS l N).2] True):=by
 refine enter (N:=162) (args:=[lv]) Tryz.func98 rfl rfl ?_; intro ac h
 have hlen:=hlv.len
 refine gz h <| (ai) ?_ ?_ <;> clear h ac <;> intro ac wo h hc1
 ·
  have hd:frS l N=([],3):=by unfold frS; rw [if_pos (by have:=of_decide_eq_true hc1; omega)]
  rw [hd]
  refine gz h <| (W) ?_; clear h ac wo; intro ac wo h
  replace h:=h.nilRow (α:=U Ln) 165
  exact (rt h) (h.retT 0 rfl rfl trivial)
 have h256:¬ 256 < l.length:=by have:=of_decide_eq_false hc1; omega
 refine gz h <| (W) ?_; clear h ac wo; intro ac wo h
 refine wp_loop_ghost (fun n_ a_ w_=>∃ (i:Nat),(l.length - i < n_)∧(i≤l.length)∧(∀ j,j < i→badS (gt l j)=false)∧St w0 162 [(0,lv),(20,lv),(21,iN l.length),(22,iN i)] [] a_ w_) (l.length+1) ⟨0,by omega,by omega,fun j hj=>by omega,h.rs⟩ ?_
 clear h ac wo; rintro n1 ac wo ⟨i,hm1,hi,hB,h⟩
 obtain ⟨m1,rfl⟩:∃ m,n1=m+1:=⟨n1 - 1,by omega⟩
 refine gz h <| (ai) ?_ ?_ <;> clear h ac wo <;> intro ac wo h hc2
 ·
  have hd1:i < l.length:=by have:=of_decide_eq_true hc2; omega
  have zi:=zl i
  have c1:=fq (gt l i).t (cu zi.1 og)
  have c2:=fq (gt l i).p.x (cu zi.2.1 og)
  have c3:=fq (gt l i).p.y (cu zi.2.2 og)
  refine gz h <| (xa) fun b1=>(xk c1) <| (xg (hs:=by exact fun hg=>gk enA (kk c2))) <| (xg (hs:=by exact fun hg=>gk enA (kk c3))) <| (ai) ?_ ?_ <;> clear h ac wo <;> intro ac wo h hc3
  ·
   have hd:frS l N=([],5):=by unfold frS; rw [if_neg h256,if_pos ⟨i,hd1,hc3⟩]
   rw [hd]
   refine gz h <| (W) ?_; clear h ac wo; intro ac wo h
   replace h:=h.nilRow (α:=U Ln) 165
   exact (rt h) (h.retT 0 rfl rfl trivial)
  ·
   refine gz h <| (W) ?_; clear h ac wo; intro ac wo h
   refine aO ⟨m1,by omega,i+1,by omega,by omega,fun j hj=>?_,h.re []⟩
   by_cases e:j=i
   · subst e; exact hc3
   · exact hB j (by omega)
 obtain rfl:i=l.length:=by have:=of_decide_eq_false hc2; omega
 have h5:¬ ∃ i,i < l.length∧badS (gt l i)=true:=fun ⟨i,h1,h2⟩=>by rw [hB i h1] at h2; cases h2
 clear hB hm1
 refine gz h <| (W) ?_; clear h ac wo; intro ac wo h
 refine wp_loop_ghost (fun n_ a_ w_=>∃ (i:Nat),(l.length - i < n_)∧(i≤l.length)∧(∀ j,j < i→t7 l j=false)∧St w0 162 [(0,lv),(46,iN l.length),(47,iN i)] [] a_ w_) (l.length+1) ⟨0,by omega,by omega,fun j hj=>by omega,h.rs⟩ ?_
 clear h ac wo; rintro n1 ac wo ⟨i,hm1,hi,hB,h⟩
 obtain ⟨m1,rfl⟩:∃ m,n1=m+1:=⟨n1 - 1,by omega⟩
 refine gz h <| (ai) ?_ ?_ <;> clear h ac wo <;> intro ac wo h hc2
 ·
  have hd1:i < l.length:=by have:=of_decide_eq_true hc2; omega
  have zi:=zl i
  have zj:=zl (i - 1)
  have c1:=g9 (gt l i).t (gt l (i - 1)).t 30 og (cu zi.1 og) (cu zj.1 og)
  refine gz h <| (dr0 (hob:=(oG (by exact fun hg=>c1)) <| oE)) <| (ai) ?_ ?_ <;> clear h ac wo <;> intro ac wo h hc3
  ·
   have hd:frS l N=([],7):=by
    unfold frS; rw [if_neg h256,if_neg h5,if_pos ⟨i,hd1,by unfold t7; rw [← hc3,show decide (0 < i)=decide ((i:Int)>0) from decide_eq_decide.mpr (by omega)]⟩]
   rw [hd]
   refine gz h <| (W) ?_; clear h ac wo; intro ac wo h
   replace h:=h.nilRow (α:=U Ln) 165
   exact (rt h) (h.retT 0 rfl rfl trivial)
  ·
   refine gz h <| (W) ?_; clear h ac wo; intro ac wo h
   refine aO ⟨m1,by omega,i+1,by omega,by omega,fun j hj=>?_,h.re []⟩
   by_cases e:j=i
   · subst e
     unfold t7; rw [← hc3,show decide (0 < j)=decide ((j:Int)>0) from decide_eq_decide.mpr (by omega)]
   · exact hB j (by omega)
 obtain rfl:i=l.length:=by have:=of_decide_eq_false hc2; omega
 have h7:¬ ∃ i,i < l.length∧t7 l i=true:=fun ⟨i,h1,h2⟩=>by rw [hB i h1] at h2; cases h2
 clear hB hm1
 refine gz h <| (ai) ?_ ?_ <;> clear h ac wo <;> intro ac wo h hc3
 ·
  have h1:l.length=1:=by have:=of_decide_eq_true hc3; omega
  have hd:frS l N=([frO l],0):=by unfold frS; rw [if_neg h256,if_neg h5,if_neg h7,if_pos h1]
  rw [hd]
  have z0:=zl 0
  have c1:=d6 (gt l 0).t 40 og z0.1
  refine gz h <| (xk c1) <| (xa) fun b1=>(W) ?_; clear h ac wo; intro ac wo h
  replace h:=h.emps 1
  have hlt:0 < l.length:=by omega
  have n1:=hlv.nn hlt
  refine eZ mixed [dw (vR (an (gt l 0).t)) [0],dw (vR (an (gt l 0).t)) [0],dv (vV ⟨an (gt l 0).t,an (gt l 0).t,false,false⟩),dv _,dv _,dv _,dv _,dv (vQ (gt l 0).p.x),dv _,dv _,dv _,dv _,dv (vQ (gt l 0).p.y),dv (vN (ij (gt l 0).p)),dv (vUN (frO l)),⟨.nd (.one 15 fun v=>NN v 1),[1]⟩,⟨.nd (.two 16 15 fun a b=>a=b),[]⟩,dv (.int .i64 0)]
   [⟨_,[]⟩,⟨.emp,[(15,.one 15 fun v=>.row (α:=U Ln) 165 v [frO l])]⟩] h rfl (by kernel_rfl)
   ⟨oA obA,oA obA,oA fun _=>aQ (bK mY rfl rfl rfl),oA obA,oA obA,oA obA,oA obA,oA obA,oA obA,oA obA,oA obA,oA obA,oA obA,oA fun _=>aQ (bK w7 rfl rfl rfl),oA fun _=>aQ (bK uC rfl rfl rfl),fun _ _=>l6 1 (frO l) lS rfl rfl,fun _ _=>pm (j:=15) (by decide) rfl,oA obA,trivial⟩ ?_
  clear h ac wo; intro ξ ac wo hφ h
  replace h:St w0 162 [(2,ξ 16),(3,.int .i64 0)] [.row (α:=U Ln) 165 (ξ 15) [frO l]] ac wo:=(h.pick [1] (by decide)).sub ⟨rfl,rfl,trivial⟩
  rw [show ξ 16=ξ 15 from hφ 16] at h
  generalize ξ 15=s2 at h; clear hφ ξ
  refine gz h <| (W) ?_; clear h ac wo; intro ac wo h
  exact (rt h) (h.retT 0 rfl rfl trivial)
 have h1:¬ l.length=1:=by have:=of_decide_eq_false hc3; omega
 have hd:frS l N=N:=by unfold frS; rw [if_neg h256,if_neg h5,if_neg h7,if_neg h1]
 rw [hd]; clear hd h5 h7
 refine gz h <| (W) ?_; clear h ac wo; intro ac wo h
 replace h:=h.nilRow (α:=U Ln) 165
 refine gz h <| (W) ?_; clear h ac wo; intro ac wo h
 refine wp_loop_ghost (fun n_ a_ w_=>∃ (i:Nat) (sv:Value),(l.length - i < n_)∧(1≤i)∧(i≤l.length∨i=1)∧St w0 162 [(0,lv),(8,sv),(9,iN i)] [.row (α:=U Ln) 165 sv (frP l (i - 1))] a_ w_) (l.length+1) ⟨1,_,by omega,by omega,by omega,h.re [0]⟩ ?_
 clear h ac wo; rintro n1 ac wo ⟨i,sv,hm1,hi1,hi,h⟩
 obtain ⟨m1,rfl⟩:∃ m,n1=m+1:=⟨n1 - 1,by omega⟩
 refine gz h <| (ai) ?_ ?_ <;> clear h ac wo <;> intro ac wo h hc2
 ·
  have hlt2:i < l.length:=by have:=of_decide_eq_true hc2; omega
  have hlt:i - 1 < l.length:=by omega
  have n1:=hlv.nn hlt
  refine gz h <| (W) ?_; clear h ac wo; intro ac wo h
  replace h:=h.emps 2
  refine eZ mixed [dv lv,dv (iN i),dv (iN (i - 1)),dv (sel lv ((i - 1)*12+0)),dv (vSm (gt l (i - 1))),dv lv,dv (iN i),dv (sel lv (i*12+0)),dv (vSm (gt l i)),⟨.nd (.one 9 fun v=>∃ b,v=ptr b 0),[1]⟩,⟨.nd (.one 10 fun v=>∃ b,v=ptr b 0),[2]⟩,dw undef [1],dw undef [2]]
   [⟨_,[]⟩,⟨.emp,[(9,.one 9 fun v=>.blk (bu v) (cSm default) 145),(11,.one 9 fun v=>.blk (bu v) (cSm (gt l (i - 1))) 145)]⟩,⟨.emp,[(10,.one 10 fun v=>.blk (bu v) (cSm default) 145),(12,.one 10 fun v=>.blk (bu v) (cSm (gt l i)) 145)]⟩] h rfl (by kernel_rfl)
   ⟨oA obA,oA obA,oA obA,oA obA,oA obA,oA obA,oA obA,oA obA,oA obA,fun _ _=>i0 1 rfl (fun _=>rfl),fun _ _=>i0 2 rfl (fun _=>rfl),fun ξ hφ=>iZ (u:=vSm (gt l (i - 1))) 1 (hφ 9 rfl) rfl rfl rfl rfl rfl rfl rfl,fun ξ hφ=>iZ (u:=vSm (gt l i)) 2 (hφ 10 rfl) rfl rfl rfl rfl rfl rfl rfl,trivial⟩ ?_
  clear h ac wo; intro ξ ac wo hφ h
  obtain ⟨b4,hb4⟩:∃ b,ξ 9=ptr b 0:=hφ 9
  obtain ⟨b5,hb5⟩:∃ b,ξ 10=ptr b 0:=hφ 10
  replace h:St w0 162 [(0,lv),(8,sv),(9,iN i),(10,ξ 9),(11,ξ 10)] [.row (α:=U Ln) 165 sv (frP l (i - 1)),.blk (bu (ξ 9)) (cSm (gt l (i - 1))) 145,.blk (bu (ξ 10)) (cSm (gt l i)) 145] ac wo:=(h.pick [0,1,2] (by decide)).sub ⟨rfl,rfl,rfl,rfl,rfl,trivial⟩
  rw [hb4,hb5] at h
  clear hb4 hb5 hφ ξ
  have za:=zl (i - 1)
  have zb:=zl i
  have c1:=fQ (gt l (i - 1)).t (gt l (i - 1)).p.x (gt l i).t (gt l i).p.x za.1 za.2.1 zb.1 zb.2.1
  have c2:=fQ (gt l (i - 1)).t (gt l (i - 1)).p.y (gt l i).t (gt l i).p.y za.1 za.2.2 zb.1 zb.2.2
  refine gz h <| (xk c1) <| (xa) fun b6=>(xk c2) <| (xa) fun b7=>(W) ?_; clear h ac wo; intro ac wo h
  obtain ⟨q1,hq1⟩:∃ q,(cz (gt l (i - 1)).t (gt l (i - 1)).p.x (gt l i).t (gt l i).p.x).1=q:=⟨_,rfl⟩
  obtain ⟨q2,hq2⟩:∃ q,(cz (gt l (i - 1)).t (gt l (i - 1)).p.y (gt l i).t (gt l i).p.y).1=q:=⟨_,rfl⟩
  replace h:St w0 162 [(0,lv),(8,sv),(9,iN i),(10,ptr b4 0),(11,ptr b5 0),(12,ptr b6 0),(14,ptr b7 0)] [.row (α:=U Ln) 165 sv (frP l (i - 1)),.blk b4 (cSm (gt l (i - 1))) 145,.blk b5 (cSm (gt l i)) 145,.blk b6 (cD q1) 72,.blk b7 (cD q2) 72] ac wo:=by
   rw [← hq1,← hq2]; exact h.re [2,3,4,1,0]
  have c3:=d6 (gt l (i - 1)).t 40 og za.1
  have c4:=d6 (gt l i).t 40 og zb.1
  replace h:=h.emps 1
  obtain ⟨v,hv⟩:∃ v:Iv,(⟨an (gt l (i - 1)).t,an (gt l i).t,decide ((i:Int)>1),false⟩:Iv)=v:=⟨_,rfl⟩
  refine eZ mixed [dv (ptr b4 0),dw (vQ (gt l (i - 1)).t) [1],dv (vR (an (gt l (i - 1)).t)),dv (ptr b5 0),dw (vQ (gt l i).t) [2],dv (vR (an (gt l i).t)),dv (iN i),dv (.bool (decide ((i:Int)>1))),dv (vV v),⟨.nd (.one 9 fun v=>∃ b,v=ptr b 0),[5]⟩,dw undef [5]]
   [⟨_,[]⟩,⟨_,[]⟩,⟨_,[]⟩,⟨_,[]⟩,⟨_,[]⟩,⟨.emp,[(9,.one 9 fun x=>.blk (bu x) (cV default) 74),(10,.one 9 fun x=>.blk (bu x) (cV v) 74)]⟩] h rfl (by kernel_rfl)
   ⟨oA obA,oA obA,oA fun _=>fD (dZ cc26 rfl c3),oA obA,oA obA,oA fun _=>fD (dZ cc26 rfl c4),oA obA,oA obA,(by rw [← hv]; exact oA fun _=>aQ (bK mY rfl rfl rfl)),fun _ _=>i0 5 rfl (fun _=>rfl),fun ξ hφ=>iZ (u:=vV v) 5 (hφ 9 rfl) rfl rfl rfl rfl rfl rfl rfl,trivial⟩ ?_
  clear h ac wo; intro ξ ac wo hφ h
  obtain ⟨b8,hb8⟩:∃ b,ξ 9=ptr b 0:=hφ 9
  replace h:St w0 162 [(0,lv),(8,sv),(9,iN i),(12,ptr b6 0),(14,ptr b7 0),(16,ξ 9)] [.row (α:=U Ln) 165 sv (frP l (i - 1)),.blk b6 (cD q1) 72,.blk b7 (cD q2) 72,.blk (bu (ξ 9)) (cV v) 74] ac wo:=(h.pick [0,3,4,5] (by decide)).sub ⟨rfl,rfl,rfl,rfl,rfl,rfl,trivial⟩
  rw [hb8] at h
  clear hb8 hφ ξ
  have eu:(⟨v,⟨q1.c0,q1.c1,q2.c0,q2.c1⟩⟩:U Ln)=frF l (i - 1):=by
   unfold frF dA lnOf; rw [show i - 1+1=i by omega,← hv,← hq1,← hq2]
   have:decide ((i:Int)>1)=decide (0 < i - 1):=decide_eq_decide.mpr (by omega)
   rw [this]
  refine gz h <| (W) ?_; clear h ac wo; intro ac wo h
  refine nw h (dG (α:=U Ln) (xs:=[.tmp 155]) (vs:=[vUN (⟨v,⟨q1.c0,q1.c1,q2.c0,q2.c1⟩⟩:U Ln)]) [(⟨v,⟨q1.c0,q1.c1,q2.c0,q2.c1⟩⟩:U Ln)] lS rfl rfl rfl (by decide)) rfl ?_; clear h ac wo; intro s1 ac wo _ h
  refine on2 h 1 0 rfl rfl (gQ (xs:=frP l (i - 1)) (ys:=[(⟨v,⟨q1.c0,q1.c1,q2.c0,q2.c1⟩⟩:U Ln)]) lS (fun w hs=>(row_view hs 0 rfl)) rfl rfl (by rw [frP_len]; show _+1≤_; omega)) rfl ?_; clear h ac wo; intro s2 ac wo _ h
  rw [eu,← frP_succ,show i - 1+1=i+1 - 1 by omega] at h
  refine gz h <| (W) ?_; clear h ac wo; intro ac wo h
  exact aO ⟨m1,by omega,i+1,s2,by omega,by omega,by omega,h.re [0]⟩
 ·
  have hge:l.length≤i:=by have:=of_decide_eq_false hc2; omega
  have e:frP l (i - 1)=frP l (l.length - 1):=by congr 1; omega
  rw [e] at h
  refine gz h <| (W) ?_; clear h ac wo; intro ac wo h
  refine ux (xs:=N.1) h (dH Tryz.call206 rfl) (fun w_ hB_ hS_=>hN sv w_ (row_view hS_ 0 rfl)) rfl ?_; clear h ac wo; intro s2 ac wo _ h
  refine gz h <| (W) ?_; clear h ac wo; intro ac wo h
  exact (rt h) (h.retT 0 rfl rfl trivial)
end Go.Sx
namespace Go.Sx
open Go Go.RowKit Go.Proofs
set_option maxRecDepth 100000
set_option maxHeartbeats 40000000
attribute [local irreducible] Code.wp wpList Rd Step ObS Ent
attribute [local irreducible] ao aL ah au ax bN
attribute [local irreducible] aH aI am aq aE ak aS
structure Bx where
 a:Int
 b:Int
 c:Int
 d:Int
 e:Int
 f:Int
 deriving DecidableEq
def cBx (x:Bx):List Value:=[.int .i64 x.a,.int .i64 x.b,.int .i64 x.c,.int .i64 x.d,.int .i64 x.e,.int .i64 x.f]
def vBx (x:Bx):Value:=.agg (cBx x).toArray
instance yM8_1 (x:Bx):Cel (vBx x) (cBx x):=⟨rfl⟩
instance yM8_2 (x:Bx):Dc (cBx x) (vBx x):=⟨rfl⟩
instance yM8_3:Sz Tryz.prog 41 6:=⟨Tryz.sizeOf41⟩
instance yM8_4:Ag Tryz.prog 41 true:=⟨Tryz.isAgg41⟩
instance yM8_5:Zc Tryz.prog 41 (cBx ⟨0,0,0,0,0,0⟩):=⟨⟨_,vv41,rfl⟩⟩
instance yM8_6:Sh Tryz.prog 41 Bx vBx:=⟨trivial⟩
instance yM8_7:Sz Tryz.prog 179 3:=⟨Tryz.sizeOf179⟩
instance yM8_8:Ag Tryz.prog 179 true:=⟨Tryz.isAgg179⟩
instance yM8_9:Un Tryz.prog 179 (.array 3 77):=⟨uu179⟩
instance yM8_10:Zc Tryz.prog 179 [.slice none 0 0,.slice none 0 0,.slice none 0 0]:=⟨⟨_,Tryz.zeroValue179,rfl⟩⟩
instance yM8_11:Sz Tryz.prog 181 3:=⟨Tryz.sizeOf181⟩
instance yM8_12:Un Tryz.prog 181 (.array 3 3):=⟨uu181⟩
instance yM8_13:Zc Tryz.prog 181 [.int .i64 0,.int .i64 0,.int .i64 0]:=⟨⟨_,Tryz.zeroValue181,rfl⟩⟩
theorem aa5:BuildF Tryz.prog 41 (cBx ⟨0,0,0,0,0,0⟩) [(0,1),(1,1),(2,1),(3,1),(4,1),(5,1)]:=BuildF.of vv41 rfl Tryz.runUnderlying41 (by intro w; simp [zz3])
instance yM8_14 (a b c d e f:Int):Bu Tryz.prog 41 [0,1,2,3,4,5] [.int .i64 a,.int .i64 b,.int .i64 c,.int .i64 d,.int .i64 e,.int .i64 f] (vBx ⟨a,b,c,d,e,f⟩):=Bu.of aa5 rfl rfl
def enR (l:List (U Ln)) (k:Nat):GR:=bif k % 2 == 0 then (gt l (k / 2)).iv.lo else (gt l (k / 2)).iv.hi
def enP (l:List (U Ln)) (k:Nat):RPt:=tZ (gt l (k / 2)).f (enR l k)
def bT (l:List (U Ln)) (n:Nat):List GR:=(List.range n).map (enR l)
def bX (l:List (U Ln)) (n:Nat):List GR:=(List.range n).map fun k=>(enP l k).x
def bY (l:List (U Ln)) (n:Nat):List GR:=(List.range n).map fun k=>(enP l k).y
theorem lB {α:Type} (f:Nat→α) (n:Nat):(List.range (n+1)).map f=(List.range n).map f++[f n]:=by rw [List.range_succ,List.map_append]; rfl
theorem qP (l:List (U Ln)) (n:Nat):(bT l n).length=n:=by unfold bT; simp
theorem qO (l:List (U Ln)) (n:Nat):(bX l n).length=n:=by unfold bX; simp
theorem qN (l:List (U Ln)) (n:Nat):(bY l n).length=n:=by unfold bY; simp
theorem qu {P:Program} {w0:World} {α:Type} [Cod α] {ol:List Oper} {H:List Hist} {ξ:Nat→Value} {G:(Nat→Value)→List (Nat×Value)} {st et bytes i j:Nat} {zero:List Value} {x y:Operand} {sv:Value} {dst:Option Tmp} {ty:TypeId} {pos:String} {aft:Array Edge} (eo e0:Nat) {xs:List α} {u:α}
 (hT:SlT P st et (Cod.n α) bytes zero) (hx:ev (gm (G ξ) (e6 (.call ⟨.builtin .append,#[x,y],#[st,st]⟩))) x=some sv) (hy:ev (gm (G ξ) (e6 (.call ⟨.builtin .append,#[x,y],#[st,st]⟩))) y=some (ξ j)) (hl:xs.length+[u].length≤34359738368)
 (h1:dg H [eo,e0] i ξ=[.row et sv xs,.row et (ξ j) [u]]) (h2:∀ v,dg H [eo,e0] (i+1) (upd ξ i v)=[.row et v (xs++[u]),.row et (ξ j) [u]]):ObS P w0 ol H G ξ i ⟨dst,.call ⟨.builtin .append,#[x,y],#[st,st]⟩,ty,pos,aft,none⟩ ⟨.nd (.one i fun v=>lJ v),[eo,e0]⟩ :=
 oB (ψ:=fun v=>[u]≠[]→NN v (xs++[u]).length) (B:=fun v=>[.row et v (xs++[u]),.row et (ξ j) [u]]) [.row et sv xs,.row et (ξ j) [u]] h1 (fun v _=>h2 v) (fun v hv=>by simpa [DF.one,bA] using (hv (by simp)).isl) (gQ (xs:=xs) (ys:=[u]) hT (fun w hs=>(row_view hs 0 rfl)) hx hy hl)
end Go.Sx
namespace Go.Sx
open Go Go.RowKit Go.Proofs
set_option maxRecDepth 100000
set_option maxHeartbeats 40000000
attribute [local irreducible] Code.wp wpList Rd Step ObS Ent
attribute [local irreducible] ao aL ah au ax bN
attribute [local irreducible] aH aI am aq aE ak aS
def FlO (x:GR):Prop:=((ae (ae (aa x.p) (aa x.p)) (ae (aj x.r) (aa x.r))).mag < 4∧SzI 40 (bc x))∧SzR 36 x∧(bc x).mag≤1099511627776
structure BxO (L:List GR):Prop where
 z:∀ i,SzR 36 (gt L i)
 lo:FlO (jC L (L.length - 1))
 hi:FlO (cG (jN L (L.length - 1)))
 hm:(bO (jN L (L.length - 1))).mag≤1099511627776
theorem toI_le (a:GI) (h:a.mag≤1099511627776):-1099511627776≤bI a∧bI a≤1099511627776:=by unfold bI; split <;> omega
def loI (L:List GR):Int:=bI (bc (jC L (L.length - 1)))
def hiI (L:List GR):Int:=bI (bO (jN L (L.length - 1)))
def boxOf (l:List (U Ln)):Bx:=⟨loI (bX l (2*l.length)),hiI (bX l (2*l.length)),loI (bY l (2*l.length)),hiI (bY l (2*l.length)),loI (bT l (2*l.length)),hiI (bT l (2*l.length))⟩
theorem u4 {P:Program} {w0:World} {F:List (Nat×Value)} {t e:TypeId} {n i:Nat} {k:IntKind} {x ix:Operand} {vs:List Value} {v:Value} (hu:∀ w,(underlying t).run P w=.ok (.array n e) w) (hs:∀ w,(sizeOf e).run P w=.ok 1 w) (ha':∀ w,(isAgg e).run P w=.ok false w)
 (hx:ev F x=some (.agg vs.toArray)) (hi:ev F ix=some (.int k (i:Int))) (hn:i < n) (he:vs[i]?=some v):Rd P w0 F [] (.index t x ix) v :=
 dM fun o a w ho ha=>by
  have h1:(0:Int)≤(i:Int)∧(i:Int) < (n:Int):=by omega
  have hlt:i < vs.length:=(List.getElem?_eq_some_iff.1 he).1
  simp [execOp,ho,Instr.index,asIntOf,ha x _ hx,ha ix _ hi,hu w,hs w,h1,part,ha' w,he,hn]
def tri (k:Nat) (a b c:Int):List Value:=[.int .i64 (bif Nat.blt 0 k then a else 0),.int .i64 (bif Nat.blt 1 k then b else 0),.int .i64 (bif Nat.blt 2 k then c else 0)]
theorem box_ct (l:List (U Ln)) (lv:Value) (h0:0 < l.length) (hl:l.length≤400) (zf:∀ i,SzN 30 (gt l i).f) (zt:∀ k,SzR 30 (enR l k)∧Sm (enR l k).r)
 (hX:BxO (bX l (2*l.length))) (hY:BxO (bY l (2*l.length))) (hT:BxO (bT l (2*l.length))) (w0:World) (hlv:View w0 lv l):Calls Tryz.prog 20 #[lv] w0 (dE w0 (.tuple #[vBx (boxOf l),.int .i64 0]) True):=by
 refine enter (N:=124) (args:=[lv]) Tryz.func20 rfl rfl ?_; intro ac h
 haveI:On:=⟨trivial⟩
 have hlen:=hlv.len
 refine gz h <| (xa) fun b1=>(ai) ?_ ?_ <;> clear h ac <;> intro ac wo h hc1
 · have:=eq_of_beq hc1; omega
 refine gz h <| (xa) fun b2=>(W) ?_; clear h ac wo; intro ac wo h
 replace h:=((h.nilRow (α:=GR) 46).nilRow (α:=GR) 46).nilRow (α:=GR) 46
 refine wp_loop_ghost (fun n_ a_ w_=>∃ (i:Nat) (sx sy st:Value),(l.length - i < n_)∧(i≤l.length)∧lJ sx∧lJ sy∧lJ st∧St w0 124 [(2,ptr b1 0),(4,ptr b2 0),(24,lv),(25,iN l.length),(26,iN i)] [.blk b2 [sx,sy,st] 179,.row (α:=GR) 46 sx (bX l (2*i)),.row (α:=GR) 46 sy (bY l (2*i)),.row (α:=GR) 46 st (bT l (2*i)),.blk b1 (cBx ⟨0,0,0,0,0,0⟩) 41] a_ w_) (l.length+1) ⟨0,_,_,_,by omega,by omega,⟨_,_,_,rfl⟩,⟨_,_,_,rfl⟩,⟨_,_,_,rfl⟩,h.re [3,0,1,2,4]⟩ ?_
 clear h ac wo; rintro n1 ac wo ⟨i,sx,sy,st,hm1,hi,isx,isy,ist,h⟩
 obtain ⟨m1,rfl⟩:∃ m,n1=m+1:=⟨n1 - 1,by omega⟩
 refine gz h <| (ai) ?_ ?_ <;> clear h ac wo <;> intro ac wo h hc2
 ·
  have hlt:i < l.length:=by have:=of_decide_eq_true hc2; omega
  have n1:=hlv.nn hlt
  have e0:enR l (2*i)=(gt l i).iv.lo:=by
   unfold enR; rw [show 2*i % 2=0 by omega,show 2*i / 2=i by omega]; rfl
  have e1:enR l (2*i+1)=(gt l i).iv.hi:=by
   unfold enR; rw [show (2*i+1) % 2=1 by omega,show (2*i+1) / 2=i by omega]; rfl
  refine gz h <| (xa) fun b6=>(W) ?_; clear h ac wo; intro ac wo h
  refine nw h (dG (α:=GR) (xs:=[.tmp 32,.tmp 35]) (vs:=[vR (gt l i).iv.lo,vR (gt l i).iv.hi]) [(gt l i).iv.lo,(gt l i).iv.hi] kK rfl rfl rfl (by decide)) rfl ?_; clear h ac wo; intro s0 ac wo hs0 h
  refine gz h <| (W) ?_; clear h ac wo; intro ac wo h
  obtain ⟨LH,hLH⟩:∃ LH:List GR,[(gt l i).iv.lo,(gt l i).iv.hi]=LH:=⟨_,rfl⟩
  have hl2:LH.length=2:=by rw [← hLH]; rfl
  have E:∀ j,j < 2→gt LH j=enR l (2*i+j):=by
   intro j hj
   rw [← hLH]
   rcases j with _ | _ | j
   · exact e0.symm
   · exact e1.symm
   · omega
  rw [hLH] at h hs0
  clear hLH e0 e1
  replace h:St w0 124 [(2,ptr b1 0),(4,ptr b2 0),(6,ptr b6 0),(24,lv),(25,iN l.length),(26,iN i),(36,s0),(37,iN LH.length),(38,iN 0)] [.row (α:=GR) 46 s0 LH,.blk b6 (cUN (gt l i)) 165,.blk b2 [sx,sy,st] 179,.row (α:=GR) 46 sx (bX l (2*i+0)),.row (α:=GR) 46 sy (bY l (2*i+0)),.row (α:=GR) 46 st (bT l (2*i+0)),.blk b1 (cBx ⟨0,0,0,0,0,0⟩) 41] ac wo:=h.re [0,1,2,3,4,5,6]
  refine wp_loop_ghost (fun n_ a_ w_=>∃ (j:Nat) (sx sy st:Value),(2 - j < n_)∧(j≤2)∧lJ sx∧lJ sy∧lJ st∧St w0 124 [(2,ptr b1 0),(4,ptr b2 0),(6,ptr b6 0),(24,lv),(25,iN l.length),(26,iN i),(36,s0),(37,iN LH.length),(38,iN j)] [.row (α:=GR) 46 s0 LH,.blk b6 (cUN (gt l i)) 165,.blk b2 [sx,sy,st] 179,.row (α:=GR) 46 sx (bX l (2*i+j)),.row (α:=GR) 46 sy (bY l (2*i+j)),.row (α:=GR) 46 st (bT l (2*i+j)),.blk b1 (cBx ⟨0,0,0,0,0,0⟩) 41] a_ w_) 3 ⟨0,sx,sy,st,by omega,by omega,isx,isy,ist,h⟩ ?_
  clear h ac wo isx isy ist sx sy st; rintro n2 ac wo ⟨j,sx,sy,st,hm2,hj,isx,isy,ist,h⟩
  obtain ⟨m2,rfl⟩:∃ m,n2=m+1:=⟨n2 - 1,by omega⟩
  refine gz h <| (ai) ?_ ?_ <;> clear h ac wo <;> intro ac wo h hc3
  ·
   have hj2:j < LH.length:=by have:=of_decide_eq_true hc3; omega
   have ej:=E j (by omega)
   have zj:=zt (2*i+j)
   rw [← ej] at zj
   have c1:=yK (gt l i).f (gt LH j) 10 og (jB (zf i) og) (fh zj.1 og) zj.2 zj.1.2
   refine gz h <| (xa) fun b8=>(xk c1) <| (xa) fun b9=>(W) ?_; clear h ac wo; intro ac wo h
   obtain ⟨q,hq⟩:∃ q,tZ (gt l i).f (gt LH j)=q:=⟨_,rfl⟩
   obtain ⟨t,ht⟩:∃ t,gt LH j=t:=⟨_,rfl⟩
   have ep:enP l (2*i+j)=q:=by
    unfold enP; rw [show (2*i+j) / 2=i by omega,← ej,hq]
   have et:enR l (2*i+j)=t:=by rw [← ej,ht]
   have eX:bX l (2*i+(j+1))=bX l (2*i+j)++[q.x]:=by unfold bX; rw [← Nat.add_assoc,lB,ep]
   have eY:bY l (2*i+(j+1))=bY l (2*i+j)++[q.y]:=by unfold bY; rw [← Nat.add_assoc,lB,ep]
   have eT:bT l (2*i+(j+1))=bT l (2*i+j)++[t]:=by unfold bT; rw [← Nat.add_assoc,lB,et]
   have lX:=qO l (2*i+j)
   have lY:=qN l (2*i+j)
   have lT:=qP l (2*i+j)
   rw [hq,ht] at h
   obtain ⟨X,hX'⟩:∃ X,bX l (2*i+j)=X:=⟨_,rfl⟩
   obtain ⟨Y,hY'⟩:∃ Y,bY l (2*i+j)=Y:=⟨_,rfl⟩
   obtain ⟨T,hT'⟩:∃ T,bT l (2*i+j)=T:=⟨_,rfl⟩
   rw [hX',hY',hT'] at h
   rw [hX'] at eX lX; rw [hY'] at eY lY; rw [hT'] at eT lT
   replace h:St w0 124 [(2,ptr b1 0),(4,ptr b2 0),(6,ptr b6 0),(8,ptr b8 0),(9,ptr b9 0),(24,lv),(25,iN l.length),(26,iN i),(36,s0),(37,iN LH.length),(38,iN j)] [.blk b9 (cRP q) 49,.blk b8 (cR t) 46,.row (α:=GR) 46 s0 LH,.blk b6 (cUN (gt l i)) 165,.blk b2 [sx,sy,st] 179,.row (α:=GR) 46 sx X,.row (α:=GR) 46 sy Y,.row (α:=GR) 46 st T,.blk b1 (cBx ⟨0,0,0,0,0,0⟩) 41] ac wo:=h.re [0,1,2,3,4,5,6,7,8]
   replace h:=h.emps 3
   refine eZ mixed [dv (ptr b2 (0+0*1)),dw sx [4],dv (ptr b9 0),dw (vR q.x) [0],⟨.nd (.one 4 fun v=>NN v 1),[9]⟩,⟨.nd (.one 5 fun v=>lJ v),[5,9]⟩,dv (ptr b2 (0+1*1)),dw sy [4],dv (ptr b9 9),dw (vR q.y) [0],⟨.nd (.one 10 fun v=>NN v 1),[10]⟩,⟨.nd (.one 11 fun v=>lJ v),[6,10]⟩,dv (ptr b2 (0+2*1)),dw st [4],dw (vR t) [1],⟨.nd (.one 15 fun v=>NN v 1),[11]⟩,⟨.nd (.one 16 fun v=>lJ v),[7,11]⟩,dv (ptr b2 (0+0*1)),dw undef [4],dv (ptr b2 (0+1*1)),dw undef [4],dv (ptr b2 (0+2*1)),dw undef [4]]
    [⟨_,[]⟩,⟨_,[]⟩,⟨_,[]⟩,⟨_,[]⟩,⟨.blk b2 [sx,sy,st] 179,[(18,.one 5 fun v=>.blk b2 [v,sy,st] 179),(20,.two 5 11 fun v u=>.blk b2 [v,u,st] 179),(22,.three 5 11 16 fun v u w=>.blk b2 [v,u,w] 179)]⟩,
     ⟨.row (α:=GR) 46 sx X,[(5,.one 5 fun v=>.row (α:=GR) 46 v (X++[q.x]))]⟩,⟨.row (α:=GR) 46 sy Y,[(11,.one 11 fun v=>.row (α:=GR) 46 v (Y++[q.y]))]⟩,⟨.row (α:=GR) 46 st T,[(16,.one 16 fun v=>.row (α:=GR) 46 v (T++[t]))]⟩,⟨_,[]⟩,
     ⟨.emp,[(4,.one 4 fun v=>.row (α:=GR) 46 v [q.x])]⟩,⟨.emp,[(10,.one 10 fun v=>.row (α:=GR) 46 v [q.y])]⟩,⟨.emp,[(15,.one 15 fun v=>.row (α:=GR) 46 v [t])]⟩] h rfl (by kernel_rfl)
    ⟨fun _ _=>aQ (jF (i:=0) uu179 zz77 rfl rfl (by decide)),oA obA,oA obA,oA obA,fun _ _=>l6 9 q.x kK rfl rfl,fun _ _=>qu (j:=4) 5 9 kK rfl rfl (by rw [lX]; show _+1≤_; omega) rfl (fun v=>by simp only [dg,bA] <;> rfl),
     fun _ _=>aQ (jF (i:=1) uu179 zz77 rfl rfl (by decide)),oA obA,oA obA,oA obA,fun _ _=>l6 10 q.y kK rfl rfl,fun _ _=>qu (j:=10) 6 10 kK rfl rfl (by rw [lY]; show _+1≤_; omega) rfl (fun v=>by simp only [dg,bA] <;> rfl),
     fun _ _=>aQ (jF (i:=2) uu179 zz77 rfl rfl (by decide)),oA obA,oA obA,fun _ _=>l6 11 t kK rfl rfl,fun _ _=>qu (j:=15) 7 11 kK rfl rfl (by rw [lT]; show _+1≤_; omega) rfl (fun v=>by simp only [dg,bA] <;> rfl),
     fun _ _=>aQ (jF (i:=0) uu179 zz77 rfl rfl (by decide)),fun ξ hφ=>kb [.blk b2 [sx,sy,st] 179] [.blk b2 [ξ 5,sy,st] 179] rfl rfl (oi zz77 rfl rfl (i7 (hφ 5 rfl)) rfl (ma (hφ 5 rfl)) rfl rfl),
     fun _ _=>aQ (jF (i:=1) uu179 zz77 rfl rfl (by decide)),fun ξ hφ=>kb [.blk b2 [ξ 5,sy,st] 179] [.blk b2 [ξ 5,ξ 11,st] 179] rfl rfl (oi zz77 rfl rfl (i7 (hφ 11 rfl)) rfl (ma (hφ 11 rfl)) rfl rfl),
     fun _ _=>aQ (jF (i:=2) uu179 zz77 rfl rfl (by decide)),fun ξ hφ=>kb [.blk b2 [ξ 5,ξ 11,st] 179] [.blk b2 [ξ 5,ξ 11,ξ 16] 179] rfl rfl (oi zz77 rfl rfl (i7 (hφ 16 rfl)) rfl (ma (hφ 16 rfl)) rfl rfl),trivial⟩ ?_
   clear h ac wo; intro ξ ac wo hφ h
   have i5:lJ (ξ 5):=hφ 5
   have i11:lJ (ξ 11):=hφ 11
   have i16:lJ (ξ 16):=hφ 16
   replace h:St w0 124 [(2,ptr b1 0),(4,ptr b2 0),(6,ptr b6 0),(24,lv),(25,iN l.length),(26,iN i),(36,s0),(37,iN LH.length),(38,iN j)] [.row (α:=GR) 46 s0 LH,.blk b6 (cUN (gt l i)) 165,.blk b2 [ξ 5,ξ 11,ξ 16] 179,.row (α:=GR) 46 (ξ 5) (X++[q.x]),.row (α:=GR) 46 (ξ 11) (Y++[q.y]),.row (α:=GR) 46 (ξ 16) (T++[t]),.blk b1 (cBx ⟨0,0,0,0,0,0⟩) 41] ac wo:=(h.pick [2,3,4,5,6,7,8] (by decide)).sub ⟨rfl,rfl,rfl,rfl,rfl,rfl,rfl,rfl,rfl,trivial⟩
   generalize ξ 5=u5 at h i5
   generalize ξ 11=u11 at h i11
   generalize ξ 16=u16 at h i16
   clear hφ ξ
   refine gz h <| (W) ?_; clear h ac wo; intro ac wo h
   exact aO ⟨m2,by omega,j+1,u5,u11,u16,by omega,by omega,i5,i11,i16,by rw [eX,eY,eT]; exact h.re [0,1,2,3,4,5,6]⟩
  ·
   obtain rfl:j=2:=by have:=of_decide_eq_false hc3; omega
   refine gz h <| (W) ?_; clear h ac wo; intro ac wo h
   rw [show 2*i+2=2*(i+1) by omega] at h
   exact aO ⟨m1,by omega,i+1,sx,sy,st,by omega,by omega,isx,isy,ist,h.re [2,3,4,5,6]⟩
 ·
  obtain rfl:i=l.length:=by have:=of_decide_eq_false hc2; omega
  refine gz h <| (xa) fun b3=>(xa) fun b4=>(W) ?_; clear h ac wo; intro ac wo h
  clear hm1 hi hc2
  haveI:Dc [sx,sy,st] (.agg #[sx,sy,st]):=⟨rfl⟩
  refine gz h <| (W) ?_; clear h ac wo; intro ac wo h
  have lX:=qO l (2*l.length)
  have lY:=qN l (2*l.length)
  have lT:=qP l (2*l.length)
  have eb:boxOf l=⟨loI (bX l (2*l.length)),hiI (bX l (2*l.length)),loI (bY l (2*l.length)),hiI (bY l (2*l.length)),loI (bT l (2*l.length)),hiI (bT l (2*l.length))⟩:=rfl
  rw [eb]
  generalize bX l (2*l.length)=X at *
  generalize bY l (2*l.length)=Y at *
  generalize bT l (2*l.length)=T at *
  refine wp_loop_ghost (fun n_ a_ w_=>∃ (k:Nat),(3 - k < n_)∧(k≤3)∧St w0 124 [(2,ptr b1 0),(4,ptr b2 0),(10,ptr b3 0),(11,ptr b4 0),(68,.agg #[sx,sy,st]),(69,iN k)] [.blk b4 (tri k (hiI X) (hiI Y) (hiI T)) 181,.blk b3 (tri k (loI X) (loI Y) (loI T)) 181,.row (α:=GR) 46 sx X,.row (α:=GR) 46 sy Y,.row (α:=GR) 46 st T,.blk b1 (cBx ⟨0,0,0,0,0,0⟩) 41] a_ w_) 4 ⟨0,by omega,by omega,h.re [0,1,3,4,5,6]⟩ ?_
  clear h ac wo; rintro n1 ac wo ⟨k,hm1,hk,h⟩
  obtain ⟨m1,rfl⟩:∃ m,n1=m+1:=⟨n1 - 1,by omega⟩
  refine gz h <| (ai) ?_ ?_ <;> clear h ac wo <;> intro ac wo h hc2
  ·
   have hk3:k < 3:=by have:=of_decide_eq_true hc2; omega
   obtain ⟨s,L,A,B,hO,hL,hs,hlo,hhi,hh,back⟩:∃ s L A B,BxO L∧L.length=2*l.length∧[sx,sy,st][k]?=some s∧spl (tri k (loI X) (loI Y) (loI T)) (0+k*1) [.int .i64 (loI L)]=tri (k+1) (loI X) (loI Y) (loI T)∧spl (tri k (hiI X) (hiI Y) (hiI T)) (0+k*1) [.int .i64 (hiI L)]=tri (k+1) (hiI X) (hiI Y) (hiI T) ∧
    St w0 124 [(2,ptr b1 0),(4,ptr b2 0),(10,ptr b3 0),(11,ptr b4 0),(68,.agg #[sx,sy,st]),(69,iN k)] [.blk b4 (tri k (hiI X) (hiI Y) (hiI T)) 181,.blk b3 (tri k (loI X) (loI Y) (loI T)) 181,.row (α:=GR) 46 s L,A,B,.blk b1 (cBx ⟨0,0,0,0,0,0⟩) 41] ac wo ∧
    ∀ {F:List (Nat×Value)} {C D:Asn} {a w},St w0 124 F [C,D,.row (α:=GR) 46 s L,A,B,.blk b1 (cBx ⟨0,0,0,0,0,0⟩) 41] a w→St w0 124 F [C,D,.row (α:=GR) 46 sx X,.row (α:=GR) 46 sy Y,.row (α:=GR) 46 st T,.blk b1 (cBx ⟨0,0,0,0,0,0⟩) 41] a w:=by
    rcases k with _ | _ | _ | k
    · exact ⟨sx,X,_,_,hX,lX,rfl,rfl,rfl,h.re [0,1,2,3,4,5],fun h=>h⟩
    · exact ⟨sy,Y,_,_,hY,lY,rfl,rfl,rfl,h.re [0,1,3,2,4,5],fun h=>h.pick [0,1,3,2,4,5] (by decide)⟩
    · exact ⟨st,T,_,_,hT,lT,rfl,rfl,rfl,h.re [0,1,4,2,3,5],fun h=>h.pick [0,1,3,4,2,5] (by decide)⟩
    · omega
   clear h; have h:=hh; clear hh
   have zm:=vh (P:=SzR 36) hO.z (L.length - 1)
   have zM:=vj (P:=SzR 36) hO.z (L.length - 1)
   have z30:∀ i,SzR 30 (gt L i):=fun i=>fh (hO.z i) og
   refine gz h <| (xo (hs:=by exact u4 uu179 zz77 Tryz.isAgg77 rfl rfl hk3 hs)) <| (xc (ct:=by exact fun w_ hB_ hS_=>y8 L s (by omega) (by omega) z30 w_ (row_view hS_ 2 rfl))) <| (xa) fun b5=>(xc (ct:=by exact fun w_ hB_ hS_=>zh L s (by omega) (by omega) z30 w_ (row_view hS_ 3 rfl))) <| (xa) fun b6=>(W) ?_; clear h ac wo; intro ac wo h
   have c3:=mu (jC L (L.length - 1)) hO.lo.1 hO.lo.2.1
   have c4:=jc (bc (jC L (L.length - 1))) (by have:=hO.lo.2.2; omega)
   have c5:=sn (jN L (L.length - 1)) (fun w0=>mu (cG (jN L (L.length - 1))) hO.hi.1 hO.hi.2.1 w0) zM
   have c6:=jc (bO (jN L (L.length - 1))) (by have:=hO.hm; omega)
   refine gz h <| (xk c3) <| (xk c4) <| (xk c5) <| (xk c6) <| (ai) ?_ ?_ <;> clear h ac wo <;> intro ac wo h hc3
   ·
    have t1:=toI_le _ hO.lo.2.2
    have t2:=toI_le _ hO.hm
    rw [decide_eq_false (by omega),decide_eq_false (by omega)] at hc3
    exact absurd hc3 (by decide)
   ·
    have hf:∀ a b c,Nat.ble (0+k*1+1) (tri k a b c).length=true:=fun a b c=>by
     show Nat.ble (0+k*1+1) 3=true
     exact Nat.ble_eq_true_of_le (by omega)
    refine gz h <| (xo (hs:=by exact jF (i:=k) uu181 zz3 rfl rfl hk3)) <| (xs 3 (tri (k+1) (loI X) (loI Y) (loI T)) (hf:=hf _ _ _) (hr:=hlo)) <| (xo (hs:=by exact jF (i:=k) uu181 zz3 rfl rfl hk3)) <| (xs 2 (tri (k+1) (hiI X) (hiI Y) (hiI T)) (hf:=hf _ _ _) (hr:=hhi)) <| (W) ?_; clear h ac wo; intro ac wo h
    refine aO ⟨m1,by omega,k+1,by omega,by omega,?_⟩
    have h2:=back (h.pick [2,3,4,5,6,7] (by decide))
    exact h2.sub ⟨rfl,rfl,rfl,rfl,rfl,rfl,trivial⟩
  ·
   obtain rfl:k=3:=by have:=of_decide_eq_false hc2; omega
   have e3:∀ a b c,tri 3 a b c=[.int .i64 a,.int .i64 b,.int .i64 c]:=fun _ _ _=>rfl
   rw [e3,e3] at h
   refine gz h <| (xo (hs:=by exact jF (i:=2) uu181 zz3 rfl rfl (by decide))) <| (xo (hs:=by exact jF (i:=2) uu181 zz3 rfl rfl (by decide))) <| (W) ?_; clear h ac wo; intro ac wo h
   exact qp 5 h (h.retP rfl trivial)
end Go.Sx
namespace Go.Sx
open Go Go.RowKit Go.Proofs
set_option maxRecDepth 100000
set_option maxHeartbeats 40000000
attribute [local irreducible] Code.wp wpList Rd Step uH ObS Ent Rnd
attribute [local irreducible] ao aL ah au ax bN
theorem drI {P:Program} {w0:World} {N:Nat} {F G2:List (Nat×Value)} {L:List Asn} {ol:List Oper} {D:List DOp} {Q:Exit→Act→World→Prop} {id l:Nat} (hob:OB P w0 ol D (L.map fun r=>⟨r,[]⟩) ol D 0 F G2) (hm:P.follows .mixedOrders=true:=by exact mixed)
 (hn:sC ol=true:=by rfl) (hc:(chk ol D (L.map fun r=>⟨r,[]⟩) && D.all (fun d=>qk d.acc) && qQ ol N)=true:=by kernel_rfl) (k:∀ a w,St w0 N G2 L a w→Q .normal a w):∀ a w,St w0 N F L a w→(Code.region id ol.toArray true).wpIn (rf (some l)) 0 P Q a w:=fun a w h=>by
 unfold OB at hob
 exact aaa (.inr hn) hm D (L.map fun r=>⟨r,[]⟩) h (by rw [List.map_map]; exact List.map_id _) hc hob.1 fun ξ a w _ h=>k a w (by
  rw [hob.2 ξ,List.map_map] at h
  have:(List.map ((fun h=>Hist.at h (fun _=>true) ξ) ∘ fun r=>⟨r,[]⟩) L)=L:=List.map_id _
  rw [this] at h
  exact h)
def mtF (l:List (U Ln)) (i:Nat):List (GR×Bool) :=
 if (gt l (i - 1)).iv.hi=(gt l i).iv.lo then [((gt l i).iv.lo,(!(gt l (i - 1)).iv.openHi || !(gt l i).iv.openLo) && bt (gt l (i - 1)).f (gt l i).f (gt l i).iv.lo)] else []
def mts (l:List (U Ln)) (n:Nat):List (GR×Bool):=(List.range n).flatMap fun i=>mtF l (i+1)
theorem rz (l:List (U Ln)) (n:Nat):mts l (n+1)=mts l n++mtF l (n+1):=by
 unfold mts; rw [List.range_succ,List.flatMap_append,List.flatMap_singleton]
theorem mts_mono (l:List (U Ln)) {m n:Nat} (h:m≤n):∃ r,mts l n=mts l m++r:=by
 induction n with
 | zero=>obtain rfl:m=0:=by omega
         exact ⟨[],by simp⟩
 | succ n ih =>
  by_cases e:m=n+1
  · subst e; exact ⟨[],by simp⟩
  · obtain ⟨r,hr⟩:=ih (by omega)
    exact ⟨r++mtF l (n+1),by rw [rz,hr,List.append_assoc]⟩
theorem mts_len (l:List (U Ln)) (n:Nat):(mts l n).length≤n:=by
 induction n with
 | zero=>simp [mts]
 | succ n ih =>
  rw [rz,List.length_append]
  have:(mtF l (n+1)).length≤1:=by unfold mtF; split <;> simp
  omega
instance yM8_15:Inhabited (GR×Bool):=⟨(⟨oQ,oQ,false⟩,false)⟩
def mtA (m:List (GR×Bool)) (k:Nat):List Value:=[vR (gt m k).1,.bool (gt m k).2]
attribute [local irreducible] mts
theorem sK (l:List (U Ln)) (lv:Value) (hl:l.length≤1000) (zl:All (jD 20) l) (zt:∀ i,SzR 30 (gt l i).iv.lo) (w0:World) (hlv:View w0 lv l) (lr b1:Nat) (J:Nat→Asn) (C B:Asn) (w:World) (hbel:Below w0.heap.size w0 w)
 (hsep:∃ U,Sep w0.heap.size w [J 0,.blk b1 [lv] 35,C,B] U) (hY:∀ k,k < (mts l (l.length - 1)).length→Rnd Tryz.prog w0 lr (mtA (mts l (l.length - 1)) k).toArray (J k) (J (k+1))) :
 Calls Tryz.prog 315 #[.func (.yield lr) #[] #[],ptr b1 0] w (RetY w0 (fun _=>True) fun _=>[J (mts l (l.length - 1)).length,.blk b1 [lv] 35,C,B]):=by
 refine lh (N:=55) (args:=[.func (.yield lr) #[] #[],ptr b1 0]) Tryz.func315 rfl rfl hbel hsep ?_; intro ac h
 haveI:On:=⟨trivial⟩
 have hlen:=hlv.len
 refine gz h <| (W) ?_; clear h ac; intro ac wo h
 refine wp_loop_ghost (fun n_ a_ w_=>∃ (i:Nat),(l.length - i < n_)∧(1≤i)∧(i≤l.length∨i=1)∧St w0 55 [(0,.func (.yield lr) #[] #[]),(1,ptr b1 0),(3,iN i)] [J (mts l (i - 1)).length,.blk b1 [lv] 35,C,B] a_ w_) (l.length+1) ⟨1,by omega,by omega,by omega,by
  have:mts l (1 - 1)=[]:=by unfold mts; rfl
  rw [this]; exact h.rs⟩ ?_
 clear h ac wo; rintro n1 ac wo ⟨i,hm1,hi1,hi,h⟩
 obtain ⟨m1,rfl⟩:∃ m,n1=m+1:=⟨n1 - 1,by omega⟩
 refine gz h <| (ai) ?_ ?_ <;> clear h ac wo <;> intro ac wo h hc1
 ·
  have hd1:=of_decide_eq_true hc1
  have hs:=rz l (i - 1)
  rw [show i - 1+1=i by omega] at hs
  refine gz h <| (W) ?_; clear h ac wo; intro ac wo h
  replace h:=h.emps 2
  refine eZ mixed [dw lv [1],dv (iN i),dv (iN (i - 1)),dv (sel lv ((i - 1)*36+0)),dv (vUN (gt l (i - 1))),dw lv [1],dv (iN i),dv (sel lv (i*36+0)),dv (vUN (gt l i)),⟨.nd (.one 9 fun v=>∃ b,v=ptr b 0),[4]⟩,⟨.nd (.one 10 fun v=>∃ b,v=ptr b 0),[5]⟩,dw undef [4],dw undef [5]]
   [⟨_,[]⟩,⟨_,[]⟩,⟨_,[]⟩,⟨_,[]⟩,⟨.emp,[(9,.one 9 fun v=>.blk (bu v) (cUN oUN) 165),(11,.one 9 fun v=>.blk (bu v) (cUN (gt l (i - 1))) 165)]⟩,⟨.emp,[(10,.one 10 fun v=>.blk (bu v) (cUN oUN) 165),(12,.one 10 fun v=>.blk (bu v) (cUN (gt l i)) 165)]⟩] h rfl (by kernel_rfl)
   ?_ ?_
  · have hlt:i - 1 < l.length:=by omega
    have hlt2:i < l.length:=by omega
    have n1:=hlv.nn hlt
    refine ⟨?_,?_,?_,?_,?_,?_,?_,?_,?_,?_,?_,?_,?_,trivial⟩
    · exact oA obA
    · exact oA obA
    · exact oA obA
    · exact oA obA
    · exact oA obA
    · exact oA obA
    · exact oA obA
    · exact oA obA
    · exact oA obA
    · exact fun _ _=>i0 4 rfl (fun _=>rfl)
    · exact fun _ _=>i0 5 rfl (fun _=>rfl)
    · exact fun ξ hφ=>iZ (u:=vUN (gt l (i - 1))) 4 (hφ 9 rfl) rfl rfl rfl rfl rfl rfl rfl
    · exact fun ξ hφ=>iZ (u:=vUN (gt l i)) 5 (hφ 10 rfl) rfl rfl rfl rfl rfl rfl rfl
  clear h ac wo; intro ξ ac wo hφ h
  obtain ⟨b4,hb4⟩:∃ b,ξ 9=ptr b 0:=hφ 9
  obtain ⟨b5,hb5⟩:∃ b,ξ 10=ptr b 0:=hφ 10
  replace h:St w0 55 [(0,.func (.yield lr) #[] #[]),(1,ptr b1 0),(3,iN i),(4,ξ 9),(5,ξ 10)] [J (mts l (i - 1)).length,.blk b1 [lv] 35,C,B,.blk (bu (ξ 9)) (cUN (gt l (i - 1))) 165,.blk (bu (ξ 10)) (cUN (gt l i)) 165] ac wo:=(h.pick [0,1,2,3,4,5] (by decide)).sub ⟨rfl,rfl,rfl,rfl,rfl,trivial⟩
  rw [hb4,hb5] at h
  clear hb4 hb5 hφ ξ
  refine gz h <| (xa) fun b6=>(ai) ?_ ?_ <;> clear h ac wo <;> intro ac wo h hc2
  ·
   have hne:¬ (gt l (i - 1)).iv.hi=(gt l i).iv.lo:=by simpa using hc2
   have e:mts l i=mts l (i - 1):=by rw [hs]; unfold mtF; rw [if_neg hne,List.append_nil]
   refine gz h <| (W) ?_; clear h ac wo; intro ac wo h
   rw [show mts l (i - 1)=mts l (i+1 - 1) by rw [Nat.add_sub_cancel,e]] at h
   exact aO ⟨m1,by omega,i+1,by omega,by omega,by omega,h.re [1,2,3,4]⟩
  ·
   have heq:(gt l (i - 1)).iv.hi=(gt l i).iv.lo:=by simpa using hc2
   have e:mts l i=mts l (i - 1)++[((gt l i).iv.lo,(!(gt l (i - 1)).iv.openHi || !(gt l i).iv.openLo) && bt (gt l (i - 1)).f (gt l i).f (gt l i).iv.lo)]:=by rw [hs]; unfold mtF; rw [if_pos heq]
   obtain ⟨r,hr⟩:=mts_mono l (show i≤l.length - 1 by omega)
   have hk:(mts l (i - 1)).length < (mts l (l.length - 1)).length:=by rw [hr,e,List.length_append,List.length_append,List.length_singleton]; omega
   have hg:gt (mts l (l.length - 1)) (mts l (i - 1)).length=((gt l i).iv.lo,(!(gt l (i - 1)).iv.openHi || !(gt l i).iv.openLo) && bt (gt l (i - 1)).f (gt l i).f (gt l i).iv.lo):=by
    rw [hr,e,List.append_assoc]; exact uo rfl
   have hy:=hY _ hk
   unfold mtA at hy
   rw [hg] at hy
   have e2:(mts l i).length=(mts l (i - 1)).length+1:=by rw [e]; simp
   have zf:=(All.gt zl (by exact cC _) (i:=i - 1)).2
   have zg:=(All.gt zl (by exact cC _) (i:=i)).2
   refine gz h <| (dr1 (H:=[⟨_,[]⟩,⟨J (mts l (i - 1)).length,[(12,.con (J ((mts l (i - 1)).length+1)))]⟩,⟨_,[]⟩,⟨_,[]⟩,⟨_,[]⟩,⟨_,[]⟩,⟨_,[]⟩]) (hob:=(oG (by exact fun hg=>fR (gt l (i - 1)).f (gt l i).f (gt l i).iv.lo zf zg (zt i))) <| (oX (h:=by exact fun _=>ob_yu (acc:=[1]) [J (mts l (i - 1)).length] [J ((mts l (i - 1)).length+1)] rfl rfl (y_yield rfl rfl hy))) <| oE)) <| (ai) ?_ ?_ <;> clear h ac wo <;> intro ac wo h hc3
   · cases hc3
   ·
    refine gz h <| (W) ?_; clear h ac wo; intro ac wo h
    rw [show (mts l (i - 1)).length+1=(mts l (i+1 - 1)).length by rw [Nat.add_sub_cancel,e2]] at h
    exact aO ⟨m1,by omega,i+1,by omega,by omega,by omega,h.re [1,2,3,4]⟩
 ·
  have hd1:=of_decide_eq_false hc1
  have e:mts l (i - 1)=mts l (l.length - 1):=by
   congr 1; omega
  rw [e] at h
  refine gz h <| (W) ?_; clear h ac wo; intro ac wo h
  exact (rt h) (h.retY trivial rfl)
def capB:Value→Nat | .func _ _ c=>bu (c.getD 0 undef) | _=>0
theorem ub (lv:Value) (hs:lJ lv) (w0:World):Calls Tryz.prog 280 #[lv] w0 (Ret w0 (fun v=>v=.func (.func 315) #[] #[ptr (capB v) 0]) fun v=>[.blk (capB v) [lv] 35]):=by
 refine enter (N:=4) (args:=[lv]) Tryz.func280 rfl rfl ?_; intro ac h
 haveI:On:=⟨trivial⟩
 haveI:Cel lv [lv]:=⟨i7 hs⟩
 refine gz h <| (xb) fun b1=>(xo (hs:=by exact qq (vs:=[ptr b1 0]) rfl)) <| (W) ?_; clear h ac; intro ac wo h
 exact (rt h) (h.retA (φ:=fun v=>v=.func (.func 315) #[] #[ptr (capB v) 0]) (A:=fun v=>[.blk (capB v) [lv] 35]) (v:=.func (.func 315) #[] #[ptr b1 0]) rfl h)
def insF (turns:Bool) (out:List GR) (x:GR×Bool):List GR:=bif (x.2 == turns) && ((((out.length:Nat):Int) == 0) || !decide (gt out (out.length - 1)=x.1)) then out++[x.1] else out
def pV (turns:Bool) (m:List (GR×Bool)) (k:Nat):List GR:=(m.take k).foldl (insF turns) []
theorem sT {turns:Bool} {m:List (GR×Bool)} {k:Nat} (h:k < m.length):pV turns m (k+1)=insF turns (pV turns m k) (gt m k):=by
 unfold pV; rw [List.take_succ_eq_append_getElem h,List.foldl_append,gF h]; rfl
theorem insF_len (turns:Bool) (out:List GR) (x:GR×Bool):(insF turns out x).length≤out.length+1:=by
 unfold insF; cases (x.2 == turns) && ((((out.length:Nat):Int) == 0) || !decide (gt out (out.length - 1)=x.1)) <;> simp
theorem vu (turns:Bool) (m:List (GR×Bool)):∀ k,k≤m.length→(pV turns m k).length≤k
 | 0,_=>by simp [pV]
 | k+1,h=>by rw [sT (by omega)]; have:=insF_len turns (pV turns m k) (gt m k); have:=vu turns m k (by omega); omega
def eH (l:List (U Ln)) (turns:Bool):List GR:=pV turns (mts l (l.length - 1)) (mts l (l.length - 1)).length
theorem uh (l:List (U Ln)) (lv:Value) (turns:Bool) (hl:l.length≤1000) (zl:All (jD 20) l) (zt:∀ i,SzR 30 (gt l i).iv.lo) (w0:World) (hlv:View w0 lv l):Calls Tryz.prog 207 #[lv,.bool turns] w0 (RetR w0 46 (eH l turns) True):=by
 refine enterM (N:=35) (args:=[lv,.bool turns]) Tryz.func207 rfl rfl ?_; intro ac h
 haveI:On:=⟨trivial⟩
 have hlen:=hlv.len
 refine gz h <| (xb) fun b3=>(xa) fun b5=>(W) ?_; clear h ac; intro ac wo h
 refine c_new h (dH Tryz.call280 rfl) (fun w _ _=>ub lv hlv.sl.is w) rfl ?_; clear h ac wo; intro fv ac wo hfv h
 obtain ⟨b1,rfl⟩:∃ b1,fv=.func (.func 315) #[] #[ptr b1 0]:=⟨_,hfv⟩
 clear hfv
 replace h:=(h.nilRow (α:=GR) 46).emps 1
 refine gz h <| (W) ?_; clear h ac wo; intro ac wo h
 have hml:(mts l (l.length - 1)).length≤l.length:=Nat.le_trans (mts_len l (l.length - 1)) (by omega)
 obtain ⟨m,hm⟩:∃ m,mts l (l.length - 1)=m:=⟨_,rfl⟩
 have e:eH l turns=pV turns m m.length:=by unfold eH; rw [hm]
 rw [hm] at hml
 rw [e]
 replace h:St w0 35 [(9,.func (.func 315) #[] #[ptr b1 0]),(5,ptr b5 0),(3,ptr b3 0)] [.blk b5 [.slice none 0 0] 77,.row (α:=GR) 46 (.slice none 0 0) [],.blk b3 [.bool turns] 4,.blk b1 [lv] 35,.emp] ac wo:=(h.pick [2,0,3,1,4] (by decide)).sub ⟨rfl,rfl,rfl,trivial⟩
 refine c_range (A:=fun k sv=>[.blk b5 [sv] 77,.row (α:=GR) 46 sv (pV turns m k),.blk b3 [.bool turns] 4]) (v0:=.slice none 0 0) (R:=[.blk b1 [lv] 35,.emp]) (args:=fun k=>(mtA m k).toArray) m.length h (gf:=315) (lb:=#[ptr b1 0]) rfl Tryz.call315 (List.Perm.refl _) (fun lr r w B hb hs hY=>?_) (fun lr fn D k hk=>?_) ?_
 ·
  have:=sK l lv hl zl zt w0 hlv lr b1 (fun k=>JE w0.heap.size lr r (fun sv=>[.blk b5 [sv] 77,.row (α:=GR) 46 sv (pV turns m k),.blk b3 [.bool turns] 4])) .emp B w hb hs (by rw [hm]; exact hY)
  rw [hm] at this
  exact this
 ·
  refine rnd (N:=35) (F0:=[(11,.bool (gt m k).2),(10,vR (gt m k).1),(3,ptr b3 0),(5,ptr b5 0)]) rfl ?_ ?_ (fun v F1 X=>∃ b6,F1=[(7,.bool (gt m k).2),(6,ptr b6 0),(3,ptr b3 0),(5,ptr b5 0)]∧X=[.blk b6 (cR (gt m k).1) 46,.blk b5 [v] 77,.row (α:=GR) 46 v (pV turns m k),.blk b3 [.bool turns] 4]) (fun v a w Y1 Y2 h=>?_) ?_
  · rw [show (mtA m k).toArray=[vR (gt m k).1,Value.bool (gt m k).2].toArray from rfl,fold2]; simp [h.size]
  · rw [show (mtA m k).toArray=[vR (gt m k).1,Value.bool (gt m k).2].toArray from rfl,fold2]
    have h':St w0 35 [(3,ptr b3 0),(5,ptr b5 0)] _ ac wo:=h.sub ⟨rfl,rfl,trivial⟩
    exact ra (a:=ac.put (some 10) (vR (gt m k).1)) (N:=35) (by simp [Act.put,h.size]) rfl (ra (a:=ac) h.size rfl h'.regs)
  · refine seq_in (fun a w=>∃ b6,St w0 35 [(6,ptr b6 0),(11,.bool (gt m k).2),(3,ptr b3 0),(5,ptr b5 0)] [.blk b6 (cR (gt m k).1) 46,.blk b5 [v] 77,.row (α:=GR) 46 v (pV turns m k),.blk b3 [.bool turns] 4,Y1,Y2] a w) (yx (fun _ _ h=>h) rfl ?_) ?_
    · refine gz h <| (xa) fun b6=>(W) ?_; clear h; intro a w h
      exact ⟨b6,h.re [0,1,2,3,4,5]⟩
    · rintro a w ⟨b6,h⟩
      refine yx (fun _ _ h=>h) rfl ?_
      refine gz h <| (W) ?_; clear h; intro a w h
      exact ⟨_,_,⟨b6,rfl,rfl⟩,h.re [0,1,2,3,4,5]⟩
  · rintro v _ _ ⟨b6,rfl,rfl⟩ a w Y1 Y2 h
    have ho:=vu turns m k (by omega)
    have hs:=sT (turns:=turns) hk
    refine wpIn_block ?_
    refine seq_in (fun a w=>St w0 35 [(29,.bool (((gt m k).2 == turns) && (((((pV turns m k).length:Nat):Int) == 0) || !decide (gt (pV turns m k) ((pV turns m k).length - 1)=(gt m k).1)))),(6,ptr b6 0),(5,ptr b5 0)] [.blk b6 (cR (gt m k).1) 46,.blk b5 [v] 77,.row (α:=GR) 46 v (pV turns m k),.blk b3 [.bool turns] 4,Y1,Y2] a w) ?_ ?_
    · replace h:St w0 35 [(7,.bool (gt m k).2),(6,ptr b6 0),(3,ptr b3 0),(5,ptr b5 0)] [.blk b6 (cR (gt m k).1) 46,.blk b5 [v] 77,.row (α:=GR) 46 v (pV turns m k),.blk b3 [.bool turns] 4,Y1,Y2] a w:=h
      refine gz h <| (drI (hob:=oE)) ?_; clear h; intro a w h
      exact h.re [0,1,2,3,4,5]
    · clear h; intro a w h
      refine wpIn_cond_split (h.agr (.tmp 29) _ rfl) (fun hc=>?_) (fun hc=>?_)
      · refine yx (fun _ _ h=>by cases h.1) rfl ?_
        have e:insF turns (pV turns m k) (gt m k)=pV turns m k++[(gt m k).1]:=by unfold insF; rw [hc]; rfl
        rw [hs,e]
        refine gz h <| (W) ?_; clear h; intro a w h
        refine nw h (dG (α:=GR) (xs:=[.tmp 31]) (vs:=[vR (gt m k).1]) [(gt m k).1] kK rfl rfl rfl (by decide)) rfl ?_; clear h; intro s1 a w _ h
        refine on2 h 3 0 rfl rfl (gQ (xs:=pV turns m k) (ys:=[(gt m k).1]) kK (fun w hs=>(row_view hs 0 rfl)) rfl rfl (by show _+1≤_; omega)) rfl ?_; clear h; intro s2 a w _ h
        have hsl:=(h.row_sl 0 rfl).is
        haveI:Cel s2 [s2]:=⟨i7 hsl⟩
        refine gz h <| (xs 3 [s2] (h1:=ma hsl)) <| (W) ?_; clear h; intro a w h
        exact ⟨rfl,h.bel,s2,[],(h.pick [3,0,4,5,6] (by decide)).sep⟩
      · have e:insF turns (pV turns m k) (gt m k)=pV turns m k:=by unfold insF; rw [hc]; rfl
        rw [hs,e]
        exact wpIn_skip ⟨rfl,h.bel,v,[.blk b6 (cR (gt m k).1) 46],(h.pick [1,2,3,4,5,0] (by decide)).sep⟩
 ·
  intro a' w' D v Y hd h
  unfold Exit.inBlock thn Exit.then
  dsimp only
  refine qK fun K hK=>?_
  refine rdM h 1 rfl ((l11 rfl rfl rfl) w0 _ _ b5 rfl) rfl fun a1 w1 hd1 h1=>?_
  refine rdM h1 1 rfl (Rd.of_nil (aF rfl)) rfl fun a2 w2 hd2 h2=>?_
  refine fM (hK _ _ (c_ret ?_))
  exact retM (by rw [hd2,hd1,hd]) h2 rfl (fun w=>.tmp rfl .nil) rfl fun w h=>h.retR 2 rfl trivial
theorem Turns_ct (l:List (U Ln)) (lv:Value) (hl:l.length≤1000) (zl:All (jD 20) l) (zt:∀ i,SzR 30 (gt l i).iv.lo) (w0:World) (hlv:View w0 lv l):Calls Tryz.prog 100 #[lv] w0 (RetR w0 46 (eH l true) True):=by
 refine enter (N:=5) (args:=[lv]) Tryz.func100 rfl rfl ?_; intro ac h
 haveI:On:=⟨trivial⟩
 refine gz h <| (W) ?_; clear h ac; intro ac wo h
 refine jo (xs:=eH l true) h (dH Tryz.call207 rfl) (fun w_ hB_ hS_=>uh l lv true hl zl zt w_ (hlv.below hB_)) rfl ?_; clear h ac wo; intro s1 ac wo _ h
 refine gz h <| (W) ?_; clear h ac wo; intro ac wo h
 exact (rt h) (h.retR 0 rfl trivial)
end Go.Sx
namespace Go.Sx
open Go Go.RowKit Go.Proofs
set_option maxRecDepth 100000
set_option maxHeartbeats 40000000
instance yM8_16 (k m:Nat):Decidable (SzB k m):=inferInstanceAs (Decidable (_≤_))
instance yM8_17 (k:Nat) (x:GI):Decidable (SzI k x):=inferInstanceAs (Decidable (SzB _ _))
instance yM8_18 (k:Nat) (x:GQ):Decidable (SzQ k x):=inferInstanceAs (Decidable (_∧_))
instance yM8_19 (k:Nat) (x:GR):Decidable (SzR k x):=inferInstanceAs (Decidable (_∧_))
instance yM8_20 (k:Nat) (x:Iv):Decidable (SzV k x):=inferInstanceAs (Decidable (_∧_))
instance yM8_21 (k:Nat) (x:Ln):Decidable (SzN k x):=inferInstanceAs (Decidable (_∧_))
instance yM8_22 (k:Nat) (x:U Ln):Decidable (jD k x):=inferInstanceAs (Decidable (_∧_))
instance yM8_23 (k:Nat) (x:Pnt):Decidable (SzPt k x):=inferInstanceAs (Decidable (_∧_))
instance yM8_24 (k:Nat) (x:Smp):Decidable (xi k x):=inferInstanceAs (Decidable (_∧_))
instance yM8_25 (x:GQ):Decidable (Sm x):=inferInstanceAs (Decidable True)
instance yM8_26 (x:GR):Decidable (FlO x):=inferInstanceAs (Decidable (_∧_))
def rr (n:Int):GR:=⟨ah n,oQ,false⟩
def exU:List (U Ln):=[⟨⟨rr 0,rr 2,false,false⟩,⟨ah 0,ah 2,ah 0,ah 0⟩⟩,⟨⟨rr 2,rr 4,true,false⟩,⟨ah 4,ah 0,ah (-6),ah 3⟩⟩]
theorem exN_is:aU (frP exampleS 2)=(exU,0):=by decide +kernel
theorem exS_no:(List.range 3).all (fun i=>!badS (gt exampleS i) && !t7 exampleS i)=true:=by decide +kernel
theorem exS_is:frS exampleS (exU,0)=(exU,0):=by
 have h:∀ i,i < 3→badS (gt exampleS i)=false∧t7 exampleS i=false:=fun i hi=>by
  have:=List.all_eq_true.mp exS_no i (List.mem_range.mpr hi)
  simpa using this
 have hl:exampleS.length=3:=rfl
 unfold frS
 rw [if_neg (by omega),if_neg (fun ⟨i,h1,h2⟩=>by rw [(h i (by omega)).1] at h2; cases h2),if_neg (fun ⟨i,h1,h2⟩=>by rw [(h i (by omega)).2] at h2; cases h2),if_neg (by omega)]
theorem exI_is:eH exU true=[aL 2]:=by decide +kernel
theorem exB_is:boxOf exU=⟨0,4,0,6,0,4⟩:=by decide +kernel
theorem exZ:∀ x∈exU,jD 30 x:=by decide +kernel
theorem exP_z:∀ x∈frP exampleS 2,jD 30 x:=by decide +kernel
theorem exS_z:∀ x∈exampleS,xi 40 x:=by decide +kernel
theorem exX:(∀ x∈bX exU 4,SzR 36 x)∧FlO (jC (bX exU 4) 3)∧FlO (cG (jN (bX exU 4) 3))∧(bO (jN (bX exU 4) 3)).mag≤1099511627776:=by decide +kernel
theorem exY:(∀ x∈bY exU 4,SzR 36 x)∧FlO (jC (bY exU 4) 3)∧FlO (cG (jN (bY exU 4) 3))∧(bO (jN (bY exU 4) 3)).mag≤1099511627776:=by decide +kernel
theorem exT:(∀ x∈bT exU 4,SzR 36 x)∧FlO (jC (bT exU 4) 3)∧FlO (cG (jN (bT exU 4) 3))∧(bO (jN (bT exU 4) 3)).mag≤1099511627776:=by decide +kernel
theorem exE:∀ x∈exU,(SzR 30 x.iv.lo∧Sm x.iv.lo.r)∧(SzR 30 x.iv.hi∧Sm x.iv.hi.r):=by decide +kernel
theorem te:SzR 36 default∧SzR 30 default∧Sm (default:GR).r∧SzN 30 default∧xi 40 default:=by decide +kernel
end Go.Sx
namespace Go.Sx
open Go Go.RowKit Go.Proofs
set_option maxRecDepth 100000
set_option maxHeartbeats 40000000
attribute [local irreducible] Code.wp wpList Rd Step ObS Ent
attribute [local irreducible] ao aL ah au ax bN
attribute [local irreducible] aH aI am aq aE ak aS
theorem BxO.of {L:List GR} (h:(∀ x∈L,SzR 36 x)∧FlO (jC L (L.length - 1))∧FlO (cG (jN L (L.length - 1)))∧(bO (jN L (L.length - 1))).mag≤1099511627776):BxO L:=⟨fun i=>All.gt h.1 te.1,h.2.1,h.2.2.1,h.2.2.2⟩
theorem enR_ok (k:Nat):SzR 30 (enR exU k)∧Sm (enR exU k).r:=by
 have h:(SzR 30 (gt exU (k / 2)).iv.lo∧Sm (gt exU (k / 2)).iv.lo.r)∧(SzR 30 (gt exU (k / 2)).iv.hi∧Sm (gt exU (k / 2)).iv.hi.r):=All.gt (p:=fun x:U Ln=>(SzR 30 x.iv.lo∧Sm x.iv.lo.r)∧(SzR 30 x.iv.hi∧Sm x.iv.hi.r)) exE ⟨⟨te.2.1,te.2.2.1⟩,⟨te.2.1,te.2.2.1⟩⟩
 unfold enR; cases k % 2 == 0
 · exact h.2
 · exact h.1
theorem eqi135:EqIn Tryz.prog 2 41 vBx:=eqS (c:=cBx) (fun _=>rfl) Tryz.underlying41 Tryz.stoodInHeld41 fun d x y w hd=>by
 refine Eq.trans (eqF (by decide) (eJ aa3 rfl w) (eJ aa3 rfl w) (wU Tryz.underlying3 d og _ _ w) (eqF (by decide) (eJ aa3 rfl w) (eJ aa3 rfl w) (wU Tryz.underlying3 d og _ _ w) (eqF (by decide) (eJ aa3 rfl w) (eJ aa3 rfl w) (wU Tryz.underlying3 d og _ _ w) (eqF (by decide) (eJ aa3 rfl w) (eJ aa3 rfl w) (wU Tryz.underlying3 d og _ _ w) (eqF (by decide) (eJ aa3 rfl w) (eJ aa3 rfl w) (wU Tryz.underlying3 d og _ _ w) (eqF (by decide) (eJ aa3 rfl w) (eJ aa3 rfl w) (wU Tryz.underlying3 d og _ _ w) eqF0)))))) ?_
 congr 1
 rw [decide_eq_decide]
 cases x; cases y; simp
theorem eqp135:EqP Tryz.prog 41 vBx:=EqIn.p (k:=2) rfl (c:=fun x=>(cBx x).toArray) (fun _=>rfl) Tryz.eqGuardType41 eqi135
instance yM8_27:Ep Tryz.prog 41 Bx inferInstance vBx:=⟨eqp135⟩
instance yM8_28 (b d f:Int):Bu Tryz.prog 41 [1,3,5] [.int .i64 b,.int .i64 d,.int .i64 f] (vBx ⟨0,b,0,d,0,f⟩):=Bu.of aa5 rfl rfl
theorem exm_last:((0:Int) == 0 && ((exU.length:Nat):Int) == 2 && decide ((gt exU 1).f=⟨ah 4,oQ,ah (-6),ah 3⟩) && (gt exU 1).iv.openLo && (([aL 2].length:Nat):Int) == 1 && decide (gt [aL 2] 0=aL 2) && (0:Int) == 0 && decide ((⟨0,4,0,6,0,4⟩:Bx)=⟨0,4,0,6,0,4⟩))=true:=by decide +kernel
theorem jO (w0:World):Calls Tryz.prog 16 #[] w0 (dE w0 (.bool true) True):=by
 refine enter (N:=64) (args:=[]) Tryz.func16 rfl rfl ?_; intro ac h
 haveI:On:=⟨trivial⟩
 refine gz h <| (W) ?_; clear h ac; intro ac wo h
 refine jo (xs:=exampleS) h (dH Tryz.call99 rfl) (fun w_ hB_ hS_=>wT w_) rfl ?_; clear h ac wo; intro s1 ac wo _ h
 refine gz h <| (W) ?_; clear h ac wo; intro ac wo h
 have cS:∀ lv w,View w lv exampleS→Calls Tryz.prog 98 #[lv] w (RetT w 165 exU [.int .i64 0] True):=fun lv w hv=>by
  have:=frS_ct exampleS lv (by decide) (fun i=>All.gt exS_z te.2.2.2.2) (exU,0) _ (fun lv' w' hv'=>by
   have h2:=wP (frP exampleS 2) lv' (by decide) exP_z w' hv'
   rw [exN_is] at h2; exact h2) w hv
  rw [exS_is] at this; exact this
 refine ux (xs:=exU) h (dH Tryz.call98 rfl) (fun w_ hB_ hS_=>cS s1 w_ (row_view hS_ 0 rfl)) rfl ?_; clear h ac wo; intro s2 ac wo _ h
 refine gz h <| (W) ?_; clear h ac wo; intro ac wo h
 have cT:∀ lv w,View w lv exU→Calls Tryz.prog 100 #[lv] w (RetR w 46 [aL 2] True):=fun lv w hv=>by
  have:=Turns_ct exU lv (by decide) (fun x hx=>rZ (exZ x hx) (by omega)) (fun i=>All.gt (p:=fun x:U Ln=>SzR 30 x.iv.lo) (fun x hx=>(exE x hx).1.1) te.2.1) w hv
  rw [exI_is] at this; exact this
 refine jo (xs:=[aL 2]) h (dH Tryz.call100 rfl) (fun w_ hB_ hS_=>cT s2 w_ (row_view hS_ 0 rfl)) rfl ?_; clear h ac wo; intro s3 ac wo _ h
 have cB:∀ lv w,View w lv exU→Calls Tryz.prog 20 #[lv] w (dE w (.tuple #[vBx ⟨0,4,0,6,0,4⟩,.int .i64 0]) True):=fun lv w hv=>by
  have:=box_ct exU lv (by decide) (by decide) (fun i=>All.gt (p:=fun x:U Ln=>SzN 30 x.f) (fun x hx=>(exZ x hx).2) te.2.2.2.1) enR_ok (BxO.of exX) (BxO.of exY) (BxO.of exT) w hv
  rw [exB_is] at this; exact this
 refine gz h <| (xc (ct:=by exact fun w_ hB_ hS_=>cB s2 w_ (row_view hS_ 1 rfl))) <| (xa) fun b4=>(W) ?_; clear h ac wo; intro ac wo h
 have n4:=cq 4 30 og og
 have n6:=cq (-6) 30 og og
 have n3:=cq 3 30 og og
 have n2:=pe 2 30 og og
 replace h:St w0 64 [(1,s2),(2,.int .i64 0),(3,s3),(4,ptr b4 0),(5,.int .i64 0)] [.blk b4 (cBx ⟨0,4,0,6,0,4⟩) 41,.row (α:=GR) 46 s3 [aL 2],.row (α:=U Ln) 165 s2 exU] ac wo:=h.re [0,1,2]
 have z1:gt exU 1=⟨⟨rr 2,rr 4,true,false⟩,⟨ah 4,ah 0,ah (-6),ah 3⟩⟩:=rfl
 have nn2:NN s2 2:=h.row_nn 2 rfl (by decide)
 have nn3:NN s3 1:=h.row_nn 1 rfl (by decide)
 refine gz h <| (dr0 (hob:=(oG (by exact fun hg=>n4)) <| (oG (by exact fun hg=>n6)) <| (oG (by exact fun hg=>n3)) <| (oG (by exact fun hg=>n2)) <| oE)) <| (W) ?_; clear h ac wo; intro ac wo h
 have e:((0:Int) == 0 && ((exU.length:Nat):Int) == 2 && decide ((gt exU 1).f=⟨ah 4,oQ,ah (-6),ah 3⟩) && (gt exU 1).iv.openLo && (([aL 2].length:Nat):Int) == 1 && decide (gt [aL 2] 0=aL 2) && (0:Int) == 0 && decide ((⟨0,4,0,6,0,4⟩:Bx)=⟨0,4,0,6,0,4⟩))=true:=exm_last
 exact (rt h) (h.retP (congrArg Value.bool e) trivial)
end Go.Sx
namespace Go.Sx
open Go Go.RowKit Go.Proofs
set_option maxRecDepth 100000
set_option maxHeartbeats 40000000
attribute [local irreducible] Code.wp wpList Rd Step ObS Ent
theorem eqi88:EqIn Tryz.prog 6 165 vUN:=eqS (c:=cUN) (fun _=>rfl) Tryz.underlying165 Tryz.stoodInHeld165 fun d x y w hd=>by
 refine Eq.trans (eqF (by decide) (dc Tryz.isAgg74 Tryz.sizeOf74 (v:=vV x.iv) rfl w) (dc Tryz.isAgg74 Tryz.sizeOf74 (v:=vV y.iv) rfl w) (eqi86 d _ _ w og) (eqF (by decide) (dc Tryz.isAgg163 Tryz.sizeOf163 (v:=vN x.f) rfl w) (dc Tryz.isAgg163 Tryz.sizeOf163 (v:=vN y.f) rfl w) (eqi79 d _ _ w og) eqF0)) ?_
 congr 1
 rw [decide_eq_decide]
 cases x; cases y; simp
theorem eqp88:EqP Tryz.prog 165 vUN:=EqIn.p (k:=6) rfl (c:=fun x=>(cUN x).toArray) (fun _=>rfl) Tryz.eqGuardType165 eqi88
instance yM8_29:Ep Tryz.prog 165 (U Ln) inferInstance vUN:=⟨eqp88⟩
theorem tR (x y:GR) (zx:SzR 30 x) (zy:SzR 30 y) (w0:World):Calls Tryz.prog 113 #[vR x,vR y] w0 (dE w0 (vR (bif decide (ao y x>0) then y else x)) True):=by
 refine enter (N:=11) (args:=[vR x,vR y]) Tryz.func113 rfl rfl ?_; intro ac h
 have c1:=dO y x 10 og zy zx
 refine gz h <| (xb) fun b1=>(xb) fun b2=>(xa) fun b3=>(xk c1) <| (ai) ?_ ?_ <;> clear h ac <;> intro ac wo h hc1
 · rw [hc1]
   refine gz h <| (W) ?_; clear h ac wo; intro ac wo h
   exact rtc 0 h (h.retP (u:=vR y) rfl trivial)
 · rw [hc1]
   refine gz h <| (W) ?_; clear h ac wo; intro ac wo h
   exact rtc 0 h (h.retP (u:=vR x) rfl trivial)
end Go.Sx
namespace Go.Sx
open Go Go.RowKit Go.Proofs
set_option maxRecDepth 100000
set_option maxHeartbeats 40000000
attribute [local irreducible] Code.wp wpList Rd Step ObS Ent
attribute [local irreducible] ao aL ah au ax bN an
attribute [local irreducible] aH aI am aq aE ak aS
section
variable [K:Key]
theorem qV {x:GR} (h:Tm x):SzR 30 x:=fh h.szr og
theorem wvs {a:List Iv} (h:∀ i∈a,Wv i):All (SzV 30) a:=fun i hi=>⟨qV (h i hi).1.1,qV (h i hi).1.2⟩
theorem xy (l:List (U Ln)) (lv:Value) (hl:l.length≤100) (hw:∀ u∈l,Wv u.iv) (w0:World) (hlv:View w0 lv l):Calls Tryz.prog 29 #[lv] w0 (RetR w0 74 (ta l) (All (SzV 30) (ta l)∧(ta l).length≤2*l.length)):=by
 refine enter (N:=21) (args:=[lv]) Tryz.func29 rfl rfl ?_; intro ac h
 have hlen:=hlv.len
 have hwm:∀ i∈l.map (fun u=>u.iv),Wv i:=fun i hi=>by obtain ⟨u,hu,rfl⟩:=List.mem_map.1 hi; exact hw u hu
 refine gz h <| (W) ?_; clear h ac; intro ac wo h
 replace h:=h.nilRow (α:=Iv) 74
 refine wp_loop_ghost (fun n_ a_ w_=>∃ (i:Nat) (sv:Value),(l.length - i < n_)∧(i≤l.length)∧St w0 21 [(0,lv),(3,sv),(4,iN i)] [.row (α:=Iv) 74 sv ((l.take i).map fun u=>u.iv)] a_ w_) (l.length+1) ⟨0,_,by omega,by omega,h.re [0]⟩ ?_
 clear h ac wo; rintro n1 ac wo ⟨i,sv,hm1,hi,h⟩
 obtain ⟨m1,rfl⟩:∃ m,n1=m+1:=⟨n1 - 1,by omega⟩
 refine gz h <| (ai) ?_ ?_ <;> clear h ac wo <;> intro ac wo h hc1
 ·
  have hd1:i < l.length:=by have:=of_decide_eq_true hc1; omega
  refine gz h <| (W) ?_; clear h ac wo; intro ac wo h
  refine nw h (dG (α:=Iv) (xs:=[.tmp 16]) (vs:=[vV (gt l i).iv]) [(gt l i).iv] lL rfl rfl rfl (by decide)) rfl ?_; clear h ac wo; intro s1 ac wo _ h
  refine on2 h 1 0 rfl rfl (gQ (xs:=(l.take i).map fun u=>u.iv) (ys:=[(gt l i).iv]) lL (fun w hs=>(row_view hs 0 rfl)) rfl rfl (by rw [List.length_map,List.length_take]; show _+1≤_; omega)) rfl ?_; clear h ac wo; intro s2 ac wo _ h
  rw [show (l.take i).map (fun u=>u.iv)++[(gt l i).iv]=(l.take (i+1)).map fun u=>u.iv by rw [List.take_succ_eq_append_getElem hd1,List.map_append,gF hd1]; rfl] at h
  refine gz h <| (W) ?_; clear h ac wo; intro ac wo h
  exact aO ⟨m1,by omega,i+1,s2,by omega,by omega,h.re [0]⟩
 ·
  obtain rfl:i=l.length:=by have:=of_decide_eq_false hc1; omega
  rw [List.take_length] at h
  have hp:=RetR.pr (kz (l.map fun u=>u.iv) sv (by rw [List.length_map]; omega) hwm (wvs hwm) wo (row_view h.sep 0 rfl))
  rw [List.length_map] at hp
  refine gz h <| (W) ?_; clear h ac wo; intro ac wo h
  refine jo (xs:=ta l) h (dH Tryz.call132 rfl) (fun w_ hB_ hS_=>kz (l.map fun u=>u.iv) sv (by rw [List.length_map]; omega) hwm (wvs hwm) w_ (row_view hS_ 0 rfl)) rfl ?_; clear h ac wo; intro s2 ac wo _ h
  refine gz h <| (W) ?_; clear h ac wo; intro ac wo h
  exact (rt h) (h.retR 0 rfl hp)
theorem rsI_succ (l:List (U Ln)) (d:List Iv) {i:Nat} (h:i < l.length):rsI (l.take (i+1)) d=rsI (l.take i) d++(dq [(gt l i).iv] d).map fun j=>⟨j,(gt l i).f⟩:=by
 unfold rsI
 rw [List.take_succ_eq_append_getElem h,List.flatMap_append,gF h,List.flatMap_singleton]
theorem rsI_take (l:List (U Ln)) (d:List Iv) (i:Nat):(rsI (l.take i) d).length≤(rsI l d).length:=by
 have:rsI l d=rsI (l.take i) d++rsI (l.drop i) d:=by unfold rsI; rw [← List.flatMap_append,List.take_append_drop]
 rw [this,List.length_append]; omega
theorem r9 (l:List (U Ln)) (lv:Value) (d:List Iv) (dv1:Value) (hl:l.length≤100) (hd:d.length≤200) (hw:∀ u∈l,Wv u.iv) (hwd:∀ i∈d,Wv i) (hr:(rsI l d).length < 20) (zr:All (jD 30) (rsI l d)) (w0:World) (hlv:View w0 lv l) (hdv:View w0 dv1 d) :
 Calls Tryz.prog 114 #[lv,dv1] w0 (RetR w0 165 (gU l d) (All (jD 20) (gU l d))):=by
 refine enter (N:=48) (args:=[lv,dv1]) Tryz.func114 rfl rfl ?_; intro ac h
 have hlen:=hlv.len
 refine gz h <| (W) ?_; clear h ac; intro ac wo h
 replace h:=h.nilRow (α:=U Ln) 165
 refine wp_loop_ghost (fun n_ a_ w_=>∃ (i:Nat) (sv:Value),(l.length - i < n_)∧(i≤l.length)∧St w0 48 [(0,lv),(1,dv1),(5,sv),(6,iN i)] [.row (α:=U Ln) 165 sv (rsI (l.take i) d)] a_ w_) (l.length+1) ⟨0,_,by omega,by omega,h.re [0]⟩ ?_
 clear h ac wo; rintro n1 ac wo ⟨i,sv,hm1,hi,h⟩
 obtain ⟨m1,rfl⟩:∃ m,n1=m+1:=⟨n1 - 1,by omega⟩
 refine gz h <| (ai) ?_ ?_ <;> clear h ac wo <;> intro ac wo h hc1
 ·
  have hd1:i < l.length:=by have:=of_decide_eq_true hc1; omega
  have n1':=hlv.nn hd1
  have hu:Wv (gt l i).iv:=hw _ (by rw [gF hd1]; exact List.getElem_mem _)
  have hsucc:=rsI_succ l d hd1
  have hle:=rsI_take l d (i+1)
  refine gz h <| (W) ?_; clear h ac wo; intro ac wo h
  refine nw h (dG (α:=Iv) (xs:=[.tmp 19]) (vs:=[vV (gt l i).iv]) [(gt l i).iv] lL rfl rfl rfl (by decide)) rfl ?_; clear h ac wo; intro s1 ac wo _ h
  refine gz h <| (W) ?_; clear h ac wo; intro ac wo h
  refine jo (xs:=dq [(gt l i).iv] d) h (dH Tryz.call93 rfl) (fun w_ hB_ hS_=>l5 [(gt l i).iv] s1 d dv1 (by show 1≤200; decide) hd (ju hu) hwd (wvs (ju hu)) (wvs hwd) w_ (row_view hS_ 0 rfl) (hdv.below hB_)) rfl ?_; clear h ac wo; intro pv ac wo _ h
  obtain ⟨p,hp⟩:∃ p,dq [(gt l i).iv] d=p:=⟨_,rfl⟩
  rw [hp] at h hsucc
  have hpl:(rsI (l.take i) d).length+p.length < 20:=by rw [hsucc,List.length_append,List.length_map] at hle; omega
  refine gz h <| (W) ?_; clear h ac wo; intro ac wo h
  refine wp_loop_ghost (fun n_ a_ w_=>∃ (k:Nat) (sv:Value),(p.length - k < n_)∧(k≤p.length)∧St w0 48 [(0,lv),(1,dv1),(5,sv),(6,iN i),(7,pv),(8,iN k)] [.row (α:=U Ln) 165 sv (rsI (l.take i) d++(p.take k).map fun j=>⟨j,(gt l i).f⟩),.row (α:=Iv) 74 pv p] a_ w_) (p.length+1) ⟨0,_,by omega,by omega,by
   rw [List.take_zero,List.map_nil,List.append_nil]; exact h.re [2,0]⟩ ?_
  clear h ac wo; rintro n2 ac wo ⟨k,sv,hm2,hk,h⟩
  obtain ⟨m2,rfl⟩:∃ m,n2=m+1:=⟨n2 - 1,by omega⟩
  refine gz h <| (ai) ?_ ?_ <;> clear h ac wo <;> intro ac wo h hc2
  ·
   have hk1:k < p.length:=by have:=of_decide_eq_true hc2; omega
   refine gz h <| (W) ?_; clear h ac wo; intro ac wo h
   replace h:=h.emps 1
   have hpn:NN pv p.length:=(row_view h.sep 1 rfl).nn hk1
   obtain ⟨x,hx⟩:∃ x:U Ln,(⟨gt p k,(gt l i).f⟩:U Ln)=x:=⟨_,rfl⟩
   obtain ⟨o,ho⟩:∃ o,rsI (l.take i) d++(p.take k).map (fun j=>(⟨j,(gt l i).f⟩:U Ln))=o:=⟨_,rfl⟩
   have hol:o.length < 20:=by rw [← ho,List.length_append,List.length_map,List.length_take]; omega
   rw [ho] at h
   refine eZ mixed [dv _,dv _,dv _,dv _,dw (vV (gt p k)) [1],dv _,dv _,dv _,dv _,dv (vN (gt l i).f),dv (vUN x),⟨.nd (.one 11 fun v=>NN v 1),[2]⟩,⟨.nd (.con True),[0,2]⟩,⟨.nd (.two 13 12 fun a b=>a=b),[]⟩]
    [⟨.row (α:=U Ln) 165 sv o,[(12,.one 12 fun v=>.row (α:=U Ln) 165 v (o++[x]))]⟩,⟨_,[]⟩,⟨.emp,[(11,.one 11 fun v=>.row (α:=U Ln) 165 v [x])]⟩] h rfl (by kernel_rfl)
    ⟨oA obA,oA obA,oA obA,oA obA,oA obA,oA obA,oA obA,oA obA,oA obA,oA obA,(by rw [← hx]; exact oA fun _=>aQ (bK uC rfl rfl rfl)),fun _ _=>l6 2 x lS rfl rfl,fun _ _=>wH (j:=11) 0 2 lS rfl rfl (by omega) rfl (fun v=>by simp only [dg,bA] <;> rfl),fun _ _=>pm (j:=12) (by decide) rfl,trivial⟩ ?_
   clear h ac wo; intro ξ ac wo hφ h
   replace h:St w0 48 [(0,lv),(1,dv1),(5,ξ 13),(6,iN i),(7,pv),(8,iN k)] [.row (α:=U Ln) 165 (ξ 12) (o++[x]),.row (α:=Iv) 74 pv p] ac wo:=(h.pick [0,1] (by decide)).sub ⟨rfl,rfl,rfl,rfl,rfl,rfl,trivial⟩
   rw [show ξ 13=ξ 12 from hφ 13,← ho,← hx,List.append_assoc,show (p.take k).map (fun j=>(⟨j,(gt l i).f⟩:U Ln))++[⟨gt p k,(gt l i).f⟩]=(p.take (k+1)).map fun j=>⟨j,(gt l i).f⟩ by rw [List.take_succ_eq_append_getElem hk1,List.map_append,gF hk1]; rfl] at h
   generalize ξ 12=s2 at h; clear hφ ξ
   refine gz h <| (W) ?_; clear h ac wo; intro ac wo h
   exact aO ⟨m2,by omega,k+1,s2,by omega,by omega,h.re [0,1]⟩
  ·
   obtain rfl:k=p.length:=by have:=of_decide_eq_false hc2; omega
   rw [List.take_length,← hsucc] at h
   refine gz h <| (W) ?_; clear h ac wo; intro ac wo h
   exact aO ⟨m1,by omega,i+1,sv,by omega,by omega,h.re [0]⟩
 ·
  obtain rfl:i=l.length:=by have:=of_decide_eq_false hc1; omega
  rw [List.take_length] at h
  have hp:=RetT.pr (ls (rsI l d) sv hr zr wo (row_view h.sep 0 rfl))
  refine gz h <| (W) ?_; clear h ac wo; intro ac wo h
  refine ux (xs:=gU l d) h (dH Tryz.call108 rfl) (fun w_ hB_ hS_=>ls (rsI l d) sv hr zr w_ (row_view hS_ 0 rfl)) rfl ?_; clear h ac wo; intro s2 ac wo _ h
  refine gz h <| (W) ?_; clear h ac wo; intro ac wo h
  exact (rt h) (h.retR 0 rfl hp.1)
end
theorem aaq (a b:GQ) (za:SzQ 30 a) (zb:SzQ 30 b) (hc:decide (bR (aN ⟨an a,an b,false,false⟩) (aG ⟨an a,an b,false,false⟩)≥0)=false) (w0:World) :
 Calls Tryz.prog 111 #[vQ a,vQ b] w0 (RetR w0 74 [(⟨an a,an b,false,false⟩:Iv)] True):=by
 refine enter (N:=19) (args:=[vQ a,vQ b]) Tryz.func111 rfl rfl ?_; intro ac h
 obtain ⟨v,hv⟩:∃ v:Iv,(⟨an a,an b,false,false⟩:Iv)=v:=⟨_,rfl⟩
 have c1:=d6 a 30 og za
 have c2:=d6 b 30 og zb
 have zv:SzV 30 v:=by rw [← hv]; exact ⟨ap (c1 w0),ap (c2 w0)⟩
 rw [hv] at hc
 refine gz h <| (xb) fun b1=>(xb) fun b2=>(W) ?_; clear h ac; intro ac wo h
 replace h:=h.emps 1
 refine eZ mixed [dw (vQ a) [1],dv (vR (an a)),dw (vQ b) [0],dv (vR (an b)),dv (vV v),⟨.nd (.one 5 fun v=>∃ b,v=ptr b 0),[2]⟩,dw undef [2]]
  [⟨_,[]⟩,⟨_,[]⟩,⟨.emp,[(5,.one 5 fun x=>.blk (bu x) (cV default) 74),(6,.one 5 fun x=>.blk (bu x) (cV v) 74)]⟩] h rfl (by kernel_rfl)
  ⟨oA obA,oA fun _=>fD (dZ cc26 rfl c1),oA obA,oA fun _=>fD (dZ cc26 rfl c2),(by rw [← hv]; exact oA fun _=>aQ (bK mY rfl rfl rfl)),fun _ _=>i0 2 rfl (fun _=>rfl),fun ξ hφ=>iZ (u:=vV v) 2 (hφ 5 rfl) rfl rfl rfl rfl rfl rfl rfl,trivial⟩ ?_
 clear h ac wo; intro ξ ac wo hφ h
 obtain ⟨b8,hb8⟩:∃ b,ξ 5=ptr b 0:=hφ 5
 replace h:St w0 19 [(5,ξ 5)] [.blk (bu (ξ 5)) (cV v) 74] ac wo:=(h.pick [2] (by decide)).sub ⟨rfl,trivial⟩
 rw [hb8] at h
 clear hb8 hφ ξ
 have s1:=ap (fU v zv w0)
 have s2:=ap (gh v zv w0)
 refine gz h <| (dr0 (hob:=(oX (h:=by exact fun _=>fD (gk (vs:=[(vV v)]) (dH Tryz.call136 rfl) (fun w_ hB_ hS_=>fU v zv w_)))) <| (oK (gh v zv)) <| (oK (iJ (aN v) (aG v) s1 s2)) <| oE)) <| (ai) ?_ ?_ <;> clear h ac wo <;> intro ac wo h hc1
 · rw [hc] at hc1; cases hc1
 refine gz h <| (W) ?_; clear h ac wo; intro ac wo h
 refine nw h (dG (α:=Iv) (xs:=[.tmp 17]) (vs:=[vV v]) [v] lL rfl rfl rfl (by decide)) rfl ?_; clear h ac wo; intro s3 ac wo _ h
 rw [hv]
 refine gz h <| (W) ?_; clear h ac wo; intro ac wo h
 exact (rt h) (h.retR 0 rfl trivial)
end Go.Sx
