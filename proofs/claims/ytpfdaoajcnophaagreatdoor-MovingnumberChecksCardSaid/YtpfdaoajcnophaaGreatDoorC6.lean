/- A part of the proof of movingnumberChecks. -/
import Derived.Test.YtpfdaoajcnophaaGreatDoorC5
import Derived.Test.YtpfdaoajcnophaaGreatDoorC3
import Derived.Test.YtpfdaoajcnophaaGreatDoorC1
set_option linter.unusedVariables false
set_option linter.unusedSimpArgs false
open Go.Proofs.Tryz renaming sizeOf4 → zz4, underlying219 → nn219, runUnderlying86 → uu86, sizeOf88 → zz88, isAgg88 → aa88, zeroValue88 → vv88, runUnderlying317 → uu317
namespace Go.Sx
open Go Go.RowKit Go.Proofs
set_option maxRecDepth 100000
set_option maxHeartbeats 40000000
attribute [local irreducible] Code.wp wpList Rd Step ObS Ent
attribute [local irreducible] ah ak aq an bN
def lA (data:List (U Qd)) (n:Nat) (a:Nat) (b:Nat) (data1:List (U Qd)) (blockSize:Nat) (data2:List (U Qd)):List (U Qd) :=
 data2
def lz (data:List (U Qd)) (n:Nat) (a:Nat) (b:Nat) (data1:List (U Qd)) (blockSize:Nat) (data2:List (U Qd)) (a3:Nat) (b3:Nat) (data3:List (U Qd)):Nx (Nat×(List (U Qd))) (List (U Qd)) :=
 bif (decide (((a3+blockSize:Nat):Int) < ((n:Nat):Int))) then
  .go ((blockSize*2),(cG data3 a3 (a3+blockSize) n))
 else
  .go ((blockSize*2),data3)
def gM (data:List (U Qd)) (n:Nat) (a:Nat) (b:Nat) (data1:List (U Qd)) (blockSize:Nat) (data2:List (U Qd)) (a3:Nat) (b3:Nat) (data3:List (U Qd)):Nx (Nat×Nat×(List (U Qd))) (List (U Qd)) :=
 bif (decide (((b3:Nat):Int)≤((n:Nat):Int))) then
  .go (b3,(b3+(2*blockSize)),(cG data3 a3 (a3+blockSize) b3))
 else
  .out (a3,b3,data3)
def fO (data:List (U Qd)) (n:Nat) (a:Nat) (b:Nat) (data1:List (U Qd)) (blockSize:Nat) (data2:List (U Qd)):Nx (Nat×(List (U Qd))) (List (U Qd)) :=
 bif (decide (((blockSize:Nat):Int) < ((n:Nat):Int))) then
  fin (bZ (fun s=>gM data n a b data1 blockSize data2 s.1 s.2.1 s.2.2) (n - 0+1) (0,(2*blockSize),data2)) (fun s=>lz data n a b data1 blockSize data2 s.1 s.2.1 s.2.2) (fun r=>.ret r)
 else
  .out (blockSize,data2)
def gL (data:List (U Qd)) (n:Nat) (a:Nat) (b:Nat) (data1:List (U Qd)):List (U Qd) :=
 fin (bZ (fun s=>fO data n a b data1 s.1 s.2) (n - 20+1) (20,(aY data1 a n))) (fun s=>lA data n a b data1 s.1 s.2) (fun r=>r)
def e7 (data:List (U Qd)) (n:Nat) (a:Nat) (b:Nat) (data1:List (U Qd)):Nx (Nat×Nat×(List (U Qd))) (List (U Qd)) :=
 bif (decide (((b:Nat):Int)≤((n:Nat):Int))) then
  .go (b,(b+20),(aY data1 a b))
 else
  .out (a,b,data1)
def du (data:List (U Qd)) (n:Nat):List (U Qd) :=
 fin (bZ (fun s=>e7 data n s.1 s.2.1 s.2.2) (n+20 - 20+1) (0,20,data)) (fun s=>gL data n s.1 s.2.1 s.2.2) (fun r=>r)
theorem ly (data:List (U Qd)) (datav:Value) (n:Nat) (hn:n=data.length) (hl:data.length≤1000) (zdata:All (g6 30) data) (w0 w:World) (B:Asn) (hbel:Below w0.heap.size w0 w) (hsep:∃ Z_,Sep w0.heap.size w [.row (α:=U Qd) 88 datav data,B] Z_) :Calls Tryz.prog 295 #[datav,(.int .i64 ((n:Nat):Int)),(.func (.func 247) #[] #[])] w (RetY w0 (fun v=>v=.tuple #[]∧(All (g6 30) (du data n)∧(du data n).length=data.length)) (fun v=>[.row (α:=U Qd) 88 datav (du data n),B])):=by
 refine mF (N:=63) (args:=[datav,(.int .i64 ((n:Nat):Int)),(.func (.func 247) #[] #[])]) Tryz.func295 rfl rfl hbel hsep ?_; intro ac h
 have hlendata:=h.len 0 rfl
 obtain ⟨X1,hX1⟩:∃ X,bZ (fun s=>e7 data n s.1 s.2.1 s.2.2) (n+20 - 20+1) (0,20,data)=X:=⟨_,rfl⟩
 refine gz h <| (W) ?_; clear h ac; intro ac wo h
 refine wp_loop_ghost (fun n_ a_ w_=>∃ (a:Nat) (b:Nat) (data1:List (U Qd)),(n+20 - b < n_)∧(bZ (fun s=>e7 data n s.1 s.2.1 s.2.2) n_ (a,b,data1)=X1)∧(All (g6 30) data1)∧(b=a+20)∧(a≤n)∧(data1.length=data.length)∧St w0 63 [(0,datav),(1,(.int .i64 ((n:Nat):Int))),(2,(.func (.func 247) #[] #[])),(6,(.int .i64 20)),(7,(.int .i64 ((a:Nat):Int))),(8,(.int .i64 ((b:Nat):Int)))] [.row (α:=U Qd) 88 datav data1,B] a_ w_) (n+20 - 20+1) ⟨0,20,data,og,hX1,zdata,og,og,og,h.rs⟩ ?_
 clear h ac wo; rintro n1 ac wo ⟨a,b,data1,hm1,hL1,zdata1,hb0,ha0,hdl,h⟩
 obtain ⟨m1,rfl⟩:∃ m,n1=m+1:=⟨n1 - 1,by omega⟩
 refine gz h <| (ai) ?_ ?_ <;> clear h ac wo <;> intro ac wo h hc1
 ·
  have hd1:=of_decide_eq_true hc1
  refine gz h <| (W) ?_; clear h ac wo; intro ac wo h
  refine on1 h 0 rfl (jx (vs:=[datav,(.int .i64 ((a:Nat):Int)),(.int .i64 ((b:Nat):Int)),(.func (.func 247) #[] #[])]) (A:=fun v=>[.row (α:=U Qd) 88 datav (aY data1 a b)]) (cz Tryz.call331 rfl) (fun w_ B_ hB_ hS_=>fK data1 datav a b og og og zdata1 w0 w_ B_ hB_ hS_ )) rfl ?_; clear h ac wo; intro vc ac wo s2 h
  obtain rfl:vc=_:=s2.1
  have p3:=s2.2.2
  refine gz h <| (W) ?_; clear h ac wo; intro ac wo h
  have hg:=cZ hL1 pt
  exact az ⟨m1,og,_,_,_,og,hg,s2.2.1,og,og,og,h.re [0,1]⟩
 ·
  have hd1:=of_decide_eq_false hc1
  have hx1:=eh hL1 pt
  refine gz h <| (W) ?_; clear h ac wo; intro ac wo h
  refine on1 h 0 rfl (jx (vs:=[datav,(.int .i64 ((a:Nat):Int)),(.int .i64 ((n:Nat):Int)),(.func (.func 247) #[] #[])]) (A:=fun v=>[.row (α:=U Qd) 88 datav (aY data1 a n)]) (cz Tryz.call331 rfl) (fun w_ B_ hB_ hS_=>fK data1 datav a n og og og zdata1 w0 w_ B_ hB_ hS_ )) rfl ?_; clear h ac wo; intro vc ac wo s5 h
  obtain rfl:vc=_:=s5.1
  have p6:=s5.2.2
  obtain ⟨X2,hX2⟩:∃ X,bZ (fun s=>fO data n a b data1 s.1 s.2) (n - 20+1) (20,(aY data1 a n))=X:=⟨_,rfl⟩
  refine gz h <| (W) ?_; clear h ac wo; intro ac wo h
  refine wp_loop_ghost (fun n_ a_ w_=>∃ (blockSize:Nat) (data2:List (U Qd)),(n - blockSize < n_)∧(bZ (fun s=>fO data n a b data1 s.1 s.2) n_ (blockSize,data2)=X2)∧(All (g6 30) data2)∧(20≤blockSize)∧(blockSize≤2*n+20)∧(data2.length=data.length)∧St w0 63 [(0,datav),(1,(.int .i64 ((n:Nat):Int))),(2,(.func (.func 247) #[] #[])),(6,(.int .i64 ((blockSize:Nat):Int)))] [.row (α:=U Qd) 88 datav data2,B] a_ w_) (n - 20+1) ⟨20,(aY data1 a n),og,hX2,s5.2.1,og,og,og,h.rs⟩ ?_
  clear h ac wo; rintro n2 ac wo ⟨blockSize,data2,hm2,hL2,zdata2,hbs,hbl,hdl2,h⟩
  obtain ⟨m2,rfl⟩:∃ m,n2=m+1:=⟨n2 - 1,by omega⟩
  refine gz h <| (ai) ?_ ?_ <;> clear h ac wo <;> intro ac wo h hc2
  ·
   have hd2:=of_decide_eq_true hc2
   obtain ⟨X3,hX3⟩:∃ X,bZ (fun s=>gM data n a b data1 blockSize data2 s.1 s.2.1 s.2.2) (n - 0+1) (0,(2*blockSize),data2)=X:=⟨_,rfl⟩
   refine gz h <| (xo (hs:=by exact lD rfl rfl (r:=((2*blockSize:Nat):Int)) (by first | (rw [IntKind.wrap_i64]; omega) | exact iG og og))) <| (W) ?_; clear h ac wo; intro ac wo h
   refine wp_loop_ghost (fun n_ a_ w_=>∃ (a3:Nat) (b3:Nat) (data3:List (U Qd)),(n - a3 < n_)∧(bZ (fun s=>gM data n a b data1 blockSize data2 s.1 s.2.1 s.2.2) n_ (a3,b3,data3)=X3)∧(All (g6 30) data3)∧(b3=a3+2*blockSize)∧(a3≤n)∧(data3.length=data.length)∧St w0 63 [(0,datav),(1,(.int .i64 ((n:Nat):Int))),(2,(.func (.func 247) #[] #[])),(6,(.int .i64 ((blockSize:Nat):Int))),(7,(.int .i64 ((a3:Nat):Int))),(8,(.int .i64 ((b3:Nat):Int)))] [.row (α:=U Qd) 88 datav data3,B] a_ w_) (n - 0+1) ⟨0,(2*blockSize),data2,og,hX3,zdata2,og,og,og,h.rs⟩ ?_
   clear h ac wo; rintro n3 ac wo ⟨a3,b3,data3,hm3,hL3,zdata3,hb3,ha3,hdl3,h⟩
   obtain ⟨m3,rfl⟩:∃ m,n3=m+1:=⟨n3 - 1,by omega⟩
   refine gz h <| (ai) ?_ ?_ <;> clear h ac wo <;> intro ac wo h hc3
   ·
    have hd3:=of_decide_eq_true hc3
    refine gz h <| (W) ?_; clear h ac wo; intro ac wo h
    refine on1 h 0 rfl (jx (vs:=[datav,(.int .i64 ((a3:Nat):Int)),(.int .i64 ((a3+blockSize:Nat):Int)),(.int .i64 ((b3:Nat):Int)),(.func (.func 247) #[] #[])]) (A:=fun v=>[.row (α:=U Qd) 88 datav (cG data3 a3 (a3+blockSize) b3)]) (cz Tryz.call332 rfl) (fun w_ B_ hB_ hS_=>gm data3 datav a3 (a3+blockSize) b3 og og og og zdata3 w0 w_ B_ hB_ hS_ )) rfl ?_; clear h ac wo; intro vc ac wo s8 h
    obtain rfl:vc=_:=s8.1
    have p9:=s8.2.2
    refine gz h <| (xo (hs:=by exact lD rfl rfl (r:=((2*blockSize:Nat):Int)) (by first | (rw [IntKind.wrap_i64]; omega) | exact iG og og))) <| (W) ?_; clear h ac wo; intro ac wo h
    have hg:=cZ hL3 pt
    exact az ⟨m3,og,_,_,_,og,hg,s8.2.1,og,og,og,h.re [0,1]⟩
   ·
    have hd3:=of_decide_eq_false hc3
    have hx3:=eh hL3 pt
    refine gz h <| (ai) ?_ ?_ <;> clear h ac wo <;> intro ac wo h hc4
    ·
     have hd4:=of_decide_eq_true hc4
     refine gz h <| (W) ?_; clear h ac wo; intro ac wo h
     refine on1 h 0 rfl (jx (vs:=[datav,(.int .i64 ((a3:Nat):Int)),(.int .i64 ((a3+blockSize:Nat):Int)),(.int .i64 ((n:Nat):Int)),(.func (.func 247) #[] #[])]) (A:=fun v=>[.row (α:=U Qd) 88 datav (cG data3 a3 (a3+blockSize) n)]) (cz Tryz.call332 rfl) (fun w_ B_ hB_ hS_=>gm data3 datav a3 (a3+blockSize) n og og og og zdata3 w0 w_ B_ hB_ hS_ )) rfl ?_; clear h ac wo; intro vc ac wo s11 h
     obtain rfl:vc=_:=s11.1
     have p12:=s11.2.2
     refine gz h <| (xo (hs:=by exact lD rfl rfl (r:=((blockSize*2:Nat):Int)) (by first | (rw [IntKind.wrap_i64]; omega) | exact iG og og))) <| (W) ?_; clear h ac wo; intro ac wo h
     have hg:=cZ hL2 pt
     exact az ⟨m2,og,_,_,og,hg,s11.2.1,og,og,og,h.re [0,1]⟩
    ·
     have hd4:=of_decide_eq_false hc4
     refine gz h <| (xo (hs:=by exact lD rfl rfl (r:=((blockSize*2:Nat):Int)) (by first | (rw [IntKind.wrap_i64]; omega) | exact iG og og))) <| (W) ?_; clear h ac wo; intro ac wo h
     have hg:=cZ hL2 pt
     exact az ⟨m2,og,_,_,og,hg,zdata3,og,og,og,h.re [0,1]⟩
  ·
   have hd2:=of_decide_eq_false hc2
   have hx2:=eh hL2 pt
   have hd:du data n=data2:=pt
   refine gz h <| (W) ?_; clear h ac wo; intro ac wo h
   exact nO (vs:=[]) h rfl .nil rfl ((h.pick [0,1] (by decide)).retY ⟨rfl,(by rw [hd]; exact ⟨zdata2,og⟩)⟩ (by rw [hd]; rfl))
attribute [irreducible] du
def dq (x:List (U Qd)):List (U Qd) :=
 (du x x.length)
theorem j8 (x:List (U Qd)) (xv:Value) (hl:x.length≤1000) (zx:All (g6 30) x) (w0 w:World) (B:Asn) (hbel:Below w0.heap.size w0 w) (hsep:∃ Z_,Sep w0.heap.size w [.row (α:=U Qd) 88 xv x,B] Z_) :Calls Tryz.prog 246 #[xv,(.func (.func 247) #[] #[])] w (RetY w0 (fun v=>v=.tuple #[]∧(All (g6 30) (dq x)∧(dq x).length=x.length)) (fun v=>[.row (α:=U Qd) 88 xv (dq x),B])):=by
 refine mF (N:=9) (args:=[xv,(.func (.func 247) #[] #[])]) Tryz.func246 rfl rfl hbel hsep ?_; intro ac h
 have hlenx:=h.len 0 rfl
 refine gz h <| (W) ?_; clear h ac; intro ac wo h
 refine on1 h 0 rfl (jx (vs:=[xv,(.int .i64 ((x.length:Nat):Int)),(.func (.func 247) #[] #[])]) (A:=fun v=>[.row (α:=U Qd) 88 xv (du x x.length)]) (cz Tryz.call295 rfl) (fun w_ B_ hB_ hS_=>ly x xv x.length og og zx w0 w_ B_ hB_ hS_ )) rfl ?_; clear h ac wo; intro vc ac wo s2 h
 obtain rfl:vc=_:=s2.1
 have p3:=s2.2.2
 have hd:dq x=(du x x.length):=rfl
 refine gz h <| (W) ?_; clear h ac wo; intro ac wo h
 exact nO (vs:=[]) h rfl .nil rfl ((h.pick [0,1] (by decide)).retY ⟨rfl,(by rw [hd]; exact ⟨s2.2.1,og⟩)⟩ (by rw [hd]; rfl))
attribute [irreducible] dq
def af (l:List (U Qd)):(List (U Qd)) :=
 (dq (aS l))
theorem i9 (l:List (U Qd)) (lv:Value) (hl:l.length≤1000) (zl:All (g6 30) l) (w0:World) (hlv:View w0 lv l):Calls Tryz.prog 151 #[lv] w0 (RetR w0 88 (af l) (All (g6 30) (af l)∧(af l).length=l.length)):=by
 refine enter (N:=9) (args:=[lv]) Tryz.func151 rfl rfl ?_; intro ac h
 have hlenl:=hlv.len
 refine gz h <| (W) ?_; clear h ac; intro ac wo h
 have s1:=RetR.pr ((fun w_ hB_ hS_=>fC l lv og zl w_ (hlv.below hB_)) _ h.bel h.sep)
 have p2:=s1.2
 have p2_0:=p2.1
 have p2_1:=p2.2
 refine iu (xs:=(aS l)) h (cz Tryz.call245 rfl) (fun w_ hB_ hS_=>fC l lv og zl w_ (hlv.below hB_)) rfl ?_; clear h ac wo; intro sv3 ac wo _ h
 refine gz h <| (W) ?_; clear h ac wo; intro ac wo h
 refine on1 h 0 rfl (jx (vs:=[sv3,(.func (.func 247) #[] #[])]) (A:=fun v=>[.row (α:=U Qd) 88 sv3 (dq (aS l))]) (cz Tryz.call246 rfl) (fun w_ B_ hB_ hS_=>j8 (aS l) sv3 og s1.1 w0 w_ B_ hB_ hS_ )) rfl ?_; clear h ac wo; intro vc ac wo s5 h
 obtain rfl:vc=_:=s5.1
 have p6:=s5.2.2
 refine gz h <| (W) ?_; clear h ac wo; intro ac wo h
 exact (rt h) (by unfold af; exact h.retR 0 rfl ⟨s5.2.1,og⟩)
attribute [irreducible] af
def gP (l:List (U Qd)) (x18:Nat) (out:List (U Qd)) (x43:Nat):(List (U Qd))×Int :=
 (out,0)
def fe (l:List (U Qd)) (x18:Nat) (out:List (U Qd)) (x43:Nat):Nx ((List (U Qd))×Nat) ((List (U Qd))×Int) :=
 bif (decide (((x43:Nat):Int) < (((ae (af l)).length:Nat):Int))) then
  bif (((decide (((out.length:Nat):Int)>0)) && (decide (((gt out (out.length - 1)).iv).hi=((gt (ae (af l)) x43).iv).lo))) && (!(aN ((gt out (out.length - 1)).iv)))) then
   bif (!(aN ((gt (ae (af l)) x43).iv))) then
    bif ((!((gt out (out.length - 1)).iv).openHi) && (bF ((gt out (out.length - 1)).f) ((gt (ae (af l)) x43).f))) then
     .go ((out.set (out.length - 1) (⟨(⟨((gt out (out.length - 1)).iv).lo,((gt (ae (af l)) x43).iv).hi,((gt out (out.length - 1)).iv).openLo,true⟩:Iv),(gt out (out.length - 1)).f⟩:U Qd)),(x43+1))
    else
     bif ((((decide (((x43:Nat):Int)>0)) && (aN ((gt (ae (af l)) (x43 - 1)).iv))) && (decide (((gt (ae (af l)) (x43 - 1)).iv).lo=((gt (ae (af l)) x43).iv).lo))) && (!(eX out (((gt (ae (af l)) x43).iv).lo)))) then
      .go ((out++[(⟨(⟨((gt (ae (af l)) x43).iv).lo,((gt (ae (af l)) x43).iv).hi,false,((gt (ae (af l)) x43).iv).openHi⟩:Iv),(gt (ae (af l)) x43).f⟩:U Qd)]),(x43+1))
     else
      .go ((out++[(gt (ae (af l)) x43)]),(x43+1))
   else
    bif (bc ((gt out (out.length - 1)).f) ((gt (ae (af l)) x43).f) (((gt (ae (af l)) x43).iv).lo)) then
     .go ((out.set (out.length - 1) (⟨(⟨((gt out (out.length - 1)).iv).lo,((gt out (out.length - 1)).iv).hi,((gt out (out.length - 1)).iv).openLo,false⟩:Iv),(gt out (out.length - 1)).f⟩:U Qd)),(x43+1))
    else
     bif (((decide (((x43+1:Nat):Int) < (((ae (af l)).length:Nat):Int))) && (decide (((gt (ae (af l)) (x43+1)).iv).lo=((gt (ae (af l)) x43).iv).lo))) && (bc ((gt (ae (af l)) (x43+1)).f) ((gt (ae (af l)) x43).f) (((gt (ae (af l)) x43).iv).lo))) then
      .go (out,(x43+1))
     else
      .go ((out++[(⟨(gt (ae (af l)) x43).iv,(aO ((gt (ae (af l)) x43).f) (((gt (ae (af l)) x43).iv).lo))⟩:U Qd)]),(x43+1))
  else
   bif (!(aN ((gt (ae (af l)) x43).iv))) then
    bif ((((decide (((x43:Nat):Int)>0)) && (aN ((gt (ae (af l)) (x43 - 1)).iv))) && (decide (((gt (ae (af l)) (x43 - 1)).iv).lo=((gt (ae (af l)) x43).iv).lo))) && (!(eX out (((gt (ae (af l)) x43).iv).lo)))) then
     .go ((out++[(⟨(⟨((gt (ae (af l)) x43).iv).lo,((gt (ae (af l)) x43).iv).hi,false,((gt (ae (af l)) x43).iv).openHi⟩:Iv),(gt (ae (af l)) x43).f⟩:U Qd)]),(x43+1))
    else
     .go ((out++[(gt (ae (af l)) x43)]),(x43+1))
   else
    bif (((decide (((x43+1:Nat):Int) < (((ae (af l)).length:Nat):Int))) && (decide (((gt (ae (af l)) (x43+1)).iv).lo=((gt (ae (af l)) x43).iv).lo))) && (bc ((gt (ae (af l)) (x43+1)).f) ((gt (ae (af l)) x43).f) (((gt (ae (af l)) x43).iv).lo))) then
     .go (out,(x43+1))
    else
     .go ((out++[(⟨(gt (ae (af l)) x43).iv,(aO ((gt (ae (af l)) x43).f) (((gt (ae (af l)) x43).iv).lo))⟩:U Qd)]),(x43+1))
 else
  .out (out,x43)
def gQ (l:List (U Qd)) (x18:Nat):(List (U Qd))×Int :=
 fin (bZ (fun s=>fe l x18 s.1 s.2) (((ae (af l)).length - 0)+1) ([],0)) (fun s=>gP l x18 s.1 s.2) (fun r=>r)
def ff (l:List (U Qd)) (x18:Nat):Nx Nat ((List (U Qd))×Int) :=
 bif (decide (((x18:Nat):Int) < (((af l).length:Nat):Int))) then
  bif ((decide (((x18:Nat):Int)>0)) && (!(cA ((gt (af l) (x18 - 1)).iv) ((gt (af l) x18).iv)))) then
   .ret ([],11)
  else
   .go (x18+1)
 else
  .out x18
def dH (l:List (U Qd)):(List (U Qd))×Int :=
 fin (bZ (fun s=>ff l s) ((l.length - 0)+1) 0) (fun s=>gQ l s) (fun r=>r)
theorem lE (l:List (U Qd)) (lv:Value) (hl:l.length≤300) (zl:All (g6 30) l) (w0:World) (hlv:View w0 lv l):Calls Tryz.prog 45 #[(.iface 92 (.agg #[])),lv] w0 (RetT w0 88 (dH l).1 [.int .i64 ((dH l).2)] (All (g6 20) ((dH l).1)∧(dH l).1.length≤3*l.length)):=by
 refine enter (N:=219) (args:=[(.iface 92 (.agg #[])),lv]) Tryz.func45 rfl rfl ?_; intro ac h
 have hlenl:=hlv.len
 refine gz h <| (W) ?_; clear h ac; intro ac wo h
 have s1:=RetR.pr ((fun w_ hB_ hS_=>i9 l lv og zl w_ (hlv.below hB_)) _ h.bel h.sep)
 have p2:=s1.2
 refine iu (xs:=(af l)) h (cz Tryz.call151 rfl) (fun w_ hB_ hS_=>i9 l lv og zl w_ (hlv.below hB_)) rfl ?_; clear h ac wo; intro sv3 ac wo _ h
 obtain ⟨X1,hX1⟩:∃ X,bZ (fun s=>ff l s) ((l.length - 0)+1) 0=X:=⟨_,rfl⟩
 refine gz h <| (W) ?_; clear h ac wo; intro ac wo h
 refine wp_loop_ghost (fun n_ a_ w_=>∃ (x18:Nat),((l.length - x18) < n_)∧(bZ (fun s=>ff l s) n_ x18=X1)∧(x18≤l.length)∧St w0 219 [(0,(.iface 92 (.agg #[]))),(1,sv3),(17,(.int .i64 (((af l).length:Nat):Int))),(18,(.int .i64 ((x18:Nat):Int)))] [.row (α:=U Qd) 88 sv3 (af l)] a_ w_) ((l.length - 0)+1) ⟨0,og,hX1,og,h.rs⟩ ?_
 clear h ac wo; rintro n1 ac wo ⟨x18,hm1,hL1,hx18,h⟩
 obtain ⟨m1,rfl⟩:∃ m,n1=m+1:=⟨n1 - 1,by omega⟩
 refine gz h <| (ai) ?_ ?_ <;> clear h ac wo <;> intro ac wo h hc1
 ·
  have hd1:=of_decide_eq_true hc1
  refine gz h <| (dr0 (hob:=(oG (by exact fun hg=>jX ((gt (af l) (x18 - 1)).iv) ((gt (af l) x18).iv) 10 og (All.gt s1.1 (bG _)).1 (All.gt s1.1 (bG _)).1)) <| oE)) <| (ai) ?_ ?_ <;> clear h ac wo <;> intro ac wo h hc2
  ·
   have hq2:=hc2; try simp at hq2
   refine gz h <| (W) ?_; clear h ac wo; intro ac wo h
   replace h:=h.nilRow (α:=U Qd) 88
   have hr1:=lh hL1 pt
   have hd:dH l=([],11):=pt
   exact (rt h) (by rw [hd]; exact h.retT 0 rfl rfl ⟨All.nil,og⟩)
  ·
   have hq2:=hc2; try simp at hq2
   refine gz h <| (W) ?_; clear h ac wo; intro ac wo h
   have hg:=cZ hL1 pt
   exact az ⟨m1,og,_,og,hg,og,h.re [0]⟩
 ·
  have hd1:=of_decide_eq_false hc1
  have hx1:=eh hL1 pt
  refine gz h <| (W) ?_; clear h ac wo; intro ac wo h
  have s5:=RetR.pr ((fun w_ hB_ hS_=>jG (af l) sv3 og s1.1 w_ (row_view hS_ 0 rfl)) _ h.bel h.sep)
  have p6:=s5.2
  refine iu (xs:=(ae (af l))) h (cz Tryz.call153 rfl) (fun w_ hB_ hS_=>jG (af l) sv3 og s1.1 w_ (row_view hS_ 0 rfl)) rfl ?_; clear h ac wo; intro sv7 ac wo _ h
  refine gz h <| (W) ?_; clear h ac wo; intro ac wo h
  replace h:=h.nilRow (α:=U Qd) 88
  obtain ⟨X2,hX2⟩:∃ X,bZ (fun s=>fe l x18 s.1 s.2) (((ae (af l)).length - 0)+1) ([],0)=X:=⟨_,rfl⟩
  refine wp_loop_ghost (fun n_ a_ w_=>∃ (out:List (U Qd)) (x43:Nat) (outv:Value),(((ae (af l)).length - x43) < n_)∧(bZ (fun s=>fe l x18 s.1 s.2) n_ (out,x43)=X2)∧(x43≤(ae (af l)).length)∧(All (g6 20) out)∧(out.length≤x43)∧St w0 219 [(0,(.iface 92 (.agg #[]))),(7,outv),(8,sv7),(41,sv7),(42,(.int .i64 (((ae (af l)).length:Nat):Int))),(43,(.int .i64 ((x43:Nat):Int)))] [.row (α:=U Qd) 88 outv out,.row (α:=U Qd) 88 sv7 (ae (af l)),.row (α:=U Qd) 88 sv3 (af l)] a_ w_) (((ae (af l)).length - 0)+1) ⟨[],0,(.slice none 0 0),og,hX2,og,All.nil,og,h.rs⟩ ?_
  clear h ac wo; rintro n2 ac wo ⟨out,x43,outv,hm2,hL2,hx43,zout,hol,h⟩
  obtain ⟨m2,rfl⟩:∃ m,n2=m+1:=⟨n2 - 1,by omega⟩
  refine gz h <| (ai) ?_ ?_ <;> clear h ac wo <;> intro ac wo h hc3
  ·
   have hd3:=of_decide_eq_true hc3
   refine gz h <| (xa) fun b1=>(xa) fun b2=>(dr0 (hob:=(oG (by exact fun hg=>fj ((gt out (out.length - 1)).iv))) <| oE)) <| (ai) ?_ ?_ <;> clear h ac wo <;> intro ac wo h hc4
   ·
    have hq4:=hc4; try simp at hq4
    refine gz h <| (xk (fj ((gt (ae (af l)) x43).iv))) <| (ai) ?_ ?_ <;> clear h ac wo <;> intro ac wo h hc5
    ·
     have hq5:=hc5; try simp at hq5
     refine gz h <| (dr0 (hob:=(oG (by exact fun hg=>jz ((gt out (out.length - 1)).f) ((gt (ae (af l)) x43).f) (All.gt zout (bG _)).2 (fD (All.gt s5.1 (bG _)).2 og))) <| oE)) <| (ai) ?_ ?_ <;> clear h ac wo <;> intro ac wo h hc6
     ·
      have hq6:=hc6; try simp at hq6
      refine gz h <| (W) ?_; clear h ac wo; intro ac wo h
      refine up h 2 rfl (g5 (k:=9) (u':=(⟨(⟨((gt out (out.length - 1)).iv).lo,((gt (ae (af l)) x43).iv).hi,((gt out (out.length - 1)).iv).openLo,((gt out (out.length - 1)).iv).openHi⟩:Iv),(gt out (out.length - 1)).f⟩:U Qd)) Tryz.sizeOf46 (iF og) rfl rfl rfl rfl rfl rfl rfl rfl) ?_; clear h ac wo; intro ac wo h
      refine gz h <| (W) ?_; clear h ac wo; intro ac wo h
      refine up h 2 rfl (g5 (k:=19) (u':=(⟨(⟨((gt out (out.length - 1)).iv).lo,((gt (ae (af l)) x43).iv).hi,((gt out (out.length - 1)).iv).openLo,true⟩:Iv),(gt out (out.length - 1)).f⟩:U Qd)) zz4 (qZ og) rfl rfl rfl rfl rfl rfl rfl rfl) ?_; clear h ac wo; intro ac wo h
      replace h:=h.rowEq 2 rfl (by rw [List.set_set]:_=(out.set (out.length - 1) (⟨(⟨((gt out (out.length - 1)).iv).lo,((gt (ae (af l)) x43).iv).hi,((gt out (out.length - 1)).iv).openLo,true⟩:Iv),(gt out (out.length - 1)).f⟩:U Qd)))
      refine gz h <| (W) ?_; clear h ac wo; intro ac wo h
      have hg:=cZ hL2 pt
      exact az ⟨m2,og,_,_,_,og,hg,og,(All.set zout ⟨⟨((All.gt zout (bG _)).1).1,(dG ((All.gt s5.1 (bG _)).1).2 og)⟩,(All.gt zout (bG _)).2⟩),og,h.re [2,3,4]⟩
     ·
      have hq6:=hc6; try simp at hq6
      refine gz h <| (dr0 (hob:=(oG (by exact fun hg=>fj ((gt (ae (af l)) (x43 - 1)).iv))) <| (oX (h:=by exact fun _=>og1 (acc:=[2]) rfl rfl rfl rfl (fun hg=>fq (cz Tryz.call155 (mo (gC rfl hg) (mo (gC rfl hg) rfl))) (fun w_ hB_ hS_=>jV out outv (((gt (ae (af l)) x43).iv).lo) zout ((All.gt s5.1 (bG _)).1).1 w_ (row_view hS_ 0 rfl))))) <| oE)) <| (ai) ?_ ?_ <;> clear h ac wo <;> intro ac wo h hc7
      ·
       have hq7:=hc7; try simp at hq7
       refine gz h <| (xs 1 (cUD (⟨(⟨((gt (ae (af l)) x43).iv).lo,((gt (ae (af l)) x43).iv).hi,false,((gt (ae (af l)) x43).iv).openHi⟩:Iv),(gt (ae (af l)) x43).f⟩:U Qd))) <| (W) ?_; clear h ac wo; intro ac wo h
       refine nw h (bT (α:=U Qd) (xs:=[.tmp 160]) (vs:=[(vUD (⟨(⟨((gt (ae (af l)) x43).iv).lo,((gt (ae (af l)) x43).iv).hi,false,((gt (ae (af l)) x43).iv).openHi⟩:Iv),(gt (ae (af l)) x43).f⟩:U Qd))]) [(⟨(⟨((gt (ae (af l)) x43).iv).lo,((gt (ae (af l)) x43).iv).hi,false,((gt (ae (af l)) x43).iv).openHi⟩:Iv),(gt (ae (af l)) x43).f⟩:U Qd)] iJ rfl rfl rfl (by decide)) rfl ?_; clear h ac wo; intro sv9 ac wo nnsv9 h
       refine on2 h 3 0 rfl rfl (eA (xs:=out) (ys:=[(⟨(⟨((gt (ae (af l)) x43).iv).lo,((gt (ae (af l)) x43).iv).hi,false,((gt (ae (af l)) x43).iv).openHi⟩:Iv),(gt (ae (af l)) x43).f⟩:U Qd)]) iJ (fun w hs=>(row_view hs 0 rfl)) rfl rfl og) rfl ?_; clear h ac wo; intro sv10 ac wo apsv10 h
       refine gz h <| (W) ?_; clear h ac wo; intro ac wo h
       have hg:=cZ hL2 pt
       exact az ⟨m2,og,_,_,_,og,hg,og,(All.app zout (All.cons ⟨⟨(dG ((All.gt s5.1 (bG _)).1).1 og),(dG ((All.gt s5.1 (bG _)).1).2 og)⟩,(fD (All.gt s5.1 (bG _)).2 og)⟩ All.nil)),og,h.re [0,4,5]⟩
      ·
       have hq7:=hc7; try simp at hq7
       refine gz h <| (W) ?_; clear h ac wo; intro ac wo h
       refine nw h (bT (α:=U Qd) (xs:=[.tmp 160]) (vs:=[(vUD (gt (ae (af l)) x43))]) [(gt (ae (af l)) x43)] iJ rfl rfl rfl (by decide)) rfl ?_; clear h ac wo; intro sv11 ac wo nnsv11 h
       refine on2 h 3 0 rfl rfl (eA (xs:=out) (ys:=[(gt (ae (af l)) x43)]) iJ (fun w hs=>(row_view hs 0 rfl)) rfl rfl og) rfl ?_; clear h ac wo; intro sv12 ac wo apsv12 h
       refine gz h <| (W) ?_; clear h ac wo; intro ac wo h
       have hg:=cZ hL2 pt
       exact az ⟨m2,og,_,_,_,og,hg,og,(All.app zout (All.cons (oz (All.gt s5.1 (bG _)) og) All.nil)),og,h.re [0,4,5]⟩
    ·
     have hq5:=hc5; try simp at hq5
     refine gz h <| (dr0 (hob:=(oG (by exact fun hg=>it ((gt out (out.length - 1)).f) ((gt (ae (af l)) x43).f) (((gt (ae (af l)) x43).iv).lo) (All.gt zout (bG _)).2 (fD (All.gt s5.1 (bG _)).2 og) ((All.gt s5.1 (bG _)).1).1)) <| oE)) <| (ai) ?_ ?_ <;> clear h ac wo <;> intro ac wo h hc8
     ·
      have hq8:=hc8; try simp at hq8
      refine gz h <| (W) ?_; clear h ac wo; intro ac wo h
      refine up h 2 rfl (g5 (k:=19) (u':=(⟨(⟨((gt out (out.length - 1)).iv).lo,((gt out (out.length - 1)).iv).hi,((gt out (out.length - 1)).iv).openLo,false⟩:Iv),(gt out (out.length - 1)).f⟩:U Qd)) zz4 (iF og) rfl rfl rfl rfl rfl rfl rfl rfl) ?_; clear h ac wo; intro ac wo h
      refine gz h <| (W) ?_; clear h ac wo; intro ac wo h
      have hg:=cZ hL2 pt
      exact az ⟨m2,og,_,_,_,og,hg,og,(All.set zout ⟨⟨((All.gt zout (bG _)).1).1,((All.gt zout (bG _)).1).2⟩,(All.gt zout (bG _)).2⟩),og,h.re [2,3,4]⟩
     ·
      have hq8:=hc8; try simp at hq8
      refine gz h <| (dr0 (hob:=(oG (by exact fun hg=>it ((gt (ae (af l)) (x43+1)).f) ((gt (ae (af l)) x43).f) (((gt (ae (af l)) x43).iv).lo) (fD (All.gt s5.1 (bG _)).2 og) (fD (All.gt s5.1 (bG _)).2 og) ((All.gt s5.1 (bG _)).1).1)) <| oE)) <| (ai) ?_ ?_ <;> clear h ac wo <;> intro ac wo h hc9
      ·
       have hq9:=hc9; try simp at hq9
       refine gz h <| (W) ?_; clear h ac wo; intro ac wo h
       have hg:=cZ hL2 pt
       exact az ⟨m2,og,_,_,_,og,hg,og,zout,og,h.re [2,3,4]⟩
      ·
       have hq9:=hc9; try simp at hq9
       have c13:=ja ((gt (ae (af l)) x43).f) (((gt (ae (af l)) x43).iv).lo) (All.gt s5.1 (bG _)).2 ((All.gt s5.1 (bG _)).1).1
       have s13:=Calls.pr (c13 w0)
       refine gz h <| (xk (c13)) <| (xs 1 (cUD (⟨(gt (ae (af l)) x43).iv,(aO ((gt (ae (af l)) x43).f) (((gt (ae (af l)) x43).iv).lo))⟩:U Qd))) <| (W) ?_; clear h ac wo; intro ac wo h
       refine nw h (bT (α:=U Qd) (xs:=[.tmp 87]) (vs:=[(vUD (⟨(gt (ae (af l)) x43).iv,(aO ((gt (ae (af l)) x43).f) (((gt (ae (af l)) x43).iv).lo))⟩:U Qd))]) [(⟨(gt (ae (af l)) x43).iv,(aO ((gt (ae (af l)) x43).f) (((gt (ae (af l)) x43).iv).lo))⟩:U Qd)] iJ rfl rfl rfl (by decide)) rfl ?_; clear h ac wo; intro sv14 ac wo nnsv14 h
       refine on2 h 3 0 rfl rfl (eA (xs:=out) (ys:=[(⟨(gt (ae (af l)) x43).iv,(aO ((gt (ae (af l)) x43).f) (((gt (ae (af l)) x43).iv).lo))⟩:U Qd)]) iJ (fun w hs=>(row_view hs 0 rfl)) rfl rfl og) rfl ?_; clear h ac wo; intro sv15 ac wo apsv15 h
       refine gz h <| (W) ?_; clear h ac wo; intro ac wo h
       have hg:=cZ hL2 pt
       exact az ⟨m2,og,_,_,_,og,hg,og,(All.app zout (All.cons ⟨(iU (All.gt s5.1 (bG _)).1 og),s13⟩ All.nil)),og,h.re [0,4,5]⟩
   ·
    have hq4:=hc4; try simp at hq4
    refine gz h <| (xk (fj ((gt (ae (af l)) x43).iv))) <| (ai) ?_ ?_ <;> clear h ac wo <;> intro ac wo h hc10
    ·
     have hq10:=hc10; try simp at hq10
     refine gz h <| (W) ?_; clear h ac wo; intro ac wo h
     refine fU mixed [dv _,dv _,dv _,⟨.det (gv false undef),[]⟩,⟨.det (gv false undef),[]⟩,⟨.det (gv false undef),[]⟩,⟨.det (gv false undef),[]⟩,⟨.det (gv false undef),[]⟩,⟨.det (gv false undef),[]⟩,dv _,dv _,⟨.det (gv false undef),[]⟩,⟨.det (gv false undef),[]⟩,⟨.det (gv false undef),[]⟩,⟨.det (gv false undef),[]⟩,⟨.det (gv false undef),[]⟩,⟨.det (gv false undef),[]⟩,⟨.det (gv false undef),[]⟩,⟨.det (gv false undef),[]⟩,⟨.det (gv false undef),[]⟩,⟨.det (gv false undef),[]⟩,⟨.det (gv false undef),[]⟩,dv _] [⟨_,[]⟩,⟨_,[]⟩,⟨_,[]⟩,⟨_,[]⟩,⟨_,[]⟩] h rfl (by kernel_rfl) ⟨fun _ _=>om rfl,fun _ _=>bk (ry nn219 rfl (p:=none)),fun _ _=>om rfl,(fun ξ hφ=>by exact k7 (c:=true) (b:=false) (g:=false) [] rfl rfl rfl rfl g_t (fun hg=>absurd hg (by decide))),(fun ξ hφ=>by exact k7 (c:=true) (b:=false) (g:=false) [] rfl rfl rfl rfl g_t (fun hg=>absurd hg (by decide))),(fun ξ hφ=>by exact k7 (c:=true) (b:=false) (g:=false) [] rfl rfl rfl rfl g_t (fun hg=>absurd hg (by decide))),(fun ξ hφ=>by exact k7 (c:=true) (b:=false) (g:=false) [] rfl rfl rfl rfl g_t (fun hg=>absurd hg (by decide))),(fun ξ hφ=>by exact k7 (c:=true) (b:=false) (g:=false) [] rfl rfl rfl rfl g_t (fun hg=>absurd hg (by decide))),(fun ξ hφ=>by exact k7 (c:=true) (b:=false) (g:=false) [] rfl rfl rfl rfl g_t (fun hg=>absurd hg (by decide))),fun _ _=>bk (sT (b:=false) rfl (fun e=>absurd e (by decide)) (fun _=>rfl) (v:=.bool false)),fun _ _=>om rfl,(fun ξ hφ=>by exact k7 (c:=true) (b:=false) (g:=false) [] rfl rfl rfl rfl g_t (fun hg=>absurd hg (by decide))),(fun ξ hφ=>by exact k7 (c:=true) (b:=false) (g:=false) [] rfl rfl rfl rfl g_t (fun hg=>absurd hg (by decide))),(fun ξ hφ=>by exact k7 (c:=true) (b:=false) (g:=false) [] rfl rfl rfl rfl g_t (fun hg=>absurd hg (by decide))),(fun ξ hφ=>by exact k7 (c:=true) (b:=false) (g:=false) [] rfl rfl rfl rfl g_t (fun hg=>absurd hg (by decide))),(fun ξ hφ=>by exact k7 (c:=true) (b:=false) (g:=false) [] rfl rfl rfl rfl g_t (fun hg=>absurd hg (by decide))),(fun ξ hφ=>by exact k7 (c:=true) (b:=false) (g:=false) [] rfl rfl rfl rfl g_t (fun hg=>absurd hg (by decide))),(fun ξ hφ=>by exact k7 (c:=true) (b:=false) (g:=false) [] rfl rfl rfl rfl g_t (fun hg=>absurd hg (by decide))),(fun ξ hφ=>by exact k7 (c:=true) (b:=false) (g:=false) [] rfl rfl rfl rfl g_t (fun hg=>absurd hg (by decide))),(fun ξ hφ=>by exact k7 (c:=true) (b:=false) (g:=false) [] rfl rfl rfl rfl g_t (fun hg=>absurd hg (by decide))),(fun ξ hφ=>by exact k7 (c:=true) (b:=false) (g:=false) [] rfl rfl rfl rfl g_t (fun hg=>absurd hg (by decide))),(fun ξ hφ=>by exact k7 (c:=true) (b:=false) (g:=false) [] rfl rfl rfl rfl g_t (fun hg=>absurd hg (by decide))),fun _ _=>bk (sT (b:=false) rfl (fun e=>absurd e (by decide)) (fun _=>rfl) (v:=.bool false)),trivial⟩ ?_
     clear h ac wo; intro ξ ac wo hφ h
     replace h:St w0 219 [(0,(.iface 92 (.agg #[]))),(7,outv),(8,sv7),(41,sv7),(42,(.int .i64 (((ae (af l)).length:Nat):Int))),(43,(.int .i64 ((x43:Nat):Int))),(10,(ptr b1 0)),(9,(.int .i64 ((x43:Nat):Int))),(11,(ptr b2 0)),(12,(.pointer none)),(117,(.bool false))] [.blk b2 (cR (((gt (ae (af l)) x43).iv).lo)) 46,.blk b1 (cUD (gt (ae (af l)) x43)) 88,.row (α:=U Qd) 88 outv out,.row (α:=U Qd) 88 sv7 (ae (af l)),.row (α:=U Qd) 88 sv3 (af l)] ac wo:=(h.pick [0,1,2,3,4] (by decide)).sub ⟨rfl,rfl,rfl,rfl,rfl,rfl,rfl,rfl,rfl,rfl,rfl,trivial⟩
     clear hφ ξ
     refine gz h <| (W) ?_; clear h ac wo; intro ac wo h
     refine c_ifF h rfl ?_
     refine gz h <| (dr0 (hob:=(oG (by exact fun hg=>fj ((gt (ae (af l)) (x43 - 1)).iv))) <| (oX (h:=by exact fun _=>og1 (acc:=[2]) rfl rfl rfl rfl (fun hg=>fq (cz Tryz.call155 (mo (gC rfl hg) (mo (gC rfl hg) rfl))) (fun w_ hB_ hS_=>jV out outv (((gt (ae (af l)) x43).iv).lo) zout ((All.gt s5.1 (bG _)).1).1 w_ (row_view hS_ 0 rfl))))) <| oE)) <| (ai) ?_ ?_ <;> clear h ac wo <;> intro ac wo h hc11
     ·
      have hq11:=hc11; try simp at hq11
      refine gz h <| (xs 1 (cUD (⟨(⟨((gt (ae (af l)) x43).iv).lo,((gt (ae (af l)) x43).iv).hi,false,((gt (ae (af l)) x43).iv).openHi⟩:Iv),(gt (ae (af l)) x43).f⟩:U Qd))) <| (W) ?_; clear h ac wo; intro ac wo h
      refine nw h (bT (α:=U Qd) (xs:=[.tmp 160]) (vs:=[(vUD (⟨(⟨((gt (ae (af l)) x43).iv).lo,((gt (ae (af l)) x43).iv).hi,false,((gt (ae (af l)) x43).iv).openHi⟩:Iv),(gt (ae (af l)) x43).f⟩:U Qd))]) [(⟨(⟨((gt (ae (af l)) x43).iv).lo,((gt (ae (af l)) x43).iv).hi,false,((gt (ae (af l)) x43).iv).openHi⟩:Iv),(gt (ae (af l)) x43).f⟩:U Qd)] iJ rfl rfl rfl (by decide)) rfl ?_; clear h ac wo; intro sv16 ac wo nnsv16 h
      refine on2 h 3 0 rfl rfl (eA (xs:=out) (ys:=[(⟨(⟨((gt (ae (af l)) x43).iv).lo,((gt (ae (af l)) x43).iv).hi,false,((gt (ae (af l)) x43).iv).openHi⟩:Iv),(gt (ae (af l)) x43).f⟩:U Qd)]) iJ (fun w hs=>(row_view hs 0 rfl)) rfl rfl og) rfl ?_; clear h ac wo; intro sv17 ac wo apsv17 h
      refine gz h <| (W) ?_; clear h ac wo; intro ac wo h
      have hg:=cZ hL2 pt
      exact az ⟨m2,og,_,_,_,og,hg,og,(All.app zout (All.cons ⟨⟨(dG ((All.gt s5.1 (bG _)).1).1 og),(dG ((All.gt s5.1 (bG _)).1).2 og)⟩,(fD (All.gt s5.1 (bG _)).2 og)⟩ All.nil)),og,h.re [0,4,5]⟩
     ·
      have hq11:=hc11; try simp at hq11
      refine gz h <| (W) ?_; clear h ac wo; intro ac wo h
      refine nw h (bT (α:=U Qd) (xs:=[.tmp 160]) (vs:=[(vUD (gt (ae (af l)) x43))]) [(gt (ae (af l)) x43)] iJ rfl rfl rfl (by decide)) rfl ?_; clear h ac wo; intro sv18 ac wo nnsv18 h
      refine on2 h 3 0 rfl rfl (eA (xs:=out) (ys:=[(gt (ae (af l)) x43)]) iJ (fun w hs=>(row_view hs 0 rfl)) rfl rfl og) rfl ?_; clear h ac wo; intro sv19 ac wo apsv19 h
      refine gz h <| (W) ?_; clear h ac wo; intro ac wo h
      have hg:=cZ hL2 pt
      exact az ⟨m2,og,_,_,_,og,hg,og,(All.app zout (All.cons (oz (All.gt s5.1 (bG _)) og) All.nil)),og,h.re [0,4,5]⟩
    ·
     have hq10:=hc10; try simp at hq10
     refine gz h <| (W) ?_; clear h ac wo; intro ac wo h
     refine fU mixed [dv _,dv _,dv _,⟨.det (gv false undef),[]⟩,⟨.det (gv false undef),[]⟩,⟨.det (gv false undef),[]⟩,⟨.det (gv false undef),[]⟩,⟨.det (gv false undef),[]⟩,⟨.det (gv false undef),[]⟩,⟨.det (gv false undef),[]⟩,⟨.det (gv false undef),[]⟩,⟨.det (gv false undef),[]⟩,⟨.det (gv false undef),[]⟩,⟨.det (gv false undef),[]⟩,⟨.det (gv false undef),[]⟩,dv _,dv _] [⟨_,[]⟩,⟨_,[]⟩,⟨_,[]⟩,⟨_,[]⟩,⟨_,[]⟩] h rfl (by kernel_rfl) ⟨fun _ _=>om rfl,fun _ _=>bk (ry nn219 rfl (p:=none)),fun _ _=>om rfl,(fun ξ hφ=>by exact k7 (c:=true) (b:=false) (g:=false) [] rfl rfl rfl rfl g_t (fun hg=>absurd hg (by decide))),(fun ξ hφ=>by exact k7 (c:=true) (b:=false) (g:=false) [] rfl rfl rfl rfl g_t (fun hg=>absurd hg (by decide))),(fun ξ hφ=>by exact k7 (c:=true) (b:=false) (g:=false) [] rfl rfl rfl rfl g_t (fun hg=>absurd hg (by decide))),(fun ξ hφ=>by exact k7 (c:=true) (b:=false) (g:=false) [] rfl rfl rfl rfl g_t (fun hg=>absurd hg (by decide))),(fun ξ hφ=>by exact k7 (c:=true) (b:=false) (g:=false) [] rfl rfl rfl rfl g_t (fun hg=>absurd hg (by decide))),(fun ξ hφ=>by exact k7 (c:=true) (b:=false) (g:=false) [] rfl rfl rfl rfl g_t (fun hg=>absurd hg (by decide))),(fun ξ hφ=>by exact k7 (c:=true) (b:=false) (g:=false) [] rfl rfl rfl rfl g_t (fun hg=>absurd hg (by decide))),(fun ξ hφ=>by exact k7 (c:=true) (b:=false) (g:=false) [] rfl rfl rfl rfl g_t (fun hg=>absurd hg (by decide))),(fun ξ hφ=>by exact k7 (c:=true) (b:=false) (g:=false) [] rfl rfl rfl rfl g_t (fun hg=>absurd hg (by decide))),(fun ξ hφ=>by exact k7 (c:=true) (b:=false) (g:=false) [] rfl rfl rfl rfl g_t (fun hg=>absurd hg (by decide))),(fun ξ hφ=>by exact k7 (c:=true) (b:=false) (g:=false) [] rfl rfl rfl rfl g_t (fun hg=>absurd hg (by decide))),(fun ξ hφ=>by exact k7 (c:=true) (b:=false) (g:=false) [] rfl rfl rfl rfl g_t (fun hg=>absurd hg (by decide))),fun _ _=>bk (sT (b:=false) rfl (fun e=>absurd e (by decide)) (fun _=>rfl) (v:=.bool false)),fun _ _=>bk (aA rfl),trivial⟩ ?_
     clear h ac wo; intro ξ ac wo hφ h
     replace h:St w0 219 [(0,(.iface 92 (.agg #[]))),(7,outv),(8,sv7),(41,sv7),(42,(.int .i64 (((ae (af l)).length:Nat):Int))),(43,(.int .i64 ((x43:Nat):Int))),(10,(ptr b1 0)),(9,(.int .i64 ((x43:Nat):Int))),(11,(ptr b2 0)),(12,(.pointer none)),(163,(.bool false))] [.blk b2 (cR (((gt (ae (af l)) x43).iv).lo)) 46,.blk b1 (cUD (gt (ae (af l)) x43)) 88,.row (α:=U Qd) 88 outv out,.row (α:=U Qd) 88 sv7 (ae (af l)),.row (α:=U Qd) 88 sv3 (af l)] ac wo:=(h.pick [0,1,2,3,4] (by decide)).sub ⟨rfl,rfl,rfl,rfl,rfl,rfl,rfl,rfl,rfl,rfl,rfl,trivial⟩
     clear hφ ξ
     refine gz h <| (W) ?_; clear h ac wo; intro ac wo h
     refine c_ifF h rfl ?_
     refine gz h <| (dr0 (hob:=(oG (by exact fun hg=>it ((gt (ae (af l)) (x43+1)).f) ((gt (ae (af l)) x43).f) (((gt (ae (af l)) x43).iv).lo) (fD (All.gt s5.1 (bG _)).2 og) (fD (All.gt s5.1 (bG _)).2 og) ((All.gt s5.1 (bG _)).1).1)) <| oE)) <| (ai) ?_ ?_ <;> clear h ac wo <;> intro ac wo h hc12
     ·
      have hq12:=hc12; try simp at hq12
      refine gz h <| (W) ?_; clear h ac wo; intro ac wo h
      have hg:=cZ hL2 pt
      exact az ⟨m2,og,_,_,_,og,hg,og,zout,og,h.re [2,3,4]⟩
     ·
      have hq12:=hc12; try simp at hq12
      have c20:=ja ((gt (ae (af l)) x43).f) (((gt (ae (af l)) x43).iv).lo) (All.gt s5.1 (bG _)).2 ((All.gt s5.1 (bG _)).1).1
      have s20:=Calls.pr (c20 w0)
      refine gz h <| (xk (c20)) <| (xs 1 (cUD (⟨(gt (ae (af l)) x43).iv,(aO ((gt (ae (af l)) x43).f) (((gt (ae (af l)) x43).iv).lo))⟩:U Qd))) <| (W) ?_; clear h ac wo; intro ac wo h
      refine nw h (bT (α:=U Qd) (xs:=[.tmp 87]) (vs:=[(vUD (⟨(gt (ae (af l)) x43).iv,(aO ((gt (ae (af l)) x43).f) (((gt (ae (af l)) x43).iv).lo))⟩:U Qd))]) [(⟨(gt (ae (af l)) x43).iv,(aO ((gt (ae (af l)) x43).f) (((gt (ae (af l)) x43).iv).lo))⟩:U Qd)] iJ rfl rfl rfl (by decide)) rfl ?_; clear h ac wo; intro sv21 ac wo nnsv21 h
      refine on2 h 3 0 rfl rfl (eA (xs:=out) (ys:=[(⟨(gt (ae (af l)) x43).iv,(aO ((gt (ae (af l)) x43).f) (((gt (ae (af l)) x43).iv).lo))⟩:U Qd)]) iJ (fun w hs=>(row_view hs 0 rfl)) rfl rfl og) rfl ?_; clear h ac wo; intro sv22 ac wo apsv22 h
      refine gz h <| (W) ?_; clear h ac wo; intro ac wo h
      have hg:=cZ hL2 pt
      exact az ⟨m2,og,_,_,_,og,hg,og,(All.app zout (All.cons ⟨(iU (All.gt s5.1 (bG _)).1 og),s20⟩ All.nil)),og,h.re [0,4,5]⟩
  ·
   have hd3:=of_decide_eq_false hc3
   have hx2:=eh hL2 pt
   have hd:dH l=(out,0):=pt
   refine gz h <| (W) ?_; clear h ac wo; intro ac wo h
   exact (rt h) (by rw [hd]; exact h.retT 0 rfl rfl ⟨zout,og⟩)
attribute [irreducible] dH
end Go.Sx
namespace Go.Sx
open Go Go.RowKit Go.Proofs
theorem wA (data:List (U Qd)) {n:Nat} (h:n < 20):du data n=ej data n:=by
 have hb:∀ a b d,20≤b→e7 data n a b d=.out (a,b,d):=fun a b d hb=>cF (decide_eq_false (by omega))
 have h1:bZ (fun s=>e7 data n s.1 s.2.1 s.2.2) (n+20 - 20+1) (0,20,data)=.inl (0,20,data):=(eh rfl (hb 0 20 data (Nat.le_refl _)))
 have h2:∀ a b d e,fO data n a b d 20 e=.out (20,e):=fun a b d e=>cF (decide_eq_false (by omega))
 unfold du
 refine (mO h1).trans ?_
 show gL data n 0 20 data=_
 unfold gL
 refine (mO (eh rfl (h2 0 20 data _))).trans ?_
 unfold ej
 rfl
theorem wB {l:List (U Qd)} (h:l.length < 20):af l=am l:=by
 unfold af am dq
 have:(aS l).length < 20:=by
  unfold aS; simpa using h
 rw [wA _ this]
 unfold cO
 rfl
theorem nG_eq {l:List (U Qd)} (h:af l=am l):dH l=aF l:=by
 have k2:gP l=ib l:=by
  funext a b c
  unfold gP ib
  first | rfl | (simp only [h] <;> rfl)
 have b2:fe l=dF l:=by
  funext a b c
  unfold fe dF
  rw [h]
 have k1:gQ l=eI l:=by
  funext a
  unfold gQ eI
  rw [h,b2,k2]
 have b1:ff l=eJ l:=by
  funext a
  unfold ff eJ
  rw [h]
 unfold dH aF
 rw [b1,k1]
theorem eH (l:List (U Qd)) (lv:Value) (hl:l.length < 20) (zl:All (g6 30) l) (w0:World) (hlv:View w0 lv l):Calls Tryz.prog 45 #[(.iface 92 (.agg #[])),lv] w0 (RetT w0 88 (aF l).1 [.int .i64 ((aF l).2)] (All (g6 20) ((aF l).1)∧(aF l).1.length≤3*l.length)) :=
 nG_eq (wB hl) ▸ lE l lv (by omega) zl w0 hlv
end Go.Sx
namespace Go.Sx
open Go Go.RowKit Go.Proofs
set_option maxRecDepth 100000
set_option maxHeartbeats 40000000
attribute [local irreducible] Code.wp wpList Rd Step ObS Ent
attribute [local irreducible] ah ak aq an bN
instance yC6_1:Ep Tryz.prog 74 Iv inferInstance vV:=⟨eqp86⟩
end Go.Sx
namespace Go.Sx
open Go Go.RowKit Go.Proofs
set_option maxRecDepth 100000
set_option maxHeartbeats 40000000
attribute [local irreducible] Code.wp wpList Rd Step ObS Ent
attribute [local irreducible] ah ak aq an bN
def dI (a:GI):Int :=
 bif (((decide (a.mag=0)) && a.neg) || ((!(decide (a.mag=0))) && (((((oC a.mag):Nat):Int)) == (((0:Nat):Int))))) then
  5
 else
  0
theorem jE (a:GI) (za:SzI 16 a) (w0:World) :Calls Tryz.prog 94 #[(vI a)] w0 (dh w0 (.int .i64 (dI a)) (True)):=by
 refine enter (N:=21) (args:=[(vI a)]) Tryz.func94 rfl rfl ?_; intro ac h
 refine gz h <| (xb) fun b1=>(xg (hs:=by exact fun hg=>(Rd.of_nil (vi Tryz.runUnderlying9 (gC rfl hg) rfl og)).step)) <| (ai) ?_ ?_ <;> clear h ac <;> intro ac wo h hc1
 ·
  have hq1:=hc1; try simp at hq1
  have hd:dI a=5:=pt
  refine gz h <| (W) ?_; clear h ac wo; intro ac wo h
  exact (rt h) (h.retP (by rw [hd] <;> rfl) trivial)
 ·
  have hq1:=hc1; try simp at hq1
  have hd:dI a=0:=pt
  refine gz h <| (W) ?_; clear h ac wo; intro ac wo h
  exact (rt h) (h.retP (by rw [hd] <;> rfl) trivial)
attribute [irreducible] dI
def ce (a:GQ):Int :=
 bif (((dI a.num) != 0) || ((dI a.den) != 0)) then
  5
 else
  bif (decide (a.den=(⟨false,0⟩:GI))) then
   0
  else
   bif ((decide ((dC a.den rational_one)≤0)) || (!(decide ((aT a.num a.den)=rational_one)))) then
    5
   else
    0
theorem il (a:GQ) (za:SzQ 16 a) (w0:World) :Calls Tryz.prog 15 #[(vQ a)] w0 (dh w0 (.int .i64 (ce a)) (True)):=by
 refine enter (N:=31) (args:=[(vQ a)]) Tryz.func15 rfl rfl ?_; intro ac h
 refine gz h <| (xb) fun b1=>(xk (jE a.num za.1)) <| (xg (hs:=by exact fun hg=>fq enA (kk (jE a.den za.2)))) <| (ai) ?_ ?_ <;> clear h ac <;> intro ac wo h hc1
 ·
   have hq1:=hc1; try simp at hq1
   have hd:ce a=5:=pt
   refine gz h <| (W) ?_; clear h ac wo; intro ac wo h
   exact (rt h) (h.retP (by rw [hd] <;> rfl) trivial)
 ·
   have hq1:=hc1; try simp at hq1
   refine gz h <| (xo (hs:=by exact bX qo exs rfl (v:=(vI (⟨false,0⟩:GI))) rfl)) <| (ai) ?_ ?_ <;> clear h ac wo <;> intro ac wo h hc2
   ·
     have hd2:=of_decide_eq_true hc2
     have hd:ce a=0:=pt
     refine gz h <| (W) ?_; clear h ac wo; intro ac wo h
     exact (rt h) (h.retP (by rw [hd] <;> rfl) trivial)
   ·
     have hd2:=of_decide_eq_false hc2
     refine gz h <| (W) ?_; clear h ac wo; intro ac wo h
     have c1:=fu  40 og
     have s1:=ar (c1 w0)
     have p3:=ar ((gY a.den rational_one 16 og za.2 (fV s1 og)) w0)
     have s4:=ar ((js a.num a.den 16 og za.1 za.2) w0)
     have s5:=ar ((fu  40 og ) w0)
     refine gz h <| (dr0 (hob:=(oK (c1)) <| (oK (gY a.den rational_one 16 og za.2 (fV s1 og))) <| (oG (by exact fun hg=>js a.num a.den 16 og za.1 za.2)) <| (oG (by exact fun hg=>fu  40 og)) <| oE)) <| (ai) ?_ ?_ <;> clear h ac wo <;> intro ac wo h hc3
     ·
       have hq3:=hc3; try simp at hq3
       have hd:ce a=5:=pt
       refine gz h <| (W) ?_; clear h ac wo; intro ac wo h
       exact (rt h) (h.retP (by rw [hd] <;> rfl) trivial)
     ·
       have hq3:=hc3; try simp at hq3
       have hd:ce a=0:=pt
       refine gz h <| (W) ?_; clear h ac wo; intro ac wo h
       exact (rt h) (h.retP (by rw [hd] <;> rfl) trivial)
attribute [irreducible] ce
end Go.Sx
namespace Go.Sx
open Go Go.RowKit Go.Proofs
set_option maxRecDepth 100000
set_option maxHeartbeats 40000000
attribute [local irreducible] Code.wp wpList Rd Step ObS Ent
attribute [local irreducible] ah ak aq an bN
def dW (x:U Qd) (y:U Qd):Bool :=
 ((decide (x.iv=y.iv)) && (bF x.f y.f))
theorem lF (x:U Qd) (y:U Qd) (b:Nat) (zx:g6 20 x) (zy:g6 20 y) (w0:World) (hbp:PV w0 b [.iface 92 (.agg #[])]):Calls Tryz.prog 259 #[(vUD x),(vUD y),(ptr b 0)] w0 (dh w0 (.bool (dW x y)) (True)):=by
 refine enter (N:=19) (args:=[(vUD x),(vUD y),(ptr b 0)]) Tryz.func259 rfl rfl ?_; intro ac h
 refine gz h <| (xb) fun b1=>(xb) fun b2=>(xg (hs:=by exact fun hg=>(Rd.of_nil (r_ldP hbp Tryz.isAgg216 Tryz.sizeOf216 rfl rfl rfl (v:=(.iface 92 (.agg #[]))) rfl)).step)) <| (xg (hs:=by exact fun hg=>fq enA (kk (jz x.f y.f zx.2 zy.2)))) <| (W) ?_; clear h ac; intro ac wo h
 exact (rt h) (h.retP (by unfold dW; rfl) trivial)
attribute [irreducible] dW
def eqUQ_K1 (xs:List (U Qd)) (ys:List (U Qd)) (x17:Nat):Bool :=
 true
def qf (xs:List (U Qd)) (ys:List (U Qd)) (x17:Nat):Nx Nat Bool :=
 bif (decide (((x17:Nat):Int) < ((xs.length:Nat):Int))) then
  bif (!(dW (gt xs x17) (gt ys x17))) then
   .ret false
  else
   .go (x17+1)
 else
  .out x17
def eqUQ (xs:List (U Qd)) (ys:List (U Qd)):Bool :=
 bif ((((xs.length:Nat):Int)) != (((ys.length:Nat):Int))) then
  false
 else
  fin (bZ (fun s=>qf xs ys s) ((xs.length - 0)+1) 0) (fun s=>eqUQ_K1 xs ys s) (fun r=>r)
theorem eqUQ_ct (xs:List (U Qd)) (xsv:Value) (ys:List (U Qd)) (ysv:Value) (b:Nat) (zxs:All (g6 20) xs) (zys:All (g6 20) ys) (w0:World) (hxsv:View w0 xsv xs) (hysv:View w0 ysv ys) (hbp:PV w0 b [.iface 92 (.agg #[])]):Calls Tryz.prog 258 #[xsv,ysv,(.func (.func 259) #[] #[(ptr b 0)])] w0 (dh w0 (.bool (eqUQ xs ys)) (True)):=by
 refine enter (N:=32) (args:=[xsv,ysv,(.func (.func 259) #[] #[(ptr b 0)])]) Tryz.func258 rfl rfl ?_; intro ac h
 have hlenxs:=hxsv.len
 have hlenys:=hysv.len
 refine qD fun K1 hK1=>?_
 refine rd0 h (aA rfl) rfl <| gn hK1 <| gq fun K2 hK2=>gr fun K3 hK3=>g0 (ay rfl) rfl <| g0 (g9 uu86 rfl hxsv.sl) rfl <| g0 (ay rfl) rfl <| g0 (g9 uu86 rfl hysv.sl) rfl <| g0 (r_neq rfl rfl (m:=((xs.length:Nat):Int)) (n:=((ys.length:Nat):Int))) rfl <| gn hK3 ?_; clear h ac; intro ac wo h
 refine ku h rfl (fun hc1=>?_) (fun hc1=>?_)
 ·
  have hq1:=hc1; try simp at hq1
  refine gz h <| gr fun K4 hK4=>g0 (aA rfl) rfl <| gn hK4 <| gT ?_; clear h ac wo; intro ac wo h
  have hd:eqUQ xs ys=false:=pt
  exact (rt h) (h.retP (by rw [hd] <;> rfl) trivial)
 ·
  have hq1:=hc1; try simp at hq1
  refine gz h <| gS <| gx hK2 <| gq fun K5 hK5=>gr fun K6 hK6=>g0 (ay rfl) rfl <| g0 (g9 uu86 rfl hxsv.sl) rfl <| g0 (ay rfl) rfl <| gn hK6 <| gB ?_; clear h ac wo; intro ac wo h
  obtain ⟨X1,hX1⟩:∃ X,bZ (fun s=>qf xs ys s) ((xs.length - 0)+1) 0=X:=⟨_,rfl⟩
  refine wp_loop_ghost (fun n_ a_ w_=>∃ (x17:Nat),((xs.length - x17) < n_)∧(bZ (fun s=>qf xs ys s) n_ x17=X1)∧(x17≤xs.length)∧St w0 32 [(1,ysv),(2,(.func (.func 259) #[] #[(ptr b 0)])),(15,xsv),(16,(.int .i64 ((xs.length:Nat):Int))),(17,(.int .i64 ((x17:Nat):Int)))] [] a_ w_) ((xs.length - 0)+1) ⟨0,og,hX1,og,h.rs⟩ ?_
  clear h ac wo; rintro n1 ac wo ⟨x17,hm1,hL1,hx17,h⟩
  obtain ⟨m1,rfl⟩:∃ m,n1=m+1:=⟨n1 - 1,by omega⟩
  refine gz h <| gr fun K7 hK7=>g0 (jT rfl rfl) rfl <| gn hK7 <| gq fun K8 hK8=>?_; clear h ac wo; intro ac wo h
  refine ku h rfl (fun hc2=>?_) (fun hc2=>?_)
  ·
   have hd2:=of_decide_eq_true hc2
   refine gz h <| gS <| gx hK8 <| gq fun K9 hK9=>gB <| gr fun K10 hK10=>g0 (ay rfl) rfl <| g0 (iT (i:=x17) uu86 zz88 rfl rfl (hxsv.nn (i:=x17) og) og) rfl <| g0 (oW (k:=0) aa88 zz88 hxsv (iF og) rfl (Nat.add_zero _) rfl rfl (v:=(vUD (gt xs x17))) rfl) rfl <| ga (cUD (⟨(⟨(⟨oQ,oQ,false⟩:GR),(⟨oQ,oQ,false⟩:GR),false,false⟩:Iv),oD⟩:U Qd)) vv88 rfl rfl fun b1=>g0 (aA rfl) rfl <| gs 0 (cUD (gt xs x17)) rfl zz88 rfl rfl rfl rfl rfl rfl rfl <| gn hK10 <| gr fun K11 hK11=>g0 (ay rfl) rfl <| g0 (ay rfl) rfl <| g0 (iT (i:=x17) uu86 zz88 rfl rfl (hysv.nn (i:=x17) og) og) rfl <| g0 (oW (k:=0) aa88 zz88 hysv (iF og) rfl (Nat.add_zero _) rfl rfl (v:=(vUD (gt ys x17))) rfl) rfl <| ga (cUD (⟨(⟨(⟨oQ,oQ,false⟩:GR),(⟨oQ,oQ,false⟩:GR),false,false⟩:Iv),oD⟩:U Qd)) vv88 rfl rfl fun b2=>gs 0 (cUD (gt ys x17)) rfl zz88 rfl rfl rfl rfl rfl rfl rfl <| gn hK11 <| gr fun K12 hK12=>g0 (ay rfl) rfl <| g1 1 rfl (kt aa88 zz88 rfl rfl rfl (v:=(vUD (gt xs x17))) rfl) rfl <| g1 0 rfl (kt aa88 zz88 rfl rfl rfl (v:=(vUD (gt ys x17))) rfl) rfl <| gc (uH (cap:=[(ptr b 0)]) Tryz.call259 rfl rfl) (fun w_ hB_ hS_=>lF (gt xs x17) (gt ys x17) b (All.gt zxs (bG _)) (All.gt zys (bG _)) w_ (hbp.below hB_)) rfl <| g0 (r_not rfl) rfl <| gn hK12 ?_; clear h ac wo; intro ac wo h
   replace h:=h.sub (F':=[(1,ysv),(2,(.func (.func 259) #[] #[(ptr b 0)])),(15,xsv),(16,(.int .i64 ((xs.length:Nat):Int))),(17,(.int .i64 ((x17:Nat):Int))),(30,(.bool (!(dW (gt xs x17) (gt ys x17)))))]) ⟨rfl,rfl,rfl,rfl,rfl,rfl,trivial⟩
   refine ku h rfl (fun hc3=>?_) (fun hc3=>?_)
   ·
    have hq3:=hc3; try simp at hq3
    refine gz h <| gr fun K13 hK13=>g0 (aA rfl) rfl <| gn hK13 <| gT ?_; clear h ac wo; intro ac wo h
    have hr1:=lh hL1 pt
    have hd:eqUQ xs ys=false:=pt
    exact (rt h) (h.retP (by rw [hd] <;> rfl) trivial)
   ·
    have hq3:=hc3; try simp at hq3
    refine gz h <| gS <| gN <| gx hK9 <| gR <| g0 (eV rfl rfl (r:=((x17+1:Nat):Int)) (by rw [IntKind.wrap_i64]; first | omega | grind)) rfl <| g0 (ay rfl) rfl <| gx (fun _ _=>fW) ?_; clear h ac wo; intro ac wo h
    have hg:=cZ hL1 pt
    exact az ⟨m1,og,_,og,hg,og,h.re []⟩
  ·
   have hd2:=of_decide_eq_false hc2
   refine kd ?_
   have hx1:=eh hL1 pt
   refine gz h <| gx hK5 <| gr fun K14 hK14=>g0 (aA rfl) rfl <| gn hK14 <| gT ?_; clear h ac wo; intro ac wo h
   have hd:eqUQ xs ys=true:=pt
   exact (rt h) (h.retP (by rw [hd] <;> rfl) trivial)
attribute [irreducible] eqUQ
def eK (a:List (U Qd)) (b:List (U Qd)):Bool :=
 (eqUQ a b)
theorem jH (a:List (U Qd)) (av:Value) (b:List (U Qd)) (bv:Value) (za:All (g6 20) a) (zb:All (g6 20) b) (w0:World) (hav:View w0 av a) (hbv:View w0 bv b):Calls Tryz.prog 175 #[(.iface 92 (.agg #[])),av,bv] w0 (dh w0 (.bool (eK a b)) (True)):=by
 refine enter (N:=11) (args:=[(.iface 92 (.agg #[])),av,bv]) Tryz.func175 rfl rfl ?_; intro ac h
 have hlena:=hav.len
 have hlenb:=hbv.len
 refine qD fun K1 hK1=>?_
 refine bx h [.iface 92 (.agg #[])] rfl rfl rfl fun b1=>g0 (aA rfl) rfl <| gn hK1 <| gr fun K2 hK2=>g0 (ay rfl) rfl <| g0 (ay rfl) rfl <| g0 (qN rfl) rfl <| gc (cz Tryz.call258 rfl) (fun w_ hB_ hS_=>eqUQ_ct a av b bv b1 za zb w_ (hav.below hB_) (hbv.below hB_) (blk_pv hS_ 0 rfl)) rfl <| g0 (aA rfl) rfl <| gn hK2 <| gT ?_; clear h ac; intro ac wo h
 exact (rt h) (h.retP (by unfold eK; rfl) trivial)
attribute [irreducible] eK
def nj (q:Qd) (x12:Nat):Int :=
 0
def fw (q:Qd) (x12:Nat):Nx Nat Int :=
 bif (decide (((x12:Nat):Int) < 3)) then
  bif ((ce (gt [q.c0,q.c1,q.c2] x12)) != 0) then
   .ret 5
  else
   .go (x12+1)
 else
  .out x12
def gg (q:Qd):Int :=
 fin (bZ (fun s=>fw q s) ((3 - 0)+1) 0) (fun s=>nj q s) (fun r=>r)
theorem ni (q:Qd) (zq:SzD 16 q) (w0:World) :Calls Tryz.prog 406 #[(vD q)] w0 (dh w0 (.int .i64 (gg q)) (True)):=by
 refine enter (N:=19) (args:=[(vD q)]) Tryz.func406 rfl rfl ?_; intro ac h
 obtain ⟨X1,hX1⟩:∃ X,bZ (fun s=>fw q s) ((3 - 0)+1) 0=X:=⟨_,rfl⟩
 refine gz h <| (xb) fun b1=>(xo (hs:=by exact pd (α:=GQ) (xs:=[.tmp 6,.tmp 8,.tmp 10]) (vs:=[(vQ q.c0),(vQ q.c1),(vQ q.c2)]) [q.c0,q.c1,q.c2] Tryz.zeroValue317 uu317 Tryz.sizeOf29 rfl rfl rfl)) <| (W) ?_; clear h ac; intro ac wo h
 refine wp_loop_ghost (fun n_ a_ w_=>∃ (x12:Nat),((3 - x12) < n_)∧(bZ (fun s=>fw q s) n_ x12=X1)∧(x12≤3)∧St w0 19 [(11,(.agg (flat [q.c0,q.c1,q.c2]).toArray)),(12,(.int .i64 ((x12:Nat):Int)))] [.blk b1 (cD q) 72] a_ w_) ((3 - 0)+1) ⟨0,og,hX1,og,h.rs⟩ ?_
 clear h ac wo; rintro n1 ac wo ⟨x12,hm1,hL1,hx12,h⟩
 obtain ⟨m1,rfl⟩:∃ m,n1=m+1:=⟨n1 - 1,by omega⟩
 refine gz h <| (ai) ?_ ?_ <;> clear h ac wo <;> intro ac wo h hc1
 ·
  have hd1:=of_decide_eq_true hc1
  refine gz h <| (xo (hs:=by exact vh (i:=x12) (us:=[q.c0,q.c1,q.c2]) (u:=(gt [q.c0,q.c1,q.c2] x12)) uu317 Tryz.sizeOf29 Tryz.isAgg29 rfl rfl og (iF (by simp; omega)) (v:=(vQ (gt [q.c0,q.c1,q.c2] x12))) rfl)) <| (xa) fun b2=>(xk (il (gt [q.c0,q.c1,q.c2] x12) (All.gt (All.cons zq.1 (All.cons zq.2.1 (All.cons zq.2.2 All.nil))) (su _)))) <| (ai) ?_ ?_ <;> clear h ac wo <;> intro ac wo h hc2
  ·
   have hq2:=hc2; try simp at hq2
   have hr1:=lh hL1 pt
   have hd:gg q=5:=pt
   refine gz h <| (W) ?_; clear h ac wo; intro ac wo h
   exact (rt h) (h.retP (by rw [hd] <;> rfl) trivial)
  ·
   have hq2:=hc2; try simp at hq2
   refine gz h <| (W) ?_; clear h ac wo; intro ac wo h
   have hg:=cZ hL1 pt
   exact az ⟨m1,og,_,og,hg,og,h.re [1]⟩
 ·
  have hd1:=of_decide_eq_false hc1
  have hx1:=eh hL1 pt
  have hd:gg q=0:=pt
  refine gz h <| (W) ?_; clear h ac wo; intro ac wo h
  exact (rt h) (h.retP (by rw [hd] <;> rfl) trivial)
attribute [irreducible] gg
def dr (f:Qd):Int :=
 (gg f)
theorem jA (f:Qd) (zf:SzD 30 f) (w0:World) :Calls Tryz.prog 402 #[(.agg #[]),(vD f)] w0 (dh w0 (.int .i64 (dr f)) (True)):=by
 refine enter (N:=7) (args:=[(.agg #[]),(vD f)]) Tryz.func402 rfl rfl ?_; intro ac h
 refine gz h <| (xb) fun b1=>(xb) fun b2=>(xk (ni f (fD zf og))) <| (W) ?_; clear h ac; intro ac wo h
 exact (rt h) (h.retP (by unfold dr; rfl) trivial)
attribute [irreducible] dr
def aJ (i:Iv):Bd :=
 (⟨i.lo,i.openLo⟩:Bd)
theorem gi (i:Iv) (zi:SzV 30 i) (w0:World) :Calls Tryz.prog 136 #[(vV i)] w0 (dh w0 (vW (aJ i)) (SzW 30 (aJ i))):=by
 refine enter (N:=8) (args:=[(vV i)]) Tryz.func136 rfl rfl ?_; intro ac h
 refine gz h <| (xb) fun b1=>(xa) fun b2=>(xo (hs:=by exact bX bld206 exs rfl (v:=(vW (⟨i.lo,i.openLo⟩:Bd))) rfl)) <| (W) ?_; clear h ac; intro ac wo h
 exact ret h rfl (.cell (v:=(vW (⟨i.lo,i.openLo⟩:Bd))) rfl (i:=0) rfl Tryz.isAgg199 Tryz.sizeOf199 rfl rfl rfl .nil) rfl (h.retP (by unfold aJ; rfl) (by unfold aJ; exact zi.1))
attribute [irreducible] aJ
def aI (i:Iv):Bd :=
 (⟨i.hi,(!i.openHi)⟩:Bd)
theorem gI (i:Iv) (zi:SzV 30 i) (w0:World) :Calls Tryz.prog 137 #[(vV i)] w0 (dh w0 (vW (aI i)) (SzW 30 (aI i))):=by
 refine enter (N:=9) (args:=[(vV i)]) Tryz.func137 rfl rfl ?_; intro ac h
 refine gz h <| (xb) fun b1=>(xa) fun b2=>(xo (hs:=by exact bX bld206 exs rfl (v:=(vW (⟨i.hi,(!i.openHi)⟩:Bd))) rfl)) <| (W) ?_; clear h ac; intro ac wo h
 exact ret h rfl (.cell (v:=(vW (⟨i.hi,(!i.openHi)⟩:Bd))) rfl (i:=0) rfl Tryz.isAgg199 Tryz.sizeOf199 rfl rfl rfl .nil) rfl (h.retP (by unfold aI; rfl) (by unfold aI; exact zi.2))
attribute [irreducible] aI
def bW (a:Bd) (b:Bd):Int :=
 bif ((ah a.at_ b.at_) != 0) then
  (ah a.at_ b.at_)
 else
  bif (a.behind == b.behind) then
   0
  else
   bif b.behind then
    (-1)
   else
    1
theorem im (a:Bd) (b:Bd) (za:SzW 30 a) (zb:SzW 30 b) (w0:World) :Calls Tryz.prog 135 #[(vW a),(vW b)] w0 (dh w0 (.int .i64 (bW a b)) ((-1≤(bW a b)∧(bW a b)≤1))):=by
 refine enter (N:=23) (args:=[(vW a),(vW b)]) Tryz.func135 rfl rfl ?_; intro ac h
 have p2:=ar ((aL a.at_ b.at_ 10 og za zb) w0)
 refine gz h <| (xb) fun b1=>(xb) fun b2=>(xk (aL a.at_ b.at_ 10 og za zb)) <| (ai) ?_ ?_ <;> clear h ac <;> intro ac wo h hc1
 ·
  have hq1:=hc1; try simp at hq1
  have hd:bW a b=(ah a.at_ b.at_):=pt
  refine gz h <| (W) ?_; clear h ac wo; intro ac wo h
  exact (rt h) (h.retP (by rw [hd] <;> rfl) (by rw [hd]; exact og))
 ·
  have hq1:=hc1; try simp at hq1
  refine gz h <| (xo (hs:=by exact yo Tryz.underlying4 rfl rfl)) <| (ai) ?_ ?_ <;> clear h ac wo <;> intro ac wo h hc2
  ·
   have hd2:=eq_of_beq hc2
   have hd:bW a b=0:=pt
   refine gz h <| (W) ?_; clear h ac wo; intro ac wo h
   exact (rt h) (h.retP (by rw [hd] <;> rfl) (by rw [hd]; exact og))
  ·
   have hd2:=ne_of_beq_false hc2
   refine gz h <| (ai) ?_ ?_ <;> clear h ac wo <;> intro ac wo h hc3
   ·
    have hq3:=hc3; try simp at hq3
    have hd:bW a b=(-1):=pt
    refine gz h <| (W) ?_; clear h ac wo; intro ac wo h
    exact (rt h) (h.retP (by rw [hd] <;> rfl) (by rw [hd]; exact og))
   ·
    have hq3:=hc3; try simp at hq3
    have hd:bW a b=1:=pt
    refine gz h <| (W) ?_; clear h ac wo; intro ac wo h
    exact (rt h) (h.retP (by rw [hd] <;> rfl) (by rw [hd]; exact og))
attribute [irreducible] bW
end Go.Sx
