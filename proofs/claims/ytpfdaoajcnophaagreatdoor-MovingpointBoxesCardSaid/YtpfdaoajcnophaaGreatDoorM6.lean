/- A part of the proof of movingpointBoxes. -/
import Derived.Test.YtpfdaoajcnophaaGreatDoorM5
import Derived.Test.YtpfdaoajcnophaaGreatDoorM3
import Derived.Test.YtpfdaoajcnophaaGreatDoorM4
import Derived.Test.YtpfdaoajcnophaaGreatDoorProg
set_option linter.unusedVariables false
set_option linter.unusedSimpArgs false
open Go.Proofs.Tryz renaming runUnderlying260 → uu260, runUnderlying3 → uu3, sizeOf332 → zz332
namespace Go.Sx
open Go Go.RowKit Go.Proofs
set_option maxRecDepth 100000
set_option maxHeartbeats 40000000
attribute [local irreducible] Code.wp wpList Rd Step ObS Ent
attribute [local irreducible] ao aL ah au ax bN
theorem mq (t x y:Int) (k:Nat) (hk:k≤40) (ht:-9223372036854775808≤t∧t≤9223372036854775807) (hx:-9223372036854775808≤x∧x≤9223372036854775807) (hy:-9223372036854775808≤y∧y≤9223372036854775807) (w0:World):Calls Tryz.prog 89 #[.int .i64 t,.int .i64 x,.int .i64 y] w0 (dE w0 (vSm (eC t x y)) (xi k (eC t x y))):=by
 refine enter (N:=15) (args:=[.int .i64 t,.int .i64 x,.int .i64 y]) Tryz.func89 rfl rfl ?_; intro ac h
 have c1:=cq t k hk ht
 have c2:=cq x k hk hx
 have c3:=cq y k hk hy
 refine gz h <| (xa) fun b1=>(xk c1) <| (xk c2) <| (xk c3) <| (W) ?_; clear h ac; intro ac wo h
 exact rtc 0 h (h.retP (u:=vSm (eC t x y)) rfl ⟨ap (c1 w0),ap (c2 w0),ap (c3 w0)⟩)
def exampleS:List Smp:=[eC 0 0 0,eC 2 4 0,eC 4 4 6]
theorem wT (w0:World):Calls Tryz.prog 99 #[] w0 (RetR w0 145 exampleS True):=by
 refine enter (N:=5) (args:=[]) Tryz.func99 rfl rfl ?_; intro ac h
 refine gz h <| (xk (mq 0 0 0 40 (by omega) (by omega) (by omega) (by omega))) <| (xk (mq 2 4 0 40 (by omega) (by omega) (by omega) (by omega))) <| (xk (mq 4 4 6 40 (by omega) (by omega) (by omega) (by omega))) <| (W) ?_; clear h ac; intro ac wo h
 refine nw h (dG (α:=Smp) (xs:=[.tmp 1,.tmp 2,.tmp 3]) (vs:=[vSm (eC 0 0 0),vSm (eC 2 4 0),vSm (eC 4 4 6)]) exampleS slt23 rfl rfl rfl (by decide)) rfl ?_; clear h ac wo; intro s1 ac wo _ h
 refine gz h <| (W) ?_; clear h ac wo; intro ac wo h
 exact (rt h) (h.retR 0 rfl trivial)
def bI (a:GI):Int:=if a.neg then -(a.mag:Int) else a.mag
theorem jc (a:GI) (hm:a.mag < 4611686018427387904) (w0:World):Calls Tryz.prog 119 #[vI a] w0 (dE w0 (.tuple #[.int .i64 (bI a),.bool true]) True):=by
 refine enter (N:=35) (args:=[vI a]) Tryz.func119 rfl rfl ?_; intro ac h
 have e:dL a.mag=(a.mag,true):=by rw [mh,if_pos (by omega)]
 have c1:∀ w0,Calls Tryz.prog 219 #[(.string (bs a.mag))] w0 (dE w0 (.tuple #[(.int .u64 (a.mag:Int)),(.bool true)]) True):=fun w0=>by
  have:=ip a.mag w0
  rw [e] at this; exact this
 refine gz h <| (xb) fun b1=>(xk c1) <| (ai) ?_ ?_ <;> clear h ac <;> intro ac wo h hc1
 · cases hc1
 refine gz h <| (ai) ?_ ?_ <;> clear h ac wo <;> intro ac wo h hc2
 ·
  obtain ⟨h1,h2⟩:=Bool.and_eq_true_iff.mp hc2
  have e3:bI a=-(a.mag:Int):=by unfold bI; rw [if_pos h1]
  rw [e3]
  refine gz h <| (xo (hs:=by exact r_neg rfl (r:=IntKind.u64.wrap (-(a.mag:Int))) rfl)) <| (xo (hs:=by exact bh uu260 uu3 rfl (r:=-(a.mag:Int)) (by rw [IntKind.wrap_u64,IntKind.wrap_i64]; omega))) <| (W) ?_; clear h ac wo; intro ac wo h
  exact (rt h) (h.retP rfl trivial)
 ·
  have h1:a.neg=false:=by
   have:decide ((a.mag:Int)≤9223372036854775808)=true:=decide_eq_true (by omega)
   rw [this,Bool.and_true] at hc2; exact hc2
  have e3:bI a=(a.mag:Int):=by unfold bI; rw [h1]; rfl
  rw [e3]
  refine gz h <| (ai) ?_ ?_ <;> clear h ac wo <;> intro ac wo h hc3
  · refine gz h <| (xo (hs:=by exact bh uu260 uu3 rfl (r:=(a.mag:Int)) (by rw [IntKind.wrap_i64]; omega))) <| (W) ?_; clear h ac wo; intro ac wo h
    exact (rt h) (h.retP rfl trivial)
  · have:decide ((a.mag:Int)≤9223372036854775807)=true:=decide_eq_true (by omega)
    rw [this,h1] at hc3; cases hc3
def cG (x:GR):GR:=⟨aE x.p,x.r,!decide (x.r=oQ) && !x.neg⟩
theorem pd (x:GR) (k:Nat) (hk:k≤40) (z:SzR k x) (w0:World):Calls Tryz.prog 227 #[vR x] w0 (dE w0 (vR (cG x)) (SzR k (cG x))):=by
 refine enter (N:=18) (args:=[vR x]) Tryz.func227 rfl rfl ?_; intro ac h
 have c1:=fc x.p k hk z.1
 refine gz h <| (xb) fun b1=>(xa) fun b2=>(dr1 (H:=[⟨.blk b2 (cR ⟨oQ,oQ,false⟩) 46,[(15,.con (.blk b2 (cR ⟨aE x.p,x.r,!decide (x.r=oQ) && !x.neg⟩) 46))]⟩,⟨_,[]⟩]) (hob:=(oK c1) <| (oX (h:=by exact fun _=>aQ (bK nv exs rfl (v:=vQ oQ) rfl))) <| (oX (h:=by exact fun _=>aQ (bK w8 exs rfl (v:=vR ⟨aE x.p,x.r,!decide (x.r=oQ) && !x.neg⟩) rfl))) <| oE)) <| (W) ?_; clear h ac; intro ac wo h
 exact rtc 0 h (h.retP (u:=vR (cG x)) rfl ⟨ap (c1 w0),z.2⟩)
attribute [irreducible] cG
def bO (x:GR):GI:=az (bc (cG x))
def Sm (_:GQ):Prop:=True
def eK (p q r:GQ):GR×Int :=
 bif decide (au r < 0) then (⟨oQ,oQ,false⟩,2)
 else bif (bJ r).2 then (⟨aq p (am q (bJ r).1),oQ,false⟩,0)
 else (⟨p,am (am q q) r,decide (au q < 0)⟩,0)
theorem nG (p q r:GQ) (k:Nat) (hk:k≤10) (zp:SzQ (k+6) p) (zq:SzQ (k+6) q) (zr:SzQ (k+6) r) (hr:Sm r) (z3:SzQ 30 r) (w0:World):Calls Tryz.prog 112 #[vQ p,vQ q,vQ r] w0 (dE w0 (.tuple #[vR (eK p q r).1,.int .i64 (eK p q r).2]) (SzR k (eK p q r).1)):=by
 refine enter (N:=36) (args:=[vQ p,vQ q,vQ r]) Tryz.func112 rfl rfl ?_; intro ac h
 have c1:=dl r
 have s1:=ap (c1 w0)
 have c2:=nc r z3
 have s2:=ap (c2 w0)
 refine gz h <| (xb) fun b1=>(xb) fun b2=>(xb) fun b3=>(xa) fun b4=>(xk c1) <| (ai) ?_ ?_ <;> clear h ac <;> intro ac wo h hc1
 ·
  have hd:eK p q r=(⟨oQ,oQ,false⟩,2):=by unfold eK; rw [hc1]; rfl
  rw [hd]
  refine gz h <| (xo (hs:=by exact bK w8 exs rfl (v:=vR ⟨oQ,oQ,false⟩) rfl)) <| (W) ?_; clear h ac wo; intro ac wo h
  exact qp 0 h (h.retP (u:=.tuple #[vR ⟨oQ,oQ,false⟩,.int .i64 2]) rfl ⟨⟨cX 0 (by decide) og,cX 0 (by decide) og⟩,⟨cX 0 (by decide) og,cX 0 (by decide) og⟩⟩)
 ·
  refine gz h <| (xk c2) <| (xa) fun b5=>(ai) ?_ ?_ <;> clear h ac wo <;> intro ac wo h hc2
  ·
   have hd:eK p q r=(⟨aq p (am q (bJ r).1),oQ,false⟩,0):=by unfold eK; rw [hc1,hc2]; rfl
   rw [hd]
   have c3:=bo q (bJ r).1 (k+4) og zq (cu s2 og)
   have s3:=ap (c3 w0)
   have c4:=bQ p (am q (bJ r).1) (k+1) og (cu zp og) s3
   have s4:=ap (c4 w0)
   refine gz h <| (dr1 (H:=[⟨_,[]⟩,⟨.blk b4 (cR ⟨oQ,oQ,false⟩) 46,[(6,.con (.blk b4 (cR ⟨aq p (am q (bJ r).1),oQ,false⟩) 46))]⟩,⟨_,[]⟩,⟨_,[]⟩,⟨_,[]⟩]) (hob:=(oK c3) <| (oK c4) <| (oX (h:=by exact fun _=>aQ (bK w8 exs rfl (v:=vR ⟨aq p (am q (bJ r).1),oQ,false⟩) rfl))) <| oE)) <| (W) ?_; clear h ac wo; intro ac wo h
   exact qp 1 h (h.retP (u:=.tuple #[vR ⟨aq p (am q (bJ r).1),oQ,false⟩,.int .i64 0]) rfl ⟨cu s4 og,⟨cX 0 (by decide) og,cX 0 (by decide) og⟩⟩)
  ·
   have hd:eK p q r=(⟨p,am (am q q) r,decide (au q < 0)⟩,0):=by unfold eK; rw [hc1,hc2]; rfl
   rw [hd]
   have c3:=bo q q (k+4) og zq zq
   have s3:=ap (c3 w0)
   have c4:=bo (am q q) r (k+2) og s3 (cu zr og)
   have s4:=ap (c4 w0)
   have c5:=dl q
   refine gz h <| (dr1 (H:=[⟨_,[]⟩,⟨.blk b4 (cR ⟨oQ,oQ,false⟩) 46,[(10,.con (.blk b4 (cR ⟨p,am (am q q) r,decide (au q < 0)⟩) 46))]⟩,⟨_,[]⟩,⟨_,[]⟩,⟨_,[]⟩]) (hob:=(oK c3) <| (oK c4) <| (oK c5) <| (oX (h:=by exact fun _=>aQ (bK w8 exs rfl (v:=vR ⟨p,am (am q q) r,decide (au q < 0)⟩) rfl))) <| oE)) <| (W) ?_; clear h ac wo; intro ac wo h
   exact qp 1 h (h.retP (u:=.tuple #[vR ⟨p,am (am q q) r,decide (au q < 0)⟩,.int .i64 0]) rfl ⟨cu zp og,cu s4 og⟩)
attribute [irreducible] eK
theorem sn (x:GR) (hf:∀ w0,Calls Tryz.prog 120 #[vR (cG x)] w0 (dE w0 (vI (bc (cG x))) (SzI 40 (bc (cG x))))) (z:SzR 36 x) (w0:World):Calls Tryz.prog 121 #[vR x] w0 (dE w0 (vI (bO x)) (SzI 40 (bO x))):=by
 refine enter (N:=7) (args:=[vR x]) Tryz.func121 rfl rfl ?_; intro ac h
 have c1:=pd x 36 og z
 have c3:=dV (bc (cG x)) 40 og (ap (hf w0))
 refine gz h <| (xb) fun b1=>(xa) fun b2=>(xk c1) <| (xk hf) <| (xk c3) <| (W) ?_; clear h ac; intro ac wo h
 exact rtc 0 h (h.retP (u:=vI (bO x)) rfl (ap (c3 w0)))
end Go.Sx
namespace Go.Sx
open Go Go.RowKit Go.Proofs
set_option maxRecDepth 100000
set_option maxHeartbeats 40000000
attribute [local irreducible] Code.wp wpList Rd Step ObS Ent
attribute [local irreducible] ao aL ah au ax bN
def bZ (a:Bd) (b:Bd):Iv :=
 (⟨a.at_,b.at_,a.behind,(!b.behind)⟩:Iv)
theorem j9 (a:Bd) (b:Bd) (za:SzW 30 a) (zb:SzW 30 b) (w0:World) :Calls Tryz.prog 269 #[(vW a),(vW b)] w0 (dE w0 (vV (bZ a b)) (SzV 30 (bZ a b))):=by
 refine enter (N:=15) (args:=[(vW a),(vW b)]) Tryz.func269 rfl rfl ?_; intro ac h
 refine gz h <| (xb) fun b1=>(xb) fun b2=>(xa) fun b3=>(xo (hs:=by exact bK mY exs rfl (v:=(vV (⟨a.at_,b.at_,a.behind,(!b.behind)⟩:Iv))) rfl)) <| (W) ?_; clear h ac; intro ac wo h
 exact ret h rfl (.cell (v:=(vV (⟨a.at_,b.at_,a.behind,(!b.behind)⟩:Iv))) rfl (i:=0) rfl Tryz.isAgg74 Tryz.sizeOf74 rfl rfl rfl .nil) rfl (h.retP (by unfold bZ; rfl) (by unfold bZ; exact ⟨za,zb⟩))
attribute [irreducible] bZ
def bW (x:Ev) (y:Ev):Int :=
 (bR x.at_ y.at_)
theorem iI (x:Ev) (y:Ev) (zx:SzE 30 x) (zy:SzE 30 y) (w0:World) :Calls Tryz.prog 268 #[(vE x),(vE y)] w0 (dE w0 (.int .i64 (bW x y)) ((-1≤(bW x y)∧(bW x y)≤1))):=by
 refine enter (N:=10) (args:=[(vE x),(vE y)]) Tryz.func268 rfl rfl ?_; intro ac h
 have c1:=iJ x.at_ y.at_ zx zy
 have s1:=Calls.pr (c1 w0)
 have p2:=s1
 refine gz h <| (xb) fun b1=>(xb) fun b2=>(xk (c1)) <| (W) ?_; clear h ac; intro ac wo h
 exact (rt h) (h.retP (by unfold bW; rfl) (by unfold bW; exact og))
attribute [irreducible] bW
def dz (a:Bool) (b:Bool):Bool :=
 (a && b)
theorem kT (a:Bool) (b:Bool) (w0:World) :Calls Tryz.prog 195 #[(.bool a),(.bool b)] w0 (dE w0 (.bool (dz a b)) (True)):=by
 refine enter (N:=9) (args:=[(.bool a),(.bool b)]) Tryz.func195 rfl rfl ?_; intro ac h
 refine gz h <| (W) ?_; clear h ac; intro ac wo h
 exact (rt h) (h.retP (by unfold dz; rfl) trivial)
attribute [irreducible] dz
def gP (data:List Ev) (a:Nat) (b:Nat) (i:Nat) (data1:List Ev):List Ev :=
 data1
def gO (data:List Ev) (a:Nat) (b:Nat) (i:Nat) (data1:List Ev) (j:Nat) (data2:List Ev):Nx (Nat×(List Ev)) (List Ev) :=
 .go ((i+1),data2)
def d4 (data:List Ev) (a:Nat) (b:Nat) (i:Nat) (data1:List Ev) (j:Nat) (data2:List Ev):Nx (Nat×(List Ev)) (List Ev) :=
 bif ((decide (((j:Nat):Int)>((a:Nat):Int))) && (decide ((bW (gt data2 j) (gt data2 (j - 1))) < 0))) then
  .go ((j - 1),((data2.set j (gt data2 (j - 1))).set (j - 1) (gt data2 j)))
 else
  .out (j,data2)
def d5 (data:List Ev) (a:Nat) (b:Nat) (i:Nat) (data1:List Ev):Nx (Nat×(List Ev)) (List Ev) :=
 bif (decide (((i:Nat):Int) < ((b:Nat):Int))) then
  fin (d7 (fun s=>d4 data a b i data1 s.1 s.2) (i+1) (i,data1)) (fun s=>gO data a b i data1 s.1 s.2) (fun r=>.ret r)
 else
  .out (i,data1)
def bB (data:List Ev) (a:Nat) (b:Nat):List Ev :=
 fin (d7 (fun s=>d5 data a b s.1 s.2) ((b+1 - (a+1))+1) ((a+1),data)) (fun s=>gP data a b s.1 s.2) (fun r=>r)
theorem gM (data:List Ev) (datav:Value) (a:Nat) (b:Nat) (hab:a≤b) (hb:b≤data.length) (hb2:b≤1000) (zdata:All (SzE 30) data) (w0 w:World) (B:Asn) (hbel:Below w0.heap.size w0 w) (hsep:∃ Z_,Sep w0.heap.size w [.row (α:=Ev) 332 datav data,B] Z_) :Calls Tryz.prog 335 #[datav,(.int .i64 ((a:Nat):Int)),(.int .i64 ((b:Nat):Int)),(.func (.func 268) #[] #[])] w (RetY w0 (fun v=>v=.tuple #[]∧(All (SzE 30) (bB data a b)∧(bB data a b).length=data.length)) (fun v=>[.row (α:=Ev) 332 datav (bB data a b),B])):=by
 refine lh (N:=53) (args:=[datav,(.int .i64 ((a:Nat):Int)),(.int .i64 ((b:Nat):Int)),(.func (.func 268) #[] #[])]) Tryz.func335 rfl rfl hbel hsep ?_; intro ac h
 have hlendata:=h.len 0 rfl
 obtain ⟨X1,hX1⟩:∃ X,d7 (fun s=>d5 data a b s.1 s.2) ((b+1 - (a+1))+1) ((a+1),data)=X:=⟨_,rfl⟩
 refine gz h <| (W) ?_; clear h ac; intro ac wo h
 refine wp_loop_ghost (fun n_ a_ w_=>∃ (i:Nat) (data1:List Ev),((b+1 - i) < n_)∧(d7 (fun s=>d5 data a b s.1 s.2) n_ (i,data1)=X1)∧(i≤b+1)∧(All (SzE 30) data1)∧(data1.length=data.length)∧St w0 53 [(0,datav),(1,(.int .i64 ((a:Nat):Int))),(2,(.int .i64 ((b:Nat):Int))),(3,(.func (.func 268) #[] #[])),(8,(.int .i64 ((i:Nat):Int)))] [.row (α:=Ev) 332 datav data1,B] a_ w_) ((b+1 - (a+1))+1) ⟨(a+1),data,og,hX1,og,zdata,og,h.rs⟩ ?_
 clear h ac wo; rintro n1 ac wo ⟨i,data1,hm1,hL1,hi,zdata1,hdl,h⟩
 obtain ⟨m1,rfl⟩:∃ m,n1=m+1:=⟨n1 - 1,by omega⟩
 refine gz h <| (ai) ?_ ?_ <;> clear h ac wo <;> intro ac wo h hc1
 ·
  have hd1:=of_decide_eq_true hc1
  obtain ⟨X2,hX2⟩:∃ X,d7 (fun s=>d4 data a b i data1 s.1 s.2) (i+1) (i,data1)=X:=⟨_,rfl⟩
  refine gz h <| (W) ?_; clear h ac wo; intro ac wo h
  refine wp_loop_ghost (fun n_ a_ w_=>∃ (j:Nat) (data2:List Ev),(j < n_)∧(d7 (fun s=>d4 data a b i data1 s.1 s.2) n_ (j,data2)=X2)∧(All (SzE 30) data2)∧(j≤i)∧(data2.length=data.length)∧St w0 53 [(0,datav),(1,(.int .i64 ((a:Nat):Int))),(2,(.int .i64 ((b:Nat):Int))),(3,(.func (.func 268) #[] #[])),(8,(.int .i64 ((i:Nat):Int))),(9,(.int .i64 ((j:Nat):Int)))] [.row (α:=Ev) 332 datav data2,B] a_ w_) (i+1) ⟨i,data1,og,hX2,zdata1,og,og,h.rs⟩ ?_
  clear h ac wo; rintro n2 ac wo ⟨j,data2,hm2,hL2,zdata2,hj,hdl2,h⟩
  obtain ⟨m2,rfl⟩:∃ m,n2=m+1:=⟨n2 - 1,by omega⟩
  refine gz h <| (W) ?_; clear h ac wo; intro ac wo h
  have s1:=Calls.pr ((fun w_ hB_ hS_=>iI (gt data2 j) (gt data2 (j - 1)) (All.gt zdata2 (tE _)) (All.gt zdata2 (tE _)) w_ ) _ h.bel h.sep)
  have p2:=s1
  refine gz h <| (dr0 (hob:=(oG (by exact fun hg=>iI (gt data2 j) (gt data2 (j - 1)) (All.gt zdata2 (tE _)) (All.gt zdata2 (tE _)))) <| oE)) <| (ai) ?_ ?_ <;> clear h ac wo <;> intro ac wo h hc2
  ·
   have hq2:=hc2; try simp at hq2
   refine gz h <| (dr1 (H:=[⟨.row (α:=Ev) 332 datav data2,[(15,.con (.row (α:=Ev) 332 datav (data2.set j (gt data2 (j - 1))))),(17,.con (.row (α:=Ev) 332 datav ((data2.set j (gt data2 (j - 1))).set (j - 1) (gt data2 j))))]⟩,⟨_,[]⟩]) (hob:=(oY (h:=by exact fun _=>kb (acc:=[0]) _ [.row (α:=Ev) 332 datav (data2.set j (gt data2 (j - 1)))] rfl rfl (ik (k:=0) (u':=(gt data2 (j - 1))) zz332 (nO og) rfl (Nat.add_zero _) rfl rfl rfl rfl rfl rfl))) <| (oY (h:=by exact fun _=>kb (acc:=[0]) _ [.row (α:=Ev) 332 datav ((data2.set j (gt data2 (j - 1))).set (j - 1) (gt data2 j))] rfl rfl (ik (k:=0) (u':=(gt data2 j)) zz332 (nO og) rfl (Nat.add_zero _) rfl rfl rfl rfl rfl rfl))) <| oE)) <| (W) ?_; clear h ac wo; intro ac wo h
   have hg:=fE hL2 pt
   exact aO ⟨m2,og,_,_,og,hg,(All.set (All.set zdata2 (All.gt zdata2 (tE _))) (All.gt zdata2 (tE _))),og,og,h.re [0,1]⟩
  ·
   have hq2:=hc2; try simp at hq2
   have hx2:=iT hL2 pt
   refine gz h <| (W) ?_; clear h ac wo; intro ac wo h
   have hg:=fE hL1 pt
   exact aO ⟨m1,og,_,_,og,hg,og,zdata2,og,h.re [0,1]⟩
 ·
  have hd1:=of_decide_eq_false hc1
  have hx1:=iT hL1 pt
  have hd:bB data a b=data1:=pt
  refine gz h <| (W) ?_; clear h ac wo; intro ac wo h
  exact pc (vs:=[]) h rfl .nil rfl ((h.pick [0,1] (by decide)).retY ⟨rfl,(by rw [hd]; exact ⟨zdata1,og⟩)⟩ (by rw [hd]; rfl))
attribute [irreducible] bB
def eA (a:Bool) (b:Bool):Bool :=
 (a || b)
theorem nk (a:Bool) (b:Bool) (w0:World) :Calls Tryz.prog 289 #[(.bool a),(.bool b)] w0 (dE w0 (.bool (eA a b)) (True)):=by
 refine enter (N:=9) (args:=[(.bool a),(.bool b)]) Tryz.func289 rfl rfl ?_; intro ac h
 refine gz h <| (W) ?_; clear h ac; intro ac wo h
 exact (rt h) (h.retP (by unfold eA; rfl) trivial)
attribute [irreducible] eA
def eB (a:Bool) (b:Bool):Bool :=
 (a && (!b))
theorem nl (a:Bool) (b:Bool) (w0:World) :Calls Tryz.prog 218 #[(.bool a),(.bool b)] w0 (dE w0 (.bool (eB a b)) (True)):=by
 refine enter (N:=10) (args:=[(.bool a),(.bool b)]) Tryz.func218 rfl rfl ?_; intro ac h
 refine gz h <| (W) ?_; clear h ac; intro ac wo h
 exact (rt h) (h.retP (by unfold eB; rfl) trivial)
attribute [irreducible] eB
end Go.Sx
namespace Go.Sx
open Go Go.RowKit Go.Proofs
set_option maxRecDepth 100000
set_option maxHeartbeats 40000000
attribute [local irreducible] Code.wp wpList Rd Step ObS Ent
attribute [local irreducible] ao aL ah au ax bN
def ce (data:List Ev) (a:Nat) (b:Nat) (limit:Int):List Ev :=
 (bB data a b)
theorem iW (data:List Ev) (datav:Value) (a:Nat) (b:Nat) (limit:Int) (hab:a≤b) (hb:b≤data.length) (hb2:b≤1000) (h12:b≤a+12) (zdata:All (SzE 30) data) (w0 w:World) (B:Asn) (hbel:Below w0.heap.size w0 w) (hsep:∃ Z_,Sep w0.heap.size w [.row (α:=Ev) 332 datav data,B] Z_) :Calls Tryz.prog 307 #[datav,(.int .i64 ((a:Nat):Int)),(.int .i64 ((b:Nat):Int)),(.int .i64 limit),(.func (.func 268) #[] #[])] w (RetY w0 (fun v=>v=.tuple #[]∧(All (SzE 30) (ce data a b limit)∧(ce data a b limit).length=data.length)) (fun v=>[.row (α:=Ev) 332 datav (ce data a b limit),B])):=by
 refine lh (N:=148) (args:=[datav,(.int .i64 ((a:Nat):Int)),(.int .i64 ((b:Nat):Int)),(.int .i64 limit),(.func (.func 268) #[] #[])]) Tryz.func307 rfl rfl hbel hsep ?_; intro ac h
 have hlendata:=h.len 0 rfl
 refine gz h <| (W) ?_; clear h ac; intro ac wo h
 refine r7 1 ?_
 refine gz h <| (xo (hs:=by exact gJ rfl rfl (r:=(((b - a):Nat):Int)) (by rw [IntKind.wrap_i64]; first | omega | grind))) <| (W) ?_; clear h ac wo; intro ac wo h
 refine c_ifT h rfl ?_ (decide_eq_true og)
 refine gz h <| (W) ?_; clear h ac wo; intro ac wo h
 refine on1 h 0 rfl (lU (vs:=[datav,(.int .i64 ((a:Nat):Int)),(.int .i64 ((b:Nat):Int)),(.func (.func 268) #[] #[])]) (A:=fun v=>[.row (α:=Ev) 332 datav (bB data a b)]) (dH Tryz.call335 rfl) (fun w_ B_ hB_ hS_=>gM data datav a b og og og zdata w0 w_ B_ hB_ hS_ )) rfl ?_; clear h ac wo; intro vc ac wo s2 h
 obtain rfl:vc=_:=s2.1
 have p3:=s2.2.2
 refine gz h <| (W) ?_; clear h ac wo; intro ac wo h
 replace h:=h.sub (F':=[]) trivial
 have hd:ce data a b limit=(bB data a b):=rfl
 refine gz h <| (W) ?_; clear h ac wo; intro ac wo h
 exact ret (vs:=[]) h rfl .nil rfl ((h.pick [0,1] (by decide)).retY ⟨rfl,(by rw [hd]; exact ⟨s2.2.1,og⟩)⟩ (by rw [hd]; rfl))
attribute [irreducible] ce
end Go.Sx
namespace Go.Sx
open Go Go.RowKit Go.Proofs
set_option maxRecDepth 100000
set_option maxHeartbeats 40000000
attribute [local irreducible] Code.wp wpList Rd Step ObS Ent
attribute [local irreducible] ao aL ah au ax bN
def fK (x:Nat):Int :=
 ((Lib.bitLen x:Nat):Int)
theorem nW (x:Nat) (hx:x < 18446744073709551616) (w0:World) :Calls Tryz.prog 308 #[(.int .u64 ((x:Nat):Int))] w0 (dE w0 (.int .i64 (fK x)) (True)):=by
 refine enter (N:=8) (args:=[(.int .u64 ((x:Nat):Int))]) Tryz.func308 rfl rfl ?_; intro ac h
 refine gz h <| (W) ?_; clear h ac; intro ac wo h
 refine aau h rfl ?_
 refine gz h <| (xk (v7 x (by assumption))) <| (W) ?_; clear h ac wo; intro ac wo h
 exact (rt h) (h.retP (by unfold fK; rfl) trivial)
attribute [irreducible] fK
def ch (x:List Ev):List Ev :=
 (ce x 0 x.length (fK x.length))
theorem iX (x:List Ev) (xv:Value) (hl:x.length≤12) (zx:All (SzE 30) x) (w0 w:World) (B:Asn) (hbel:Below w0.heap.size w0 w) (hsep:∃ Z_,Sep w0.heap.size w [.row (α:=Ev) 332 xv x,B] Z_) :Calls Tryz.prog 267 #[xv,(.func (.func 268) #[] #[])] w (RetY w0 (fun v=>v=.tuple #[]∧(All (SzE 30) (ch x)∧(ch x).length=x.length)) (fun v=>[.row (α:=Ev) 332 xv (ch x),B])):=by
 refine lh (N:=14) (args:=[xv,(.func (.func 268) #[] #[])]) Tryz.func267 rfl rfl hbel hsep ?_; intro ac h
 have hlenx:=h.len 0 rfl
 refine gz h <| (xo (hs:=by exact bh uu3 Tryz.runUnderlying348 rfl (r:=((x.length:Nat):Int)) (by rw [IntKind.wrap_u64]; first | omega | grind))) <| (xk (nW x.length og)) <| (W) ?_; clear h ac; intro ac wo h
 refine on1 h 0 rfl (lU (vs:=[xv,(.int .i64 0),(.int .i64 ((x.length:Nat):Int)),(.int .i64 (fK x.length)),(.func (.func 268) #[] #[])]) (A:=fun v=>[.row (α:=Ev) 332 xv (ce x 0 x.length (fK x.length))]) (dH Tryz.call307 rfl) (fun w_ B_ hB_ hS_=>iW x xv 0 x.length (fK x.length) og og og og zx w0 w_ B_ hB_ hS_ )) rfl ?_; clear h ac wo; intro vc ac wo s2 h
 obtain rfl:vc=_:=s2.1
 have p3:=s2.2.2
 have hd:ch x=(ce x 0 x.length (fK x.length)):=rfl
 refine gz h <| (W) ?_; clear h ac wo; intro ac wo h
 exact pc (vs:=[]) h rfl .nil rfl ((h.pick [0,1] (by decide)).retY ⟨rfl,(by rw [hd]; exact ⟨s2.2.1,og⟩)⟩ (by rw [hd]; rfl))
attribute [irreducible] ch
end Go.Sx
namespace Go.Sx
def kB [K:Key] (b:Bd):Nat:=2*tk b.at_+(bif b.behind then 1 else 0)
theorem bb (b:Bool):(bif b then 1 else 0:Nat)≤1:=by cases b <;> decide
theorem cmpB [K:Key] {a b:Bd} (ha:Tm a.at_) (hb:Tm b.at_):bR a b=sgn (kB a) (kB b):=by
 unfold bR kB
 rw [ha.cmp hb]
 have h1:=bb a.behind
 have h2:=bb b.behind
 rcases Nat.lt_trichotomy (tk a.at_) (tk b.at_) with e | e | e
 · rw [je e,je (by omega)]; rfl
 · rw [e,fY]
   cases a.behind <;> cases b.behind
   · rw [fY]; rfl
   · rw [je (by simp)]; rfl
   · rw [jI (by simp)]; rfl
   · rw [fY]; rfl
 · rw [jI e,jI (by omega)]; rfl
theorem kB_inj [K:Key] {a b:Bd} (ha:Tm a.at_) (hb:Tm b.at_) (h:kB a=kB b):a=b:=by
 unfold kB at h
 have h1:=bb a.behind
 have h2:=bb b.behind
 have e:tk a.at_=tk b.at_:=by omega
 have e2:=(ha.inj hb).1 e
 have e3:a.behind=b.behind:=by
  rw [e] at h
  cases ha:a.behind <;> cases hb:b.behind <;> rw [ha,hb] at h <;> simp at h <;> rfl
 obtain ⟨x,y⟩:=a
 obtain ⟨z,w⟩:=b
 simp only at e2 e3
 rw [e2,e3]
theorem pf (i:Iv):aN i=⟨i.lo,i.openLo⟩:=by unfold aN; rfl
theorem pl (i:Iv):aG i=⟨i.hi,!i.openHi⟩:=by unfold aG; rfl
theorem lE [K:Key] (i:Iv):kB (aN i)=eW i:=by rw [pf]; rfl
theorem l9 [K:Key] (i:Iv):(kB (aG i):Int)=fg i+1:=by
 unfold kB aG fg
 simp only
 cases i.openHi <;> simp <;> omega
theorem Wv.bd [K:Key] {i:Iv} (h:Wv i):kB (aN i) < kB (aG i):=by
 have h1:=h.le
 have h2:=l9 i
 rw [lE]; omega
theorem wv_of [K:Key] {i:Iv} (h:Tv i) (hlt:kB (aN i) < kB (aG i)):Wv i:=by
 rw [pf,pl] at hlt
 have hlt:2*tk i.lo+(bif i.openLo then 1 else 0) < 2*tk i.hi+(bif !i.openHi then 1 else 0):=hlt
 have h1:=bb i.openLo
 have h2:=bb (!i.openHi)
 refine ⟨h,by omega,fun e=>?_⟩
 rw [e] at hlt
 revert hlt
 cases i.openLo <;> cases i.openHi <;> simp
theorem rT (a b:Bd):aN (bZ a b)=a:=by
 unfold aN bZ; rfl
theorem uD (a b:Bd):aG (bZ a b)=b:=by
 unfold aG bZ
 simp only [Bool.not_not]
theorem iv_ext [K:Key] {i j:Iv} (hi:Tv i) (hj:Tv j) (h1:kB (aN i)=kB (aN j)) (h2:kB (aG i)=kB (aG j)):i=j:=by
 have e1:=kB_inj (a:=aN i) (b:=aN j) (by rw [pf]; exact hi.1) (by rw [pf]; exact hj.1) h1
 have e2:=kB_inj (a:=aG i) (b:=aG j) (by rw [pl]; exact hi.2) (by rw [pl]; exact hj.2) h2
 rw [pf,pf,Bd.mk.injEq] at e1
 rw [pl,pl,Bd.mk.injEq] at e2
 obtain ⟨lo,hi',ol,oh⟩:=i
 obtain ⟨lo2,hi2,ol2,oh2⟩:=j
 simp only at e1 e2
 obtain ⟨rfl,rfl⟩:=e1
 obtain ⟨rfl,e3⟩:=e2
 rw [show oh=oh2 by cases oh <;> cases oh2 <;> first | rfl | cases e3]
end Go.Sx
namespace Go.Sx
def inI [K:Key] (i:Iv) (x:Nat):Prop:=kB (aN i)≤x∧x < kB (aG i)
def inP [K:Key] (p:List Iv) (x:Nat):Prop:=∃ i∈p,inI i x
structure Cn [K:Key] (p:List Iv):Prop where
 wv:∀ i∈p,Wv i
 sep:p.Pairwise fun i j=>kB (aG i) < kB (aN j)
theorem md [K:Key] (x:Nat):¬ inP [] x:=fun ⟨_,h,_⟩=>by cases h
theorem dY [K:Key] {i:Iv} {p:List Iv} {x:Nat}:inP (i::p) x↔inI i x∨inP p x:=by
 constructor
 · rintro ⟨j,hj,h⟩
   rcases List.mem_cons.1 hj with rfl | hj
   · exact .inl h
   · exact .inr ⟨j,hj,h⟩
 · rintro (h | ⟨j,hj,h⟩)
   · exact ⟨i,List.mem_cons_self ..,h⟩
   · exact ⟨j,List.mem_cons_of_mem _ hj,h⟩
theorem inP_app [K:Key] {p q:List Iv} {x:Nat}:inP (p++q) x↔inP p x∨inP q x:=by
 constructor
 · rintro ⟨j,hj,h⟩
   rcases List.mem_append.1 hj with hj | hj
   · exact .inl ⟨j,hj,h⟩
   · exact .inr ⟨j,hj,h⟩
 · rintro (⟨j,hj,h⟩ | ⟨j,hj,h⟩)
   · exact ⟨j,List.mem_append_left _ hj,h⟩
   · exact ⟨j,List.mem_append_right _ hj,h⟩
theorem Cn.nil [K:Key]:Cn []:=⟨fun _ h=>(by cases h),List.Pairwise.nil⟩
theorem Cn.tail [K:Key] {i:Iv} {p:List Iv} (h:Cn (i::p)):Cn p∧(∀ j∈p,kB (aG i) < kB (aN j))∧Wv i:=by
 have h2:=List.pairwise_cons.1 h.sep
 exact ⟨⟨fun j hj=>h.wv j (List.mem_cons_of_mem _ hj),h2.2⟩,h2.1,h.wv i (List.mem_cons_self ..)⟩
theorem Cn.behind [K:Key] {i:Iv} {p:List Iv} (h:Cn (i::p)) {x:Nat} (hx:inP p x):kB (aG i) < x:=by
 obtain ⟨j,hj,h1,_⟩:=hx
 have:=h.tail.2.1 j hj
 omega
theorem Cn.ext [K:Key]:∀ {p q:List Iv},Cn p→Cn q→(∀ x,inP p x↔inP q x)→p=q
 | [],[],_,_,_=>rfl
 | [],j::q,_,hq,h=>absurd ((h _).2 (dY.2 (.inl ⟨Nat.le_refl _,(hq.tail.2.2).bd⟩))) (md _)
 | i::p,[],hp,_,h=>absurd ((h _).1 (dY.2 (.inl ⟨Nat.le_refl _,(hp.tail.2.2).bd⟩))) (md _)
 | i::p,j::q,hp,hq,h=>by
  have wi:=hp.tail.2.2
  have wj:=hq.tail.2.2
  have bi:=wi.bd
  have bj:=wj.bd
  have f1:kB (aN j)≤kB (aN i):=by
   rcases dY.1 ((h _).1 (dY.2 (.inl ⟨Nat.le_refl _,bi⟩))) with h1 | h1
   · exact h1.1
   · have:=hq.behind h1; omega
  have f2:kB (aN i)≤kB (aN j):=by
   rcases dY.1 ((h _).2 (dY.2 (.inl ⟨Nat.le_refl _,bj⟩))) with h1 | h1
   · exact h1.1
   · have:=hp.behind h1; omega
  have l1:¬ kB (aG i) < kB (aG j):=fun hl=>by
   rcases dY.1 ((h (kB (aG i))).2 (dY.2 (.inl ⟨by omega,hl⟩))) with h1 | h1
   · have:=h1.2; omega
   · have:=hp.behind h1; omega
  have l2:¬ kB (aG j) < kB (aG i):=fun hl=>by
   rcases dY.1 ((h (kB (aG j))).1 (dY.2 (.inl ⟨by omega,hl⟩))) with h1 | h1
   · have:=h1.2; omega
   · have:=hq.behind h1; omega
  have e:i=j:=iv_ext wi.1 wj.1 (by omega) (by omega)
  subst e
  rw [Cn.ext hp.tail.1 hq.tail.1 fun x=>⟨fun hx=>?_,fun hx=>?_⟩]
  · rcases dY.1 ((h x).1 (dY.2 (.inr hx))) with h1 | h1
    · have:=hp.behind hx; have:=h1.2; omega
    · exact h1
  · rcases dY.1 ((h x).2 (dY.2 (.inr hx))) with h1 | h1
    · have:=hq.behind hx; have:=h1.2; omega
    · exact h1
def sm [K:Key] (c:Ev→Int):List Ev→Nat→Int
 | [],_=>0
 | e::r,x=>(if kB e.at_≤x then c e else 0)+sm c r x
def rs (c:Ev→Int):List Ev→Int
 | []=>0
 | e::r=>c e+rs c r
variable {c:Ev→Int}
theorem xT [K:Key] (a b:List Ev) (x:Nat):sm c (a++b) x=sm c a x+sm c b x:=by
 induction a with
 | nil=>show sm c b x=0+sm c b x; omega
 | cons e a ih=>show (if kB e.at_≤x then c e else 0)+sm c (a++b) x=(if kB e.at_≤x then c e else 0)+sm c a x+sm c b x; rw [ih]; omega
theorem uV (a b:List Ev):rs c (a++b)=rs c a+rs c b:=by
 induction a with
 | nil=>show rs c b=0+rs c b; omega
 | cons e a ih=>show c e+rs c (a++b)=c e+rs c a+rs c b; rw [ih]; omega
theorem xS [K:Key] {a b:List Ev} (h:a.Perm b) (x:Nat):sm c a x=sm c b x:=by
 induction h with
 | nil=>rfl
 | cons e _ ih=>show _+_=_+_; rw [ih]
 | swap e e' l=>show (if kB e'.at_≤x then c e' else 0)+((if kB e.at_≤x then c e else 0)+sm c l x)=(if kB e.at_≤x then c e else 0)+((if kB e'.at_≤x then c e' else 0)+sm c l x); omega
 | trans _ _ h1 h2=>rw [h1,h2]
theorem yr {a b:List Ev} (h:a.Perm b):rs c a=rs c b:=by
 induction h with
 | nil=>rfl
 | cons e _ ih=>show _+_=_+_; rw [ih]
 | swap e e' l=>show c e'+(c e+rs c l)=c e+(c e'+rs c l); omega
 | trans _ _ h1 h2=>rw [h1,h2]
theorem xU [K:Key] {a:List Ev} {x:Nat} (h:∀ e∈a,kB e.at_≤x):sm c a x=rs c a:=by
 induction a with
 | nil=>rfl
 | cons e a ih =>
  show (if kB e.at_≤x then c e else 0)+sm c a x=c e+rs c a
  rw [if_pos (h e (List.mem_cons_self ..)),ih fun e' he=>h e' (List.mem_cons_of_mem _ he)]
theorem tM [K:Key] {a:List Ev} {x:Nat} (h:∀ e∈a,x < kB e.at_):sm c a x=0:=by
 induction a with
 | nil=>rfl
 | cons e a ih =>
  show (if kB e.at_≤x then c e else 0)+sm c a x=0
  rw [if_neg (by have:=h e (List.mem_cons_self ..); omega),ih fun e' he=>h e' (List.mem_cons_of_mem _ he)]
  rfl
def far [K:Key]:List Ev→Nat
 | []=>0
 | e::r=>kB e.at_+far r
theorem zV [K:Key]:∀ {a:List Ev},∀ e∈a,kB e.at_≤far a
 | [],_,h=>by cases h
 | e'::a,e,h=>by
  rcases List.mem_cons.1 h with rfl | h
  · exact Nat.le_add_right _ _
  · exact Nat.le_trans (zV e h) (Nat.le_add_left _ _)
def nxe (e:Ev):List Ev→Bool
 | []=>false
 | e2::_=>bR e.at_ e2.at_ == 0
def swS (keep:Bool→Bool→Bool):List Ev→List Iv→Bool→Bd→Int→Int→List Iv
 | [],out,_,_,_,_=>out
 | e::r,out,in_,fr,n0,n1 =>
  bif (nxe e r) then swS keep r out in_ fr (n0+e.b0) (n1+e.b1)
  else bif (keep (decide (n0+e.b0>0)) (decide (n1+e.b1>0))) && !in_ then swS keep r out (keep (decide (n0+e.b0>0)) (decide (n1+e.b1>0))) e.at_ (n0+e.b0) (n1+e.b1)
  else bif (!(keep (decide (n0+e.b0>0)) (decide (n1+e.b1>0)))) && in_ then swS keep r (out++[bZ fr e.at_]) (keep (decide (n0+e.b0>0)) (decide (n1+e.b1>0))) fr (n0+e.b0) (n1+e.b1)
  else swS keep r out (keep (decide (n0+e.b0>0)) (decide (n1+e.b1>0))) fr (n0+e.b0) (n1+e.b1)
theorem eqz [K:Key] {a b:Bd} (ha:Tm a.at_) (hb:Tm b.at_):(bR a b == 0)=decide (kB a=kB b):=by
 rw [cmpB ha hb]
 by_cases e:kB a=kB b
 · rw [e,fY,decide_eq_true rfl]; rfl
 · rw [decide_eq_false e]
   exact beq_eq_false_iff_ne.2 fun h=>e (sgn_zero.1 h)
theorem not_in [K:Key] {out:List Iv} {y x:Nat} (h:∀ i∈out,kB (aG i) < y) (hx:y≤x):¬ inP out x:=fun ⟨i,hi,_,h2⟩=>by have:=h i hi; omega
def b0c:Ev→Int:=fun e=>e.b0
def b1c:Ev→Int:=fun e=>e.b1
theorem xL [K:Key] {keep:Bool→Bool→Bool} {S:List Ev} (hT:∀ e∈S,Tm e.at_.at_) (hs:S.Pairwise fun a b=>kB a.at_≤kB b.at_) (hend:keep (decide (rs b0c S>0)) (decide (rs b1c S>0))=false) :
 ∀ (s p:List Ev) (out:List Iv) (in_:Bool) (fr:Bd) (n0 n1:Int),S=p++s→n0=rs b0c p→n1=rs b1c p →
  (∀ x,(∀ e∈s,x < kB e.at_)→((inP out x∨(in_=true∧kB fr≤x))↔keep (decide (sm b0c S x>0)) (decide (sm b1c S x>0))=true)) →
  Cn out→(∀ i∈out,∀ e∈s,kB (aG i) < kB e.at_) →
  (in_=true→Tm fr.at_∧(∀ e∈s,kB fr < kB e.at_)∧∀ i∈out,kB (aG i) < kB fr) →
  Cn (swS keep s out in_ fr n0 n1)∧∀ x,inP (swS keep s out in_ fr n0 n1) x↔keep (decide (sm b0c S x>0)) (decide (sm b1c S x>0))=true
 | [],p,out,in_,fr,n0,n1,hS,_,_,hR,hC,_,hI=>by
  refine ⟨hC,fun x=>?_⟩
  show inP out x↔_
  cases in_ with
  | false =>
   rw [← hR x (fun _ h=>by cases h)]
   exact ⟨.inl,fun h=>h.resolve_right fun h=>by cases h.1⟩
  | true =>
   exfalso
   have h1:=(hR (kB fr+far S) (fun _ h=>by cases h)).1 (.inr ⟨rfl,Nat.le_add_right _ _⟩)
   rw [xU (fun e he=>Nat.le_trans (zV e he) (Nat.le_add_left _ _)),xU (fun e he=>Nat.le_trans (zV e he) (Nat.le_add_left _ _)),hend] at h1
   cases h1
 | e::r,p,out,in_,fr,n0,n1,hS,hn0,hn1,hR,hC,hL,hI=>by
  have hS2:S=(p++[e])++r:=by rw [hS]; simp
  have hTe:=hT e (by rw [hS]; simp)
  have hm0:n0+e.b0=rs b0c (p++[e]):=by rw [uV,hn0]; show _=rs b0c p+(e.b0+0); omega
  have hm1:n1+e.b1=rs b1c (p++[e]):=by rw [uV,hn1]; show _=rs b1c p+(e.b1+0); omega
  have hs2:=hs
  rw [hS2,List.pairwise_append] at hs2
  have hpe:∀ e'∈p++[e],kB e'.at_≤kB e.at_:=fun e' he'=>by
   have h1:=hs
   rw [hS,List.pairwise_append] at h1
   rcases List.mem_append.1 he' with h2 | h2
   · exact h1.2.2 e' h2 e (List.mem_cons_self ..)
   · rw [List.mem_singleton.1 h2]; exact Nat.le_refl _
  have her:∀ e'∈r,kB e.at_≤kB e'.at_:=fun e' he'=>hs2.2.2 e (by simp) e' he'
  cases ht:nxe e r with
  | true =>
   obtain ⟨e2,r2,rfl⟩:∃ e2 r2,r=e2::r2:=by
    cases r with
    | nil=>cases ht
    | cons e2 r2=>exact ⟨e2,r2,rfl⟩
   have hk:kB e.at_=kB e2.at_:=by
    have ht:(bR e.at_ e2.at_ == 0)=true:=ht
    rw [eqz hTe (hT e2 (by rw [hS]; simp)),decide_eq_true_eq] at ht
    exact ht
   rw [show swS keep (e::e2::r2) out in_ fr n0 n1=swS keep (e2::r2) out in_ fr (n0+e.b0) (n1+e.b1) by
    show (bif (nxe e (e2::r2)) then _ else _)=_
    rw [ht]; rfl]
   refine xL hT hs hend (e2::r2) (p++[e]) out in_ fr _ _ hS2 hm0 hm1 (fun x hx=>hR x fun e' he'=>?_) hC (fun i hi e' he'=>hL i hi e' (List.mem_cons_of_mem _ he')) (fun hin=>⟨(hI hin).1,fun e' he'=>(hI hin).2.1 e' (List.mem_cons_of_mem _ he'),(hI hin).2.2⟩)
   rcases List.mem_cons.1 he' with rfl | he'
   · rw [hk]; exact hx e2 (List.mem_cons_self ..)
   · exact hx e' he'
  | false =>
   have hgt:∀ e'∈r,kB e.at_ < kB e'.at_:=fun e' he'=>by
    cases r with
    | nil=>cases he'
    | cons e2 r2 =>
     have ht:(bR e.at_ e2.at_ == 0)=false:=ht
     rw [eqz hTe (hT e2 (by rw [hS]; simp)),decide_eq_false_iff_not] at ht
     have h1:=her e2 (List.mem_cons_self ..)
     have h2:=List.pairwise_cons.1 hs2.2.1
     rcases List.mem_cons.1 he' with rfl | he'
     · omega
     · have:=h2.1 e' he'; omega
   have hK:∀ x,kB e.at_≤x→(∀ e'∈r,x < kB e'.at_)→keep (decide (sm b0c S x>0)) (decide (sm b1c S x>0))=keep (decide (n0+e.b0>0)) (decide (n1+e.b1>0)):=fun x h1 h2=>by
    have q:∀ c:Ev→Int,sm c S x=rs c (p++[e]):=fun c=>by
     rw [hS2,xT,xU (fun e' he'=>Nat.le_trans (hpe e' he') h1),tM h2]; omega
    rw [q,q,hm0,hm1]
   have hlow:∀ x,x < kB e.at_→∀ e'∈e::r,x < kB e'.at_:=fun x hx e' he'=>by
    rcases List.mem_cons.1 he' with rfl | he'
    · exact hx
    · have:=her e' he'; omega
   have hLe:∀ i∈out,kB (aG i) < kB e.at_:=fun i hi=>hL i hi e (List.mem_cons_self ..)
   have hLr:∀ i∈out,∀ e'∈r,kB (aG i) < kB e'.at_:=fun i hi e' he'=>hL i hi e' (List.mem_cons_of_mem _ he')
   have ih:=fun out in_ fr=>xL hT hs hend r (p++[e]) out in_ fr _ _ hS2 hm0 hm1
   rw [show swS keep (e::r) out in_ fr n0 n1=bif (keep (decide (n0+e.b0>0)) (decide (n1+e.b1>0))) && !in_ then swS keep r out (keep (decide (n0+e.b0>0)) (decide (n1+e.b1>0))) e.at_ (n0+e.b0) (n1+e.b1)
    else bif (!(keep (decide (n0+e.b0>0)) (decide (n1+e.b1>0)))) && in_ then swS keep r (out++[bZ fr e.at_]) (keep (decide (n0+e.b0>0)) (decide (n1+e.b1>0))) fr (n0+e.b0) (n1+e.b1)
    else swS keep r out (keep (decide (n0+e.b0>0)) (decide (n1+e.b1>0))) fr (n0+e.b0) (n1+e.b1) by
    show (bif (nxe e r) then _ else _)=_
    rw [ht]; rfl]
   revert hK
   generalize keep (decide (n0+e.b0>0)) (decide (n1+e.b1>0))=now
   intro hK
   have hall:∀ x,x < kB e.at_∨kB e.at_≤x:=fun x=>Nat.lt_or_ge x _
   cases now with
   | true =>
    cases in_ with
    | false =>
     refine ih out true e.at_ (fun x hx=>?_) hC hLr (fun _=>⟨hTe,hgt,hLe⟩)
     rcases hall x with h1 | h1
     · rw [← hR x (hlow x h1)]
       exact ⟨fun h=>.inl (h.resolve_right fun h=>by have:=h.2; omega),fun h=>.inl (h.resolve_right fun h=>by cases h.1)⟩
     · rw [hK x h1 hx]
       exact ⟨fun _=>rfl,fun _=>.inr ⟨rfl,h1⟩⟩
    | true =>
     obtain ⟨i1,i2,i3⟩:=hI rfl
     refine ih out true fr (fun x hx=>?_) hC hLr (fun _=>⟨i1,fun e' he'=>i2 e' (List.mem_cons_of_mem _ he'),i3⟩)
     rcases hall x with h1 | h1
     · exact hR x (hlow x h1)
     · rw [hK x h1 hx]
       have:=i2 e (List.mem_cons_self ..)
       exact ⟨fun _=>rfl,fun _=>.inr ⟨rfl,by omega⟩⟩
   | false =>
    cases in_ with
    | false =>
     refine ih out false fr (fun x hx=>?_) hC hLr (fun h=>by cases h)
     rcases hall x with h1 | h1
     · exact hR x (hlow x h1)
     · rw [hK x h1 hx]
       exact ⟨fun h=>h.elim (fun h=>absurd h (not_in hLe h1)) fun h=>(by cases h.1),fun h=>(by cases h)⟩
    | true =>
     obtain ⟨i1,i2,i3⟩:=hI rfl
     have hfe:=i2 e (List.mem_cons_self ..)
     have hin:∀ x,inI (bZ fr e.at_) x↔(kB fr≤x∧x < kB e.at_):=fun x=>by unfold inI; rw [rT,uD]
     have hw:Wv (bZ fr e.at_):=by
      refine wv_of ⟨?_,?_⟩ (by rw [rT,uD]; exact hfe)
      · unfold bZ; exact i1
      · unfold bZ; exact hTe
     refine ih (out++[bZ fr e.at_]) false fr (fun x hx=>?_) ⟨fun i hi=>?_,?_⟩ (fun i hi e' he'=>?_) (fun h=>by cases h)
     · have hx2:inP (out++[bZ fr e.at_]) x↔inP out x∨(kB fr≤x∧x < kB e.at_):=by
        rw [inP_app,dY,hin]
        exact ⟨fun h=>h.imp id fun h=>h.resolve_right (md x),fun h=>h.imp id .inl⟩
       rw [hx2]
       rcases hall x with h1 | h1
       · rw [← hR x (hlow x h1)]
         constructor
         · rintro ((h | h) | h)
           · exact .inl h
           · exact .inr ⟨rfl,h.1⟩
           · cases h.1
         · rintro (h | h)
           · exact .inl (.inl h)
           · exact .inl (.inr ⟨h.2,h1⟩)
       · rw [hK x h1 hx]
         constructor
         · rintro ((h | h) | h)
           · exact absurd h (not_in hLe h1)
           · omega
           · cases h.1
         · intro h; cases h
     · rcases List.mem_append.1 hi with hi | hi
       · exact hC.wv i hi
       · rw [List.mem_singleton.1 hi]; exact hw
     · rw [List.pairwise_append]
       refine ⟨hC.sep,List.pairwise_singleton _ _,fun i hi j hj=>?_⟩
       rw [List.mem_singleton.1 hj,rT]
       exact i3 i hi
     · rcases List.mem_append.1 hi with hi | hi
       · exact hLr i hi e' he'
       · rw [List.mem_singleton.1 hi,uD]
         exact hgt e' he'
def evA (a:List Iv):List Ev:=a.flatMap fun i=>[⟨aN i,1,0⟩,⟨aG i,-1,0⟩]
def evB (b:List Iv):List Ev:=b.flatMap fun i=>[⟨aN i,0,1⟩,⟨aG i,0,-1⟩]
theorem vM [K:Key] {i:Iv} (h:Wv i) (x:Nat):(if kB (aN i)≤x then (1:Int) else 0)+((if kB (aG i)≤x then (-1:Int) else 0))=if kB (aN i)≤x∧x < kB (aG i) then 1 else 0:=by
 have:=h.bd
 by_cases h1:kB (aN i)≤x
 · by_cases h2:kB (aG i)≤x
   · rw [if_pos h1,if_pos h2,if_neg (by omega)]; rfl
   · rw [if_pos h1,if_neg h2,if_pos ⟨h1,by omega⟩]; rfl
 · rw [if_neg h1,if_neg (by omega),if_neg (by omega)]; rfl
theorem evA_sm [K:Key]:∀ {a:List Iv},(∀ i∈a,Wv i)→∀ x,0≤sm b0c (evA a) x∧(0 < sm b0c (evA a) x↔inP a x)
 | [],_,x=>⟨Int.le_refl _,⟨fun h=>absurd h (Int.lt_irrefl _),fun h=>absurd h (md x)⟩⟩
 | i::a,h,x=>by
  obtain ⟨h1,h2⟩:=evA_sm (a:=a) (fun j hj=>h j (List.mem_cons_of_mem _ hj)) x
  have e:sm b0c (evA (i::a)) x=((if kB (aN i)≤x then (1:Int) else 0)+((if kB (aG i)≤x then (-1:Int) else 0)))+sm b0c (evA a) x:=by
   show (if kB (aN i)≤x then (1:Int) else 0)+((if kB (aG i)≤x then (-1:Int) else 0)+sm b0c (evA a) x)=_
   omega
  rw [e,vM (h i (List.mem_cons_self ..)),dY,← h2]
  unfold inI
  by_cases h3:kB (aN i)≤x∧x < kB (aG i)
  · rw [if_pos h3]; exact ⟨by omega,⟨fun _=>.inl h3,fun _=>by omega⟩⟩
  · rw [if_neg h3]; exact ⟨by omega,⟨fun h4=>.inr (by omega),fun h4=>by have:=h4.resolve_left h3; omega⟩⟩
theorem evB_sm [K:Key]:∀ {a:List Iv},(∀ i∈a,Wv i)→∀ x,0≤sm b1c (evB a) x∧(0 < sm b1c (evB a) x↔inP a x)
 | [],_,x=>⟨Int.le_refl _,⟨fun h=>absurd h (Int.lt_irrefl _),fun h=>absurd h (md x)⟩⟩
 | i::a,h,x=>by
  obtain ⟨h1,h2⟩:=evB_sm (a:=a) (fun j hj=>h j (List.mem_cons_of_mem _ hj)) x
  have e:sm b1c (evB (i::a)) x=((if kB (aN i)≤x then (1:Int) else 0)+((if kB (aG i)≤x then (-1:Int) else 0)))+sm b1c (evB a) x:=by
   show (if kB (aN i)≤x then (1:Int) else 0)+((if kB (aG i)≤x then (-1:Int) else 0)+sm b1c (evB a) x)=_
   omega
  rw [e,vM (h i (List.mem_cons_self ..)),dY,← h2]
  unfold inI
  by_cases h3:kB (aN i)≤x∧x < kB (aG i)
  · rw [if_pos h3]; exact ⟨by omega,⟨fun _=>.inl h3,fun _=>by omega⟩⟩
  · rw [if_neg h3]; exact ⟨by omega,⟨fun h4=>.inr (by omega),fun h4=>by have:=h4.resolve_left h3; omega⟩⟩
theorem evA_0 [K:Key]:∀ (a:List Iv) (x:Nat),sm b1c (evA a) x=0∧rs b1c (evA a)=0∧rs b0c (evA a)=0
 | [],_=>⟨rfl,rfl,rfl⟩
 | i::a,x=>by
  obtain ⟨h1,h2,h3⟩:=evA_0 a x
  refine ⟨?_,?_,?_⟩
  · show (if kB (aN i)≤x then (0:Int) else 0)+((if kB (aG i)≤x then (0:Int) else 0)+sm b1c (evA a) x)=0
    rw [h1]; simp
  · show (0:Int)+(0+rs b1c (evA a))=0
    rw [h2]; rfl
  · show (1:Int)+(-1+rs b0c (evA a))=0
    rw [h3]; rfl
theorem evB_0 [K:Key]:∀ (a:List Iv) (x:Nat),sm b0c (evB a) x=0∧rs b0c (evB a)=0∧rs b1c (evB a)=0
 | [],_=>⟨rfl,rfl,rfl⟩
 | i::a,x=>by
  obtain ⟨h1,h2,h3⟩:=evB_0 a x
  refine ⟨?_,?_,?_⟩
  · show (if kB (aN i)≤x then (0:Int) else 0)+((if kB (aG i)≤x then (0:Int) else 0)+sm b0c (evB a) x)=0
    rw [h1]; simp
  · show (0:Int)+(0+rs b0c (evB a))=0
    rw [h2]; rfl
  · show (1:Int)+(-1+rs b1c (evB a))=0
    rw [h3]; rfl
theorem z2 [K:Key] {a b:List Iv} (ha:∀ i∈a,Wv i) (hb:∀ i∈b,Wv i):∀ e∈evA a++evB b,Tm e.at_.at_:=fun e he=>by
 rcases List.mem_append.1 he with he | he
 · obtain ⟨i,hi,he⟩:=List.mem_flatMap.1 he
   have:=(ha i hi).1
   rcases List.mem_cons.1 he with rfl | he
   · show Tm (aN i).at_; rw [pf]; exact this.1
   · rw [List.mem_singleton.1 he]; show Tm (aG i).at_; rw [pl]; exact this.2
 · obtain ⟨i,hi,he⟩:=List.mem_flatMap.1 he
   have:=(hb i hi).1
   rcases List.mem_cons.1 he with rfl | he
   · show Tm (aN i).at_; rw [pf]; exact this.1
   · rw [List.mem_singleton.1 he]; show Tm (aG i).at_; rw [pl]; exact this.2
open Classical in
theorem oW [K:Key] {keep:Bool→Bool→Bool} (hk:keep false false=false) {a b:List Iv} (ha:∀ i∈a,Wv i) (hb:∀ i∈b,Wv i) {S:List Ev} (hp:S.Perm (evA a++evB b)) (hs:S.Pairwise fun a b=>kB a.at_≤kB b.at_) (fr:Bd) :
 Cn (swS keep S [] false fr 0 0)∧∀ x,inP (swS keep S [] false fr 0 0) x↔keep (decide (inP a x)) (decide (inP b x))=true:=by
 have hT:∀ e∈S,Tm e.at_.at_:=fun e he=>z2 ha hb e (hp.mem_iff.1 he)
 have h0:∀ x,sm b0c S x=sm b0c (evA a) x:=fun x=>by rw [xS hp,xT,(evB_0 b x).1]; omega
 have h1:∀ x,sm b1c S x=sm b1c (evB b) x:=fun x=>by rw [xS hp,xT,(evA_0 a x).1]; omega
 have hend:keep (decide (rs b0c S>0)) (decide (rs b1c S>0))=false:=by
  rw [yr hp,yr hp,uV,uV,(evA_0 a 0).2.2,(evB_0 b 0).2.1,(evA_0 a 0).2.1,(evB_0 b 0).2.2]
  exact hk
 have hx:∀ x,keep (decide (sm b0c S x>0)) (decide (sm b1c S x>0))=keep (decide (inP a x)) (decide (inP b x)):=fun x=>by
  rw [h0,h1,decide_eq_decide.2 (evA_sm ha x).2,decide_eq_decide.2 (evB_sm hb x).2]
 obtain ⟨r1,r2⟩:=xL hT hs hend S [] [] false fr 0 0 rfl rfl rfl (fun x hx2=>by
  rw [tM hx2,tM hx2]
  constructor
  · rintro (h | h)
    · exact absurd h (md x)
    · cases h.1
  · intro h
    rw [show decide ((0:Int)>0)=false from rfl,hk] at h; cases h) Cn.nil (fun _ h=>by cases h) (fun h=>by cases h)
 exact ⟨r1,fun x=>by rw [r2,hx]⟩
end Go.Sx
namespace Go.Proofs
open Go.Shelf
def Tryz.laysSort_ren:Go.Shelf.Ren:=⟨fun | 6=>267 | 15=>308 | 14=>307 | 28=>312 | 29=>272 | 20=>335 | 21=>336 | 22=>337 | 23=>338 | 24=>339 | 25=>340 | 26=>341 | 27=>342 | 46=>359 | 47=>360 | 48=>361 | 49=>362 | 50=>363 | 57=>374 | n=>n,fun | 22=>329 | 24=>332 | 25=>334 | 3=>3 | 39=>348 | 0=>0 | 53=>343 | 55=>260 | 4=>4 | 46=>393 | 45=>392 | 50=>183 | 5=>5 | 9=>9 | 66=>420 | 70=>187 | 76=>434 | 77=>435 | n=>n,fun | n=>n⟩
theorem Tryz.laysSort:Go.Proofs.SlLaysF0.n6 Tryz.prog Tryz.laysSort_ren:={
 mixed:=by kernel_rfl
 f6:=⟨Tryz.f267.name,by decide,Tryz.func267.trans (congrArg some (by kernel_rfl))⟩
 f14:=⟨Tryz.f307.name,by decide,Tryz.func307.trans (congrArg some (by kernel_rfl))⟩
 f15:=Tryz.func308.trans (congrArg some (by kernel_rfl))
 f20:=⟨Tryz.f335.name,by decide,Tryz.func335.trans (congrArg some (by kernel_rfl))⟩
 f21:=⟨Tryz.f336.name,by decide,Tryz.func336.trans (congrArg some (by kernel_rfl))⟩
 f22:=⟨Tryz.f337.name,by decide,Tryz.func337.trans (congrArg some (by kernel_rfl))⟩
 f23:=⟨Tryz.f338.name,by decide,Tryz.func338.trans (congrArg some (by kernel_rfl))⟩
 f24:=⟨Tryz.f339.name,by decide,Tryz.func339.trans (congrArg some (by kernel_rfl))⟩
 f25:=⟨Tryz.f340.name,by decide,Tryz.func340.trans (congrArg some (by kernel_rfl))⟩
 f26:=⟨Tryz.f341.name,by decide,Tryz.func341.trans (congrArg some (by kernel_rfl))⟩
 f27:=⟨Tryz.f342.name,by decide,Tryz.func342.trans (congrArg some (by kernel_rfl))⟩
 f28:=Tryz.func312.trans (congrArg some (by kernel_rfl))
 f29:=Tryz.func272.trans (congrArg some (by kernel_rfl))
 f46:=⟨Tryz.f359.name,by decide,Tryz.func359.trans (congrArg some (by kernel_rfl))⟩
 f47:=Tryz.func360.trans (congrArg some (by kernel_rfl))
 f48:=Tryz.func361.trans (congrArg some (by kernel_rfl))
 f49:=⟨Tryz.f362.name,by decide,Tryz.func362.trans (congrArg some (by kernel_rfl))⟩
 f50:=⟨Tryz.f363.name,by decide,Tryz.func363.trans (congrArg some (by kernel_rfl))⟩
 f57:=⟨Tryz.f374.name,by decide,Tryz.func374.trans (congrArg some (by kernel_rfl))⟩
 t0:=Tryz.underlying0
 a0:=Tryz.isAgg0
 z0:=Tryz.sizeOf0
 v0:=Tryz.zeroValue0
 t3:=Tryz.underlying3
 a3:=Tryz.isAgg3
 z3:=Tryz.sizeOf3
 v3:=Tryz.zeroValue3
 t4:=Tryz.underlying4
 a4:=Tryz.isAgg4
 z4:=Tryz.sizeOf4
 v4:=Tryz.zeroValue4
 t5:=Tryz.underlying5
 a5:=Tryz.isAgg5
 z5:=Tryz.sizeOf5
 v5:=Tryz.zeroValue5
 t9:=Tryz.underlying9
 a9:=Tryz.isAgg9
 z9:=Tryz.sizeOf9
 v9:=Tryz.zeroValue9
 t22:=Tryz.underlying329
 a22:=Tryz.isAgg329
 z22:=Tryz.sizeOf329
 v22:=Tryz.zeroValue329
 t25:=Tryz.underlying334
 a25:=Tryz.isAgg334
 z25:=Tryz.sizeOf334
 v25:=Tryz.zeroValue334
 t39:=Tryz.underlying348
 a39:=Tryz.isAgg348
 z39:=Tryz.sizeOf348
 v39:=Tryz.zeroValue348
 t45:=Tryz.underlying392
 a45:=Tryz.isAgg392
 z45:=Tryz.sizeOf392
 v45:=Tryz.zeroValue392
 t46:=Tryz.underlying393
 a46:=Tryz.isAgg393
 z46:=Tryz.sizeOf393
 v46:=Tryz.zeroValue393
 t50:=Tryz.underlying183
 a50:=Tryz.isAgg183
 z50:=Tryz.sizeOf183
 v50:=Tryz.zeroValue183
 t53:=Tryz.underlying343
 a53:=Tryz.isAgg343
 z53:=Tryz.sizeOf343
 v53:=Tryz.zeroValue343
 t55:=Tryz.underlying260
 a55:=Tryz.isAgg260
 z55:=Tryz.sizeOf260
 v55:=Tryz.zeroValue260
 t66:=Tryz.underlying420
 a66:=Tryz.isAgg420
 z66:=Tryz.sizeOf420
 v66:=Tryz.zeroValue420
 t70:=Tryz.underlying187
 a70:=Tryz.isAgg187
 z70:=Tryz.sizeOf187
 v70:=Tryz.zeroValue187
 t76:=Tryz.underlying434
 a76:=Tryz.isAgg434
 z76:=Tryz.sizeOf434
 v76:=Tryz.zeroValue434
 t77:=Tryz.underlying435
 a77:=Tryz.isAgg435
 z77:=Tryz.sizeOf435
 v77:=Tryz.zeroValue435 }
end Go.Proofs
namespace Go.Sx
open Go Go.RowKit Go.Proofs Go.Sort Go.Lib
structure TE [K:Key] where
 e:Ev
 tm:Tm e.at_.at_
instance yM6_1 [K:Key]:Inhabited TE:=⟨⟨default,wh⟩⟩
def cfT [K:Key] (x y:TE):Int:=bW x.1 y.1
theorem vO [K:Key] (x y:TE):ltOf cfT x y=decide (kB x.1.at_ < kB y.1.at_):=by
 unfold ltOf cfT bW
 rw [cmpB x.2 y.2]
 exact decide_eq_decide.2 kM
theorem aas [K:Key]:SWO (ltOf cfT) where
 irrefl x:=by rw [vO]; exact decide_eq_false (Nat.lt_irrefl _)
 trans x y z h1 h2:=by
  rw [vO,decide_eq_true_eq] at *
  omega
 ntrans x y z h1 h2:=by
  rw [vO,decide_eq_false_iff_not] at *
  omega
def r6 [K:Key] (d:Array TE):Array TE:=pdq (ltOf cfT) d 0 d.size (Lib.bitLen d.size) true true
theorem xN [K:Key] (d:Array TE):(r6 d).size=d.size∧(r6 d).toList.Perm d.toList∧(r6 d).toList.Pairwise fun a b=>kB a.1.at_≤kB b.1.at_:=by
 have h:=pdq_sorts (ltOf cfT) aas d 0 d.size (Lib.bitLen d.size) true true (Nat.zero_le _) (Nat.le_refl _) (Or.inl rfl)
 obtain ⟨⟨h1,_,h3⟩,h4⟩:=h
 have h1:(r6 d).size=d.size:=h1
 refine ⟨h1,?_,?_⟩
 · have h3:((r6 d).extract 0 d.size).toList.Perm (d.extract 0 d.size).toList:=h3
   rw [← h1] at h3
   rw [h1] at h3
   have e1:(r6 d).extract 0 d.size=r6 d:=by rw [← h1]; simp
   have e2:d.extract 0 d.size=d:=by simp
   rwa [e1,e2] at h3
 · rw [List.pairwise_iff_getElem]
   intro i j hi hj hij
   have hi':i < (r6 d).size:=by simpa using hi
   have hj':j < (r6 d).size:=by simpa using hj
   have h5:=h4 i j (Nat.zero_le _) hij (by rw [← h1]; exact hj')
   have h5:ltOf cfT (r6 d)[j]! (r6 d)[i]! = false:=h5
   rw [getElem!_pos (r6 d) i hi',getElem!_pos (r6 d) j hj',vO,decide_eq_false_iff_not] at h5
   show kB ((r6 d).toList[i]).1.at_≤kB ((r6 d).toList[j]).1.at_
   simp only [Array.getElem_toList]
   omega
def tmB [K:Key] (x:GR):Bool:=decide (x∈K.l)
theorem xH [K:Key] {x:GR}:tmB x=true↔Tm x:=Tm.iff
def tmL [K:Key] (l:List Ev):Bool:=l.all fun e=>tmB e.at_.at_
theorem iF [K:Key] {l:List Ev}:tmL l=true↔∀ e∈l,Tm e.at_.at_:=by
 unfold tmL
 rw [List.all_eq_true]
 exact ⟨fun h e he=>xH.1 (h e he),fun h e he=>xH.2 (h e he)⟩
def evT [K:Key] (l:List Ev) (h:tmL l=true):Array TE:=(l.attach.map fun e=>(⟨e.1,iF.1 h e.1 e.2⟩:TE)).toArray
theorem z6 [K:Key] (l:List Ev) (h:tmL l=true):(evT l h).toList.map (fun x=>x.1)=l:=by
 show ((l.attach.map fun e=>(⟨e.1,iF.1 h e.1 e.2⟩:TE)).map fun x=>x.1)=l
 rw [List.map_map]
 exact List.attach_map_subtype_val l
theorem evT_size [K:Key] (l:List Ev) (h:tmL l=true):(evT l h).size=l.length:=by unfold evT; simp
def aV [K:Key] (l:List Ev):List Ev :=
 if h:tmL l=true then (if l.length≤12 then ch l else (r6 (evT l h)).toList.map fun x=>x.1) else l
theorem small_is (l:List Ev):ch l=sO bW l 0 l.length:=by
 unfold ch ce
 show bB l 0 l.length=_
 unfold bB
 rfl
theorem qD [K:Key] {x:Ev} (hx:Tm x.at_.at_):∀ {r:List Ev},(∀ e∈r,Tm e.at_.at_)→(r.Pairwise fun a b=>kB b.at_≤kB a.at_)→(fW bW x r).Pairwise fun a b=>kB b.at_≤kB a.at_
 | [],_,_=>List.pairwise_singleton _ _
 | y::q,h,hp=>by
  have hy:=h y (List.mem_cons_self ..)
  have hp2:=List.pairwise_cons.1 hp
  have hc:bW x y < 0↔kB x.at_ < kB y.at_:=by
   unfold bW
   rw [cmpB hx hy,kM]
  unfold fW
  by_cases hl:bW x y < 0
  · rw [if_pos hl,List.pairwise_cons]
    refine ⟨fun z hz=>?_,qD hx (fun e he=>h e (List.mem_cons_of_mem _ he)) hp2.2⟩
    rcases List.mem_cons.1 ((iM (c:=bW) x q).mem_iff.1 hz) with rfl | hz
    · have:=hc.1 hl; omega
    · exact hp2.1 z hz
  · rw [if_neg hl,List.pairwise_cons]
    have hxy:kB y.at_≤kB x.at_:=Nat.le_of_not_lt fun h2=>hl (hc.2 h2)
    refine ⟨fun z hz=>?_,hp⟩
    rcases List.mem_cons.1 hz with rfl | hz
    · exact hxy
    · exact Nat.le_trans (hp2.1 z hz) hxy
theorem sP [K:Key]:∀ {s r:List Ev},(∀ e∈s,Tm e.at_.at_)→(∀ e∈r,Tm e.at_.at_)→(r.Pairwise fun a b=>kB b.at_≤kB a.at_)→(mL bW r s).Pairwise fun a b=>kB b.at_≤kB a.at_
 | [],_,_,_,hp=>hp
 | x::s,r,h1,h2,hp=>by
  have hx:=h1 x (List.mem_cons_self ..)
  show (mL bW (fW bW x r) s).Pairwise _
  exact sP (fun e he=>h1 e (List.mem_cons_of_mem _ he)) (fun e he=>by
   rcases List.mem_cons.1 ((iM (c:=bW) x r).mem_iff.1 he) with rfl | he
   · exact hx
   · exact h2 e he) (qD hx h2 hp)
theorem qY [K:Key] {l:List Ev} (h:∀ e∈l,Tm e.at_.at_):(aV l).Perm l∧(aV l).Pairwise fun a b=>kB a.at_≤kB b.at_:=by
 unfold aV
 rw [dif_pos (iF.2 h)]
 by_cases hl:l.length≤12
 · rw [if_pos hl,small_is]
   refine ⟨lF l,?_⟩
   rw [mK,List.pairwise_reverse]
   exact sP h (fun _ h=>by cases h) List.Pairwise.nil
 · rw [if_neg hl]
   obtain ⟨_,h2,h3⟩:=xN (evT l (iF.2 h))
   refine ⟨?_,by rw [List.pairwise_map]; exact h3⟩
   have:=h2.map (fun x:TE=>x.1)
   rwa [z6] at this
theorem jH [K:Key] (l:List Ev):(aV l).Perm l:=by
 by_cases h:∀ e∈l,Tm e.at_.at_
 · exact (qY h).1
 · unfold aV; rw [dif_neg (fun h2=>h (iF.1 h2))]
theorem jW [K:Key] (x:List Ev) (xv:Value) (hl:x.length≤1000) (hT:∀ e∈x,Tm e.at_.at_) (zx:All (SzE 30) x) (w0 w:World) (B:Asn) (hbel:Below w0.heap.size w0 w) (hsep:∃ Z_,Sep w0.heap.size w [.row (α:=Ev) 332 xv x,B] Z_) :Calls Tryz.prog 267 #[xv,(.func (.func 268) #[] #[])] w (RetY w0 (fun v=>v=.tuple #[]∧(All (SzE 30) (aV x)∧(aV x).length=x.length)) (fun v=>[.row (α:=Ev) 332 xv (aV x),B])):=by
 have hprop:All (SzE 30) (aV x)∧(aV x).length=x.length:=⟨fun e he=>zx e ((jH x).mem_iff.1 he),(jH x).length_eq⟩
 by_cases h12:x.length≤12
 · have e:aV x=ch x:=by unfold aV; rw [dif_pos (iF.2 hT),if_pos h12]
   rw [e]
   exact iX x xv h12 zx w0 w B hbel hsep
 · have e:aV x=(r6 (evT x (iF.2 hT))).toList.map (fun x=>x.1):=by unfold aV; rw [dif_pos (iF.2 hT),if_neg h12]
   have hsz:=evT_size x (iF.2 hT)
   have hsep2:∃ Z_,Sep w0.heap.size w [.row (α:=Ev) 332 xv ((evT x (iF.2 hT)).toList.map (fun x=>x.1)),B] Z_:=by rw [z6]; exact hsep
   have hk:=sort_own (P:=Tryz.prog) (val:=fun x:TE=>x.1) (F:=267) (more:=[(.func (.func 268) #[] #[])]) (D':=r6 (evT x (iF.2 hT))) (by omega) (xN _).1 hprop hbel hsep2 fun blk cap hv hH hhi hlo=>by
    have eg:∀ args w,(callFunc 268 args).run Tryz.prog w=.ok (.enter 268 args) w:=Tryz.call268
    have hc:=lays_of (P:=Tryz.prog) (val:=fun x:TE=>x.1) (g:=268) (cf:=cfT) (blk:=blk) (size:=(evT x (iF.2 hT)).size) (w:=w) (p:=fun x y=>(-1≤(bW x.1 y.1)∧(bW x.1 y.1)≤1)) (fun a b w=>iI a.1 b.1 (fh (tm_sz a.2) (by decide)) (fh (tm_sz b.2) (by decide)) w)
    have:=AnyQ.slices_SortFunc_eq (P:=Tryz.prog) Tryz.laysSort 12 Tryz.isAgg332 zz332 (fun x:TE=>Cod.enc x.1) (fun x=>Cod.len x.1) (fun x=>Cod.one x.1) cfT aas 268 #[] blk 0 cap (evT x (iF.2 hT)) w eg hc hH hhi (by omega)
    rw [hv]
    exact this
   rw [← e] at hk
   exact hk
def EvB (e:Ev):Prop:=(-1≤e.b0∧e.b0≤1)∧(-1≤e.b1∧e.b1≤1)
theorem evb_nil:∀ e∈([]:List Ev),EvB e:=fun _ h=>by cases h
theorem zZ {l:List Ev} (h:∀ e∈l,EvB e) {x y:Bd} {a b c d:Int} (h1:(-1≤a∧a≤1)∧(-1≤b∧b≤1)) (h2:(-1≤c∧c≤1)∧(-1≤d∧d≤1)):∀ e∈l++[⟨x,a,b⟩,⟨y,c,d⟩],EvB e:=fun e he=>by
 rcases List.mem_append.1 he with he | he
 · exact h e he
 · rcases List.mem_cons.1 he with rfl | he
   · exact h1
   · rw [List.mem_singleton.1 he]; exact h2
theorem evb_gt [K:Key] {l:List Ev} (h:∀ e∈l,EvB e) (i:Nat):EvB (gt (aV l) i):=by
 have hp:=jH l
 by_cases hi:i < (aV l).length
 · have:gt (aV l) i∈aV l:=by
    unfold gt
    rw [List.getD_eq_getElem?_getD,List.getElem?_eq_getElem hi]
    exact List.getElem_mem _
   exact h _ (hp.mem_iff.1 this)
 · have:gt (aV l) i=default:=by unfold gt; rw [List.getD_eq_getElem?_getD,List.getElem?_eq_none (by omega)]; rfl
   rw [this]; exact ⟨⟨by decide,by decide⟩,⟨by decide,by decide⟩⟩
theorem nC {β:Type} [Inhabited β] {A:List β} {i:Nat} (h:i < A.length):A.take (i+1)=A.take i++[gt A i]:=by
 rw [gF h,List.take_append_getElem]
theorem evA_next {l:List Ev} {a:List Iv} {x:Nat} (h:l=evA (a.take x)) (hx:x < a.length):l++[⟨aN (gt a x),1,0⟩,⟨aG (gt a x),-1,0⟩]=evA (a.take (x+1)):=by
 rw [h,nC hx]; simp [evA]
theorem evB_next {l:List Ev} {a b:List Iv} {x:Nat} (h:l=evA a++evB (b.take x)) (hx:x < b.length):l++[⟨aN (gt b x),0,1⟩,⟨aG (gt b x),0,-1⟩]=evA a++evB (b.take (x+1)):=by
 rw [h,nC hx]; simp [evB]
end Go.Sx
