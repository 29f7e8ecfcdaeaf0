/- A part of the proof of movingnumberChecks. -/
import Derived.Test.YtpfdaoajcnophaaGreatDoorC2
set_option linter.unusedVariables false
set_option linter.unusedSimpArgs false
open Go.Proofs.Tryz renaming sizeOf88 → zz88, call373 → cc373, runUnderlying3 → uu3, runUnderlying348 → uu348, call332 → cc332
namespace Go.Sx
open Go Go.RowKit Go.Proofs
set_option maxRecDepth 100000
set_option maxHeartbeats 40000000
attribute [local irreducible] Code.wp wpList Rd Step ObS Ent
attribute [local irreducible] ah ak aq an bN
def jg (data:List (U Qd)) (a:Nat) (b:Nat) (n:Nat) (i:Nat) (data1:List (U Qd)):List (U Qd) :=
 data1
def fh (data:List (U Qd)) (a:Nat) (b:Nat) (n:Nat) (i:Nat) (data1:List (U Qd)):Nx (Nat×(List (U Qd))) (List (U Qd)) :=
 bif (decide (((i:Nat):Int) < ((n:Nat):Int))) then
  .go ((i+1),((data1.set (a+i) (gt data1 (b+i))).set (b+i) (gt data1 (a+i))))
 else
  .out (i,data1)
def bC (data:List (U Qd)) (a:Nat) (b:Nat) (n:Nat):List (U Qd) :=
 fin (bZ (fun s=>fh data a b n s.1 s.2) ((n - 0)+1) (0,data)) (fun s=>jg data a b n s.1 s.2) (fun r=>r)
theorem fg (data:List (U Qd)) (datav:Value) (a:Nat) (b:Nat) (n:Nat) (hab:a+n≤b) (hb:b+n≤data.length) (hb2:b+n≤1000000) (zdata:All (g6 30) data) (w0 w:World) (B:Asn) (hbel:Below w0.heap.size w0 w) (hsep:∃ Z_,Sep w0.heap.size w [.row (α:=U Qd) 88 datav data,B] Z_) :Calls Tryz.prog 373 #[datav,(.int .i64 ((a:Nat):Int)),(.int .i64 ((b:Nat):Int)),(.int .i64 ((n:Nat):Int)),(.func (.func 247) #[] #[])] w (RetY w0 (fun v=>v=.tuple #[]∧(All (g6 30) (bC data a b n)∧(bC data a b n).length=data.length)) (fun v=>[.row (α:=U Qd) 88 datav (bC data a b n),B])):=by
 refine mF (N:=38) (args:=[datav,(.int .i64 ((a:Nat):Int)),(.int .i64 ((b:Nat):Int)),(.int .i64 ((n:Nat):Int)),(.func (.func 247) #[] #[])]) Tryz.func373 rfl rfl hbel hsep ?_; intro ac h
 have hlendata:=h.len 0 rfl
 obtain ⟨X1,hX1⟩:∃ X,bZ (fun s=>fh data a b n s.1 s.2) ((n - 0)+1) (0,data)=X:=⟨_,rfl⟩
 refine gz h <| (W) ?_; clear h ac; intro ac wo h
 refine wp_loop_ghost (fun n_ a_ w_=>∃ (i:Nat) (data1:List (U Qd)),((n - i) < n_)∧(bZ (fun s=>fh data a b n s.1 s.2) n_ (i,data1)=X1)∧(i≤n)∧(All (g6 30) data1)∧(data1.length=data.length)∧St w0 38 [(0,datav),(1,(.int .i64 ((a:Nat):Int))),(2,(.int .i64 ((b:Nat):Int))),(3,(.int .i64 ((n:Nat):Int))),(10,(.int .i64 ((i:Nat):Int)))] [.row (α:=U Qd) 88 datav data1,B] a_ w_) ((n - 0)+1) ⟨0,data,og,hX1,og,zdata,og,h.rs⟩ ?_
 clear h ac wo; rintro n1 ac wo ⟨i,data1,hm1,hL1,hi,zdata1,hdl,h⟩
 obtain ⟨m1,rfl⟩:∃ m,n1=m+1:=⟨n1 - 1,by omega⟩
 refine gz h <| (ai) ?_ ?_ <;> clear h ac wo <;> intro ac wo h hc1
 ·
  have hd1:=of_decide_eq_true hc1
  refine gz h <| (dr1 (H:=[⟨.row (α:=U Qd) 88 datav data1,[(21,.con (.row (α:=U Qd) 88 datav (data1.set (a+i) (gt data1 (b+i))))),(23,.con (.row (α:=U Qd) 88 datav ((data1.set (a+i) (gt data1 (b+i))).set (b+i) (gt data1 (a+i)))))]⟩,⟨_,[]⟩]) (hob:=(oY (h:=by exact fun _=>lS (acc:=[0]) _ [.row (α:=U Qd) 88 datav (data1.set (a+i) (gt data1 (b+i)))] rfl rfl (g5 (k:=0) (u':=(gt data1 (b+i))) zz88 (iF og) rfl (Nat.add_zero _) rfl rfl rfl rfl rfl rfl))) <| (oY (h:=by exact fun _=>lS (acc:=[0]) _ [.row (α:=U Qd) 88 datav ((data1.set (a+i) (gt data1 (b+i))).set (b+i) (gt data1 (a+i)))] rfl rfl (g5 (k:=0) (u':=(gt data1 (a+i))) zz88 (iF og) rfl (Nat.add_zero _) rfl rfl rfl rfl rfl rfl))) <| oE)) <| (W) ?_; clear h ac wo; intro ac wo h
  have hg:=cZ hL1 pt
  exact az ⟨m1,og,_,_,og,hg,og,(All.set (All.set zdata1 (All.gt zdata1 (bG _))) (All.gt zdata1 (bG _))),og,h.re [0,1]⟩
 ·
  have hd1:=of_decide_eq_false hc1
  have hx1:=eh hL1 pt
  have hd:bC data a b n=data1:=pt
  refine gz h <| (W) ?_; clear h ac wo; intro ac wo h
  exact nO (vs:=[]) h rfl .nil rfl ((h.pick [0,1] (by decide)).retY ⟨rfl,(by rw [hd]; exact ⟨zdata1,og⟩)⟩ (by rw [hd]; rfl))
attribute [irreducible] bC
def jP (data:List (U Qd)) (a:Nat) (m:Nat) (b:Nat) (i:Nat) (j:Nat) (data1:List (U Qd)):List (U Qd) :=
 (bC data1 (m - i) m i)
def fE (data:List (U Qd)) (a:Nat) (m:Nat) (b:Nat) (i:Nat) (j:Nat) (data1:List (U Qd)):Nx (Nat×Nat×(List (U Qd))) (List (U Qd)) :=
 bif ((((i:Nat):Int)) != (((j:Nat):Int))) then
  bif (decide (((i:Nat):Int)>((j:Nat):Int))) then
   .go ((i - j),j,(bC data1 (m - i) m j))
  else
   .go (i,(j - i),(bC data1 (m - i) ((m+j) - i) i))
 else
  .out (i,j,data1)
def aE (data:List (U Qd)) (a:Nat) (m:Nat) (b:Nat):List (U Qd) :=
 fin (bZ (fun s=>fE data a m b s.1 s.2.1 s.2.2) ((m - a)+(b - m)+1) ((m - a),(b - m),data)) (fun s=>jP data a m b s.1 s.2.1 s.2.2) (fun r=>r)
theorem gW (data:List (U Qd)) (datav:Value) (a:Nat) (m:Nat) (b:Nat) (ham:a < m) (hmb:m < b) (hb:b≤data.length) (hb2:b≤1000000) (zdata:All (g6 30) data) (w0 w:World) (B:Asn) (hbel:Below w0.heap.size w0 w) (hsep:∃ Z_,Sep w0.heap.size w [.row (α:=U Qd) 88 datav data,B] Z_) :Calls Tryz.prog 358 #[datav,(.int .i64 ((a:Nat):Int)),(.int .i64 ((m:Nat):Int)),(.int .i64 ((b:Nat):Int)),(.func (.func 247) #[] #[])] w (RetY w0 (fun v=>v=.tuple #[]∧(All (g6 30) (aE data a m b)∧(aE data a m b).length=data.length)) (fun v=>[.row (α:=U Qd) 88 datav (aE data a m b),B])):=by
 refine mF (N:=58) (args:=[datav,(.int .i64 ((a:Nat):Int)),(.int .i64 ((m:Nat):Int)),(.int .i64 ((b:Nat):Int)),(.func (.func 247) #[] #[])]) Tryz.func358 rfl rfl hbel hsep ?_; intro ac h
 have hlendata:=h.len 0 rfl
 obtain ⟨X1,hX1⟩:∃ X,bZ (fun s=>fE data a m b s.1 s.2.1 s.2.2) ((m - a)+(b - m)+1) ((m - a),(b - m),data)=X:=⟨_,rfl⟩
 refine gz h <| (xo (hs:=by exact fv rfl rfl (r:=(((m - a):Nat):Int)) (by rw [IntKind.wrap_i64]; first | omega | grind))) <| (xo (hs:=by exact fv rfl rfl (r:=(((b - m):Nat):Int)) (by rw [IntKind.wrap_i64]; first | omega | grind))) <| (W) ?_; clear h ac; intro ac wo h
 refine wp_loop_ghost (fun n_ a_ w_=>∃ (i:Nat) (j:Nat) (data1:List (U Qd)),(i+j < n_)∧(bZ (fun s=>fE data a m b s.1 s.2.1 s.2.2) n_ (i,j,data1)=X1)∧(All (g6 30) data1)∧(0 < i)∧(0 < j)∧(i≤m)∧(m+j≤b)∧(data1.length=data.length)∧St w0 58 [(0,datav),(2,(.int .i64 ((m:Nat):Int))),(4,(.func (.func 247) #[] #[])),(10,(.int .i64 ((i:Nat):Int))),(11,(.int .i64 ((j:Nat):Int)))] [.row (α:=U Qd) 88 datav data1,B] a_ w_) ((m - a)+(b - m)+1) ⟨(m - a),(b - m),data,og,hX1,zdata,og,og,og,og,og,h.rs⟩ ?_
 clear h ac wo; rintro n1 ac wo ⟨i,j,data1,hm1,hL1,zdata1,hi0,hj0,him,hjb,hdl,h⟩
 obtain ⟨m1,rfl⟩:∃ m,n1=m+1:=⟨n1 - 1,by omega⟩
 refine gz h <| (ai) ?_ ?_ <;> clear h ac wo <;> intro ac wo h hc1
 ·
  have hq1:=hc1; try simp at hq1
  refine gz h <| (ai) ?_ ?_ <;> clear h ac wo <;> intro ac wo h hc2
  ·
   have hd2:=of_decide_eq_true hc2
   refine gz h <| (xo (hs:=by exact fv rfl rfl (r:=(((m - i):Nat):Int)) (by rw [IntKind.wrap_i64]; first | omega | grind))) <| (W) ?_; clear h ac wo; intro ac wo h
   refine on1 h 0 rfl (jx (vs:=[datav,(.int .i64 (((m - i):Nat):Int)),(.int .i64 ((m:Nat):Int)),(.int .i64 ((j:Nat):Int)),(.func (.func 247) #[] #[])]) (A:=fun v=>[.row (α:=U Qd) 88 datav (bC data1 (m - i) m j)]) (cz cc373 rfl) (fun w_ B_ hB_ hS_=>fg data1 datav (m - i) m j og og og zdata1 w0 w_ B_ hB_ hS_ )) rfl ?_; clear h ac wo; intro vc ac wo s2 h
   obtain rfl:vc=_:=s2.1
   have p3:=s2.2.2
   refine gz h <| (xo (hs:=by exact fv rfl rfl (r:=(((i - j):Nat):Int)) (by rw [IntKind.wrap_i64]; first | omega | grind))) <| (W) ?_; clear h ac wo; intro ac wo h
   have hg:=cZ hL1 pt
   exact az ⟨m1,og,_,_,_,og,hg,s2.2.1,og,og,og,og,og,h.re [0,1]⟩
  ·
   have hd2:=of_decide_eq_false hc2
   refine gz h <| (xo (hs:=by exact fv rfl rfl (r:=(((m - i):Nat):Int)) (by rw [IntKind.wrap_i64]; first | omega | grind))) <| (xo (hs:=by exact fv rfl rfl (r:=((((m+j) - i):Nat):Int)) (by rw [IntKind.wrap_i64]; first | omega | grind))) <| (W) ?_; clear h ac wo; intro ac wo h
   refine on1 h 0 rfl (jx (vs:=[datav,(.int .i64 (((m - i):Nat):Int)),(.int .i64 ((((m+j) - i):Nat):Int)),(.int .i64 ((i:Nat):Int)),(.func (.func 247) #[] #[])]) (A:=fun v=>[.row (α:=U Qd) 88 datav (bC data1 (m - i) ((m+j) - i) i)]) (cz cc373 rfl) (fun w_ B_ hB_ hS_=>fg data1 datav (m - i) ((m+j) - i) i og og og zdata1 w0 w_ B_ hB_ hS_ )) rfl ?_; clear h ac wo; intro vc ac wo s5 h
   obtain rfl:vc=_:=s5.1
   have p6:=s5.2.2
   refine gz h <| (xo (hs:=by exact fv rfl rfl (r:=(((j - i):Nat):Int)) (by rw [IntKind.wrap_i64]; first | omega | grind))) <| (W) ?_; clear h ac wo; intro ac wo h
   have hg:=cZ hL1 pt
   exact az ⟨m1,og,_,_,_,og,hg,s5.2.1,og,og,og,og,og,h.re [0,1]⟩
 ·
  have hq1:=hc1; try simp at hq1
  have hx1:=eh hL1 pt
  refine gz h <| (xo (hs:=by exact fv rfl rfl (r:=(((m - i):Nat):Int)) (by rw [IntKind.wrap_i64]; first | omega | grind))) <| (W) ?_; clear h ac wo; intro ac wo h
  refine on1 h 0 rfl (jx (vs:=[datav,(.int .i64 (((m - i):Nat):Int)),(.int .i64 ((m:Nat):Int)),(.int .i64 ((i:Nat):Int)),(.func (.func 247) #[] #[])]) (A:=fun v=>[.row (α:=U Qd) 88 datav (bC data1 (m - i) m i)]) (cz cc373 rfl) (fun w_ B_ hB_ hS_=>fg data1 datav (m - i) m i og og og zdata1 w0 w_ B_ hB_ hS_ )) rfl ?_; clear h ac wo; intro vc ac wo s8 h
  obtain rfl:vc=_:=s8.1
  have p9:=s8.2.2
  refine gz h <| (W) ?_; clear h ac wo; intro ac wo h
  replace h:=h.sub (F':=[]) trivial
  have hd:aE data a m b=(bC data1 (m - i) m i):=pt
  exact nO (vs:=[]) h rfl .nil rfl ((h.pick [0,1] (by decide)).retY ⟨rfl,(by rw [hd]; exact ⟨s8.2.1,og⟩)⟩ (by rw [hd]; rfl))
attribute [irreducible] aE
end Go.Sx
namespace Go.Sx
open Go Go.RowKit Go.Proofs
set_option maxRecDepth 100000
set_option maxHeartbeats 40000000
attribute [local irreducible] Code.wp wpList Rd Step ObS Ent
attribute [local irreducible] ah ak aq an bN
def kA (rec_:List (U Qd)→Nat→Nat→Nat→List (U Qd)) (data:List (U Qd)) (a:Nat) (m:Nat) (b:Nat) (i:Nat) (j:Nat) (k2:Nat) (data2:List (U Qd)):List (U Qd) :=
 data2
def gb (rec_:List (U Qd)→Nat→Nat→Nat→List (U Qd)) (data:List (U Qd)) (a:Nat) (m:Nat) (b:Nat) (i:Nat) (j:Nat) (k2:Nat) (data2:List (U Qd)):Nx (Nat×(List (U Qd))) (List (U Qd)) :=
 bif (decide (((k2:Nat):Int) < (((i - 1):Nat):Int))) then
  .go ((k2+1),((data2.set k2 (gt data2 (k2+1))).set (k2+1) (gt data2 k2)))
 else
  .out (k2,data2)
def kC (rec_:List (U Qd)→Nat→Nat→Nat→List (U Qd)) (data:List (U Qd)) (a:Nat) (m:Nat) (b:Nat) (i:Nat) (j:Nat):List (U Qd) :=
 fin (bZ (fun s=>gb rec_ data a m b i j s.1 s.2) ((i - a)+1) (a,data)) (fun s=>kA rec_ data a m b i j s.1 s.2) (fun r=>r)
def gf (rec_:List (U Qd)→Nat→Nat→Nat→List (U Qd)) (data:List (U Qd)) (a:Nat) (m:Nat) (b:Nat) (i:Nat) (j:Nat):Nx (Nat×Nat) (List (U Qd)) :=
 bif (decide (((i:Nat):Int) < ((j:Nat):Int))) then
  bif (decide ((dg (gt data ((i+j) / 2)) (gt data a)) < 0)) then
   .go ((((i+j) / 2)+1),j)
  else
   .go (i,((i+j) / 2))
 else
  .out (i,j)
def ky (rec_:List (U Qd)→Nat→Nat→Nat→List (U Qd)) (data:List (U Qd)) (a:Nat) (m:Nat) (b:Nat) (i:Nat) (j:Nat) (k4:Nat) (data4:List (U Qd)):List (U Qd) :=
 data4
def f7 (rec_:List (U Qd)→Nat→Nat→Nat→List (U Qd)) (data:List (U Qd)) (a:Nat) (m:Nat) (b:Nat) (i:Nat) (j:Nat) (k4:Nat) (data4:List (U Qd)):Nx (Nat×(List (U Qd))) (List (U Qd)) :=
 bif (decide (((k4:Nat):Int)>((i:Nat):Int))) then
  .go ((k4 - 1),((data4.set k4 (gt data4 (k4 - 1))).set (k4 - 1) (gt data4 k4)))
 else
  .out (k4,data4)
def kz (rec_:List (U Qd)→Nat→Nat→Nat→List (U Qd)) (data:List (U Qd)) (a:Nat) (m:Nat) (b:Nat) (i:Nat) (j:Nat):List (U Qd) :=
 fin (bZ (fun s=>f7 rec_ data a m b i j s.1 s.2) (m+1) (m,data)) (fun s=>ky rec_ data a m b i j s.1 s.2) (fun r=>r)
def f8 (rec_:List (U Qd)→Nat→Nat→Nat→List (U Qd)) (data:List (U Qd)) (a:Nat) (m:Nat) (b:Nat) (i:Nat) (j:Nat):Nx (Nat×Nat) (List (U Qd)) :=
 bif (decide (((i:Nat):Int) < ((j:Nat):Int))) then
  bif (!(decide ((dg (gt data m) (gt data ((i+j) / 2))) < 0))) then
   .go ((((i+j) / 2)+1),j)
  else
   .go (i,((i+j) / 2))
 else
  .out (i,j)
def iR (rec_:List (U Qd)→Nat→Nat→Nat→List (U Qd)) (data:List (U Qd)) (a:Nat) (m:Nat) (b:Nat) (start:Nat) (r:Nat):List (U Qd) :=
 bif ((decide (((start:Nat):Int) < ((m:Nat):Int))) && (decide (((m:Nat):Int) < ((((((a+b) / 2)+m) - start):Nat):Int)))) then
  bif ((decide (((a:Nat):Int) < ((start:Nat):Int))) && (decide (((start:Nat):Int) < ((((a+b) / 2:Nat)):Int)))) then
   bif ((decide (((((a+b) / 2:Nat)):Int) < ((((((a+b) / 2)+m) - start):Nat):Int))) && (decide (((((((a+b) / 2)+m) - start):Nat):Int) < ((b:Nat):Int)))) then
    (rec_ (rec_ (aE data start m ((((a+b) / 2)+m) - start)) a start ((a+b) / 2)) ((a+b) / 2) ((((a+b) / 2)+m) - start) b)
   else
    (rec_ (aE data start m ((((a+b) / 2)+m) - start)) a start ((a+b) / 2))
  else
   bif ((decide (((((a+b) / 2:Nat)):Int) < ((((((a+b) / 2)+m) - start):Nat):Int))) && (decide (((((((a+b) / 2)+m) - start):Nat):Int) < ((b:Nat):Int)))) then
    (rec_ (aE data start m ((((a+b) / 2)+m) - start)) ((a+b) / 2) ((((a+b) / 2)+m) - start) b)
   else
    (aE data start m ((((a+b) / 2)+m) - start))
 else
  bif ((decide (((a:Nat):Int) < ((start:Nat):Int))) && (decide (((start:Nat):Int) < ((((a+b) / 2:Nat)):Int)))) then
   bif ((decide (((((a+b) / 2:Nat)):Int) < ((((((a+b) / 2)+m) - start):Nat):Int))) && (decide (((((((a+b) / 2)+m) - start):Nat):Int) < ((b:Nat):Int)))) then
    (rec_ (rec_ data a start ((a+b) / 2)) ((a+b) / 2) ((((a+b) / 2)+m) - start) b)
   else
    (rec_ data a start ((a+b) / 2))
  else
   bif ((decide (((((a+b) / 2:Nat)):Int) < ((((((a+b) / 2)+m) - start):Nat):Int))) && (decide (((((((a+b) / 2)+m) - start):Nat):Int) < ((b:Nat):Int)))) then
    (rec_ data ((a+b) / 2) ((((a+b) / 2)+m) - start) b)
   else
    data
def dT (rec_:List (U Qd)→Nat→Nat→Nat→List (U Qd)) (data:List (U Qd)) (a:Nat) (m:Nat) (b:Nat) (start:Nat) (r:Nat):Nx (Nat×Nat) (List (U Qd)) :=
 bif (decide (((start:Nat):Int) < ((r:Nat):Int))) then
  bif (!(decide ((dg (gt data (((((a+b) / 2)+m) - 1) - ((start+r) / 2))) (gt data ((start+r) / 2))) < 0))) then
   .go ((((start+r) / 2)+1),r)
  else
   .go (start,((start+r) / 2))
 else
  .out (start,r)
def a6 (rec_:List (U Qd)→Nat→Nat→Nat→List (U Qd)) (data:List (U Qd)) (a:Nat) (m:Nat) (b:Nat):List (U Qd) :=
 bif (((((m - a):Nat):Int)) == (((1:Nat):Int))) then
  fin (bZ (fun s=>gf rec_ data a m b s.1 s.2) (b - m+1) (m,b)) (fun s=>kC rec_ data a m b s.1 s.2) (fun r=>r)
 else
  bif (((((b - m):Nat):Int)) == (((1:Nat):Int))) then
   fin (bZ (fun s=>f8 rec_ data a m b s.1 s.2) (m - a+1) (a,m)) (fun s=>kz rec_ data a m b s.1 s.2) (fun r=>r)
  else
   bif (decide (((m:Nat):Int)>((((a+b) / 2:Nat)):Int))) then
    fin (bZ (fun s=>dT rec_ data a m b s.1 s.2) (((a+b) / 2) - ((((a+b) / 2)+m) - b)+1) (((((a+b) / 2)+m) - b),((a+b) / 2))) (fun s=>iR rec_ data a m b s.1 s.2) (fun r=>r)
   else
    fin (bZ (fun s=>dT rec_ data a m b s.1 s.2) (m - a+1) (a,m)) (fun s=>iR rec_ data a m b s.1 s.2) (fun r=>r)
theorem kx (rec_:List (U Qd)→Nat→Nat→Nat→List (U Qd)) (K_:Nat) (rec__ct:∀ (data:List (U Qd)) (datav:Value) (a:Nat) (m:Nat) (b:Nat) (ham:a < m) (hmb:m < b) (hb:b≤data.length) (hb2:b≤1000000) (hK:b - a < K_) (zdata:All (g6 30) data) (w0 w:World) (B:Asn) (hbel:Below w0.heap.size w0 w) (hsep:∃ Z_,Sep w0.heap.size w [.row (α:=U Qd) 88 datav data,B] Z_) ,Calls Tryz.prog 332 #[datav,(.int .i64 ((a:Nat):Int)),(.int .i64 ((m:Nat):Int)),(.int .i64 ((b:Nat):Int)),(.func (.func 247) #[] #[])] w (RetY w0 (fun v=>v=.tuple #[]∧(All (g6 30) (rec_ data a m b)∧(rec_ data a m b).length=data.length)) (fun v=>[.row (α:=U Qd) 88 datav (rec_ data a m b),B]))) (data:List (U Qd)) (datav:Value) (a:Nat) (m:Nat) (b:Nat) (ham:a < m) (hmb:m < b) (hb:b≤data.length) (hb2:b≤1000000) (hK:b - a≤K_) (zdata:All (g6 30) data) (w0 w:World) (B:Asn) (hbel:Below w0.heap.size w0 w) (hsep:∃ Z_,Sep w0.heap.size w [.row (α:=U Qd) 88 datav data,B] Z_) :Calls Tryz.prog 332 #[datav,(.int .i64 ((a:Nat):Int)),(.int .i64 ((m:Nat):Int)),(.int .i64 ((b:Nat):Int)),(.func (.func 247) #[] #[])] w (RetY w0 (fun v=>v=.tuple #[]∧(All (g6 30) (a6 rec_ data a m b)∧(a6 rec_ data a m b).length=data.length)) (fun v=>[.row (α:=U Qd) 88 datav (a6 rec_ data a m b),B])):=by
 refine mF (N:=220) (args:=[datav,(.int .i64 ((a:Nat):Int)),(.int .i64 ((m:Nat):Int)),(.int .i64 ((b:Nat):Int)),(.func (.func 247) #[] #[])]) Tryz.func332 rfl rfl hbel hsep ?_; intro ac h
 have hlendata:=h.len 0 rfl
 refine gz h <| (xo (hs:=by exact fv rfl rfl (r:=(((m - a):Nat):Int)) (by rw [IntKind.wrap_i64]; first | omega | grind))) <| (ai) ?_ ?_ <;> clear h ac <;> intro ac wo h hc1
 ·
  have hd1:=eq_of_beq hc1
  obtain ⟨X1,hX1⟩:∃ X,bZ (fun s=>gf rec_ data a m b s.1 s.2) (b - m+1) (m,b)=X:=⟨_,rfl⟩
  refine gz h <| (W) ?_; clear h ac wo; intro ac wo h
  refine wp_loop_ghost (fun n_ a_ w_=>∃ (i:Nat) (j:Nat),(j - i < n_)∧(bZ (fun s=>gf rec_ data a m b s.1 s.2) n_ (i,j)=X1)∧(i≤j)∧(m≤i)∧(j≤b)∧St w0 220 [(0,datav),(1,(.int .i64 ((a:Nat):Int))),(4,(.func (.func 247) #[] #[])),(10,(.int .i64 ((i:Nat):Int))),(11,(.int .i64 ((j:Nat):Int)))] [.row (α:=U Qd) 88 datav data,B] a_ w_) (b - m+1) ⟨m,b,og,hX1,og,og,og,h.rs⟩ ?_
  clear h ac wo; rintro n1 ac wo ⟨i,j,hm1,hL1,hij,hmi,hjb,h⟩
  obtain ⟨m1,rfl⟩:∃ m,n1=m+1:=⟨n1 - 1,by omega⟩
  refine gz h <| (ai) ?_ ?_ <;> clear h ac wo <;> intro ac wo h hc2
  ·
   have hd2:=of_decide_eq_true hc2
   refine gz h <| (xo (hs:=by exact a8 uu3 uu348 rfl (r:=((i+j:Nat):Int)) (by rw [IntKind.wrap_u64]; first | omega | grind))) <| (xo (hs:=by exact ng rfl rfl (r:=((((i+j) / 2:Nat)):Int)) og (by first | decide | (simp [IntKind.bits] <;> omega)) (by rw [show ((1:Int).toNat)=1 from rfl]; omega))) <| (xo (hs:=by exact a8 uu348 uu3 rfl (r:=((((i+j) / 2:Nat)):Int)) (by rw [IntKind.wrap_i64]; first | omega | grind))) <| (dr0 (hob:=(oK (eO (gt data ((i+j) / 2)) (gt data a) (All.gt zdata (bG _)) (All.gt zdata (bG _)))) <| oE)) <| (ai) ?_ ?_ <;> clear h ac wo <;> intro ac wo h hc3
   ·
    have hd3:=of_decide_eq_true hc3
    refine gz h <| (W) ?_; clear h ac wo; intro ac wo h
    have hg:=cZ hL1 pt
    exact az ⟨m1,og,_,_,og,hg,og,og,og,h.re [0,1]⟩
   ·
    have hd3:=of_decide_eq_false hc3
    refine gz h <| (W) ?_; clear h ac wo; intro ac wo h
    have hg:=cZ hL1 pt
    exact az ⟨m1,og,_,_,og,hg,og,og,og,h.re [0,1]⟩
  ·
   have hd2:=of_decide_eq_false hc2
   have hx1:=eh hL1 pt
   obtain ⟨X2,hX2⟩:∃ X,bZ (fun s=>gb rec_ data a m b i j s.1 s.2) ((i - a)+1) (a,data)=X:=⟨_,rfl⟩
   refine gz h <| (W) ?_; clear h ac wo; intro ac wo h
   refine wp_loop_ghost (fun n_ a_ w_=>∃ (k2:Nat) (data2:List (U Qd)),((i - k2) < n_)∧(bZ (fun s=>gb rec_ data a m b i j s.1 s.2) n_ (k2,data2)=X2)∧(k2≤i)∧(All (g6 30) data2)∧(data2.length=data.length)∧St w0 220 [(0,datav),(10,(.int .i64 ((i:Nat):Int))),(13,(.int .i64 ((k2:Nat):Int)))] [.row (α:=U Qd) 88 datav data2,B] a_ w_) ((i - a)+1) ⟨a,data,og,hX2,og,zdata,og,h.rs⟩ ?_
   clear h ac wo; rintro n2 ac wo ⟨k2,data2,hm2,hL2,hk2,zdata2,hdl,h⟩
   obtain ⟨m2,rfl⟩:∃ m,n2=m+1:=⟨n2 - 1,by omega⟩
   refine gz h <| (ai) ?_ ?_ <;> clear h ac wo <;> intro ac wo h hc4
   ·
    have hd4:=of_decide_eq_true hc4
    refine gz h <| (dr1 (H:=[⟨.row (α:=U Qd) 88 datav data2,[(15,.con (.row (α:=U Qd) 88 datav (data2.set k2 (gt data2 (k2+1))))),(17,.con (.row (α:=U Qd) 88 datav ((data2.set k2 (gt data2 (k2+1))).set (k2+1) (gt data2 k2))))]⟩,⟨_,[]⟩]) (hob:=(oY (h:=by exact fun _=>lS (acc:=[0]) _ [.row (α:=U Qd) 88 datav (data2.set k2 (gt data2 (k2+1)))] rfl rfl (g5 (k:=0) (u':=(gt data2 (k2+1))) zz88 (iF og) rfl (Nat.add_zero _) rfl rfl rfl rfl rfl rfl))) <| (oY (h:=by exact fun _=>lS (acc:=[0]) _ [.row (α:=U Qd) 88 datav ((data2.set k2 (gt data2 (k2+1))).set (k2+1) (gt data2 k2))] rfl rfl (g5 (k:=0) (u':=(gt data2 k2)) zz88 (iF og) rfl (Nat.add_zero _) rfl rfl rfl rfl rfl rfl))) <| oE)) <| (W) ?_; clear h ac wo; intro ac wo h
    have hg:=cZ hL2 pt
    exact az ⟨m2,og,_,_,og,hg,og,(All.set (All.set zdata2 (All.gt zdata2 (bG _))) (All.gt zdata2 (bG _))),og,h.re [0,1]⟩
   ·
    have hd4:=of_decide_eq_false hc4
    have hx2:=eh hL2 pt
    have hd:a6 rec_ data a m b=data2:=pt
    refine gz h <| (W) ?_; clear h ac wo; intro ac wo h
    exact ret (vs:=[]) h rfl .nil rfl ((h.pick [0,1] (by decide)).retY ⟨rfl,(by rw [hd]; exact ⟨zdata2,og⟩)⟩ (by rw [hd]; rfl))
 ·
  have hd1:=ne_of_beq_false hc1
  refine gz h <| (xo (hs:=by exact fv rfl rfl (r:=(((b - m):Nat):Int)) (by rw [IntKind.wrap_i64]; first | omega | grind))) <| (ai) ?_ ?_ <;> clear h ac wo <;> intro ac wo h hc5
  ·
   have hd5:=eq_of_beq hc5
   obtain ⟨X3,hX3⟩:∃ X,bZ (fun s=>f8 rec_ data a m b s.1 s.2) (m - a+1) (a,m)=X:=⟨_,rfl⟩
   refine gz h <| (W) ?_; clear h ac wo; intro ac wo h
   refine wp_loop_ghost (fun n_ a_ w_=>∃ (i:Nat) (j:Nat),(j - i < n_)∧(bZ (fun s=>f8 rec_ data a m b s.1 s.2) n_ (i,j)=X3)∧(i≤j)∧(a≤i)∧(j≤m)∧St w0 220 [(0,datav),(2,(.int .i64 ((m:Nat):Int))),(4,(.func (.func 247) #[] #[])),(14,(.int .i64 ((i:Nat):Int))),(15,(.int .i64 ((j:Nat):Int)))] [.row (α:=U Qd) 88 datav data,B] a_ w_) (m - a+1) ⟨a,m,og,hX3,og,og,og,h.rs⟩ ?_
   clear h ac wo; rintro n3 ac wo ⟨i,j,hm3,hL3,hij3,hmi3,hjb3,h⟩
   obtain ⟨m3,rfl⟩:∃ m,n3=m+1:=⟨n3 - 1,by omega⟩
   refine gz h <| (ai) ?_ ?_ <;> clear h ac wo <;> intro ac wo h hc6
   ·
    have hd6:=of_decide_eq_true hc6
    refine gz h <| (xo (hs:=by exact a8 uu3 uu348 rfl (r:=((i+j:Nat):Int)) (by rw [IntKind.wrap_u64]; first | omega | grind))) <| (xo (hs:=by exact ng rfl rfl (r:=((((i+j) / 2:Nat)):Int)) og (by first | decide | (simp [IntKind.bits] <;> omega)) (by rw [show ((1:Int).toNat)=1 from rfl]; omega))) <| (xo (hs:=by exact a8 uu348 uu3 rfl (r:=((((i+j) / 2:Nat)):Int)) (by rw [IntKind.wrap_i64]; first | omega | grind))) <| (dr0 (hob:=(oK (eO (gt data m) (gt data ((i+j) / 2)) (All.gt zdata (bG _)) (All.gt zdata (bG _)))) <| oE)) <| (ai) ?_ ?_ <;> clear h ac wo <;> intro ac wo h hc7
    ·
     have hq7:=hc7; try simp at hq7
     refine gz h <| (W) ?_; clear h ac wo; intro ac wo h
     have hg:=cZ hL3 pt
     exact az ⟨m3,og,_,_,og,hg,og,og,og,h.re [0,1]⟩
    ·
     have hq7:=hc7; try simp at hq7
     refine gz h <| (W) ?_; clear h ac wo; intro ac wo h
     have hg:=cZ hL3 pt
     exact az ⟨m3,og,_,_,og,hg,og,og,og,h.re [0,1]⟩
   ·
    have hd6:=of_decide_eq_false hc6
    have hx3:=eh hL3 pt
    obtain ⟨X4,hX4⟩:∃ X,bZ (fun s=>f7 rec_ data a m b i j s.1 s.2) (m+1) (m,data)=X:=⟨_,rfl⟩
    refine gz h <| (W) ?_; clear h ac wo; intro ac wo h
    refine wp_loop_ghost (fun n_ a_ w_=>∃ (k4:Nat) (data4:List (U Qd)),(k4 < n_)∧(bZ (fun s=>f7 rec_ data a m b i j s.1 s.2) n_ (k4,data4)=X4)∧(All (g6 30) data4)∧(i≤k4∧k4≤m)∧(data4.length=data.length)∧St w0 220 [(0,datav),(14,(.int .i64 ((i:Nat):Int))),(17,(.int .i64 ((k4:Nat):Int)))] [.row (α:=U Qd) 88 datav data4,B] a_ w_) (m+1) ⟨m,data,og,hX4,zdata,og,og,h.rs⟩ ?_
    clear h ac wo; rintro n4 ac wo ⟨k4,data4,hm4,hL4,zdata4,hk4,hdl4,h⟩
    obtain ⟨m4,rfl⟩:∃ m,n4=m+1:=⟨n4 - 1,by omega⟩
    refine gz h <| (ai) ?_ ?_ <;> clear h ac wo <;> intro ac wo h hc8
    ·
     have hd8:=of_decide_eq_true hc8
     refine gz h <| (dr1 (H:=[⟨.row (α:=U Qd) 88 datav data4,[(15,.con (.row (α:=U Qd) 88 datav (data4.set k4 (gt data4 (k4 - 1))))),(17,.con (.row (α:=U Qd) 88 datav ((data4.set k4 (gt data4 (k4 - 1))).set (k4 - 1) (gt data4 k4))))]⟩,⟨_,[]⟩]) (hob:=(oY (h:=by exact fun _=>lS (acc:=[0]) _ [.row (α:=U Qd) 88 datav (data4.set k4 (gt data4 (k4 - 1)))] rfl rfl (g5 (k:=0) (u':=(gt data4 (k4 - 1))) zz88 (iF og) rfl (Nat.add_zero _) rfl rfl rfl rfl rfl rfl))) <| (oY (h:=by exact fun _=>lS (acc:=[0]) _ [.row (α:=U Qd) 88 datav ((data4.set k4 (gt data4 (k4 - 1))).set (k4 - 1) (gt data4 k4))] rfl rfl (g5 (k:=0) (u':=(gt data4 k4)) zz88 (iF og) rfl (Nat.add_zero _) rfl rfl rfl rfl rfl rfl))) <| oE)) <| (W) ?_; clear h ac wo; intro ac wo h
     have hg:=cZ hL4 pt
     exact az ⟨m4,og,_,_,og,hg,(All.set (All.set zdata4 (All.gt zdata4 (bG _))) (All.gt zdata4 (bG _))),og,og,h.re [0,1]⟩
    ·
     have hd8:=of_decide_eq_false hc8
     have hx4:=eh hL4 pt
     have hd:a6 rec_ data a m b=data4:=pt
     refine gz h <| (W) ?_; clear h ac wo; intro ac wo h
     exact ret (vs:=[]) h rfl .nil rfl ((h.pick [0,1] (by decide)).retY ⟨rfl,(by rw [hd]; exact ⟨zdata4,og⟩)⟩ (by rw [hd]; rfl))
  ·
   have hd5:=ne_of_beq_false hc5
   refine gz h <| (xo (hs:=by exact a8 uu3 uu348 rfl (r:=((a+b:Nat):Int)) (by rw [IntKind.wrap_u64]; first | omega | grind))) <| (xo (hs:=by exact ng rfl rfl (r:=((((a+b) / 2:Nat)):Int)) og (by first | decide | (simp [IntKind.bits] <;> omega)) (by rw [show ((1:Int).toNat)=1 from rfl]; omega))) <| (xo (hs:=by exact a8 uu348 uu3 rfl (r:=((((a+b) / 2:Nat)):Int)) (by rw [IntKind.wrap_i64]; first | omega | grind))) <| (ai) ?_ ?_ <;> clear h ac wo <;> intro ac wo h hc9
   ·
    have hd9:=of_decide_eq_true hc9
    obtain ⟨X5,hX5⟩:∃ X,bZ (fun s=>dT rec_ data a m b s.1 s.2) (((a+b) / 2) - ((((a+b) / 2)+m) - b)+1) (((((a+b) / 2)+m) - b),((a+b) / 2))=X:=⟨_,rfl⟩
    refine gz h <| (xo (hs:=by exact fv rfl rfl (r:=((((((a+b) / 2)+m) - b):Nat):Int)) (by rw [IntKind.wrap_i64]; first | omega | grind))) <| (W) ?_; clear h ac wo; intro ac wo h
    refine wp_loop_ghost (fun n_ a_ w_=>∃ (start:Nat) (r:Nat),(r - start < n_)∧(bZ (fun s=>dT rec_ data a m b s.1 s.2) n_ (start,r)=X5)∧(start≤r)∧(a≤start)∧((a+b) / 2+m≤start+b)∧(r≤m∧r≤(a+b) / 2)∧St w0 220 [(0,datav),(1,(.int .i64 ((a:Nat):Int))),(2,(.int .i64 ((m:Nat):Int))),(3,(.int .i64 ((b:Nat):Int))),(4,(.func (.func 247) #[] #[])),(18,(.int .i64 ((((a+b) / 2:Nat)):Int))),(19,(.int .i64 ((((a+b) / 2)+m:Nat):Int))),(20,(.int .i64 ((start:Nat):Int))),(21,(.int .i64 ((r:Nat):Int))),(22,(.int .i64 ((((((a+b) / 2)+m) - 1):Nat):Int)))] [.row (α:=U Qd) 88 datav data,B] a_ w_) (((a+b) / 2) - ((((a+b) / 2)+m) - b)+1) ⟨((((a+b) / 2)+m) - b),((a+b) / 2),og,hX5,og,og,og,og,h.rs⟩ ?_
    clear h ac wo; rintro n5 ac wo ⟨start,r,hm5,hL5,hsr,hsa,hsb,hrm,h⟩
    obtain ⟨m5,rfl⟩:∃ m,n5=m+1:=⟨n5 - 1,by omega⟩
    refine gz h <| (ai) ?_ ?_ <;> clear h ac wo <;> intro ac wo h hc10
    ·
     have hd10:=of_decide_eq_true hc10
     refine gz h <| (xo (hs:=by exact a8 uu3 uu348 rfl (r:=((start+r:Nat):Int)) (by rw [IntKind.wrap_u64]; first | omega | grind))) <| (xo (hs:=by exact ng rfl rfl (r:=((((start+r) / 2:Nat)):Int)) og (by first | decide | (simp [IntKind.bits] <;> omega)) (by rw [show ((1:Int).toNat)=1 from rfl]; omega))) <| (xo (hs:=by exact a8 uu348 uu3 rfl (r:=((((start+r) / 2:Nat)):Int)) (by rw [IntKind.wrap_i64]; first | omega | grind))) <| (dr0 (hob:=(oX (h:=by exact fun _=>bk (fv rfl rfl (r:=(((((((a+b) / 2)+m) - 1) - ((start+r) / 2)):Nat):Int)) (by rw [IntKind.wrap_i64]; first | omega | grind)))) <| (oK (eO (gt data (((((a+b) / 2)+m) - 1) - ((start+r) / 2))) (gt data ((start+r) / 2)) (All.gt zdata (bG _)) (All.gt zdata (bG _)))) <| oE)) <| (ai) ?_ ?_ <;> clear h ac wo <;> intro ac wo h hc11
     ·
      have hq11:=hc11; try simp at hq11
      refine gz h <| (W) ?_; clear h ac wo; intro ac wo h
      have hg:=cZ hL5 pt
      exact az ⟨m5,og,_,_,og,hg,og,og,og,og,h.re [0,1]⟩
     ·
      have hq11:=hc11; try simp at hq11
      refine gz h <| (W) ?_; clear h ac wo; intro ac wo h
      have hg:=cZ hL5 pt
      exact az ⟨m5,og,_,_,og,hg,og,og,og,og,h.re [0,1]⟩
    ·
     have hd10:=of_decide_eq_false hc10
     have hx5:=eh hL5 pt
     refine gz h <| (xo (hs:=by exact fv rfl rfl (r:=((((((a+b) / 2)+m) - start):Nat):Int)) (by rw [IntKind.wrap_i64]; first | omega | grind))) <| (ai) ?_ ?_ <;> clear h ac wo <;> intro ac wo h hc12
     ·
      have hq12:=hc12; try simp at hq12
      refine gz h <| (W) ?_; clear h ac wo; intro ac wo h
      refine on1 h 0 rfl (jx (vs:=[datav,(.int .i64 ((start:Nat):Int)),(.int .i64 ((m:Nat):Int)),(.int .i64 ((((((a+b) / 2)+m) - start):Nat):Int)),(.func (.func 247) #[] #[])]) (A:=fun v=>[.row (α:=U Qd) 88 datav (aE data start m ((((a+b) / 2)+m) - start))]) (cz Tryz.call358 rfl) (fun w_ B_ hB_ hS_=>gW data datav start m ((((a+b) / 2)+m) - start) og og og og zdata w0 w_ B_ hB_ hS_ )) rfl ?_; clear h ac wo; intro vc ac wo s2 h
      obtain rfl:vc=_:=s2.1
      have p3:=s2.2.2
      refine gz h <| (ai) ?_ ?_ <;> clear h ac wo <;> intro ac wo h hc13
      ·
       have hq13:=hc13; try simp at hq13
       refine gz h <| (W) ?_; clear h ac wo; intro ac wo h
       refine on1 h 0 rfl (jx (vs:=[datav,(.int .i64 ((a:Nat):Int)),(.int .i64 ((start:Nat):Int)),(.int .i64 ((((a+b) / 2:Nat)):Int)),(.func (.func 247) #[] #[])]) (A:=fun v=>[.row (α:=U Qd) 88 datav (rec_ (aE data start m ((((a+b) / 2)+m) - start)) a start ((a+b) / 2))]) (cz cc332 rfl) (fun w_ B_ hB_ hS_=>rec__ct (aE data start m ((((a+b) / 2)+m) - start)) datav a start ((a+b) / 2) og og og og og s2.2.1 w0 w_ B_ hB_ hS_ )) rfl ?_; clear h ac wo; intro vc ac wo s5 h
       obtain rfl:vc=_:=s5.1
       have p6:=s5.2.2
       refine gz h <| (ai) ?_ ?_ <;> clear h ac wo <;> intro ac wo h hc14
       ·
        have hq14:=hc14; try simp at hq14
        refine gz h <| (W) ?_; clear h ac wo; intro ac wo h
        refine on1 h 0 rfl (jx (vs:=[datav,(.int .i64 ((((a+b) / 2:Nat)):Int)),(.int .i64 ((((((a+b) / 2)+m) - start):Nat):Int)),(.int .i64 ((b:Nat):Int)),(.func (.func 247) #[] #[])]) (A:=fun v=>[.row (α:=U Qd) 88 datav (rec_ (rec_ (aE data start m ((((a+b) / 2)+m) - start)) a start ((a+b) / 2)) ((a+b) / 2) ((((a+b) / 2)+m) - start) b)]) (cz cc332 rfl) (fun w_ B_ hB_ hS_=>rec__ct (rec_ (aE data start m ((((a+b) / 2)+m) - start)) a start ((a+b) / 2)) datav ((a+b) / 2) ((((a+b) / 2)+m) - start) b og og og og og s5.2.1 w0 w_ B_ hB_ hS_ )) rfl ?_; clear h ac wo; intro vc ac wo s8 h
        obtain rfl:vc=_:=s8.1
        have p9:=s8.2.2
        have hd:a6 rec_ data a m b=(rec_ (rec_ (aE data start m ((((a+b) / 2)+m) - start)) a start ((a+b) / 2)) ((a+b) / 2) ((((a+b) / 2)+m) - start) b):=pt
        refine gz h <| (W) ?_; clear h ac wo; intro ac wo h
        exact nO (vs:=[]) h rfl .nil rfl ((h.pick [0,1] (by decide)).retY ⟨rfl,(by rw [hd]; exact ⟨s8.2.1,og⟩)⟩ (by rw [hd]; rfl))
       ·
        have hq14:=hc14; try simp at hq14
        have hd:a6 rec_ data a m b=(rec_ (aE data start m ((((a+b) / 2)+m) - start)) a start ((a+b) / 2)):=pt
        refine gz h <| (W) ?_; clear h ac wo; intro ac wo h
        exact nO (vs:=[]) h rfl .nil rfl ((h.pick [0,1] (by decide)).retY ⟨rfl,(by rw [hd]; exact ⟨s5.2.1,og⟩)⟩ (by rw [hd]; rfl))
      ·
       have hq13:=hc13; try simp at hq13
       refine gz h <| (ai) ?_ ?_ <;> clear h ac wo <;> intro ac wo h hc15
       ·
        have hq15:=hc15; try simp at hq15
        refine gz h <| (W) ?_; clear h ac wo; intro ac wo h
        refine on1 h 0 rfl (jx (vs:=[datav,(.int .i64 ((((a+b) / 2:Nat)):Int)),(.int .i64 ((((((a+b) / 2)+m) - start):Nat):Int)),(.int .i64 ((b:Nat):Int)),(.func (.func 247) #[] #[])]) (A:=fun v=>[.row (α:=U Qd) 88 datav (rec_ (aE data start m ((((a+b) / 2)+m) - start)) ((a+b) / 2) ((((a+b) / 2)+m) - start) b)]) (cz cc332 rfl) (fun w_ B_ hB_ hS_=>rec__ct (aE data start m ((((a+b) / 2)+m) - start)) datav ((a+b) / 2) ((((a+b) / 2)+m) - start) b og og og og og s2.2.1 w0 w_ B_ hB_ hS_ )) rfl ?_; clear h ac wo; intro vc ac wo s11 h
        obtain rfl:vc=_:=s11.1
        have p12:=s11.2.2
        refine gz h <| (W) ?_; clear h ac wo; intro ac wo h
        replace h:=h.sub (F':=[]) trivial
        have hd:a6 rec_ data a m b=(rec_ (aE data start m ((((a+b) / 2)+m) - start)) ((a+b) / 2) ((((a+b) / 2)+m) - start) b):=pt
        exact nO (vs:=[]) h rfl .nil rfl ((h.pick [0,1] (by decide)).retY ⟨rfl,(by rw [hd]; exact ⟨s11.2.1,og⟩)⟩ (by rw [hd]; rfl))
       ·
        have hq15:=hc15; try simp at hq15
        have hd:a6 rec_ data a m b=(aE data start m ((((a+b) / 2)+m) - start)):=pt
        refine gz h <| (W) ?_; clear h ac wo; intro ac wo h
        exact nO (vs:=[]) h rfl .nil rfl ((h.pick [0,1] (by decide)).retY ⟨rfl,(by rw [hd]; exact ⟨s2.2.1,og⟩)⟩ (by rw [hd]; rfl))
     ·
      have hq12:=hc12; try simp at hq12
      refine gz h <| (ai) ?_ ?_ <;> clear h ac wo <;> intro ac wo h hc16
      ·
       have hq16:=hc16; try simp at hq16
       refine gz h <| (W) ?_; clear h ac wo; intro ac wo h
       refine on1 h 0 rfl (jx (vs:=[datav,(.int .i64 ((a:Nat):Int)),(.int .i64 ((start:Nat):Int)),(.int .i64 ((((a+b) / 2:Nat)):Int)),(.func (.func 247) #[] #[])]) (A:=fun v=>[.row (α:=U Qd) 88 datav (rec_ data a start ((a+b) / 2))]) (cz cc332 rfl) (fun w_ B_ hB_ hS_=>rec__ct data datav a start ((a+b) / 2) og og og og og zdata w0 w_ B_ hB_ hS_ )) rfl ?_; clear h ac wo; intro vc ac wo s14 h
       obtain rfl:vc=_:=s14.1
       have p15:=s14.2.2
       refine gz h <| (ai) ?_ ?_ <;> clear h ac wo <;> intro ac wo h hc17
       ·
        have hq17:=hc17; try simp at hq17
        refine gz h <| (W) ?_; clear h ac wo; intro ac wo h
        refine on1 h 0 rfl (jx (vs:=[datav,(.int .i64 ((((a+b) / 2:Nat)):Int)),(.int .i64 ((((((a+b) / 2)+m) - start):Nat):Int)),(.int .i64 ((b:Nat):Int)),(.func (.func 247) #[] #[])]) (A:=fun v=>[.row (α:=U Qd) 88 datav (rec_ (rec_ data a start ((a+b) / 2)) ((a+b) / 2) ((((a+b) / 2)+m) - start) b)]) (cz cc332 rfl) (fun w_ B_ hB_ hS_=>rec__ct (rec_ data a start ((a+b) / 2)) datav ((a+b) / 2) ((((a+b) / 2)+m) - start) b og og og og og s14.2.1 w0 w_ B_ hB_ hS_ )) rfl ?_; clear h ac wo; intro vc ac wo s17 h
        obtain rfl:vc=_:=s17.1
        have p18:=s17.2.2
        refine gz h <| (W) ?_; clear h ac wo; intro ac wo h
        replace h:=h.sub (F':=[]) trivial
        have hd:a6 rec_ data a m b=(rec_ (rec_ data a start ((a+b) / 2)) ((a+b) / 2) ((((a+b) / 2)+m) - start) b):=pt
        exact nO (vs:=[]) h rfl .nil rfl ((h.pick [0,1] (by decide)).retY ⟨rfl,(by rw [hd]; exact ⟨s17.2.1,og⟩)⟩ (by rw [hd]; rfl))
       ·
        have hq17:=hc17; try simp at hq17
        have hd:a6 rec_ data a m b=(rec_ data a start ((a+b) / 2)):=pt
        refine gz h <| (W) ?_; clear h ac wo; intro ac wo h
        exact nO (vs:=[]) h rfl .nil rfl ((h.pick [0,1] (by decide)).retY ⟨rfl,(by rw [hd]; exact ⟨s14.2.1,og⟩)⟩ (by rw [hd]; rfl))
      ·
       have hq16:=hc16; try simp at hq16
       refine gz h <| (ai) ?_ ?_ <;> clear h ac wo <;> intro ac wo h hc18
       ·
        have hq18:=hc18; try simp at hq18
        refine gz h <| (W) ?_; clear h ac wo; intro ac wo h
        refine on1 h 0 rfl (jx (vs:=[datav,(.int .i64 ((((a+b) / 2:Nat)):Int)),(.int .i64 ((((((a+b) / 2)+m) - start):Nat):Int)),(.int .i64 ((b:Nat):Int)),(.func (.func 247) #[] #[])]) (A:=fun v=>[.row (α:=U Qd) 88 datav (rec_ data ((a+b) / 2) ((((a+b) / 2)+m) - start) b)]) (cz cc332 rfl) (fun w_ B_ hB_ hS_=>rec__ct data datav ((a+b) / 2) ((((a+b) / 2)+m) - start) b og og og og og zdata w0 w_ B_ hB_ hS_ )) rfl ?_; clear h ac wo; intro vc ac wo s20 h
        obtain rfl:vc=_:=s20.1
        have p21:=s20.2.2
        have hd:a6 rec_ data a m b=(rec_ data ((a+b) / 2) ((((a+b) / 2)+m) - start) b):=pt
        refine gz h <| (W) ?_; clear h ac wo; intro ac wo h
        exact nO (vs:=[]) h rfl .nil rfl ((h.pick [0,1] (by decide)).retY ⟨rfl,(by rw [hd]; exact ⟨s20.2.1,og⟩)⟩ (by rw [hd]; rfl))
       ·
        have hq18:=hc18; try simp at hq18
        have hd:a6 rec_ data a m b=data:=pt
        refine gz h <| (W) ?_; clear h ac wo; intro ac wo h
        exact nO (vs:=[]) h rfl .nil rfl ((h.pick [0,1] (by decide)).retY ⟨rfl,(by rw [hd]; exact ⟨zdata,og⟩)⟩ (by rw [hd]; rfl))
   ·
    have hd9:=of_decide_eq_false hc9
    obtain ⟨X5,hX5⟩:∃ X,bZ (fun s=>dT rec_ data a m b s.1 s.2) (m - a+1) (a,m)=X:=⟨_,rfl⟩
    refine gz h <| (W) ?_; clear h ac wo; intro ac wo h
    refine wp_loop_ghost (fun n_ a_ w_=>∃ (start:Nat) (r:Nat),(r - start < n_)∧(bZ (fun s=>dT rec_ data a m b s.1 s.2) n_ (start,r)=X5)∧(start≤r)∧(a≤start)∧((a+b) / 2+m≤start+b)∧(r≤m∧r≤(a+b) / 2)∧St w0 220 [(0,datav),(1,(.int .i64 ((a:Nat):Int))),(2,(.int .i64 ((m:Nat):Int))),(3,(.int .i64 ((b:Nat):Int))),(4,(.func (.func 247) #[] #[])),(18,(.int .i64 ((((a+b) / 2:Nat)):Int))),(19,(.int .i64 ((((a+b) / 2)+m:Nat):Int))),(20,(.int .i64 ((start:Nat):Int))),(21,(.int .i64 ((r:Nat):Int))),(22,(.int .i64 ((((((a+b) / 2)+m) - 1):Nat):Int)))] [.row (α:=U Qd) 88 datav data,B] a_ w_) (m - a+1) ⟨a,m,og,hX5,og,og,og,og,h.rs⟩ ?_
    clear h ac wo; rintro n5 ac wo ⟨start,r,hm5,hL5,hsr,hsa,hsb,hrm,h⟩
    obtain ⟨m5,rfl⟩:∃ m,n5=m+1:=⟨n5 - 1,by omega⟩
    refine gz h <| (ai) ?_ ?_ <;> clear h ac wo <;> intro ac wo h hc19
    ·
     have hd19:=of_decide_eq_true hc19
     refine gz h <| (xo (hs:=by exact a8 uu3 uu348 rfl (r:=((start+r:Nat):Int)) (by rw [IntKind.wrap_u64]; first | omega | grind))) <| (xo (hs:=by exact ng rfl rfl (r:=((((start+r) / 2:Nat)):Int)) og (by first | decide | (simp [IntKind.bits] <;> omega)) (by rw [show ((1:Int).toNat)=1 from rfl]; omega))) <| (xo (hs:=by exact a8 uu348 uu3 rfl (r:=((((start+r) / 2:Nat)):Int)) (by rw [IntKind.wrap_i64]; first | omega | grind))) <| (dr0 (hob:=(oX (h:=by exact fun _=>bk (fv rfl rfl (r:=(((((((a+b) / 2)+m) - 1) - ((start+r) / 2)):Nat):Int)) (by rw [IntKind.wrap_i64]; first | omega | grind)))) <| (oK (eO (gt data (((((a+b) / 2)+m) - 1) - ((start+r) / 2))) (gt data ((start+r) / 2)) (All.gt zdata (bG _)) (All.gt zdata (bG _)))) <| oE)) <| (ai) ?_ ?_ <;> clear h ac wo <;> intro ac wo h hc20
     ·
      have hq20:=hc20; try simp at hq20
      refine gz h <| (W) ?_; clear h ac wo; intro ac wo h
      have hg:=cZ hL5 pt
      exact az ⟨m5,og,_,_,og,hg,og,og,og,og,h.re [0,1]⟩
     ·
      have hq20:=hc20; try simp at hq20
      refine gz h <| (W) ?_; clear h ac wo; intro ac wo h
      have hg:=cZ hL5 pt
      exact az ⟨m5,og,_,_,og,hg,og,og,og,og,h.re [0,1]⟩
    ·
     have hd19:=of_decide_eq_false hc19
     have hx5:=eh hL5 pt
     refine gz h <| (xo (hs:=by exact fv rfl rfl (r:=((((((a+b) / 2)+m) - start):Nat):Int)) (by rw [IntKind.wrap_i64]; first | omega | grind))) <| (ai) ?_ ?_ <;> clear h ac wo <;> intro ac wo h hc21
     ·
      have hq21:=hc21; try simp at hq21
      refine gz h <| (W) ?_; clear h ac wo; intro ac wo h
      refine on1 h 0 rfl (jx (vs:=[datav,(.int .i64 ((start:Nat):Int)),(.int .i64 ((m:Nat):Int)),(.int .i64 ((((((a+b) / 2)+m) - start):Nat):Int)),(.func (.func 247) #[] #[])]) (A:=fun v=>[.row (α:=U Qd) 88 datav (aE data start m ((((a+b) / 2)+m) - start))]) (cz Tryz.call358 rfl) (fun w_ B_ hB_ hS_=>gW data datav start m ((((a+b) / 2)+m) - start) og og og og zdata w0 w_ B_ hB_ hS_ )) rfl ?_; clear h ac wo; intro vc ac wo s23 h
      obtain rfl:vc=_:=s23.1
      have p24:=s23.2.2
      refine gz h <| (ai) ?_ ?_ <;> clear h ac wo <;> intro ac wo h hc22
      ·
       have hq22:=hc22; try simp at hq22
       refine gz h <| (W) ?_; clear h ac wo; intro ac wo h
       refine on1 h 0 rfl (jx (vs:=[datav,(.int .i64 ((a:Nat):Int)),(.int .i64 ((start:Nat):Int)),(.int .i64 ((((a+b) / 2:Nat)):Int)),(.func (.func 247) #[] #[])]) (A:=fun v=>[.row (α:=U Qd) 88 datav (rec_ (aE data start m ((((a+b) / 2)+m) - start)) a start ((a+b) / 2))]) (cz cc332 rfl) (fun w_ B_ hB_ hS_=>rec__ct (aE data start m ((((a+b) / 2)+m) - start)) datav a start ((a+b) / 2) og og og og og s23.2.1 w0 w_ B_ hB_ hS_ )) rfl ?_; clear h ac wo; intro vc ac wo s26 h
       obtain rfl:vc=_:=s26.1
       have p27:=s26.2.2
       refine gz h <| (ai) ?_ ?_ <;> clear h ac wo <;> intro ac wo h hc23
       ·
        have hq23:=hc23; try simp at hq23
        refine gz h <| (W) ?_; clear h ac wo; intro ac wo h
        refine on1 h 0 rfl (jx (vs:=[datav,(.int .i64 ((((a+b) / 2:Nat)):Int)),(.int .i64 ((((((a+b) / 2)+m) - start):Nat):Int)),(.int .i64 ((b:Nat):Int)),(.func (.func 247) #[] #[])]) (A:=fun v=>[.row (α:=U Qd) 88 datav (rec_ (rec_ (aE data start m ((((a+b) / 2)+m) - start)) a start ((a+b) / 2)) ((a+b) / 2) ((((a+b) / 2)+m) - start) b)]) (cz cc332 rfl) (fun w_ B_ hB_ hS_=>rec__ct (rec_ (aE data start m ((((a+b) / 2)+m) - start)) a start ((a+b) / 2)) datav ((a+b) / 2) ((((a+b) / 2)+m) - start) b og og og og og s26.2.1 w0 w_ B_ hB_ hS_ )) rfl ?_; clear h ac wo; intro vc ac wo s29 h
        obtain rfl:vc=_:=s29.1
        have p30:=s29.2.2
        have hd:a6 rec_ data a m b=(rec_ (rec_ (aE data start m ((((a+b) / 2)+m) - start)) a start ((a+b) / 2)) ((a+b) / 2) ((((a+b) / 2)+m) - start) b):=pt
        refine gz h <| (W) ?_; clear h ac wo; intro ac wo h
        exact nO (vs:=[]) h rfl .nil rfl ((h.pick [0,1] (by decide)).retY ⟨rfl,(by rw [hd]; exact ⟨s29.2.1,og⟩)⟩ (by rw [hd]; rfl))
       ·
        have hq23:=hc23; try simp at hq23
        have hd:a6 rec_ data a m b=(rec_ (aE data start m ((((a+b) / 2)+m) - start)) a start ((a+b) / 2)):=pt
        refine gz h <| (W) ?_; clear h ac wo; intro ac wo h
        exact nO (vs:=[]) h rfl .nil rfl ((h.pick [0,1] (by decide)).retY ⟨rfl,(by rw [hd]; exact ⟨s26.2.1,og⟩)⟩ (by rw [hd]; rfl))
      ·
       have hq22:=hc22; try simp at hq22
       refine gz h <| (ai) ?_ ?_ <;> clear h ac wo <;> intro ac wo h hc24
       ·
        have hq24:=hc24; try simp at hq24
        refine gz h <| (W) ?_; clear h ac wo; intro ac wo h
        refine on1 h 0 rfl (jx (vs:=[datav,(.int .i64 ((((a+b) / 2:Nat)):Int)),(.int .i64 ((((((a+b) / 2)+m) - start):Nat):Int)),(.int .i64 ((b:Nat):Int)),(.func (.func 247) #[] #[])]) (A:=fun v=>[.row (α:=U Qd) 88 datav (rec_ (aE data start m ((((a+b) / 2)+m) - start)) ((a+b) / 2) ((((a+b) / 2)+m) - start) b)]) (cz cc332 rfl) (fun w_ B_ hB_ hS_=>rec__ct (aE data start m ((((a+b) / 2)+m) - start)) datav ((a+b) / 2) ((((a+b) / 2)+m) - start) b og og og og og s23.2.1 w0 w_ B_ hB_ hS_ )) rfl ?_; clear h ac wo; intro vc ac wo s32 h
        obtain rfl:vc=_:=s32.1
        have p33:=s32.2.2
        refine gz h <| (W) ?_; clear h ac wo; intro ac wo h
        replace h:=h.sub (F':=[]) trivial
        have hd:a6 rec_ data a m b=(rec_ (aE data start m ((((a+b) / 2)+m) - start)) ((a+b) / 2) ((((a+b) / 2)+m) - start) b):=pt
        exact nO (vs:=[]) h rfl .nil rfl ((h.pick [0,1] (by decide)).retY ⟨rfl,(by rw [hd]; exact ⟨s32.2.1,og⟩)⟩ (by rw [hd]; rfl))
       ·
        have hq24:=hc24; try simp at hq24
        have hd:a6 rec_ data a m b=(aE data start m ((((a+b) / 2)+m) - start)):=pt
        refine gz h <| (W) ?_; clear h ac wo; intro ac wo h
        exact nO (vs:=[]) h rfl .nil rfl ((h.pick [0,1] (by decide)).retY ⟨rfl,(by rw [hd]; exact ⟨s23.2.1,og⟩)⟩ (by rw [hd]; rfl))
     ·
      have hq21:=hc21; try simp at hq21
      refine gz h <| (ai) ?_ ?_ <;> clear h ac wo <;> intro ac wo h hc25
      ·
       have hq25:=hc25; try simp at hq25
       refine gz h <| (W) ?_; clear h ac wo; intro ac wo h
       refine on1 h 0 rfl (jx (vs:=[datav,(.int .i64 ((a:Nat):Int)),(.int .i64 ((start:Nat):Int)),(.int .i64 ((((a+b) / 2:Nat)):Int)),(.func (.func 247) #[] #[])]) (A:=fun v=>[.row (α:=U Qd) 88 datav (rec_ data a start ((a+b) / 2))]) (cz cc332 rfl) (fun w_ B_ hB_ hS_=>rec__ct data datav a start ((a+b) / 2) og og og og og zdata w0 w_ B_ hB_ hS_ )) rfl ?_; clear h ac wo; intro vc ac wo s35 h
       obtain rfl:vc=_:=s35.1
       have p36:=s35.2.2
       refine gz h <| (ai) ?_ ?_ <;> clear h ac wo <;> intro ac wo h hc26
       ·
        have hq26:=hc26; try simp at hq26
        refine gz h <| (W) ?_; clear h ac wo; intro ac wo h
        refine on1 h 0 rfl (jx (vs:=[datav,(.int .i64 ((((a+b) / 2:Nat)):Int)),(.int .i64 ((((((a+b) / 2)+m) - start):Nat):Int)),(.int .i64 ((b:Nat):Int)),(.func (.func 247) #[] #[])]) (A:=fun v=>[.row (α:=U Qd) 88 datav (rec_ (rec_ data a start ((a+b) / 2)) ((a+b) / 2) ((((a+b) / 2)+m) - start) b)]) (cz cc332 rfl) (fun w_ B_ hB_ hS_=>rec__ct (rec_ data a start ((a+b) / 2)) datav ((a+b) / 2) ((((a+b) / 2)+m) - start) b og og og og og s35.2.1 w0 w_ B_ hB_ hS_ )) rfl ?_; clear h ac wo; intro vc ac wo s38 h
        obtain rfl:vc=_:=s38.1
        have p39:=s38.2.2
        refine gz h <| (W) ?_; clear h ac wo; intro ac wo h
        replace h:=h.sub (F':=[]) trivial
        have hd:a6 rec_ data a m b=(rec_ (rec_ data a start ((a+b) / 2)) ((a+b) / 2) ((((a+b) / 2)+m) - start) b):=pt
        exact nO (vs:=[]) h rfl .nil rfl ((h.pick [0,1] (by decide)).retY ⟨rfl,(by rw [hd]; exact ⟨s38.2.1,og⟩)⟩ (by rw [hd]; rfl))
       ·
        have hq26:=hc26; try simp at hq26
        have hd:a6 rec_ data a m b=(rec_ data a start ((a+b) / 2)):=pt
        refine gz h <| (W) ?_; clear h ac wo; intro ac wo h
        exact nO (vs:=[]) h rfl .nil rfl ((h.pick [0,1] (by decide)).retY ⟨rfl,(by rw [hd]; exact ⟨s35.2.1,og⟩)⟩ (by rw [hd]; rfl))
      ·
       have hq25:=hc25; try simp at hq25
       refine gz h <| (ai) ?_ ?_ <;> clear h ac wo <;> intro ac wo h hc27
       ·
        have hq27:=hc27; try simp at hq27
        refine gz h <| (W) ?_; clear h ac wo; intro ac wo h
        refine on1 h 0 rfl (jx (vs:=[datav,(.int .i64 ((((a+b) / 2:Nat)):Int)),(.int .i64 ((((((a+b) / 2)+m) - start):Nat):Int)),(.int .i64 ((b:Nat):Int)),(.func (.func 247) #[] #[])]) (A:=fun v=>[.row (α:=U Qd) 88 datav (rec_ data ((a+b) / 2) ((((a+b) / 2)+m) - start) b)]) (cz cc332 rfl) (fun w_ B_ hB_ hS_=>rec__ct data datav ((a+b) / 2) ((((a+b) / 2)+m) - start) b og og og og og zdata w0 w_ B_ hB_ hS_ )) rfl ?_; clear h ac wo; intro vc ac wo s41 h
        obtain rfl:vc=_:=s41.1
        have p42:=s41.2.2
        have hd:a6 rec_ data a m b=(rec_ data ((a+b) / 2) ((((a+b) / 2)+m) - start) b):=pt
        refine gz h <| (W) ?_; clear h ac wo; intro ac wo h
        exact nO (vs:=[]) h rfl .nil rfl ((h.pick [0,1] (by decide)).retY ⟨rfl,(by rw [hd]; exact ⟨s41.2.1,og⟩)⟩ (by rw [hd]; rfl))
       ·
        have hq27:=hc27; try simp at hq27
        have hd:a6 rec_ data a m b=data:=pt
        refine gz h <| (W) ?_; clear h ac wo; intro ac wo h
        exact nO (vs:=[]) h rfl .nil rfl ((h.pick [0,1] (by decide)).retY ⟨rfl,(by rw [hd]; exact ⟨zdata,og⟩)⟩ (by rw [hd]; rfl))
def dl:Nat→List (U Qd)→Nat→Nat→Nat→List (U Qd)
 | 0,d,_,_,_=>d
 | K+1,d,a,m,b=>a6 (dl K) d a m b
theorem fZ:∀ (K_:Nat) (data:List (U Qd)) (datav:Value) (a:Nat) (m:Nat) (b:Nat) (ham:a < m) (hmb:m < b) (hb:b≤data.length) (hb2:b≤1000000) (hK:b - a < K_) (zdata:All (g6 30) data) (w0 w:World) (B:Asn) (hbel:Below w0.heap.size w0 w) (hsep:∃ Z_,Sep w0.heap.size w [.row (α:=U Qd) 88 datav data,B] Z_) ,Calls Tryz.prog 332 #[datav,(.int .i64 ((a:Nat):Int)),(.int .i64 ((m:Nat):Int)),(.int .i64 ((b:Nat):Int)),(.func (.func 247) #[] #[])] w (RetY w0 (fun v=>v=.tuple #[]∧(All (g6 30) (dl K_ data a m b)∧(dl K_ data a m b).length=data.length)) (fun v=>[.row (α:=U Qd) 88 datav (dl K_ data a m b),B]))
 | 0=>by intros; omega
 | K_+1=>fun data datav a m b ham hmb hb hb2 hK=>kx (dl K_) K_ (fZ K_) data datav a m b ham hmb hb hb2 og
def cG (data:List (U Qd)) (a:Nat) (m:Nat) (b:Nat):List (U Qd):=dl (b - a+1) data a m b
theorem gm (data:List (U Qd)) (datav:Value) (a:Nat) (m:Nat) (b:Nat) (ham:a < m) (hmb:m < b) (hb:b≤data.length) (hb2:b≤1000000) (zdata:All (g6 30) data) (w0 w:World) (B:Asn) (hbel:Below w0.heap.size w0 w) (hsep:∃ Z_,Sep w0.heap.size w [.row (α:=U Qd) 88 datav data,B] Z_) :Calls Tryz.prog 332 #[datav,(.int .i64 ((a:Nat):Int)),(.int .i64 ((m:Nat):Int)),(.int .i64 ((b:Nat):Int)),(.func (.func 247) #[] #[])] w (RetY w0 (fun v=>v=.tuple #[]∧(All (g6 30) (cG data a m b)∧(cG data a m b).length=data.length)) (fun v=>[.row (α:=U Qd) 88 datav (cG data a m b),B])) :=
 fZ (b - a+1) data datav a m b ham hmb hb hb2 og zdata w0 w B hbel hsep
attribute [irreducible] cG a6
end Go.Sx
