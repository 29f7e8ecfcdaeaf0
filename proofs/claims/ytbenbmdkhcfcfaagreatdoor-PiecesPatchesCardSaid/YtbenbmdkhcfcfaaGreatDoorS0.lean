import Derived.Test.YtbenbmdkhcfcfaaGreatDoorQ1
import Derived.Test.YtbenbmdkhcfcfaaGreatDoorQ2
set_option linter.unusedVariables false
set_option linter.unusedSimpArgs false
open Go.Proofs.Tryz renaming prog → zP, sizeOf126 → zz126, call333 → cc333, runUnderlying3 → uu3, runUnderlying276 → uu276, call295 → cc295, sizeOf4 → zz4, underlying216 → nn216
open Go.IntKind renaming wrap_i64 → wI
set_option maxRecDepth 100000
set_option maxHeartbeats 40000000
namespace Go.Sx
open Go Go.RowKit Go.Proofs
attribute [local irreducible] Code.wp wpList Rd gW ObS Ent
attribute [local irreducible] an bB ah aO az c8
def jG (data:List (U Qd)) (a:Nat) (b:Nat) (n:Nat) (i:Nat) (data1:List (U Qd)):List (U Qd) :=
 data1
def e8 (data:List (U Qd)) (a:Nat) (b:Nat) (n:Nat) (i:Nat) (data1:List (U Qd)):Nx (Nat×(List (U Qd))) (List (U Qd)) :=
 bif (decide ((i:Int) < (n:Int))) then
  .go ((i+1),((data1.set (a+i) (gt data1 (b+i))).set (b+i) (gt data1 (a+i))))
 else
  .out (i,data1)
def bK (data:List (U Qd)) (a:Nat) (b:Nat) (n:Nat):List (U Qd) :=
 fin (bt (fun s=>e8 data a b n s.1 s.2) ((n - 0)+1) (0,data)) (fun s=>jG data a b n s.1 s.2) (fun r=>r)
theorem e7 (data:List (U Qd)) (datav:Value) (a:Nat) (b:Nat) (n:Nat) (hab:a+n≤b) (hb:b+n≤data.length) (hb2:b+n≤1000000) (zdata:All (gk 30) data) (w0 w:World) (B:Asn) (hbel:Below w0.heap.size w0 w) (hsep:∃ Z_,Sep w0.heap.size w [.row (α:=U Qd) 126 datav data,B] Z_):Calls zP 333 #[datav,(iN a),(iN b),(iN n),(.func (.func 225) #[] #[])] w (RetY w0 (fun v=>v=.tuple #[]∧(All (gk 30) (bK data a b n)∧(bK data a b n).length=data.length)) (fun v=>[.row (α:=U Qd) 126 datav (bK data a b n),B])):=by
 refine lU (N:=38) Tryz.func333 rfl rfl hbel hsep ?_; intro ac h
 have hlendata:=h.len 0 rfl
 obtain ⟨X1,hX1⟩:∃ X,bt (fun s=>e8 data a b n s.1 s.2) ((n - 0)+1) (0,data)=X:=⟨_,rfl⟩
 refine gz h <| (W) ?_; clear h; intro _ _ h
 refine wp_loop_ghost (fun n_ a_ w_=>∃ (i:Nat) (data1:List (U Qd)),((n - i) < n_)∧(bt (fun s=>e8 data a b n s.1 s.2) n_ (i,data1)=X1)∧(i≤n)∧(All (gk 30) data1)∧(data1.length=data.length)∧St w0 38 [(0,datav),(1,(iN a)),(2,(iN b)),(3,(iN n)),(10,(iN i))] [.row (α:=U Qd) 126 datav data1,B] a_ w_) ((n - 0)+1) ⟨0,data,og,hX1,og,zdata,og,h.rs⟩ ?_
 clear h; rintro n1 _ _ ⟨i,data1,hm1,hL1,hi,zdata1,hdl,h⟩
 obtain ⟨m1,rfl⟩:∃ m,n1=m+1:=⟨n1 - 1,by omega⟩
 refine gz h <| (ai) ?_ ?_ <;> clear h <;> intro _ _ h hc1
 ·
  have hd1:=of_decide_eq_true hc1
  refine gz h <| (dr1 (H:=[⟨.row (α:=U Qd) 126 datav data1,[(21,.con (.row (α:=U Qd) 126 datav (data1.set (a+i) (gt data1 (b+i))))),(23,.con (.row (α:=U Qd) 126 datav ((data1.set (a+i) (gt data1 (b+i))).set (b+i) (gt data1 (a+i)))))]⟩,ge _]) (hob:=(oY (h:=by exact fun _=>m0 (acc:=[0]) _ [.row (α:=U Qd) 126 datav (data1.set (a+i) (gt data1 (b+i)))] rfl rfl (ia (k:=0) (u':=(gt data1 (b+i))) zz126 (ff og) rfl (Nat.add_zero _) rfl rfl rfl rfl rfl rfl))) <| (oY (h:=by exact fun _=>m0 (acc:=[0]) _ [.row (α:=U Qd) 126 datav ((data1.set (a+i) (gt data1 (b+i))).set (b+i) (gt data1 (a+i)))] rfl rfl (ia (k:=0) (u':=(gt data1 (a+i))) zz126 (ff og) rfl (Nat.add_zero _) rfl rfl rfl rfl rfl rfl))) <| oE)) <| (W) ?_; clear h; intro _ _ h
  have hg:=bI hL1 pt
  exact aD ⟨m1,og,_,_,og,hg,og,(All.set (All.set zdata1 (All.gt zdata1 (bL _))) (All.gt zdata1 (bL _))),og,h.re [0,1]⟩
 ·
  have hd1:=of_decide_eq_false hc1
  have hx1:=cG hL1 pt
  have hd:bK data a b n=data1:=pt
  refine gz h <| (W) ?_; clear h; intro _ _ h
  exact oP (vs:=[]) h rfl .nil rfl ((h.pick [0,1] DC).retY ⟨rfl,(by rw [hd]; exact ⟨zdata1,og⟩)⟩ (by rw [hd]; rfl))
attribute [irreducible] bK
def km (data:List (U Qd)) (a:Nat) (m:Nat) (b:Nat) (i:Nat) (j:Nat) (data1:List (U Qd)):List (U Qd) :=
 (bK data1 (m - i) m i)
def fE (data:List (U Qd)) (a:Nat) (m:Nat) (b:Nat) (i:Nat) (j:Nat) (data1:List (U Qd)):Nx (Nat×Nat×(List (U Qd))) (List (U Qd)) :=
 bif (((i:Int)) != ((j:Int))) then
  bif (decide ((i:Int)>(j:Int))) then
   .go ((i - j),j,(bK data1 (m - i) m j))
  else
   .go (i,(j - i),(bK data1 (m - i) ((m+j) - i) i))
 else
  .out (i,j,data1)
def aK (data:List (U Qd)) (a:Nat) (m:Nat) (b:Nat):List (U Qd) :=
 fin (bt (fun s=>fE data a m b s.1 s.2.1 s.2.2) ((m - a)+(b - m)+1) ((m - a),(b - m),data)) (fun s=>km data a m b s.1 s.2.1 s.2.2) (fun r=>r)
theorem io (data:List (U Qd)) (datav:Value) (a:Nat) (m:Nat) (b:Nat) (ham:a < m) (hmb:m < b) (hb:b≤data.length) (hb2:b≤1000000) (zdata:All (gk 30) data) (w0 w:World) (B:Asn) (hbel:Below w0.heap.size w0 w) (hsep:∃ Z_,Sep w0.heap.size w [.row (α:=U Qd) 126 datav data,B] Z_):Calls zP 316 #[datav,(iN a),(iN m),(iN b),(.func (.func 225) #[] #[])] w (RetY w0 (fun v=>v=.tuple #[]∧(All (gk 30) (aK data a m b)∧(aK data a m b).length=data.length)) (fun v=>[.row (α:=U Qd) 126 datav (aK data a m b),B])):=by
 refine lU (N:=58) Tryz.func316 rfl rfl hbel hsep ?_; intro ac h
 have hlendata:=h.len 0 rfl
 obtain ⟨X1,hX1⟩:∃ X,bt (fun s=>fE data a m b s.1 s.2.1 s.2.2) ((m - a)+(b - m)+1) ((m - a),(b - m),data)=X:=⟨_,rfl⟩
 refine gz h <| (xo (hs:=by exact fh rfl rfl (r:=(((m - a):Nat):Int)) (by rw [wI]; first | omega | grind))) <| (xo (hs:=by exact fh rfl rfl (r:=(((b - m):Nat):Int)) (by rw [wI]; first | omega | grind))) <| (W) ?_; clear h; intro _ _ h
 refine wp_loop_ghost (fun n_ a_ w_=>∃ (i:Nat) (j:Nat) (data1:List (U Qd)),(i+j < n_)∧(bt (fun s=>fE data a m b s.1 s.2.1 s.2.2) n_ (i,j,data1)=X1)∧(All (gk 30) data1)∧(0 < i)∧(0 < j)∧(i≤m)∧(m+j≤b)∧(data1.length=data.length)∧St w0 58 [(0,datav),(2,(iN m)),(4,(.func (.func 225) #[] #[])),(10,(iN i)),(11,(iN j))] [.row (α:=U Qd) 126 datav data1,B] a_ w_) ((m - a)+(b - m)+1) ⟨(m - a),(b - m),data,og,hX1,zdata,og,og,og,og,og,h.rs⟩ ?_
 clear h; rintro n1 _ _ ⟨i,j,data1,hm1,hL1,zdata1,hi0,hj0,him,hjb,hdl,h⟩
 obtain ⟨m1,rfl⟩:∃ m,n1=m+1:=⟨n1 - 1,by omega⟩
 refine gz h <| (ai) ?_ ?_ <;> clear h <;> intro _ _ h hc1
 ·
  have q:=hc1; try simp at q
  refine gz h <| (ai) ?_ ?_ <;> clear h <;> intro _ _ h hc2
  ·
   have hd2:=of_decide_eq_true hc2
   refine gz h <| (xo (hs:=by exact fh rfl rfl (r:=(((m - i):Nat):Int)) (by rw [wI]; first | omega | grind))) <| (W) ?_; clear h; intro _ _ h
   refine on1 h 0 rfl (ji (vs:=[datav,(iN (m - i)),(iN m),(iN j),(.func (.func 225) #[] #[])]) (A:=fun v=>[.row (α:=U Qd) 126 datav (bK data1 (m - i) m j)]) (ck cc333 rfl) (fun w_ B_ hB_ hS_=>e7 data1 datav (m - i) m j og og og zdata1 w0 w_ B_ hB_ hS_ )) rfl ?_; clear h; intro vc _ _ s2 h
   obtain rfl:vc=_:=s2.1
   have p3:=s2.2.2
   refine gz h <| (xo (hs:=by exact fh rfl rfl (r:=(((i - j):Nat):Int)) (by rw [wI]; first | omega | grind))) <| (W) ?_; clear h; intro _ _ h
   have hg:=bI hL1 pt
   exact aD ⟨m1,og,_,_,_,og,hg,s2.2.1,og,og,og,og,og,h.re [0,1]⟩
  ·
   have hd2:=of_decide_eq_false hc2
   refine gz h <| (xo (hs:=by exact fh rfl rfl (r:=(((m - i):Nat):Int)) (by rw [wI]; first | omega | grind))) <| (xo (hs:=by exact fh rfl rfl (r:=((((m+j) - i):Nat):Int)) (by rw [wI]; first | omega | grind))) <| (W) ?_; clear h; intro _ _ h
   refine on1 h 0 rfl (ji (vs:=[datav,(iN (m - i)),(iN ((m+j) - i)),(iN i),(.func (.func 225) #[] #[])]) (A:=fun v=>[.row (α:=U Qd) 126 datav (bK data1 (m - i) ((m+j) - i) i)]) (ck cc333 rfl) (fun w_ B_ hB_ hS_=>e7 data1 datav (m - i) ((m+j) - i) i og og og zdata1 w0 w_ B_ hB_ hS_ )) rfl ?_; clear h; intro vc _ _ s5 h
   obtain rfl:vc=_:=s5.1
   have p6:=s5.2.2
   refine gz h <| (xo (hs:=by exact fh rfl rfl (r:=(((j - i):Nat):Int)) (by rw [wI]; first | omega | grind))) <| (W) ?_; clear h; intro _ _ h
   have hg:=bI hL1 pt
   exact aD ⟨m1,og,_,_,_,og,hg,s5.2.1,og,og,og,og,og,h.re [0,1]⟩
 ·
  have q:=hc1; try simp at q
  have hx1:=cG hL1 pt
  refine gz h <| (xo (hs:=by exact fh rfl rfl (r:=(((m - i):Nat):Int)) (by rw [wI]; first | omega | grind))) <| (W) ?_; clear h; intro _ _ h
  refine on1 h 0 rfl (ji (vs:=[datav,(iN (m - i)),(iN m),(iN i),(.func (.func 225) #[] #[])]) (A:=fun v=>[.row (α:=U Qd) 126 datav (bK data1 (m - i) m i)]) (ck cc333 rfl) (fun w_ B_ hB_ hS_=>e7 data1 datav (m - i) m i og og og zdata1 w0 w_ B_ hB_ hS_ )) rfl ?_; clear h; intro vc _ _ s8 h
  obtain rfl:vc=_:=s8.1
  have p9:=s8.2.2
  refine gz h <| (W) ?_; clear h; intro _ _ h
  replace h:=h.sub (F':=[]) trivial
  have hd:aK data a m b=(bK data1 (m - i) m i):=pt
  exact oP (vs:=[]) h rfl .nil rfl ((h.pick [0,1] DC).retY ⟨rfl,(by rw [hd]; exact ⟨s8.2.1,og⟩)⟩ (by rw [hd]; rfl))
attribute [irreducible] aK
end Go.Sx
namespace Go.Sx
open Go Go.RowKit Go.Proofs
attribute [local irreducible] Code.wp wpList Rd gW ObS Ent
attribute [local irreducible] an bB ah aO az c8
def k9 (rec_:List (U Qd)→Nat→Nat→Nat→List (U Qd)) (data:List (U Qd)) (a:Nat) (m:Nat) (b:Nat) (i:Nat) (j:Nat) (k2:Nat) (data2:List (U Qd)):List (U Qd) :=
 data2
def gI (rec_:List (U Qd)→Nat→Nat→Nat→List (U Qd)) (data:List (U Qd)) (a:Nat) (m:Nat) (b:Nat) (i:Nat) (j:Nat) (k2:Nat) (data2:List (U Qd)):Nx (Nat×(List (U Qd))) (List (U Qd)) :=
 bif (decide ((k2:Int) < (((i - 1):Nat):Int))) then
  .go ((k2+1),((data2.set k2 (gt data2 (k2+1))).set (k2+1) (gt data2 k2)))
 else
  .out (k2,data2)
def la (rec_:List (U Qd)→Nat→Nat→Nat→List (U Qd)) (data:List (U Qd)) (a:Nat) (m:Nat) (b:Nat) (i:Nat) (j:Nat):List (U Qd) :=
 fin (bt (fun s=>gI rec_ data a m b i j s.1 s.2) ((i - a)+1) (a,data)) (fun s=>k9 rec_ data a m b i j s.1 s.2) (fun r=>r)
def gJ (rec_:List (U Qd)→Nat→Nat→Nat→List (U Qd)) (data:List (U Qd)) (a:Nat) (m:Nat) (b:Nat) (i:Nat) (j:Nat):Nx (Nat×Nat) (List (U Qd)) :=
 bif (decide ((i:Int) < (j:Int))) then
  bif (decide ((bu (gt data ((i+j) / 2)) (gt data a)) < 0)) then
   .go ((((i+j) / 2)+1),j)
  else
   .go (i,((i+j) / 2))
 else
  .out (i,j)
def k7 (rec_:List (U Qd)→Nat→Nat→Nat→List (U Qd)) (data:List (U Qd)) (a:Nat) (m:Nat) (b:Nat) (i:Nat) (j:Nat) (k4:Nat) (data4:List (U Qd)):List (U Qd) :=
 data4
def gG (rec_:List (U Qd)→Nat→Nat→Nat→List (U Qd)) (data:List (U Qd)) (a:Nat) (m:Nat) (b:Nat) (i:Nat) (j:Nat) (k4:Nat) (data4:List (U Qd)):Nx (Nat×(List (U Qd))) (List (U Qd)) :=
 bif (decide ((k4:Int)>(i:Int))) then
  .go ((k4 - 1),((data4.set k4 (gt data4 (k4 - 1))).set (k4 - 1) (gt data4 k4)))
 else
  .out (k4,data4)
def k8 (rec_:List (U Qd)→Nat→Nat→Nat→List (U Qd)) (data:List (U Qd)) (a:Nat) (m:Nat) (b:Nat) (i:Nat) (j:Nat):List (U Qd) :=
 fin (bt (fun s=>gG rec_ data a m b i j s.1 s.2) (m+1) (m,data)) (fun s=>k7 rec_ data a m b i j s.1 s.2) (fun r=>r)
def gH (rec_:List (U Qd)→Nat→Nat→Nat→List (U Qd)) (data:List (U Qd)) (a:Nat) (m:Nat) (b:Nat) (i:Nat) (j:Nat):Nx (Nat×Nat) (List (U Qd)) :=
 bif (decide ((i:Int) < (j:Int))) then
  bif (!(decide ((bu (gt data m) (gt data ((i+j) / 2))) < 0))) then
   .go ((((i+j) / 2)+1),j)
  else
   .go (i,((i+j) / 2))
 else
  .out (i,j)
def jc (rec_:List (U Qd)→Nat→Nat→Nat→List (U Qd)) (data:List (U Qd)) (a:Nat) (m:Nat) (b:Nat) (start:Nat) (r:Nat):List (U Qd) :=
 bif ((decide ((start:Int) < (m:Int))) && (decide ((m:Int) < ((((((a+b) / 2)+m) - start):Nat):Int)))) then
  bif ((decide ((a:Int) < (start:Int))) && (decide ((start:Int) < ((((a+b) / 2:Nat)):Int)))) then
   bif ((decide (((((a+b) / 2:Nat)):Int) < ((((((a+b) / 2)+m) - start):Nat):Int))) && (decide (((((((a+b) / 2)+m) - start):Nat):Int) < (b:Int)))) then
    (rec_ (rec_ (aK data start m ((((a+b) / 2)+m) - start)) a start ((a+b) / 2)) ((a+b) / 2) ((((a+b) / 2)+m) - start) b)
   else
    (rec_ (aK data start m ((((a+b) / 2)+m) - start)) a start ((a+b) / 2))
  else
   bif ((decide (((((a+b) / 2:Nat)):Int) < ((((((a+b) / 2)+m) - start):Nat):Int))) && (decide (((((((a+b) / 2)+m) - start):Nat):Int) < (b:Int)))) then
    (rec_ (aK data start m ((((a+b) / 2)+m) - start)) ((a+b) / 2) ((((a+b) / 2)+m) - start) b)
   else
    (aK data start m ((((a+b) / 2)+m) - start))
 else
  bif ((decide ((a:Int) < (start:Int))) && (decide ((start:Int) < ((((a+b) / 2:Nat)):Int)))) then
   bif ((decide (((((a+b) / 2:Nat)):Int) < ((((((a+b) / 2)+m) - start):Nat):Int))) && (decide (((((((a+b) / 2)+m) - start):Nat):Int) < (b:Int)))) then
    (rec_ (rec_ data a start ((a+b) / 2)) ((a+b) / 2) ((((a+b) / 2)+m) - start) b)
   else
    (rec_ data a start ((a+b) / 2))
  else
   bif ((decide (((((a+b) / 2:Nat)):Int) < ((((((a+b) / 2)+m) - start):Nat):Int))) && (decide (((((((a+b) / 2)+m) - start):Nat):Int) < (b:Int)))) then
    (rec_ data ((a+b) / 2) ((((a+b) / 2)+m) - start) b)
   else
    data
def dX (rec_:List (U Qd)→Nat→Nat→Nat→List (U Qd)) (data:List (U Qd)) (a:Nat) (m:Nat) (b:Nat) (start:Nat) (r:Nat):Nx (Nat×Nat) (List (U Qd)) :=
 bif (decide ((start:Int) < (r:Int))) then
  bif (!(decide ((bu (gt data (((((a+b) / 2)+m) - 1) - ((start+r) / 2))) (gt data ((start+r) / 2))) < 0))) then
   .go ((((start+r) / 2)+1),r)
  else
   .go (start,((start+r) / 2))
 else
  .out (start,r)
def ba (rec_:List (U Qd)→Nat→Nat→Nat→List (U Qd)) (data:List (U Qd)) (a:Nat) (m:Nat) (b:Nat):List (U Qd) :=
 bif (((((m - a):Nat):Int)) == (((1:Nat):Int))) then
  fin (bt (fun s=>gJ rec_ data a m b s.1 s.2) (b - m+1) (m,b)) (fun s=>la rec_ data a m b s.1 s.2) (fun r=>r)
 else
  bif (((((b - m):Nat):Int)) == (((1:Nat):Int))) then
   fin (bt (fun s=>gH rec_ data a m b s.1 s.2) (m - a+1) (a,m)) (fun s=>k8 rec_ data a m b s.1 s.2) (fun r=>r)
  else
   bif (decide ((m:Int)>((((a+b) / 2:Nat)):Int))) then
    fin (bt (fun s=>dX rec_ data a m b s.1 s.2) (((a+b) / 2) - ((((a+b) / 2)+m) - b)+1) (((((a+b) / 2)+m) - b),((a+b) / 2))) (fun s=>jc rec_ data a m b s.1 s.2) (fun r=>r)
   else
    fin (bt (fun s=>dX rec_ data a m b s.1 s.2) (m - a+1) (a,m)) (fun s=>jc rec_ data a m b s.1 s.2) (fun r=>r)
theorem k6 (rec_:List (U Qd)→Nat→Nat→Nat→List (U Qd)) (K_:Nat) (rec__ct:∀ (data:List (U Qd)) (datav:Value) (a:Nat) (m:Nat) (b:Nat) (ham:a < m) (hmb:m < b) (hb:b≤data.length) (hb2:b≤1000000) (hK:b - a < K_) (zdata:All (gk 30) data) (w0 w:World) (B:Asn) (hbel:Below w0.heap.size w0 w) (hsep:∃ Z_,Sep w0.heap.size w [.row (α:=U Qd) 126 datav data,B] Z_) ,Calls zP 295 #[datav,(iN a),(iN m),(iN b),(.func (.func 225) #[] #[])] w (RetY w0 (fun v=>v=.tuple #[]∧(All (gk 30) (rec_ data a m b)∧(rec_ data a m b).length=data.length)) (fun v=>[.row (α:=U Qd) 126 datav (rec_ data a m b),B]))) (data:List (U Qd)) (datav:Value) (a:Nat) (m:Nat) (b:Nat) (ham:a < m) (hmb:m < b) (hb:b≤data.length) (hb2:b≤1000000) (hK:b - a≤K_) (zdata:All (gk 30) data) (w0 w:World) (B:Asn) (hbel:Below w0.heap.size w0 w) (hsep:∃ Z_,Sep w0.heap.size w [.row (α:=U Qd) 126 datav data,B] Z_):Calls zP 295 #[datav,(iN a),(iN m),(iN b),(.func (.func 225) #[] #[])] w (RetY w0 (fun v=>v=.tuple #[]∧(All (gk 30) (ba rec_ data a m b)∧(ba rec_ data a m b).length=data.length)) (fun v=>[.row (α:=U Qd) 126 datav (ba rec_ data a m b),B])):=by
 refine lU (N:=220) Tryz.func295 rfl rfl hbel hsep ?_; intro ac h
 have hlendata:=h.len 0 rfl
 refine gz h <| (xo (hs:=by exact fh rfl rfl (r:=(((m - a):Nat):Int)) (by rw [wI]; first | omega | grind))) <| (ai) ?_ ?_ <;> clear h <;> intro _ _ h hc1
 ·
  have hd1:=eq_of_beq hc1
  obtain ⟨X1,hX1⟩:∃ X,bt (fun s=>gJ rec_ data a m b s.1 s.2) (b - m+1) (m,b)=X:=⟨_,rfl⟩
  refine gz h <| (W) ?_; clear h; intro _ _ h
  refine wp_loop_ghost (fun n_ a_ w_=>∃ (i:Nat) (j:Nat),(j - i < n_)∧(bt (fun s=>gJ rec_ data a m b s.1 s.2) n_ (i,j)=X1)∧(i≤j)∧(m≤i)∧(j≤b)∧St w0 220 [(0,datav),(1,(iN a)),(4,(.func (.func 225) #[] #[])),(10,(iN i)),(11,(iN j))] [.row (α:=U Qd) 126 datav data,B] a_ w_) (b - m+1) ⟨m,b,og,hX1,og,og,og,h.rs⟩ ?_
  clear h; rintro n1 _ _ ⟨i,j,hm1,hL1,hij,hmi,hjb,h⟩
  obtain ⟨m1,rfl⟩:∃ m,n1=m+1:=⟨n1 - 1,by omega⟩
  refine gz h <| (ai) ?_ ?_ <;> clear h <;> intro _ _ h hc2
  ·
   have hd2:=of_decide_eq_true hc2
   refine gz h <| (xo (hs:=by exact be uu3 uu276 rfl (r:=((i+j:Nat):Int)) (by rw [IntKind.wrap_u64]; first | omega | grind))) <| (xo (hs:=by exact ni rfl rfl (r:=((((i+j) / 2:Nat)):Int)) og (by first | decide | (simp [IntKind.bits] <;> omega)) (by rw [show ((1:Int).toNat)=1 from rfl]; omega))) <| (xo (hs:=by exact be uu276 uu3 rfl (r:=((((i+j) / 2:Nat)):Int)) (by rw [wI]; first | omega | grind))) <| (dr0 (hob:=(oK (eK (gt data ((i+j) / 2)) (gt data a) (All.gt zdata (bL _)) (All.gt zdata (bL _)))) <| oE)) <| (ai) ?_ ?_ <;> clear h <;> intro _ _ h hc3
   ·
    have hd3:=of_decide_eq_true hc3
    have hg:=bI hL1 pt
    exact (nx h) fun _ _ h=>by exact ⟨m1,og,_,_,og,hg,og,og,og,h.re [0,1]⟩
   ·
    have hd3:=of_decide_eq_false hc3
    have hg:=bI hL1 pt
    exact (nx h) fun _ _ h=>by exact ⟨m1,og,_,_,og,hg,og,og,og,h.re [0,1]⟩
  ·
   have hd2:=of_decide_eq_false hc2
   have hx1:=cG hL1 pt
   obtain ⟨X2,hX2⟩:∃ X,bt (fun s=>gI rec_ data a m b i j s.1 s.2) ((i - a)+1) (a,data)=X:=⟨_,rfl⟩
   refine gz h <| (W) ?_; clear h; intro _ _ h
   refine wp_loop_ghost (fun n_ a_ w_=>∃ (k2:Nat) (data2:List (U Qd)),((i - k2) < n_)∧(bt (fun s=>gI rec_ data a m b i j s.1 s.2) n_ (k2,data2)=X2)∧(k2≤i)∧(All (gk 30) data2)∧(data2.length=data.length)∧St w0 220 [(0,datav),(10,(iN i)),(13,(iN k2))] [.row (α:=U Qd) 126 datav data2,B] a_ w_) ((i - a)+1) ⟨a,data,og,hX2,og,zdata,og,h.rs⟩ ?_
   clear h; rintro n2 _ _ ⟨k2,data2,hm2,hL2,hk2,zdata2,hdl,h⟩
   obtain ⟨m2,rfl⟩:∃ m,n2=m+1:=⟨n2 - 1,by omega⟩
   refine gz h <| (ai) ?_ ?_ <;> clear h <;> intro _ _ h hc4
   ·
    have hd4:=of_decide_eq_true hc4
    refine gz h <| (dr1 (H:=[⟨.row (α:=U Qd) 126 datav data2,[(15,.con (.row (α:=U Qd) 126 datav (data2.set k2 (gt data2 (k2+1))))),(17,.con (.row (α:=U Qd) 126 datav ((data2.set k2 (gt data2 (k2+1))).set (k2+1) (gt data2 k2))))]⟩,ge _]) (hob:=(oY (h:=by exact fun _=>m0 (acc:=[0]) _ [.row (α:=U Qd) 126 datav (data2.set k2 (gt data2 (k2+1)))] rfl rfl (ia (k:=0) (u':=(gt data2 (k2+1))) zz126 (ff og) rfl (Nat.add_zero _) rfl rfl rfl rfl rfl rfl))) <| (oY (h:=by exact fun _=>m0 (acc:=[0]) _ [.row (α:=U Qd) 126 datav ((data2.set k2 (gt data2 (k2+1))).set (k2+1) (gt data2 k2))] rfl rfl (ia (k:=0) (u':=(gt data2 k2)) zz126 (ff og) rfl (Nat.add_zero _) rfl rfl rfl rfl rfl rfl))) <| oE)) <| (W) ?_; clear h; intro _ _ h
    have hg:=bI hL2 pt
    exact aD ⟨m2,og,_,_,og,hg,og,(All.set (All.set zdata2 (All.gt zdata2 (bL _))) (All.gt zdata2 (bL _))),og,h.re [0,1]⟩
   ·
    have hd4:=of_decide_eq_false hc4
    have hx2:=cG hL2 pt
    have hd:ba rec_ data a m b=data2:=pt
    refine gz h <| (W) ?_; clear h; intro _ _ h
    exact ret (vs:=[]) h rfl .nil rfl ((h.pick [0,1] DC).retY ⟨rfl,(by rw [hd]; exact ⟨zdata2,og⟩)⟩ (by rw [hd]; rfl))
 ·
  have hd1:=ne_of_beq_false hc1
  refine gz h <| (xo (hs:=by exact fh rfl rfl (r:=(((b - m):Nat):Int)) (by rw [wI]; first | omega | grind))) <| (ai) ?_ ?_ <;> clear h <;> intro _ _ h hc5
  ·
   have hd5:=eq_of_beq hc5
   obtain ⟨X3,hX3⟩:∃ X,bt (fun s=>gH rec_ data a m b s.1 s.2) (m - a+1) (a,m)=X:=⟨_,rfl⟩
   refine gz h <| (W) ?_; clear h; intro _ _ h
   refine wp_loop_ghost (fun n_ a_ w_=>∃ (i:Nat) (j:Nat),(j - i < n_)∧(bt (fun s=>gH rec_ data a m b s.1 s.2) n_ (i,j)=X3)∧(i≤j)∧(a≤i)∧(j≤m)∧St w0 220 [(0,datav),(2,(iN m)),(4,(.func (.func 225) #[] #[])),(14,(iN i)),(15,(iN j))] [.row (α:=U Qd) 126 datav data,B] a_ w_) (m - a+1) ⟨a,m,og,hX3,og,og,og,h.rs⟩ ?_
   clear h; rintro n3 _ _ ⟨i,j,hm3,hL3,hij3,hmi3,hjb3,h⟩
   obtain ⟨m3,rfl⟩:∃ m,n3=m+1:=⟨n3 - 1,by omega⟩
   refine gz h <| (ai) ?_ ?_ <;> clear h <;> intro _ _ h hc6
   ·
    have hd6:=of_decide_eq_true hc6
    refine gz h <| (xo (hs:=by exact be uu3 uu276 rfl (r:=((i+j:Nat):Int)) (by rw [IntKind.wrap_u64]; first | omega | grind))) <| (xo (hs:=by exact ni rfl rfl (r:=((((i+j) / 2:Nat)):Int)) og (by first | decide | (simp [IntKind.bits] <;> omega)) (by rw [show ((1:Int).toNat)=1 from rfl]; omega))) <| (xo (hs:=by exact be uu276 uu3 rfl (r:=((((i+j) / 2:Nat)):Int)) (by rw [wI]; first | omega | grind))) <| (dr0 (hob:=(oK (eK (gt data m) (gt data ((i+j) / 2)) (All.gt zdata (bL _)) (All.gt zdata (bL _)))) <| oE)) <| (ai) ?_ ?_ <;> clear h <;> intro _ _ h hc7
    ·
     have q:=hc7; try simp at q
     have hg:=bI hL3 pt
     exact (nx h) fun _ _ h=>by exact ⟨m3,og,_,_,og,hg,og,og,og,h.re [0,1]⟩
    ·
     have q:=hc7; try simp at q
     have hg:=bI hL3 pt
     exact (nx h) fun _ _ h=>by exact ⟨m3,og,_,_,og,hg,og,og,og,h.re [0,1]⟩
   ·
    have hd6:=of_decide_eq_false hc6
    have hx3:=cG hL3 pt
    obtain ⟨X4,hX4⟩:∃ X,bt (fun s=>gG rec_ data a m b i j s.1 s.2) (m+1) (m,data)=X:=⟨_,rfl⟩
    refine gz h <| (W) ?_; clear h; intro _ _ h
    refine wp_loop_ghost (fun n_ a_ w_=>∃ (k4:Nat) (data4:List (U Qd)),(k4 < n_)∧(bt (fun s=>gG rec_ data a m b i j s.1 s.2) n_ (k4,data4)=X4)∧(All (gk 30) data4)∧(i≤k4∧k4≤m)∧(data4.length=data.length)∧St w0 220 [(0,datav),(14,(iN i)),(17,(iN k4))] [.row (α:=U Qd) 126 datav data4,B] a_ w_) (m+1) ⟨m,data,og,hX4,zdata,og,og,h.rs⟩ ?_
    clear h; rintro n4 _ _ ⟨k4,data4,hm4,hL4,zdata4,hk4,hdl4,h⟩
    obtain ⟨m4,rfl⟩:∃ m,n4=m+1:=⟨n4 - 1,by omega⟩
    refine gz h <| (ai) ?_ ?_ <;> clear h <;> intro _ _ h hc8
    ·
     have hd8:=of_decide_eq_true hc8
     refine gz h <| (dr1 (H:=[⟨.row (α:=U Qd) 126 datav data4,[(15,.con (.row (α:=U Qd) 126 datav (data4.set k4 (gt data4 (k4 - 1))))),(17,.con (.row (α:=U Qd) 126 datav ((data4.set k4 (gt data4 (k4 - 1))).set (k4 - 1) (gt data4 k4))))]⟩,ge _]) (hob:=(oY (h:=by exact fun _=>m0 (acc:=[0]) _ [.row (α:=U Qd) 126 datav (data4.set k4 (gt data4 (k4 - 1)))] rfl rfl (ia (k:=0) (u':=(gt data4 (k4 - 1))) zz126 (ff og) rfl (Nat.add_zero _) rfl rfl rfl rfl rfl rfl))) <| (oY (h:=by exact fun _=>m0 (acc:=[0]) _ [.row (α:=U Qd) 126 datav ((data4.set k4 (gt data4 (k4 - 1))).set (k4 - 1) (gt data4 k4))] rfl rfl (ia (k:=0) (u':=(gt data4 k4)) zz126 (ff og) rfl (Nat.add_zero _) rfl rfl rfl rfl rfl rfl))) <| oE)) <| (W) ?_; clear h; intro _ _ h
     have hg:=bI hL4 pt
     exact aD ⟨m4,og,_,_,og,hg,(All.set (All.set zdata4 (All.gt zdata4 (bL _))) (All.gt zdata4 (bL _))),og,og,h.re [0,1]⟩
    ·
     have hd8:=of_decide_eq_false hc8
     have hx4:=cG hL4 pt
     have hd:ba rec_ data a m b=data4:=pt
     refine gz h <| (W) ?_; clear h; intro _ _ h
     exact ret (vs:=[]) h rfl .nil rfl ((h.pick [0,1] DC).retY ⟨rfl,(by rw [hd]; exact ⟨zdata4,og⟩)⟩ (by rw [hd]; rfl))
  ·
   have hd5:=ne_of_beq_false hc5
   refine gz h <| (xo (hs:=by exact be uu3 uu276 rfl (r:=((a+b:Nat):Int)) (by rw [IntKind.wrap_u64]; first | omega | grind))) <| (xo (hs:=by exact ni rfl rfl (r:=((((a+b) / 2:Nat)):Int)) og (by first | decide | (simp [IntKind.bits] <;> omega)) (by rw [show ((1:Int).toNat)=1 from rfl]; omega))) <| (xo (hs:=by exact be uu276 uu3 rfl (r:=((((a+b) / 2:Nat)):Int)) (by rw [wI]; first | omega | grind))) <| (ai) ?_ ?_ <;> clear h <;> intro _ _ h hc9
   ·
    have hd9:=of_decide_eq_true hc9
    obtain ⟨X5,hX5⟩:∃ X,bt (fun s=>dX rec_ data a m b s.1 s.2) (((a+b) / 2) - ((((a+b) / 2)+m) - b)+1) (((((a+b) / 2)+m) - b),((a+b) / 2))=X:=⟨_,rfl⟩
    refine gz h <| (xo (hs:=by exact fh rfl rfl (r:=((((((a+b) / 2)+m) - b):Nat):Int)) (by rw [wI]; first | omega | grind))) <| (W) ?_; clear h; intro _ _ h
    refine wp_loop_ghost (fun n_ a_ w_=>∃ (start:Nat) (r:Nat),(r - start < n_)∧(bt (fun s=>dX rec_ data a m b s.1 s.2) n_ (start,r)=X5)∧(start≤r)∧(a≤start)∧((a+b) / 2+m≤start+b)∧(r≤m∧r≤(a+b) / 2)∧St w0 220 [(0,datav),(1,(iN a)),(2,(iN m)),(3,(iN b)),(4,(.func (.func 225) #[] #[])),(18,(.int .i64 ((((a+b) / 2:Nat)):Int))),(19,(iN (((a+b) / 2)+m))),(20,(iN start)),(21,(iN r)),(22,(iN ((((a+b) / 2)+m) - 1)))] [.row (α:=U Qd) 126 datav data,B] a_ w_) (((a+b) / 2) - ((((a+b) / 2)+m) - b)+1) ⟨((((a+b) / 2)+m) - b),((a+b) / 2),og,hX5,og,og,og,og,h.rs⟩ ?_
    clear h; rintro n5 _ _ ⟨start,r,hm5,hL5,hsr,hsa,hsb,hrm,h⟩
    obtain ⟨m5,rfl⟩:∃ m,n5=m+1:=⟨n5 - 1,by omega⟩
    refine gz h <| (ai) ?_ ?_ <;> clear h <;> intro _ _ h hc10
    ·
     have hd10:=of_decide_eq_true hc10
     refine gz h <| (xo (hs:=by exact be uu3 uu276 rfl (r:=((start+r:Nat):Int)) (by rw [IntKind.wrap_u64]; first | omega | grind))) <| (xo (hs:=by exact ni rfl rfl (r:=((((start+r) / 2:Nat)):Int)) og (by first | decide | (simp [IntKind.bits] <;> omega)) (by rw [show ((1:Int).toNat)=1 from rfl]; omega))) <| (xo (hs:=by exact be uu276 uu3 rfl (r:=((((start+r) / 2:Nat)):Int)) (by rw [wI]; first | omega | grind))) <| (dr0 (hob:=(oX (h:=by exact fun _=>bg (fh rfl rfl (r:=(((((((a+b) / 2)+m) - 1) - ((start+r) / 2)):Nat):Int)) (by rw [wI]; first | omega | grind)))) <| (oK (eK (gt data (((((a+b) / 2)+m) - 1) - ((start+r) / 2))) (gt data ((start+r) / 2)) (All.gt zdata (bL _)) (All.gt zdata (bL _)))) <| oE)) <| (ai) ?_ ?_ <;> clear h <;> intro _ _ h hc11
     ·
      have q:=hc11; try simp at q
      have hg:=bI hL5 pt
      exact (nx h) fun _ _ h=>by exact ⟨m5,og,_,_,og,hg,og,og,og,og,h.re [0,1]⟩
     ·
      have q:=hc11; try simp at q
      have hg:=bI hL5 pt
      exact (nx h) fun _ _ h=>by exact ⟨m5,og,_,_,og,hg,og,og,og,og,h.re [0,1]⟩
    ·
     have hd10:=of_decide_eq_false hc10
     have hx5:=cG hL5 pt
     refine gz h <| (xo (hs:=by exact fh rfl rfl (r:=((((((a+b) / 2)+m) - start):Nat):Int)) (by rw [wI]; first | omega | grind))) <| (ai) ?_ ?_ <;> clear h <;> intro _ _ h hc12
     ·
      have q:=hc12; try simp at q
      refine gz h <| (W) ?_; clear h; intro _ _ h
      refine on1 h 0 rfl (ji (vs:=[datav,(iN start),(iN m),(iN ((((a+b) / 2)+m) - start)),(.func (.func 225) #[] #[])]) (A:=fun v=>[.row (α:=U Qd) 126 datav (aK data start m ((((a+b) / 2)+m) - start))]) (ck Tryz.call316 rfl) (fun w_ B_ hB_ hS_=>io data datav start m ((((a+b) / 2)+m) - start) og og og og zdata w0 w_ B_ hB_ hS_ )) rfl ?_; clear h; intro vc _ _ s2 h
      obtain rfl:vc=_:=s2.1
      have p3:=s2.2.2
      refine gz h <| (ai) ?_ ?_ <;> clear h <;> intro _ _ h hc13
      ·
       have q:=hc13; try simp at q
       refine gz h <| (W) ?_; clear h; intro _ _ h
       refine on1 h 0 rfl (ji (vs:=[datav,(iN a),(iN start),(.int .i64 ((((a+b) / 2:Nat)):Int)),(.func (.func 225) #[] #[])]) (A:=fun v=>[.row (α:=U Qd) 126 datav (rec_ (aK data start m ((((a+b) / 2)+m) - start)) a start ((a+b) / 2))]) (ck cc295 rfl) (fun w_ B_ hB_ hS_=>rec__ct (aK data start m ((((a+b) / 2)+m) - start)) datav a start ((a+b) / 2) og og og og og s2.2.1 w0 w_ B_ hB_ hS_ )) rfl ?_; clear h; intro vc _ _ s5 h
       obtain rfl:vc=_:=s5.1
       have p6:=s5.2.2
       refine gz h <| (ai) ?_ ?_ <;> clear h <;> intro _ _ h hc14
       ·
        have q:=hc14; try simp at q
        refine gz h <| (W) ?_; clear h; intro _ _ h
        refine on1 h 0 rfl (ji (vs:=[datav,(.int .i64 ((((a+b) / 2:Nat)):Int)),(iN ((((a+b) / 2)+m) - start)),(iN b),(.func (.func 225) #[] #[])]) (A:=fun v=>[.row (α:=U Qd) 126 datav (rec_ (rec_ (aK data start m ((((a+b) / 2)+m) - start)) a start ((a+b) / 2)) ((a+b) / 2) ((((a+b) / 2)+m) - start) b)]) (ck cc295 rfl) (fun w_ B_ hB_ hS_=>rec__ct (rec_ (aK data start m ((((a+b) / 2)+m) - start)) a start ((a+b) / 2)) datav ((a+b) / 2) ((((a+b) / 2)+m) - start) b og og og og og s5.2.1 w0 w_ B_ hB_ hS_ )) rfl ?_; clear h; intro vc _ _ s8 h
        obtain rfl:vc=_:=s8.1
        have p9:=s8.2.2
        have hd:ba rec_ data a m b=(rec_ (rec_ (aK data start m ((((a+b) / 2)+m) - start)) a start ((a+b) / 2)) ((a+b) / 2) ((((a+b) / 2)+m) - start) b):=pt
        refine gz h <| (W) ?_; clear h; intro _ _ h
        exact oP (vs:=[]) h rfl .nil rfl ((h.pick [0,1] DC).retY ⟨rfl,(by rw [hd]; exact ⟨s8.2.1,og⟩)⟩ (by rw [hd]; rfl))
       ·
        have q:=hc14; try simp at q
        have hd:ba rec_ data a m b=(rec_ (aK data start m ((((a+b) / 2)+m) - start)) a start ((a+b) / 2)):=pt
        refine gz h <| (W) ?_; clear h; intro _ _ h
        exact oP (vs:=[]) h rfl .nil rfl ((h.pick [0,1] DC).retY ⟨rfl,(by rw [hd]; exact ⟨s5.2.1,og⟩)⟩ (by rw [hd]; rfl))
      ·
       have q:=hc13; try simp at q
       refine gz h <| (ai) ?_ ?_ <;> clear h <;> intro _ _ h hc15
       ·
        have q:=hc15; try simp at q
        refine gz h <| (W) ?_; clear h; intro _ _ h
        refine on1 h 0 rfl (ji (vs:=[datav,(.int .i64 ((((a+b) / 2:Nat)):Int)),(iN ((((a+b) / 2)+m) - start)),(iN b),(.func (.func 225) #[] #[])]) (A:=fun v=>[.row (α:=U Qd) 126 datav (rec_ (aK data start m ((((a+b) / 2)+m) - start)) ((a+b) / 2) ((((a+b) / 2)+m) - start) b)]) (ck cc295 rfl) (fun w_ B_ hB_ hS_=>rec__ct (aK data start m ((((a+b) / 2)+m) - start)) datav ((a+b) / 2) ((((a+b) / 2)+m) - start) b og og og og og s2.2.1 w0 w_ B_ hB_ hS_ )) rfl ?_; clear h; intro vc _ _ s11 h
        obtain rfl:vc=_:=s11.1
        have p12:=s11.2.2
        refine gz h <| (W) ?_; clear h; intro _ _ h
        replace h:=h.sub (F':=[]) trivial
        have hd:ba rec_ data a m b=(rec_ (aK data start m ((((a+b) / 2)+m) - start)) ((a+b) / 2) ((((a+b) / 2)+m) - start) b):=pt
        exact oP (vs:=[]) h rfl .nil rfl ((h.pick [0,1] DC).retY ⟨rfl,(by rw [hd]; exact ⟨s11.2.1,og⟩)⟩ (by rw [hd]; rfl))
       ·
        have q:=hc15; try simp at q
        have hd:ba rec_ data a m b=(aK data start m ((((a+b) / 2)+m) - start)):=pt
        refine gz h <| (W) ?_; clear h; intro _ _ h
        exact oP (vs:=[]) h rfl .nil rfl ((h.pick [0,1] DC).retY ⟨rfl,(by rw [hd]; exact ⟨s2.2.1,og⟩)⟩ (by rw [hd]; rfl))
     ·
      have q:=hc12; try simp at q
      refine gz h <| (ai) ?_ ?_ <;> clear h <;> intro _ _ h hc16
      ·
       have q:=hc16; try simp at q
       refine gz h <| (W) ?_; clear h; intro _ _ h
       refine on1 h 0 rfl (ji (vs:=[datav,(iN a),(iN start),(.int .i64 ((((a+b) / 2:Nat)):Int)),(.func (.func 225) #[] #[])]) (A:=fun v=>[.row (α:=U Qd) 126 datav (rec_ data a start ((a+b) / 2))]) (ck cc295 rfl) (fun w_ B_ hB_ hS_=>rec__ct data datav a start ((a+b) / 2) og og og og og zdata w0 w_ B_ hB_ hS_ )) rfl ?_; clear h; intro vc _ _ s14 h
       obtain rfl:vc=_:=s14.1
       have p15:=s14.2.2
       refine gz h <| (ai) ?_ ?_ <;> clear h <;> intro _ _ h hc17
       ·
        have q:=hc17; try simp at q
        refine gz h <| (W) ?_; clear h; intro _ _ h
        refine on1 h 0 rfl (ji (vs:=[datav,(.int .i64 ((((a+b) / 2:Nat)):Int)),(iN ((((a+b) / 2)+m) - start)),(iN b),(.func (.func 225) #[] #[])]) (A:=fun v=>[.row (α:=U Qd) 126 datav (rec_ (rec_ data a start ((a+b) / 2)) ((a+b) / 2) ((((a+b) / 2)+m) - start) b)]) (ck cc295 rfl) (fun w_ B_ hB_ hS_=>rec__ct (rec_ data a start ((a+b) / 2)) datav ((a+b) / 2) ((((a+b) / 2)+m) - start) b og og og og og s14.2.1 w0 w_ B_ hB_ hS_ )) rfl ?_; clear h; intro vc _ _ s17 h
        obtain rfl:vc=_:=s17.1
        have p18:=s17.2.2
        refine gz h <| (W) ?_; clear h; intro _ _ h
        replace h:=h.sub (F':=[]) trivial
        have hd:ba rec_ data a m b=(rec_ (rec_ data a start ((a+b) / 2)) ((a+b) / 2) ((((a+b) / 2)+m) - start) b):=pt
        exact oP (vs:=[]) h rfl .nil rfl ((h.pick [0,1] DC).retY ⟨rfl,(by rw [hd]; exact ⟨s17.2.1,og⟩)⟩ (by rw [hd]; rfl))
       ·
        have q:=hc17; try simp at q
        have hd:ba rec_ data a m b=(rec_ data a start ((a+b) / 2)):=pt
        refine gz h <| (W) ?_; clear h; intro _ _ h
        exact oP (vs:=[]) h rfl .nil rfl ((h.pick [0,1] DC).retY ⟨rfl,(by rw [hd]; exact ⟨s14.2.1,og⟩)⟩ (by rw [hd]; rfl))
      ·
       have q:=hc16; try simp at q
       refine gz h <| (ai) ?_ ?_ <;> clear h <;> intro _ _ h hc18
       ·
        have q:=hc18; try simp at q
        refine gz h <| (W) ?_; clear h; intro _ _ h
        refine on1 h 0 rfl (ji (vs:=[datav,(.int .i64 ((((a+b) / 2:Nat)):Int)),(iN ((((a+b) / 2)+m) - start)),(iN b),(.func (.func 225) #[] #[])]) (A:=fun v=>[.row (α:=U Qd) 126 datav (rec_ data ((a+b) / 2) ((((a+b) / 2)+m) - start) b)]) (ck cc295 rfl) (fun w_ B_ hB_ hS_=>rec__ct data datav ((a+b) / 2) ((((a+b) / 2)+m) - start) b og og og og og zdata w0 w_ B_ hB_ hS_ )) rfl ?_; clear h; intro vc _ _ s20 h
        obtain rfl:vc=_:=s20.1
        have p21:=s20.2.2
        have hd:ba rec_ data a m b=(rec_ data ((a+b) / 2) ((((a+b) / 2)+m) - start) b):=pt
        refine gz h <| (W) ?_; clear h; intro _ _ h
        exact oP (vs:=[]) h rfl .nil rfl ((h.pick [0,1] DC).retY ⟨rfl,(by rw [hd]; exact ⟨s20.2.1,og⟩)⟩ (by rw [hd]; rfl))
       ·
        have q:=hc18; try simp at q
        have hd:ba rec_ data a m b=data:=pt
        refine gz h <| (W) ?_; clear h; intro _ _ h
        exact oP (vs:=[]) h rfl .nil rfl ((h.pick [0,1] DC).retY ⟨rfl,(by rw [hd]; exact ⟨zdata,og⟩)⟩ (by rw [hd]; rfl))
   ·
    have hd9:=of_decide_eq_false hc9
    obtain ⟨X5,hX5⟩:∃ X,bt (fun s=>dX rec_ data a m b s.1 s.2) (m - a+1) (a,m)=X:=⟨_,rfl⟩
    refine gz h <| (W) ?_; clear h; intro _ _ h
    refine wp_loop_ghost (fun n_ a_ w_=>∃ (start:Nat) (r:Nat),(r - start < n_)∧(bt (fun s=>dX rec_ data a m b s.1 s.2) n_ (start,r)=X5)∧(start≤r)∧(a≤start)∧((a+b) / 2+m≤start+b)∧(r≤m∧r≤(a+b) / 2)∧St w0 220 [(0,datav),(1,(iN a)),(2,(iN m)),(3,(iN b)),(4,(.func (.func 225) #[] #[])),(18,(.int .i64 ((((a+b) / 2:Nat)):Int))),(19,(iN (((a+b) / 2)+m))),(20,(iN start)),(21,(iN r)),(22,(iN ((((a+b) / 2)+m) - 1)))] [.row (α:=U Qd) 126 datav data,B] a_ w_) (m - a+1) ⟨a,m,og,hX5,og,og,og,og,h.rs⟩ ?_
    clear h; rintro n5 _ _ ⟨start,r,hm5,hL5,hsr,hsa,hsb,hrm,h⟩
    obtain ⟨m5,rfl⟩:∃ m,n5=m+1:=⟨n5 - 1,by omega⟩
    refine gz h <| (ai) ?_ ?_ <;> clear h <;> intro _ _ h hc19
    ·
     have hd19:=of_decide_eq_true hc19
     refine gz h <| (xo (hs:=by exact be uu3 uu276 rfl (r:=((start+r:Nat):Int)) (by rw [IntKind.wrap_u64]; first | omega | grind))) <| (xo (hs:=by exact ni rfl rfl (r:=((((start+r) / 2:Nat)):Int)) og (by first | decide | (simp [IntKind.bits] <;> omega)) (by rw [show ((1:Int).toNat)=1 from rfl]; omega))) <| (xo (hs:=by exact be uu276 uu3 rfl (r:=((((start+r) / 2:Nat)):Int)) (by rw [wI]; first | omega | grind))) <| (dr0 (hob:=(oX (h:=by exact fun _=>bg (fh rfl rfl (r:=(((((((a+b) / 2)+m) - 1) - ((start+r) / 2)):Nat):Int)) (by rw [wI]; first | omega | grind)))) <| (oK (eK (gt data (((((a+b) / 2)+m) - 1) - ((start+r) / 2))) (gt data ((start+r) / 2)) (All.gt zdata (bL _)) (All.gt zdata (bL _)))) <| oE)) <| (ai) ?_ ?_ <;> clear h <;> intro _ _ h hc20
     ·
      have q:=hc20; try simp at q
      have hg:=bI hL5 pt
      exact (nx h) fun _ _ h=>by exact ⟨m5,og,_,_,og,hg,og,og,og,og,h.re [0,1]⟩
     ·
      have q:=hc20; try simp at q
      have hg:=bI hL5 pt
      exact (nx h) fun _ _ h=>by exact ⟨m5,og,_,_,og,hg,og,og,og,og,h.re [0,1]⟩
    ·
     have hd19:=of_decide_eq_false hc19
     have hx5:=cG hL5 pt
     refine gz h <| (xo (hs:=by exact fh rfl rfl (r:=((((((a+b) / 2)+m) - start):Nat):Int)) (by rw [wI]; first | omega | grind))) <| (ai) ?_ ?_ <;> clear h <;> intro _ _ h hc21
     ·
      have q:=hc21; try simp at q
      refine gz h <| (W) ?_; clear h; intro _ _ h
      refine on1 h 0 rfl (ji (vs:=[datav,(iN start),(iN m),(iN ((((a+b) / 2)+m) - start)),(.func (.func 225) #[] #[])]) (A:=fun v=>[.row (α:=U Qd) 126 datav (aK data start m ((((a+b) / 2)+m) - start))]) (ck Tryz.call316 rfl) (fun w_ B_ hB_ hS_=>io data datav start m ((((a+b) / 2)+m) - start) og og og og zdata w0 w_ B_ hB_ hS_ )) rfl ?_; clear h; intro vc _ _ s23 h
      obtain rfl:vc=_:=s23.1
      have p24:=s23.2.2
      refine gz h <| (ai) ?_ ?_ <;> clear h <;> intro _ _ h hc22
      ·
       have q:=hc22; try simp at q
       refine gz h <| (W) ?_; clear h; intro _ _ h
       refine on1 h 0 rfl (ji (vs:=[datav,(iN a),(iN start),(.int .i64 ((((a+b) / 2:Nat)):Int)),(.func (.func 225) #[] #[])]) (A:=fun v=>[.row (α:=U Qd) 126 datav (rec_ (aK data start m ((((a+b) / 2)+m) - start)) a start ((a+b) / 2))]) (ck cc295 rfl) (fun w_ B_ hB_ hS_=>rec__ct (aK data start m ((((a+b) / 2)+m) - start)) datav a start ((a+b) / 2) og og og og og s23.2.1 w0 w_ B_ hB_ hS_ )) rfl ?_; clear h; intro vc _ _ s26 h
       obtain rfl:vc=_:=s26.1
       have p27:=s26.2.2
       refine gz h <| (ai) ?_ ?_ <;> clear h <;> intro _ _ h hc23
       ·
        have q:=hc23; try simp at q
        refine gz h <| (W) ?_; clear h; intro _ _ h
        refine on1 h 0 rfl (ji (vs:=[datav,(.int .i64 ((((a+b) / 2:Nat)):Int)),(iN ((((a+b) / 2)+m) - start)),(iN b),(.func (.func 225) #[] #[])]) (A:=fun v=>[.row (α:=U Qd) 126 datav (rec_ (rec_ (aK data start m ((((a+b) / 2)+m) - start)) a start ((a+b) / 2)) ((a+b) / 2) ((((a+b) / 2)+m) - start) b)]) (ck cc295 rfl) (fun w_ B_ hB_ hS_=>rec__ct (rec_ (aK data start m ((((a+b) / 2)+m) - start)) a start ((a+b) / 2)) datav ((a+b) / 2) ((((a+b) / 2)+m) - start) b og og og og og s26.2.1 w0 w_ B_ hB_ hS_ )) rfl ?_; clear h; intro vc _ _ s29 h
        obtain rfl:vc=_:=s29.1
        have p30:=s29.2.2
        have hd:ba rec_ data a m b=(rec_ (rec_ (aK data start m ((((a+b) / 2)+m) - start)) a start ((a+b) / 2)) ((a+b) / 2) ((((a+b) / 2)+m) - start) b):=pt
        refine gz h <| (W) ?_; clear h; intro _ _ h
        exact oP (vs:=[]) h rfl .nil rfl ((h.pick [0,1] DC).retY ⟨rfl,(by rw [hd]; exact ⟨s29.2.1,og⟩)⟩ (by rw [hd]; rfl))
       ·
        have q:=hc23; try simp at q
        have hd:ba rec_ data a m b=(rec_ (aK data start m ((((a+b) / 2)+m) - start)) a start ((a+b) / 2)):=pt
        refine gz h <| (W) ?_; clear h; intro _ _ h
        exact oP (vs:=[]) h rfl .nil rfl ((h.pick [0,1] DC).retY ⟨rfl,(by rw [hd]; exact ⟨s26.2.1,og⟩)⟩ (by rw [hd]; rfl))
      ·
       have q:=hc22; try simp at q
       refine gz h <| (ai) ?_ ?_ <;> clear h <;> intro _ _ h hc24
       ·
        have q:=hc24; try simp at q
        refine gz h <| (W) ?_; clear h; intro _ _ h
        refine on1 h 0 rfl (ji (vs:=[datav,(.int .i64 ((((a+b) / 2:Nat)):Int)),(iN ((((a+b) / 2)+m) - start)),(iN b),(.func (.func 225) #[] #[])]) (A:=fun v=>[.row (α:=U Qd) 126 datav (rec_ (aK data start m ((((a+b) / 2)+m) - start)) ((a+b) / 2) ((((a+b) / 2)+m) - start) b)]) (ck cc295 rfl) (fun w_ B_ hB_ hS_=>rec__ct (aK data start m ((((a+b) / 2)+m) - start)) datav ((a+b) / 2) ((((a+b) / 2)+m) - start) b og og og og og s23.2.1 w0 w_ B_ hB_ hS_ )) rfl ?_; clear h; intro vc _ _ s32 h
        obtain rfl:vc=_:=s32.1
        have p33:=s32.2.2
        refine gz h <| (W) ?_; clear h; intro _ _ h
        replace h:=h.sub (F':=[]) trivial
        have hd:ba rec_ data a m b=(rec_ (aK data start m ((((a+b) / 2)+m) - start)) ((a+b) / 2) ((((a+b) / 2)+m) - start) b):=pt
        exact oP (vs:=[]) h rfl .nil rfl ((h.pick [0,1] DC).retY ⟨rfl,(by rw [hd]; exact ⟨s32.2.1,og⟩)⟩ (by rw [hd]; rfl))
       ·
        have q:=hc24; try simp at q
        have hd:ba rec_ data a m b=(aK data start m ((((a+b) / 2)+m) - start)):=pt
        refine gz h <| (W) ?_; clear h; intro _ _ h
        exact oP (vs:=[]) h rfl .nil rfl ((h.pick [0,1] DC).retY ⟨rfl,(by rw [hd]; exact ⟨s23.2.1,og⟩)⟩ (by rw [hd]; rfl))
     ·
      have q:=hc21; try simp at q
      refine gz h <| (ai) ?_ ?_ <;> clear h <;> intro _ _ h hc25
      ·
       have q:=hc25; try simp at q
       refine gz h <| (W) ?_; clear h; intro _ _ h
       refine on1 h 0 rfl (ji (vs:=[datav,(iN a),(iN start),(.int .i64 ((((a+b) / 2:Nat)):Int)),(.func (.func 225) #[] #[])]) (A:=fun v=>[.row (α:=U Qd) 126 datav (rec_ data a start ((a+b) / 2))]) (ck cc295 rfl) (fun w_ B_ hB_ hS_=>rec__ct data datav a start ((a+b) / 2) og og og og og zdata w0 w_ B_ hB_ hS_ )) rfl ?_; clear h; intro vc _ _ s35 h
       obtain rfl:vc=_:=s35.1
       have p36:=s35.2.2
       refine gz h <| (ai) ?_ ?_ <;> clear h <;> intro _ _ h hc26
       ·
        have q:=hc26; try simp at q
        refine gz h <| (W) ?_; clear h; intro _ _ h
        refine on1 h 0 rfl (ji (vs:=[datav,(.int .i64 ((((a+b) / 2:Nat)):Int)),(iN ((((a+b) / 2)+m) - start)),(iN b),(.func (.func 225) #[] #[])]) (A:=fun v=>[.row (α:=U Qd) 126 datav (rec_ (rec_ data a start ((a+b) / 2)) ((a+b) / 2) ((((a+b) / 2)+m) - start) b)]) (ck cc295 rfl) (fun w_ B_ hB_ hS_=>rec__ct (rec_ data a start ((a+b) / 2)) datav ((a+b) / 2) ((((a+b) / 2)+m) - start) b og og og og og s35.2.1 w0 w_ B_ hB_ hS_ )) rfl ?_; clear h; intro vc _ _ s38 h
        obtain rfl:vc=_:=s38.1
        have p39:=s38.2.2
        refine gz h <| (W) ?_; clear h; intro _ _ h
        replace h:=h.sub (F':=[]) trivial
        have hd:ba rec_ data a m b=(rec_ (rec_ data a start ((a+b) / 2)) ((a+b) / 2) ((((a+b) / 2)+m) - start) b):=pt
        exact oP (vs:=[]) h rfl .nil rfl ((h.pick [0,1] DC).retY ⟨rfl,(by rw [hd]; exact ⟨s38.2.1,og⟩)⟩ (by rw [hd]; rfl))
       ·
        have q:=hc26; try simp at q
        have hd:ba rec_ data a m b=(rec_ data a start ((a+b) / 2)):=pt
        refine gz h <| (W) ?_; clear h; intro _ _ h
        exact oP (vs:=[]) h rfl .nil rfl ((h.pick [0,1] DC).retY ⟨rfl,(by rw [hd]; exact ⟨s35.2.1,og⟩)⟩ (by rw [hd]; rfl))
      ·
       have q:=hc25; try simp at q
       refine gz h <| (ai) ?_ ?_ <;> clear h <;> intro _ _ h hc27
       ·
        have q:=hc27; try simp at q
        refine gz h <| (W) ?_; clear h; intro _ _ h
        refine on1 h 0 rfl (ji (vs:=[datav,(.int .i64 ((((a+b) / 2:Nat)):Int)),(iN ((((a+b) / 2)+m) - start)),(iN b),(.func (.func 225) #[] #[])]) (A:=fun v=>[.row (α:=U Qd) 126 datav (rec_ data ((a+b) / 2) ((((a+b) / 2)+m) - start) b)]) (ck cc295 rfl) (fun w_ B_ hB_ hS_=>rec__ct data datav ((a+b) / 2) ((((a+b) / 2)+m) - start) b og og og og og zdata w0 w_ B_ hB_ hS_ )) rfl ?_; clear h; intro vc _ _ s41 h
        obtain rfl:vc=_:=s41.1
        have p42:=s41.2.2
        have hd:ba rec_ data a m b=(rec_ data ((a+b) / 2) ((((a+b) / 2)+m) - start) b):=pt
        refine gz h <| (W) ?_; clear h; intro _ _ h
        exact oP (vs:=[]) h rfl .nil rfl ((h.pick [0,1] DC).retY ⟨rfl,(by rw [hd]; exact ⟨s41.2.1,og⟩)⟩ (by rw [hd]; rfl))
       ·
        have q:=hc27; try simp at q
        have hd:ba rec_ data a m b=data:=pt
        refine gz h <| (W) ?_; clear h; intro _ _ h
        exact oP (vs:=[]) h rfl .nil rfl ((h.pick [0,1] DC).retY ⟨rfl,(by rw [hd]; exact ⟨zdata,og⟩)⟩ (by rw [hd]; rfl))
def bU:Nat→List (U Qd)→Nat→Nat→Nat→List (U Qd)
 | 0,d,_,_,_=>d
 | K+1,d,a,m,b=>ba (bU K) d a m b
theorem gA:∀ (K_:Nat) (data:List (U Qd)) (datav:Value) (a:Nat) (m:Nat) (b:Nat) (ham:a < m) (hmb:m < b) (hb:b≤data.length) (hb2:b≤1000000) (hK:b - a < K_) (zdata:All (gk 30) data) (w0 w:World) (B:Asn) (hbel:Below w0.heap.size w0 w) (hsep:∃ Z_,Sep w0.heap.size w [.row (α:=U Qd) 126 datav data,B] Z_) ,Calls zP 295 #[datav,(iN a),(iN m),(iN b),(.func (.func 225) #[] #[])] w (RetY w0 (fun v=>v=.tuple #[]∧(All (gk 30) (bU K_ data a m b)∧(bU K_ data a m b).length=data.length)) (fun v=>[.row (α:=U Qd) 126 datav (bU K_ data a m b),B]))
 | 0=>by intros; omega
 | K_+1=>fun data datav a m b ham hmb hb hb2 hK=>k6 (bU K_) K_ (gA K_) data datav a m b ham hmb hb hb2 og
def bM (data:List (U Qd)) (a:Nat) (m:Nat) (b:Nat):List (U Qd):=bU (b - a+1) data a m b
theorem gX (data:List (U Qd)) (datav:Value) (a:Nat) (m:Nat) (b:Nat) (ham:a < m) (hmb:m < b) (hb:b≤data.length) (hb2:b≤1000000) (zdata:All (gk 30) data) (w0 w:World) (B:Asn) (hbel:Below w0.heap.size w0 w) (hsep:∃ Z_,Sep w0.heap.size w [.row (α:=U Qd) 126 datav data,B] Z_):Calls zP 295 #[datav,(iN a),(iN m),(iN b),(.func (.func 225) #[] #[])] w (RetY w0 (fun v=>v=.tuple #[]∧(All (gk 30) (bM data a m b)∧(bM data a m b).length=data.length)) (fun v=>[.row (α:=U Qd) 126 datav (bM data a m b),B])) :=
 gA (b - a+1) data datav a m b ham hmb hb hb2 og zdata w0 w B hbel hsep
attribute [irreducible] bM ba
end Go.Sx
namespace Go.Sx
open Go Go.RowKit Go.Proofs
attribute [local irreducible] Code.wp wpList Rd gW ObS Ent
attribute [local irreducible] an bB ah aO az c8
def jy (data:List (U Qd)) (n:Nat) (a:Nat) (b:Nat) (data1:List (U Qd)) (blockSize:Nat) (data2:List (U Qd)):List (U Qd) :=
 data2
def jx (data:List (U Qd)) (n:Nat) (a:Nat) (b:Nat) (data1:List (U Qd)) (blockSize:Nat) (data2:List (U Qd)) (a3:Nat) (b3:Nat) (data3:List (U Qd)):Nx (Nat×(List (U Qd))) (List (U Qd)) :=
 bif (decide (((a3+blockSize:Nat):Int) < (n:Int))) then
  .go ((blockSize*2),(bM data3 a3 (a3+blockSize) n))
 else
  .go ((blockSize*2),data3)
def fT (data:List (U Qd)) (n:Nat) (a:Nat) (b:Nat) (data1:List (U Qd)) (blockSize:Nat) (data2:List (U Qd)) (a3:Nat) (b3:Nat) (data3:List (U Qd)):Nx (Nat×Nat×(List (U Qd))) (List (U Qd)) :=
 bif (decide ((b3:Int)≤(n:Int))) then
  .go (b3,(b3+(2*blockSize)),(bM data3 a3 (a3+blockSize) b3))
 else
  .out (a3,b3,data3)
def eW (data:List (U Qd)) (n:Nat) (a:Nat) (b:Nat) (data1:List (U Qd)) (blockSize:Nat) (data2:List (U Qd)):Nx (Nat×(List (U Qd))) (List (U Qd)) :=
 bif (decide ((blockSize:Int) < (n:Int))) then
  fin (bt (fun s=>fT data n a b data1 blockSize data2 s.1 s.2.1 s.2.2) (n - 0+1) (0,(2*blockSize),data2)) (fun s=>jx data n a b data1 blockSize data2 s.1 s.2.1 s.2.2) (fun r=>.ret r)
 else
  .out (blockSize,data2)
def fS (data:List (U Qd)) (n:Nat) (a:Nat) (b:Nat) (data1:List (U Qd)):List (U Qd) :=
 fin (bt (fun s=>eW data n a b data1 s.1 s.2) (n - 20+1) (20,(a7 data1 a n))) (fun s=>jy data n a b data1 s.1 s.2) (fun r=>r)
def ef (data:List (U Qd)) (n:Nat) (a:Nat) (b:Nat) (data1:List (U Qd)):Nx (Nat×Nat×(List (U Qd))) (List (U Qd)) :=
 bif (decide ((b:Int)≤(n:Int))) then
  .go (b,(b+20),(a7 data1 a b))
 else
  .out (a,b,data1)
def cq (data:List (U Qd)) (n:Nat):List (U Qd) :=
 fin (bt (fun s=>ef data n s.1 s.2.1 s.2.2) (n+20 - 20+1) (0,20,data)) (fun s=>fS data n s.1 s.2.1 s.2.2) (fun r=>r)
theorem lX (data:List (U Qd)) (datav:Value) (n:Nat) (hn:n=data.length) (hl:data.length≤1000) (zdata:All (gk 30) data) (w0 w:World) (B:Asn) (hbel:Below w0.heap.size w0 w) (hsep:∃ Z_,Sep w0.heap.size w [.row (α:=U Qd) 126 datav data,B] Z_):Calls zP 279 #[datav,(iN n),(.func (.func 225) #[] #[])] w (RetY w0 (fun v=>v=.tuple #[]∧(All (gk 30) (cq data n)∧(cq data n).length=data.length)) (fun v=>[.row (α:=U Qd) 126 datav (cq data n),B])):=by
 refine lU (N:=63) Tryz.func279 rfl rfl hbel hsep ?_; intro ac h
 have hlendata:=h.len 0 rfl
 obtain ⟨X1,hX1⟩:∃ X,bt (fun s=>ef data n s.1 s.2.1 s.2.2) (n+20 - 20+1) (0,20,data)=X:=⟨_,rfl⟩
 refine gz h <| (W) ?_; clear h; intro _ _ h
 refine wp_loop_ghost (fun n_ a_ w_=>∃ (a:Nat) (b:Nat) (data1:List (U Qd)),(n+20 - b < n_)∧(bt (fun s=>ef data n s.1 s.2.1 s.2.2) n_ (a,b,data1)=X1)∧(All (gk 30) data1)∧(b=a+20)∧(a≤n)∧(data1.length=data.length)∧St w0 63 [(0,datav),(1,(iN n)),(2,(.func (.func 225) #[] #[])),(6,(.int .i64 20)),(7,(iN a)),(8,(iN b))] [.row (α:=U Qd) 126 datav data1,B] a_ w_) (n+20 - 20+1) ⟨0,20,data,og,hX1,zdata,og,og,og,h.rs⟩ ?_
 clear h; rintro n1 _ _ ⟨a,b,data1,hm1,hL1,zdata1,hb0,ha0,hdl,h⟩
 obtain ⟨m1,rfl⟩:∃ m,n1=m+1:=⟨n1 - 1,by omega⟩
 refine gz h <| (ai) ?_ ?_ <;> clear h <;> intro _ _ h hc1
 ·
  have hd1:=of_decide_eq_true hc1
  refine gz h <| (W) ?_; clear h; intro _ _ h
  refine on1 h 0 rfl (ji (vs:=[datav,(iN a),(iN b),(.func (.func 225) #[] #[])]) (A:=fun v=>[.row (α:=U Qd) 126 datav (a7 data1 a b)]) (ck Tryz.call294 rfl) (fun w_ B_ hB_ hS_=>fM data1 datav a b og og og zdata1 w0 w_ B_ hB_ hS_ )) rfl ?_; clear h; intro vc _ _ s2 h
  obtain rfl:vc=_:=s2.1
  have p3:=s2.2.2
  have hg:=bI hL1 pt
  exact (nx h) fun _ _ h=>by exact ⟨m1,og,_,_,_,og,hg,s2.2.1,og,og,og,h.re [0,1]⟩
 ·
  have hd1:=of_decide_eq_false hc1
  have hx1:=cG hL1 pt
  refine gz h <| (W) ?_; clear h; intro _ _ h
  refine on1 h 0 rfl (ji (vs:=[datav,(iN a),(iN n),(.func (.func 225) #[] #[])]) (A:=fun v=>[.row (α:=U Qd) 126 datav (a7 data1 a n)]) (ck Tryz.call294 rfl) (fun w_ B_ hB_ hS_=>fM data1 datav a n og og og zdata1 w0 w_ B_ hB_ hS_ )) rfl ?_; clear h; intro vc _ _ s5 h
  obtain rfl:vc=_:=s5.1
  have p6:=s5.2.2
  obtain ⟨X2,hX2⟩:∃ X,bt (fun s=>eW data n a b data1 s.1 s.2) (n - 20+1) (20,(a7 data1 a n))=X:=⟨_,rfl⟩
  refine gz h <| (W) ?_; clear h; intro _ _ h
  refine wp_loop_ghost (fun n_ a_ w_=>∃ (blockSize:Nat) (data2:List (U Qd)),(n - blockSize < n_)∧(bt (fun s=>eW data n a b data1 s.1 s.2) n_ (blockSize,data2)=X2)∧(All (gk 30) data2)∧(20≤blockSize)∧(blockSize≤2*n+20)∧(data2.length=data.length)∧St w0 63 [(0,datav),(1,(iN n)),(2,(.func (.func 225) #[] #[])),(6,(iN blockSize))] [.row (α:=U Qd) 126 datav data2,B] a_ w_) (n - 20+1) ⟨20,(a7 data1 a n),og,hX2,s5.2.1,og,og,og,h.rs⟩ ?_
  clear h; rintro n2 _ _ ⟨blockSize,data2,hm2,hL2,zdata2,hbs,hbl,hdl2,h⟩
  obtain ⟨m2,rfl⟩:∃ m,n2=m+1:=⟨n2 - 1,by omega⟩
  refine gz h <| (ai) ?_ ?_ <;> clear h <;> intro _ _ h hc2
  ·
   have hd2:=of_decide_eq_true hc2
   obtain ⟨X3,hX3⟩:∃ X,bt (fun s=>fT data n a b data1 blockSize data2 s.1 s.2.1 s.2.2) (n - 0+1) (0,(2*blockSize),data2)=X:=⟨_,rfl⟩
   refine gz h <| (xo (hs:=by exact mg rfl rfl (r:=((2*blockSize:Nat):Int)) (by first | (rw [wI]; omega) | exact iX og og))) <| (W) ?_; clear h; intro _ _ h
   refine wp_loop_ghost (fun n_ a_ w_=>∃ (a3:Nat) (b3:Nat) (data3:List (U Qd)),(n - a3 < n_)∧(bt (fun s=>fT data n a b data1 blockSize data2 s.1 s.2.1 s.2.2) n_ (a3,b3,data3)=X3)∧(All (gk 30) data3)∧(b3=a3+2*blockSize)∧(a3≤n)∧(data3.length=data.length)∧St w0 63 [(0,datav),(1,(iN n)),(2,(.func (.func 225) #[] #[])),(6,(iN blockSize)),(7,(iN a3)),(8,(iN b3))] [.row (α:=U Qd) 126 datav data3,B] a_ w_) (n - 0+1) ⟨0,(2*blockSize),data2,og,hX3,zdata2,og,og,og,h.rs⟩ ?_
   clear h; rintro n3 _ _ ⟨a3,b3,data3,hm3,hL3,zdata3,hb3,ha3,hdl3,h⟩
   obtain ⟨m3,rfl⟩:∃ m,n3=m+1:=⟨n3 - 1,by omega⟩
   refine gz h <| (ai) ?_ ?_ <;> clear h <;> intro _ _ h hc3
   ·
    have hd3:=of_decide_eq_true hc3
    refine gz h <| (W) ?_; clear h; intro _ _ h
    refine on1 h 0 rfl (ji (vs:=[datav,(iN a3),(iN (a3+blockSize)),(iN b3),(.func (.func 225) #[] #[])]) (A:=fun v=>[.row (α:=U Qd) 126 datav (bM data3 a3 (a3+blockSize) b3)]) (ck cc295 rfl) (fun w_ B_ hB_ hS_=>gX data3 datav a3 (a3+blockSize) b3 og og og og zdata3 w0 w_ B_ hB_ hS_ )) rfl ?_; clear h; intro vc _ _ s8 h
    obtain rfl:vc=_:=s8.1
    have p9:=s8.2.2
    refine gz h <| (xo (hs:=by exact mg rfl rfl (r:=((2*blockSize:Nat):Int)) (by first | (rw [wI]; omega) | exact iX og og))) <| (W) ?_; clear h; intro _ _ h
    have hg:=bI hL3 pt
    exact aD ⟨m3,og,_,_,_,og,hg,s8.2.1,og,og,og,h.re [0,1]⟩
   ·
    have hd3:=of_decide_eq_false hc3
    have hx3:=cG hL3 pt
    refine gz h <| (ai) ?_ ?_ <;> clear h <;> intro _ _ h hc4
    ·
     have hd4:=of_decide_eq_true hc4
     refine gz h <| (W) ?_; clear h; intro _ _ h
     refine on1 h 0 rfl (ji (vs:=[datav,(iN a3),(iN (a3+blockSize)),(iN n),(.func (.func 225) #[] #[])]) (A:=fun v=>[.row (α:=U Qd) 126 datav (bM data3 a3 (a3+blockSize) n)]) (ck cc295 rfl) (fun w_ B_ hB_ hS_=>gX data3 datav a3 (a3+blockSize) n og og og og zdata3 w0 w_ B_ hB_ hS_ )) rfl ?_; clear h; intro vc _ _ s11 h
     obtain rfl:vc=_:=s11.1
     have p12:=s11.2.2
     refine gz h <| (xo (hs:=by exact mg rfl rfl (r:=((blockSize*2:Nat):Int)) (by first | (rw [wI]; omega) | exact iX og og))) <| (W) ?_; clear h; intro _ _ h
     have hg:=bI hL2 pt
     exact aD ⟨m2,og,_,_,og,hg,s11.2.1,og,og,og,h.re [0,1]⟩
    ·
     have hd4:=of_decide_eq_false hc4
     refine gz h <| (xo (hs:=by exact mg rfl rfl (r:=((blockSize*2:Nat):Int)) (by first | (rw [wI]; omega) | exact iX og og))) <| (W) ?_; clear h; intro _ _ h
     have hg:=bI hL2 pt
     exact aD ⟨m2,og,_,_,og,hg,zdata3,og,og,og,h.re [0,1]⟩
  ·
   have hd2:=of_decide_eq_false hc2
   have hx2:=cG hL2 pt
   have hd:cq data n=data2:=pt
   refine gz h <| (W) ?_; clear h; intro _ _ h
   exact oP (vs:=[]) h rfl .nil rfl ((h.pick [0,1] DC).retY ⟨rfl,(by rw [hd]; exact ⟨zdata2,og⟩)⟩ (by rw [hd]; rfl))
attribute [irreducible] cq
def di (x:List (U Qd)):List (U Qd) :=
 (cq x x.length)
theorem kG (x:List (U Qd)) (xv:Value) (hl:x.length≤1000) (zx:All (gk 30) x) (w0 w:World) (B:Asn) (hbel:Below w0.heap.size w0 w) (hsep:∃ Z_,Sep w0.heap.size w [.row (α:=U Qd) 126 xv x,B] Z_):Calls zP 224 #[xv,(.func (.func 225) #[] #[])] w (RetY w0 (fun v=>v=.tuple #[]∧(All (gk 30) (di x)∧(di x).length=x.length)) (fun v=>[.row (α:=U Qd) 126 xv (di x),B])):=by
 refine lU (N:=9) Tryz.func224 rfl rfl hbel hsep ?_; intro ac h
 have hlenx:=h.len 0 rfl
 refine gz h <| (W) ?_; clear h; intro _ _ h
 refine on1 h 0 rfl (ji (vs:=[xv,(iN x.length),(.func (.func 225) #[] #[])]) (A:=fun v=>[.row (α:=U Qd) 126 xv (cq x x.length)]) (ck Tryz.call279 rfl) (fun w_ B_ hB_ hS_=>lX x xv x.length og og zx w0 w_ B_ hB_ hS_ )) rfl ?_; clear h; intro vc _ _ s2 h
 obtain rfl:vc=_:=s2.1
 have p3:=s2.2.2
 have hd:di x=(cq x x.length):=rfl
 refine gz h <| (W) ?_; clear h; intro _ _ h
 exact oP (vs:=[]) h rfl .nil rfl ((h.pick [0,1] DC).retY ⟨rfl,(by rw [hd]; exact ⟨s2.2.1,og⟩)⟩ (by rw [hd]; rfl))
attribute [irreducible] di
def ag (l:List (U Qd)):(List (U Qd)) :=
 (di (aZ l))
theorem jz (l:List (U Qd)) (lv:Value) (hl:l.length≤1000) (zl:All (gk 30) l) (w0:World) (hlv:View w0 lv l):Calls zP 148 #[lv] w0 (RetR w0 126 (ag l) (All (gk 30) (ag l)∧(ag l).length=l.length)):=by
 refine enter (N:=9) Tryz.func148 rfl rfl ?_; intro ac h
 have hlenl:=hlv.len
 refine gz h <| (W) ?_; clear h; intro _ _ h
 have s1:=RetR.pr ((fun w_ hB_ hS_=>fz l lv og zl w_ (hlv.below hB_)) _ h.bel h.sep)
 have p2:=s1.2
 have p2_0:=p2.1
 have p2_1:=p2.2
 refine jj (xs:=(aZ l)) h (ck Tryz.call223 rfl) (fun w_ hB_ hS_=>fz l lv og zl w_ (hlv.below hB_)) rfl ?_; clear h; intro sv3 _ _ _ h
 refine gz h <| (W) ?_; clear h; intro _ _ h
 refine on1 h 0 rfl (ji (vs:=[sv3,(.func (.func 225) #[] #[])]) (A:=fun v=>[.row (α:=U Qd) 126 sv3 (di (aZ l))]) (ck Tryz.call224 rfl) (fun w_ B_ hB_ hS_=>kG (aZ l) sv3 og s1.1 w0 w_ B_ hB_ hS_ )) rfl ?_; clear h; intro vc _ _ s5 h
 obtain rfl:vc=_:=s5.1
 have p6:=s5.2.2
 exact (rx h) fun _ _ h=>(by unfold ag; exact h.retR 0 rfl ⟨s5.2.1,og⟩)
attribute [irreducible] ag
def eY (l:List (U Qd)) (x18:Nat) (out:List (U Qd)) (x43:Nat):(List (U Qd))×Int :=
 (out,0)
def dV (l:List (U Qd)) (x18:Nat) (out:List (U Qd)) (x43:Nat):Nx ((List (U Qd))×Nat) ((List (U Qd))×Int) :=
 bif (decide ((x43:Int) < (((af (ag l)).length:Nat):Int))) then
  bif (((decide ((out.length:Int)>0)) && (decide (((gt out (out.length - 1)).iv).hi=((gt (af (ag l)) x43).iv).lo))) && (!(aN ((gt out (out.length - 1)).iv)))) then
   bif (!(aN ((gt (af (ag l)) x43).iv))) then
    bif ((!((gt out (out.length - 1)).iv).openHi) && (aX ((gt out (out.length - 1)).f) ((gt (af (ag l)) x43).f))) then
     .go ((out.set (out.length - 1) (⟨(⟨((gt out (out.length - 1)).iv).lo,((gt (af (ag l)) x43).iv).hi,((gt out (out.length - 1)).iv).openLo,true⟩:Iv),(gt out (out.length - 1)).f⟩:U Qd)),(x43+1))
    else
     bif ((((decide ((x43:Int)>0)) && (aN ((gt (af (ag l)) (x43 - 1)).iv))) && (decide (((gt (af (ag l)) (x43 - 1)).iv).lo=((gt (af (ag l)) x43).iv).lo))) && (!(eT out (((gt (af (ag l)) x43).iv).lo)))) then
      .go ((out++[(⟨(⟨((gt (af (ag l)) x43).iv).lo,((gt (af (ag l)) x43).iv).hi,false,((gt (af (ag l)) x43).iv).openHi⟩:Iv),(gt (af (ag l)) x43).f⟩:U Qd)]),(x43+1))
     else
      .go ((out++[(gt (af (ag l)) x43)]),(x43+1))
   else
    bif (aB ((gt out (out.length - 1)).f) ((gt (af (ag l)) x43).f) (((gt (af (ag l)) x43).iv).lo)) then
     .go ((out.set (out.length - 1) (⟨(⟨((gt out (out.length - 1)).iv).lo,((gt out (out.length - 1)).iv).hi,((gt out (out.length - 1)).iv).openLo,false⟩:Iv),(gt out (out.length - 1)).f⟩:U Qd)),(x43+1))
    else
     bif (((decide (((x43+1:Nat):Int) < (((af (ag l)).length:Nat):Int))) && (decide (((gt (af (ag l)) (x43+1)).iv).lo=((gt (af (ag l)) x43).iv).lo))) && (aB ((gt (af (ag l)) (x43+1)).f) ((gt (af (ag l)) x43).f) (((gt (af (ag l)) x43).iv).lo))) then
      .go (out,(x43+1))
     else
      .go ((out++[(⟨(gt (af (ag l)) x43).iv,(ar ((gt (af (ag l)) x43).f) (((gt (af (ag l)) x43).iv).lo))⟩:U Qd)]),(x43+1))
  else
   bif (!(aN ((gt (af (ag l)) x43).iv))) then
    bif ((((decide ((x43:Int)>0)) && (aN ((gt (af (ag l)) (x43 - 1)).iv))) && (decide (((gt (af (ag l)) (x43 - 1)).iv).lo=((gt (af (ag l)) x43).iv).lo))) && (!(eT out (((gt (af (ag l)) x43).iv).lo)))) then
     .go ((out++[(⟨(⟨((gt (af (ag l)) x43).iv).lo,((gt (af (ag l)) x43).iv).hi,false,((gt (af (ag l)) x43).iv).openHi⟩:Iv),(gt (af (ag l)) x43).f⟩:U Qd)]),(x43+1))
    else
     .go ((out++[(gt (af (ag l)) x43)]),(x43+1))
   else
    bif (((decide (((x43+1:Nat):Int) < (((af (ag l)).length:Nat):Int))) && (decide (((gt (af (ag l)) (x43+1)).iv).lo=((gt (af (ag l)) x43).iv).lo))) && (aB ((gt (af (ag l)) (x43+1)).f) ((gt (af (ag l)) x43).f) (((gt (af (ag l)) x43).iv).lo))) then
     .go (out,(x43+1))
    else
     .go ((out++[(⟨(gt (af (ag l)) x43).iv,(ar ((gt (af (ag l)) x43).f) (((gt (af (ag l)) x43).iv).lo))⟩:U Qd)]),(x43+1))
 else
  .out (out,x43)
def eZ (l:List (U Qd)) (x18:Nat):(List (U Qd))×Int :=
 fin (bt (fun s=>dV l x18 s.1 s.2) (((af (ag l)).length - 0)+1) ([],0)) (fun s=>eY l x18 s.1 s.2) (fun r=>r)
def dx (l:List (U Qd)) (x18:Nat):Nx Nat ((List (U Qd))×Int) :=
 bif (decide ((x18:Int) < ((ag l).length:Int))) then
  bif ((decide ((x18:Int)>0)) && (!(dI ((gt (ag l) (x18 - 1)).iv) ((gt (ag l) x18).iv)))) then
   .ret ([],11)
  else
   .go (x18+1)
 else
  .out x18
def aV (l:List (U Qd)):(List (U Qd))×Int :=
 fin (bt (fun s=>dx l s) ((l.length - 0)+1) 0) (fun s=>eZ l s) (fun r=>r)
theorem ej (l:List (U Qd)) (lv:Value) (hl:l.length≤300) (zl:All (gk 30) l) (w0:World) (hlv:View w0 lv l):Calls zP 55 #[(.iface 55 (.agg #[])),lv] w0 (RetT w0 126 (aV l).1 [.int .i64 ((aV l).2)] (All (gk 20) ((aV l).1)∧(aV l).1.length≤3*l.length)):=by
 refine enter (N:=219) Tryz.func55 rfl rfl ?_; intro ac h
 have hlenl:=hlv.len
 refine gz h <| (W) ?_; clear h ac; intro ac wo h
 have s1:=RetR.pr ((fun w_ hB_ hS_=>jz l lv og zl w_ (hlv.below hB_)) _ h.bel h.sep)
 have p2:=s1.2
 refine jj (xs:=(ag l)) h (ck Tryz.call148 rfl) (fun w_ hB_ hS_=>jz l lv og zl w_ (hlv.below hB_)) rfl ?_; clear h ac wo; intro sv3 ac wo _ h
 obtain ⟨X1,hX1⟩:∃ X,bt (fun s=>dx l s) ((l.length - 0)+1) 0=X:=⟨_,rfl⟩
 refine gz h <| (W) ?_; clear h ac wo; intro ac wo h
 refine wp_loop_ghost (fun n_ a_ w_=>∃ (x18:Nat),((l.length - x18) < n_)∧(bt (fun s=>dx l s) n_ x18=X1)∧(x18≤l.length)∧St w0 219 [(0,(.iface 55 (.agg #[]))),(1,sv3),(17,(iN ((ag l).length))),(18,(iN x18))] [.row (α:=U Qd) 126 sv3 (ag l)] a_ w_) ((l.length - 0)+1) ⟨0,og,hX1,og,h.rs⟩ ?_
 clear h ac wo; rintro n1 ac wo ⟨x18,hm1,hL1,hx18,h⟩
 obtain ⟨m1,rfl⟩:∃ m,n1=m+1:=⟨n1 - 1,by omega⟩
 refine gz h <| (ai) ?_ ?_ <;> clear h ac wo <;> intro ac wo h hc1
 ·
  have hd1:=of_decide_eq_true hc1
  refine gz h <| (dr0 (hob:=(oG (by exact fun hg=>mh ((gt (ag l) (x18 - 1)).iv) ((gt (ag l) x18).iv) 10 og (All.gt s1.1 (bL _)).1 (All.gt s1.1 (bL _)).1)) <| oE)) <| (ai) ?_ ?_ <;> clear h ac wo <;> intro ac wo h hc2
  ·
   have q:=hc2; try simp at q
   refine gz h <| (W) ?_; clear h ac wo; intro ac wo h
   replace h:=h.nilRow (α:=U Qd) 126
   have hr1:=iH hL1 pt
   have hd:aV l=([],11):=pt
   exact (rt h) (by rw [hd]; exact h.retT 0 rfl rfl ⟨All.nil,og⟩)
  ·
   have q:=hc2; try simp at q
   have hg:=bI hL1 pt
   exact (nx h) fun _ _ h=>by exact ⟨m1,og,_,og,hg,og,h.re [0]⟩
 ·
  have hd1:=of_decide_eq_false hc1
  have hx1:=cG hL1 pt
  refine gz h <| (W) ?_; clear h ac wo; intro ac wo h
  have s5:=RetR.pr ((fun w_ hB_ hS_=>kb (ag l) sv3 og s1.1 w_ (row_view hS_ 0 rfl)) _ h.bel h.sep)
  have p6:=s5.2
  refine jj (xs:=(af (ag l))) h (ck Tryz.call149 rfl) (fun w_ hB_ hS_=>kb (ag l) sv3 og s1.1 w_ (row_view hS_ 0 rfl)) rfl ?_; clear h ac wo; intro sv7 ac wo _ h
  refine gz h <| (W) ?_; clear h ac wo; intro ac wo h
  replace h:=h.nilRow (α:=U Qd) 126
  obtain ⟨X2,hX2⟩:∃ X,bt (fun s=>dV l x18 s.1 s.2) (((af (ag l)).length - 0)+1) ([],0)=X:=⟨_,rfl⟩
  refine wp_loop_ghost (fun n_ a_ w_=>∃ (out:List (U Qd)) (x43:Nat) (outv:Value),(((af (ag l)).length - x43) < n_)∧(bt (fun s=>dV l x18 s.1 s.2) n_ (out,x43)=X2)∧(x43≤(af (ag l)).length)∧(All (gk 20) out)∧(out.length≤x43)∧St w0 219 [(0,(.iface 55 (.agg #[]))),(7,outv),(8,sv7),(41,sv7),(42,(iN ((af (ag l)).length))),(43,(iN x43))] [.row (α:=U Qd) 126 outv out,.row (α:=U Qd) 126 sv7 (af (ag l)),.row (α:=U Qd) 126 sv3 (ag l)] a_ w_) (((af (ag l)).length - 0)+1) ⟨[],0,(.slice none 0 0),og,hX2,og,All.nil,og,h.rs⟩ ?_
  clear h ac wo; rintro n2 ac wo ⟨out,x43,outv,hm2,hL2,hx43,zout,hol,h⟩
  obtain ⟨m2,rfl⟩:∃ m,n2=m+1:=⟨n2 - 1,by omega⟩
  refine gz h <| (ai) ?_ ?_ <;> clear h ac wo <;> intro ac wo h hc3
  ·
   have hd3:=of_decide_eq_true hc3
   refine gz h <| (xa) fun b1=>(xa) fun b2=>(dr0 (hob:=(oG (by exact fun hg=>e9 ((gt out (out.length - 1)).iv))) <| oE)) <| (ai) ?_ ?_ <;> clear h ac wo <;> intro ac wo h hc4
   ·
    have q:=hc4; try simp at q
    refine gz h <| (xk (e9 ((gt (af (ag l)) x43).iv))) <| (ai) ?_ ?_ <;> clear h ac wo <;> intro ac wo h hc5
    ·
     have q:=hc5; try simp at q
     refine gz h <| (dr0 (hob:=(oG (by exact fun hg=>gg ((gt out (out.length - 1)).f) ((gt (af (ag l)) x43).f) (All.gt zout (bL _)).2 (dh (All.gt s5.1 (bL _)).2 og))) <| oE)) <| (ai) ?_ ?_ <;> clear h ac wo <;> intro ac wo h hc6
     ·
      have q:=hc6; try simp at q
      refine gz h <| (W) ?_; clear h ac wo; intro ac wo h
      refine up h 2 rfl (ia (k:=9) (u':=(⟨(⟨((gt out (out.length - 1)).iv).lo,((gt (af (ag l)) x43).iv).hi,((gt out (out.length - 1)).iv).openLo,((gt out (out.length - 1)).iv).openHi⟩:Iv),(gt out (out.length - 1)).f⟩:U Qd)) Tryz.sizeOf71 (ff og) rfl rfl rfl rfl rfl rfl rfl rfl) ?_; clear h ac wo; intro ac wo h
      refine gz h <| (W) ?_; clear h ac wo; intro ac wo h
      refine up h 2 rfl (ia (k:=19) (u':=(⟨(⟨((gt out (out.length - 1)).iv).lo,((gt (af (ag l)) x43).iv).hi,((gt out (out.length - 1)).iv).openLo,true⟩:Iv),(gt out (out.length - 1)).f⟩:U Qd)) zz4 (mR og) rfl rfl rfl rfl rfl rfl rfl rfl) ?_; clear h ac wo; intro ac wo h
      replace h:=h.rowEq 2 rfl (by rw [List.set_set]:_=(out.set (out.length - 1) (⟨(⟨((gt out (out.length - 1)).iv).lo,((gt (af (ag l)) x43).iv).hi,((gt out (out.length - 1)).iv).openLo,true⟩:Iv),(gt out (out.length - 1)).f⟩:U Qd)))
      have hg:=bI hL2 pt
      exact (nx h) fun _ _ h=>by exact ⟨m2,og,_,_,_,og,hg,og,(All.set zout ⟨⟨((All.gt zout (bL _)).1).1,(cr ((All.gt s5.1 (bL _)).1).2 og)⟩,(All.gt zout (bL _)).2⟩),og,h.re [2,3,4]⟩
     ·
      have q:=hc6; try simp at q
      refine gz h <| (dr0 (hob:=(oG (by exact fun hg=>e9 ((gt (af (ag l)) (x43 - 1)).iv))) <| (oX (h:=by exact fun _=>og1 (acc:=[2]) rfl rfl rfl rfl (fun hg=>fB (ck Tryz.call151 (mS (db rfl hg) (mS (db rfl hg) rfl))) (fun w_ hB_ hS_=>ks out outv (((gt (af (ag l)) x43).iv).lo) zout ((All.gt s5.1 (bL _)).1).1 w_ (row_view hS_ 0 rfl))))) <| oE)) <| (ai) ?_ ?_ <;> clear h ac wo <;> intro ac wo h hc7
      ·
       have q:=hc7; try simp at q
       refine gz h <| (xs 1 (cUD (⟨(⟨((gt (af (ag l)) x43).iv).lo,((gt (af (ag l)) x43).iv).hi,false,((gt (af (ag l)) x43).iv).openHi⟩:Iv),(gt (af (ag l)) x43).f⟩:U Qd))) <| (W) ?_; clear h ac wo; intro ac wo h
       refine nw h (cA (α:=U Qd) (xs:=[.tmp 160]) (vs:=[(vUD (⟨(⟨((gt (af (ag l)) x43).iv).lo,((gt (af (ag l)) x43).iv).hi,false,((gt (af (ag l)) x43).iv).openHi⟩:Iv),(gt (af (ag l)) x43).f⟩:U Qd))]) [(⟨(⟨((gt (af (ag l)) x43).iv).lo,((gt (af (ag l)) x43).iv).hi,false,((gt (af (ag l)) x43).iv).openHi⟩:Iv),(gt (af (ag l)) x43).f⟩:U Qd)] slt50 rfl rfl rfl DC) rfl ?_; clear h ac wo; intro sv9 ac wo nnsv9 h
       refine on2 h 3 0 rfl rfl (fe (xs:=out) (ys:=[(⟨(⟨((gt (af (ag l)) x43).iv).lo,((gt (af (ag l)) x43).iv).hi,false,((gt (af (ag l)) x43).iv).openHi⟩:Iv),(gt (af (ag l)) x43).f⟩:U Qd)]) slt50 (fun w hs=>(row_view hs 0 rfl)) rfl rfl og) rfl ?_; clear h ac wo; intro sv10 ac wo apsv10 h
       have hg:=bI hL2 pt
       exact (nx h) fun _ _ h=>by exact ⟨m2,og,_,_,_,og,hg,og,(All.app zout (All.cons ⟨⟨(cr ((All.gt s5.1 (bL _)).1).1 og),(cr ((All.gt s5.1 (bL _)).1).2 og)⟩,(dh (All.gt s5.1 (bL _)).2 og)⟩ All.nil)),og,h.re [0,4,5]⟩
      ·
       have q:=hc7; try simp at q
       refine gz h <| (W) ?_; clear h ac wo; intro ac wo h
       refine nw h (cA (α:=U Qd) (xs:=[.tmp 160]) (vs:=[(vUD (gt (af (ag l)) x43))]) [(gt (af (ag l)) x43)] slt50 rfl rfl rfl DC) rfl ?_; clear h ac wo; intro sv11 ac wo nnsv11 h
       refine on2 h 3 0 rfl rfl (fe (xs:=out) (ys:=[(gt (af (ag l)) x43)]) slt50 (fun w hs=>(row_view hs 0 rfl)) rfl rfl og) rfl ?_; clear h ac wo; intro sv12 ac wo apsv12 h
       have hg:=bI hL2 pt
       exact (nx h) fun _ _ h=>by exact ⟨m2,og,_,_,_,og,hg,og,(All.app zout (All.cons (rZ (All.gt s5.1 (bL _)) og) All.nil)),og,h.re [0,4,5]⟩
    ·
     have q:=hc5; try simp at q
     refine gz h <| (dr0 (hob:=(oG (by exact fun hg=>dT ((gt out (out.length - 1)).f) ((gt (af (ag l)) x43).f) (((gt (af (ag l)) x43).iv).lo) (All.gt zout (bL _)).2 (dh (All.gt s5.1 (bL _)).2 og) ((All.gt s5.1 (bL _)).1).1)) <| oE)) <| (ai) ?_ ?_ <;> clear h ac wo <;> intro ac wo h hc8
     ·
      have q:=hc8; try simp at q
      refine gz h <| (W) ?_; clear h ac wo; intro ac wo h
      refine up h 2 rfl (ia (k:=19) (u':=(⟨(⟨((gt out (out.length - 1)).iv).lo,((gt out (out.length - 1)).iv).hi,((gt out (out.length - 1)).iv).openLo,false⟩:Iv),(gt out (out.length - 1)).f⟩:U Qd)) zz4 (ff og) rfl rfl rfl rfl rfl rfl rfl rfl) ?_; clear h ac wo; intro ac wo h
      have hg:=bI hL2 pt
      exact (nx h) fun _ _ h=>by exact ⟨m2,og,_,_,_,og,hg,og,(All.set zout ⟨⟨((All.gt zout (bL _)).1).1,((All.gt zout (bL _)).1).2⟩,(All.gt zout (bL _)).2⟩),og,h.re [2,3,4]⟩
     ·
      have q:=hc8; try simp at q
      refine gz h <| (dr0 (hob:=(oG (by exact fun hg=>dT ((gt (af (ag l)) (x43+1)).f) ((gt (af (ag l)) x43).f) (((gt (af (ag l)) x43).iv).lo) (dh (All.gt s5.1 (bL _)).2 og) (dh (All.gt s5.1 (bL _)).2 og) ((All.gt s5.1 (bL _)).1).1)) <| oE)) <| (ai) ?_ ?_ <;> clear h ac wo <;> intro ac wo h hc9
      ·
       have q:=hc9; try simp at q
       have hg:=bI hL2 pt
       exact (nx h) fun _ _ h=>by exact ⟨m2,og,_,_,_,og,hg,og,zout,og,h.re [2,3,4]⟩
      ·
       have q:=hc9; try simp at q
       have c13:=fU ((gt (af (ag l)) x43).f) (((gt (af (ag l)) x43).iv).lo) (All.gt s5.1 (bL _)).2 ((All.gt s5.1 (bL _)).1).1
       have s13:=Calls.pr (c13 w0)
       refine gz h <| (xk (c13)) <| (xs 1 (cUD (⟨(gt (af (ag l)) x43).iv,(ar ((gt (af (ag l)) x43).f) (((gt (af (ag l)) x43).iv).lo))⟩:U Qd))) <| (W) ?_; clear h ac wo; intro ac wo h
       refine nw h (cA (α:=U Qd) (xs:=[.tmp 87]) (vs:=[(vUD (⟨(gt (af (ag l)) x43).iv,(ar ((gt (af (ag l)) x43).f) (((gt (af (ag l)) x43).iv).lo))⟩:U Qd))]) [(⟨(gt (af (ag l)) x43).iv,(ar ((gt (af (ag l)) x43).f) (((gt (af (ag l)) x43).iv).lo))⟩:U Qd)] slt50 rfl rfl rfl DC) rfl ?_; clear h ac wo; intro sv14 ac wo nnsv14 h
       refine on2 h 3 0 rfl rfl (fe (xs:=out) (ys:=[(⟨(gt (af (ag l)) x43).iv,(ar ((gt (af (ag l)) x43).f) (((gt (af (ag l)) x43).iv).lo))⟩:U Qd)]) slt50 (fun w hs=>(row_view hs 0 rfl)) rfl rfl og) rfl ?_; clear h ac wo; intro sv15 ac wo apsv15 h
       have hg:=bI hL2 pt
       exact (nx h) fun _ _ h=>by exact ⟨m2,og,_,_,_,og,hg,og,(All.app zout (All.cons ⟨(iK (All.gt s5.1 (bL _)).1 og),s13⟩ All.nil)),og,h.re [0,4,5]⟩
   ·
    have q:=hc4; try simp at q
    refine gz h <| (xk (e9 ((gt (af (ag l)) x43).iv))) <| (ai) ?_ ?_ <;> clear h ac wo <;> intro ac wo h hc10
    ·
     have q:=hc10; try simp at q
     refine gz h <| (W) ?_; clear h ac wo; intro ac wo h
     refine im mixed [dv _,dv _,dv _,ne,ne,ne,ne,ne,ne,dv _,dv _,ne,ne,ne,ne,ne,ne,ne,ne,ne,ne,ne,dv _] [ge _,ge _,ge _,ge _,ge _] h rfl (by kernel_rfl) ⟨fun _ _=>om rfl,fun _ _=>bg (rf nn216 rfl (p:=none)),fun _ _=>om rfl,(fun ξ hφ=>by exact lI (c:=true) (b:=false) (g:=false) [] rfl rfl rfl rfl g_t (fun hg=>absurd hg DC)),(fun ξ hφ=>by exact lI (c:=true) (b:=false) (g:=false) [] rfl rfl rfl rfl g_t (fun hg=>absurd hg DC)),(fun ξ hφ=>by exact lI (c:=true) (b:=false) (g:=false) [] rfl rfl rfl rfl g_t (fun hg=>absurd hg DC)),(fun ξ hφ=>by exact lI (c:=true) (b:=false) (g:=false) [] rfl rfl rfl rfl g_t (fun hg=>absurd hg DC)),(fun ξ hφ=>by exact lI (c:=true) (b:=false) (g:=false) [] rfl rfl rfl rfl g_t (fun hg=>absurd hg DC)),(fun ξ hφ=>by exact lI (c:=true) (b:=false) (g:=false) [] rfl rfl rfl rfl g_t (fun hg=>absurd hg DC)),fun _ _=>bg (sy (b:=false) rfl (fun e=>absurd e DC) (fun _=>rfl) (v:=.bool false)),fun _ _=>om rfl,(fun ξ hφ=>by exact lI (c:=true) (b:=false) (g:=false) [] rfl rfl rfl rfl g_t (fun hg=>absurd hg DC)),(fun ξ hφ=>by exact lI (c:=true) (b:=false) (g:=false) [] rfl rfl rfl rfl g_t (fun hg=>absurd hg DC)),(fun ξ hφ=>by exact lI (c:=true) (b:=false) (g:=false) [] rfl rfl rfl rfl g_t (fun hg=>absurd hg DC)),(fun ξ hφ=>by exact lI (c:=true) (b:=false) (g:=false) [] rfl rfl rfl rfl g_t (fun hg=>absurd hg DC)),(fun ξ hφ=>by exact lI (c:=true) (b:=false) (g:=false) [] rfl rfl rfl rfl g_t (fun hg=>absurd hg DC)),(fun ξ hφ=>by exact lI (c:=true) (b:=false) (g:=false) [] rfl rfl rfl rfl g_t (fun hg=>absurd hg DC)),(fun ξ hφ=>by exact lI (c:=true) (b:=false) (g:=false) [] rfl rfl rfl rfl g_t (fun hg=>absurd hg DC)),(fun ξ hφ=>by exact lI (c:=true) (b:=false) (g:=false) [] rfl rfl rfl rfl g_t (fun hg=>absurd hg DC)),(fun ξ hφ=>by exact lI (c:=true) (b:=false) (g:=false) [] rfl rfl rfl rfl g_t (fun hg=>absurd hg DC)),(fun ξ hφ=>by exact lI (c:=true) (b:=false) (g:=false) [] rfl rfl rfl rfl g_t (fun hg=>absurd hg DC)),(fun ξ hφ=>by exact lI (c:=true) (b:=false) (g:=false) [] rfl rfl rfl rfl g_t (fun hg=>absurd hg DC)),fun _ _=>bg (sy (b:=false) rfl (fun e=>absurd e DC) (fun _=>rfl) (v:=.bool false)),trivial⟩ ?_
     clear h ac wo; intro ξ ac wo hφ h
     replace h:St w0 219 [(0,(.iface 55 (.agg #[]))),(7,outv),(8,sv7),(41,sv7),(42,(iN ((af (ag l)).length))),(43,(iN x43)),(10,(ptr b1 0)),(9,(iN x43)),(11,(ptr b2 0)),(12,(.pointer none)),(117,(.bool false))] [.blk b2 (cR (((gt (af (ag l)) x43).iv).lo)) 71,.blk b1 (cUD (gt (af (ag l)) x43)) 126,.row (α:=U Qd) 126 outv out,.row (α:=U Qd) 126 sv7 (af (ag l)),.row (α:=U Qd) 126 sv3 (ag l)] ac wo:=(h.pick [0,1,2,3,4] DC).sub ⟨rfl,rfl,rfl,rfl,rfl,rfl,rfl,rfl,rfl,rfl,rfl,trivial⟩
     clear hφ ξ
     refine gz h <| (W) ?_; clear h ac wo; intro ac wo h
     refine tr h rfl ?_
     refine gz h <| (dr0 (hob:=(oG (by exact fun hg=>e9 ((gt (af (ag l)) (x43 - 1)).iv))) <| (oX (h:=by exact fun _=>og1 (acc:=[2]) rfl rfl rfl rfl (fun hg=>fB (ck Tryz.call151 (mS (db rfl hg) (mS (db rfl hg) rfl))) (fun w_ hB_ hS_=>ks out outv (((gt (af (ag l)) x43).iv).lo) zout ((All.gt s5.1 (bL _)).1).1 w_ (row_view hS_ 0 rfl))))) <| oE)) <| (ai) ?_ ?_ <;> clear h ac wo <;> intro ac wo h hc11
     ·
      have q:=hc11; try simp at q
      refine gz h <| (xs 1 (cUD (⟨(⟨((gt (af (ag l)) x43).iv).lo,((gt (af (ag l)) x43).iv).hi,false,((gt (af (ag l)) x43).iv).openHi⟩:Iv),(gt (af (ag l)) x43).f⟩:U Qd))) <| (W) ?_; clear h ac wo; intro ac wo h
      refine nw h (cA (α:=U Qd) (xs:=[.tmp 160]) (vs:=[(vUD (⟨(⟨((gt (af (ag l)) x43).iv).lo,((gt (af (ag l)) x43).iv).hi,false,((gt (af (ag l)) x43).iv).openHi⟩:Iv),(gt (af (ag l)) x43).f⟩:U Qd))]) [(⟨(⟨((gt (af (ag l)) x43).iv).lo,((gt (af (ag l)) x43).iv).hi,false,((gt (af (ag l)) x43).iv).openHi⟩:Iv),(gt (af (ag l)) x43).f⟩:U Qd)] slt50 rfl rfl rfl DC) rfl ?_; clear h ac wo; intro sv16 ac wo nnsv16 h
      refine on2 h 3 0 rfl rfl (fe (xs:=out) (ys:=[(⟨(⟨((gt (af (ag l)) x43).iv).lo,((gt (af (ag l)) x43).iv).hi,false,((gt (af (ag l)) x43).iv).openHi⟩:Iv),(gt (af (ag l)) x43).f⟩:U Qd)]) slt50 (fun w hs=>(row_view hs 0 rfl)) rfl rfl og) rfl ?_; clear h ac wo; intro sv17 ac wo apsv17 h
      have hg:=bI hL2 pt
      exact (nx h) fun _ _ h=>by exact ⟨m2,og,_,_,_,og,hg,og,(All.app zout (All.cons ⟨⟨(cr ((All.gt s5.1 (bL _)).1).1 og),(cr ((All.gt s5.1 (bL _)).1).2 og)⟩,(dh (All.gt s5.1 (bL _)).2 og)⟩ All.nil)),og,h.re [0,4,5]⟩
     ·
      have q:=hc11; try simp at q
      refine gz h <| (W) ?_; clear h ac wo; intro ac wo h
      refine nw h (cA (α:=U Qd) (xs:=[.tmp 160]) (vs:=[(vUD (gt (af (ag l)) x43))]) [(gt (af (ag l)) x43)] slt50 rfl rfl rfl DC) rfl ?_; clear h ac wo; intro sv18 ac wo nnsv18 h
      refine on2 h 3 0 rfl rfl (fe (xs:=out) (ys:=[(gt (af (ag l)) x43)]) slt50 (fun w hs=>(row_view hs 0 rfl)) rfl rfl og) rfl ?_; clear h ac wo; intro sv19 ac wo apsv19 h
      have hg:=bI hL2 pt
      exact (nx h) fun _ _ h=>by exact ⟨m2,og,_,_,_,og,hg,og,(All.app zout (All.cons (rZ (All.gt s5.1 (bL _)) og) All.nil)),og,h.re [0,4,5]⟩
    ·
     have q:=hc10; try simp at q
     refine gz h <| (W) ?_; clear h ac wo; intro ac wo h
     refine im mixed [dv _,dv _,dv _,ne,ne,ne,ne,ne,ne,ne,ne,ne,ne,ne,ne,dv _,dv _] [ge _,ge _,ge _,ge _,ge _] h rfl (by kernel_rfl) ⟨fun _ _=>om rfl,fun _ _=>bg (rf nn216 rfl (p:=none)),fun _ _=>om rfl,(fun ξ hφ=>by exact lI (c:=true) (b:=false) (g:=false) [] rfl rfl rfl rfl g_t (fun hg=>absurd hg DC)),(fun ξ hφ=>by exact lI (c:=true) (b:=false) (g:=false) [] rfl rfl rfl rfl g_t (fun hg=>absurd hg DC)),(fun ξ hφ=>by exact lI (c:=true) (b:=false) (g:=false) [] rfl rfl rfl rfl g_t (fun hg=>absurd hg DC)),(fun ξ hφ=>by exact lI (c:=true) (b:=false) (g:=false) [] rfl rfl rfl rfl g_t (fun hg=>absurd hg DC)),(fun ξ hφ=>by exact lI (c:=true) (b:=false) (g:=false) [] rfl rfl rfl rfl g_t (fun hg=>absurd hg DC)),(fun ξ hφ=>by exact lI (c:=true) (b:=false) (g:=false) [] rfl rfl rfl rfl g_t (fun hg=>absurd hg DC)),(fun ξ hφ=>by exact lI (c:=true) (b:=false) (g:=false) [] rfl rfl rfl rfl g_t (fun hg=>absurd hg DC)),(fun ξ hφ=>by exact lI (c:=true) (b:=false) (g:=false) [] rfl rfl rfl rfl g_t (fun hg=>absurd hg DC)),(fun ξ hφ=>by exact lI (c:=true) (b:=false) (g:=false) [] rfl rfl rfl rfl g_t (fun hg=>absurd hg DC)),(fun ξ hφ=>by exact lI (c:=true) (b:=false) (g:=false) [] rfl rfl rfl rfl g_t (fun hg=>absurd hg DC)),(fun ξ hφ=>by exact lI (c:=true) (b:=false) (g:=false) [] rfl rfl rfl rfl g_t (fun hg=>absurd hg DC)),(fun ξ hφ=>by exact lI (c:=true) (b:=false) (g:=false) [] rfl rfl rfl rfl g_t (fun hg=>absurd hg DC)),fun _ _=>bg (sy (b:=false) rfl (fun e=>absurd e DC) (fun _=>rfl) (v:=.bool false)),fun _ _=>bg (ay rfl),trivial⟩ ?_
     clear h ac wo; intro ξ ac wo hφ h
     replace h:St w0 219 [(0,(.iface 55 (.agg #[]))),(7,outv),(8,sv7),(41,sv7),(42,(iN ((af (ag l)).length))),(43,(iN x43)),(10,(ptr b1 0)),(9,(iN x43)),(11,(ptr b2 0)),(12,(.pointer none)),(163,(.bool false))] [.blk b2 (cR (((gt (af (ag l)) x43).iv).lo)) 71,.blk b1 (cUD (gt (af (ag l)) x43)) 126,.row (α:=U Qd) 126 outv out,.row (α:=U Qd) 126 sv7 (af (ag l)),.row (α:=U Qd) 126 sv3 (ag l)] ac wo:=(h.pick [0,1,2,3,4] DC).sub ⟨rfl,rfl,rfl,rfl,rfl,rfl,rfl,rfl,rfl,rfl,rfl,trivial⟩
     clear hφ ξ
     refine gz h <| (W) ?_; clear h ac wo; intro ac wo h
     refine tr h rfl ?_
     refine gz h <| (dr0 (hob:=(oG (by exact fun hg=>dT ((gt (af (ag l)) (x43+1)).f) ((gt (af (ag l)) x43).f) (((gt (af (ag l)) x43).iv).lo) (dh (All.gt s5.1 (bL _)).2 og) (dh (All.gt s5.1 (bL _)).2 og) ((All.gt s5.1 (bL _)).1).1)) <| oE)) <| (ai) ?_ ?_ <;> clear h ac wo <;> intro ac wo h hc12
     ·
      have q:=hc12; try simp at q
      have hg:=bI hL2 pt
      exact (nx h) fun _ _ h=>by exact ⟨m2,og,_,_,_,og,hg,og,zout,og,h.re [2,3,4]⟩
     ·
      have q:=hc12; try simp at q
      have c20:=fU ((gt (af (ag l)) x43).f) (((gt (af (ag l)) x43).iv).lo) (All.gt s5.1 (bL _)).2 ((All.gt s5.1 (bL _)).1).1
      have s20:=Calls.pr (c20 w0)
      refine gz h <| (xk (c20)) <| (xs 1 (cUD (⟨(gt (af (ag l)) x43).iv,(ar ((gt (af (ag l)) x43).f) (((gt (af (ag l)) x43).iv).lo))⟩:U Qd))) <| (W) ?_; clear h ac wo; intro ac wo h
      refine nw h (cA (α:=U Qd) (xs:=[.tmp 87]) (vs:=[(vUD (⟨(gt (af (ag l)) x43).iv,(ar ((gt (af (ag l)) x43).f) (((gt (af (ag l)) x43).iv).lo))⟩:U Qd))]) [(⟨(gt (af (ag l)) x43).iv,(ar ((gt (af (ag l)) x43).f) (((gt (af (ag l)) x43).iv).lo))⟩:U Qd)] slt50 rfl rfl rfl DC) rfl ?_; clear h ac wo; intro sv21 ac wo nnsv21 h
      refine on2 h 3 0 rfl rfl (fe (xs:=out) (ys:=[(⟨(gt (af (ag l)) x43).iv,(ar ((gt (af (ag l)) x43).f) (((gt (af (ag l)) x43).iv).lo))⟩:U Qd)]) slt50 (fun w hs=>(row_view hs 0 rfl)) rfl rfl og) rfl ?_; clear h ac wo; intro sv22 ac wo apsv22 h
      have hg:=bI hL2 pt
      exact (nx h) fun _ _ h=>by exact ⟨m2,og,_,_,_,og,hg,og,(All.app zout (All.cons ⟨(iK (All.gt s5.1 (bL _)).1 og),s20⟩ All.nil)),og,h.re [0,4,5]⟩
  ·
   have hd3:=of_decide_eq_false hc3
   have hx2:=cG hL2 pt
   have hd:aV l=(out,0):=pt
   exact (rx h) fun _ _ h=>(by rw [hd]; exact h.retT 0 rfl rfl ⟨zout,og⟩)
attribute [irreducible] aV
end Go.Sx
namespace Go.Sx
open Go Go.RowKit Go.Proofs
theorem vL (data:List (U Qd)) {n:Nat} (h:n < 20):cq data n=em data n:=by
 have hb:∀ a b d,20≤b→ef data n a b d=.out (a,b,d):=fun a b d hb=>cF (decide_eq_false og)
 have h1:bt (fun s=>ef data n s.1 s.2.1 s.2.2) (n+20 - 20+1) (0,20,data)=.inl (0,20,data):=(cG rfl (hb 0 20 data (Nat.le_refl _)))
 have h2:∀ a b d e,eW data n a b d 20 e=.out (20,e):=fun a b d e=>cF (decide_eq_false og)
 unfold cq
 refine (ir h1).trans ?_
 show fS data n 0 20 data=_
 unfold fS
 refine (ir (cG rfl (h2 0 20 data _))).trans ?_
 unfold em
 rfl
theorem vM {l:List (U Qd)} (h:l.length < 20):ag l=ao l:=by
 unfold ag ao di
 have:(aZ l).length < 20:=by
  unfold aZ; simpa using h
 rw [vL _ this]
 unfold cK
 rfl
theorem nG_eq {l:List (U Qd)} (h:ag l=ao l):aV l=bn l:=by
 have k2:eY l=fu l:=by
  funext a b c
  unfold eY fu
  first | rfl | (simp only [h] <;> rfl)
 have b2:dV l=cY l:=by
  funext a b c
  unfold dV cY
  rw [h]
 have k1:eZ l=dJ l:=by
  funext a
  unfold eZ dJ
  rw [h,b2,k2]
 have b1:dx l=dY l:=by
  funext a
  unfold dx dY
  rw [h]
 unfold aV bn
 rw [b1,k1]
theorem jZ (l:List (U Qd)) (lv:Value) (hl:l.length < 20) (zl:All (gk 30) l) (w0:World) (hlv:View w0 lv l):Calls zP 55 #[(.iface 55 (.agg #[])),lv] w0 (RetT w0 126 (bn l).1 [.int .i64 ((bn l).2)] (All (gk 20) ((bn l).1)∧(bn l).1.length≤3*l.length)) :=
 nG_eq (vM hl) ▸ ej l lv og zl w0 hlv
end Go.Sx
