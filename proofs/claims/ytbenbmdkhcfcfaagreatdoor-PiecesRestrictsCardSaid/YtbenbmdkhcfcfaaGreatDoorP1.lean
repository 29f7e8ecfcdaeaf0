import Derived.Test.YtbenbmdkhcfcfaaGreatDoorHb
import Derived.Test.YtbenbmdkhcfcfaaGreatDoorY
import Derived.Test.YtbenbmdkhcfcfaaGreatDoorN1
import Derived.Test.YtbenbmdkhcfcfaaGreatDoorProg
import Derived.Test.YtbenbmdkhcfcfaaGreatDoorA7
set_option linter.unusedVariables false
set_option linter.unusedSimpArgs false
open Go.Proofs.Tryz renaming sizeOf321 → zz321, underlying317 → nn317
set_option maxRecDepth 100000
set_option maxHeartbeats 40000000
namespace Go.Sx
open Go Go.RowKit Go.Proofs
attribute [local irreducible] Code.wp wpList Rd gX ObS Ent
attribute [local irreducible] an bD ah aN aC dg
def bC (a:Bd) (b:Bd):Iv :=
 (⟨a.at_,b.at_,a.behind,(!b.behind)⟩:Iv)
theorem lx (a:Bd) (b:Bd) (za:SzW 30 a) (zb:SzW 30 b) (w0:World):Calls Tryz.prog 247 #[(vW a),(vW b)] w0 (RetP w0 (vV (bC a b)) (SzV 30 (bC a b))):=by
 refine enter (N:=15) Tryz.func247 rfl rfl ?_; intro ac h
 refine gz h <| (xb) fun b1=>(xb) fun b2=>(xa) fun b3=>(xo (hs:=by exact bM qc exs rfl (v:=(vV (⟨a.at_,b.at_,a.behind,(!b.behind)⟩:Iv))) rfl)) <| (W) ?_; clear h; intro _ _ h
 exact ret h rfl (.cell (v:=(vV (⟨a.at_,b.at_,a.behind,(!b.behind)⟩:Iv))) rfl (i:=0) rfl Tryz.isAgg86 Tryz.sizeOf86 rfl rfl rfl .nil) rfl (h.retP (by unfold bC; rfl) (by unfold bC; exact ⟨za,zb⟩))
attribute [irreducible] bC
def ca (x:Ev) (y:Ev):Int :=
 (aS x.at_ y.at_)
theorem jG (x:Ev) (y:Ev) (zx:SzE 30 x) (zy:SzE 30 y) (w0:World):Calls Tryz.prog 246 #[(vE x),(vE y)] w0 (RetP w0 (.int .i64 (ca x y)) ((-1≤(ca x y)∧(ca x y)≤1))):=by
 refine enter (N:=10) Tryz.func246 rfl rfl ?_; intro ac h
 have c1:=eH x.at_ y.at_ zx zy
 have s1:=Calls.pr (c1 w0)
 have p2:=s1
 refine gz h <| (xb) fun b1=>(xb) fun b2=>(xk (c1)) <| (W) ?_; clear h; intro _ _ h
 exact (rt h) (h.retP (by unfold ca; rfl) (by unfold ca; exact og))
attribute [irreducible] ca
def iQ (data:List Ev) (a:Nat) (b:Nat) (i:Nat) (data1:List Ev):List Ev :=
 data1
def iP (data:List Ev) (a:Nat) (b:Nat) (i:Nat) (data1:List Ev) (j:Nat) (data2:List Ev):Nx (Nat×(List Ev)) (List Ev) :=
 .go ((i+1),data2)
def et (data:List Ev) (a:Nat) (b:Nat) (i:Nat) (data1:List Ev) (j:Nat) (data2:List Ev):Nx (Nat×(List Ev)) (List Ev) :=
 bif ((decide ((j:Int)>(a:Int))) && (decide ((ca (gt data2 j) (gt data2 (j - 1))) < 0))) then
  .go ((j - 1),((data2.set j (gt data2 (j - 1))).set (j - 1) (gt data2 j)))
 else
  .out (j,data2)
def eu (data:List Ev) (a:Nat) (b:Nat) (i:Nat) (data1:List Ev):Nx (Nat×(List Ev)) (List Ev) :=
 bif (decide ((i:Int) < (b:Int))) then
  fin (br (fun s=>et data a b i data1 s.1 s.2) (i+1) (i,data1)) (fun s=>iP data a b i data1 s.1 s.2) (fun r=>.ret r)
 else
  .out (i,data1)
def bG (data:List Ev) (a:Nat) (b:Nat):List Ev :=
 fin (br (fun s=>eu data a b s.1 s.2) ((b+1 - (a+1))+1) ((a+1),data)) (fun s=>iQ data a b s.1 s.2) (fun r=>r)
theorem iO (data:List Ev) (datav:Value) (a:Nat) (b:Nat) (hab:a≤b) (hb:b≤data.length) (hb2:b≤1000) (zdata:All (SzE 30) data) (w0 w:World) (B:Asn) (hbel:Below w0.heap.size w0 w) (hsep:∃ Z_,Sep w0.heap.size w [.row (α:=Ev) 321 datav data,B] Z_):Calls Tryz.prog 297 #[datav,(iN a),(iN b),(.func (.func 246) #[] #[])] w (RetY w0 (fun v=>v=.tuple #[]∧(All (SzE 30) (bG data a b)∧(bG data a b).length=data.length)) (fun v=>[.row (α:=Ev) 321 datav (bG data a b),B])):=by
 refine lT (N:=53) Tryz.func297 rfl rfl hbel hsep ?_; intro ac h
 have hlendata:=h.len 0 rfl
 obtain ⟨X1,hX1⟩:∃ X,br (fun s=>eu data a b s.1 s.2) ((b+1 - (a+1))+1) ((a+1),data)=X:=⟨_,rfl⟩
 refine gz h <| (W) ?_; clear h; intro _ _ h
 refine wp_loop_ghost (fun n_ a_ w_=>∃ (i:Nat) (data1:List Ev),((b+1 - i) < n_)∧(br (fun s=>eu data a b s.1 s.2) n_ (i,data1)=X1)∧(i≤b+1)∧(All (SzE 30) data1)∧(data1.length=data.length)∧St w0 53 [(0,datav),(1,(iN a)),(2,(iN b)),(3,(.func (.func 246) #[] #[])),(8,(iN i))] [.row (α:=Ev) 321 datav data1,B] a_ w_) ((b+1 - (a+1))+1) ⟨(a+1),data,og,hX1,og,zdata,og,h.rs⟩ ?_
 clear h; rintro n1 _ _ ⟨i,data1,hm1,hL1,hi,zdata1,hdl,h⟩
 obtain ⟨m1,rfl⟩:∃ m,n1=m+1:=⟨n1 - 1,by omega⟩
 refine gz h <| (ai) ?_ ?_ <;> clear h <;> intro _ _ h hc1
 ·
  have hd1:=of_decide_eq_true hc1
  obtain ⟨X2,hX2⟩:∃ X,br (fun s=>et data a b i data1 s.1 s.2) (i+1) (i,data1)=X:=⟨_,rfl⟩
  refine gz h <| (W) ?_; clear h; intro _ _ h
  refine wp_loop_ghost (fun n_ a_ w_=>∃ (j:Nat) (data2:List Ev),(j < n_)∧(br (fun s=>et data a b i data1 s.1 s.2) n_ (j,data2)=X2)∧(All (SzE 30) data2)∧(j≤i)∧(data2.length=data.length)∧St w0 53 [(0,datav),(1,(iN a)),(2,(iN b)),(3,(.func (.func 246) #[] #[])),(8,(iN i)),(9,(iN j))] [.row (α:=Ev) 321 datav data2,B] a_ w_) (i+1) ⟨i,data1,og,hX2,zdata1,og,og,h.rs⟩ ?_
  clear h; rintro n2 _ _ ⟨j,data2,hm2,hL2,zdata2,hj,hdl2,h⟩
  obtain ⟨m2,rfl⟩:∃ m,n2=m+1:=⟨n2 - 1,by omega⟩
  refine gz h <| (W) ?_; clear h; intro _ _ h
  have s1:=Calls.pr ((fun w_ hB_ hS_=>jG (gt data2 j) (gt data2 (j - 1)) (All.gt zdata2 (tu _)) (All.gt zdata2 (tu _)) w_ ) _ h.bel h.sep)
  have p2:=s1
  refine gz h <| (dr0 (hob:=(oG (by exact fun hg=>jG (gt data2 j) (gt data2 (j - 1)) (All.gt zdata2 (tu _)) (All.gt zdata2 (tu _)))) <| oE)) <| (ai) ?_ ?_ <;> clear h <;> intro _ _ h hc2
  ·
   have q:=hc2; try simp at q
   refine gz h <| (dr1 (H:=[⟨.row (α:=Ev) 321 datav data2,[(15,.con (.row (α:=Ev) 321 datav (data2.set j (gt data2 (j - 1))))),(17,.con (.row (α:=Ev) 321 datav ((data2.set j (gt data2 (j - 1))).set (j - 1) (gt data2 j))))]⟩,ge _]) (hob:=(oY (h:=by exact fun _=>mY (acc:=[0]) _ [.row (α:=Ev) 321 datav (data2.set j (gt data2 (j - 1)))] rfl rfl (ib (k:=0) (u':=(gt data2 (j - 1))) zz321 (e9 og) rfl (Nat.add_zero _) rfl rfl rfl rfl rfl rfl))) <| (oY (h:=by exact fun _=>mY (acc:=[0]) _ [.row (α:=Ev) 321 datav ((data2.set j (gt data2 (j - 1))).set (j - 1) (gt data2 j))] rfl rfl (ib (k:=0) (u':=(gt data2 j)) zz321 (e9 og) rfl (Nat.add_zero _) rfl rfl rfl rfl rfl rfl))) <| oE)) <| (W) ?_; clear h; intro _ _ h
   have hg:=bF hL2 pt
   exact aF ⟨m2,og,_,_,og,hg,(All.set (All.set zdata2 (All.gt zdata2 (tu _))) (All.gt zdata2 (tu _))),og,og,h.re [0,1]⟩
  ·
   have q:=hc2; try simp at q
   have hx2:=cG hL2 pt
   have hg:=bF hL1 pt
   exact (nx h) fun _ _ h=>by exact ⟨m1,og,_,_,og,hg,og,zdata2,og,h.re [0,1]⟩
 ·
  have hd1:=of_decide_eq_false hc1
  have hx1:=cG hL1 pt
  have hd:bG data a b=data1:=pt
  refine gz h <| (W) ?_; clear h; intro _ _ h
  exact oJ (vs:=[]) h rfl .nil rfl ((h.pick [0,1] DC).retY ⟨rfl,(by rw [hd]; exact ⟨zdata1,og⟩)⟩ (by rw [hd]; rfl))
attribute [irreducible] bG
def eK (a:Bool) (b:Bool):Bool :=
 (a || b)
theorem ob (a:Bool) (b:Bool) (w0:World):Calls Tryz.prog 244 #[(.bool a),(.bool b)] w0 (RetP w0 (.bool (eK a b)) (True)):=by
 refine enter (N:=9) Tryz.func244 rfl rfl ?_; intro ac h
 exact (rx h) fun _ _ h=>(h.retP (by unfold eK; rfl) trivial)
attribute [irreducible] eK
def eL (a:Bool) (b:Bool):Bool :=
 (a && (!b))
theorem oc (a:Bool) (b:Bool) (w0:World):Calls Tryz.prog 181 #[(.bool a),(.bool b)] w0 (RetP w0 (.bool (eL a b)) (True)):=by
 refine enter (N:=10) Tryz.func181 rfl rfl ?_; intro ac h
 exact (rx h) fun _ _ h=>(h.retP (by unfold eL; rfl) trivial)
attribute [irreducible] eL
end Go.Sx
namespace Go.Sx
open Go Go.RowKit Go.Proofs
attribute [local irreducible] Code.wp wpList Rd gX ObS Ent
attribute [local irreducible] an bD ah aN aC dg
def cb (data:List Ev) (a:Nat) (b:Nat) (limit:Int):List Ev :=
 (bG data a b)
theorem jS (data:List Ev) (datav:Value) (a:Nat) (b:Nat) (limit:Int) (hab:a≤b) (hb:b≤data.length) (hb2:b≤1000) (h12:b≤a+12) (zdata:All (SzE 30) data) (w0 w:World) (B:Asn) (hbel:Below w0.heap.size w0 w) (hsep:∃ Z_,Sep w0.heap.size w [.row (α:=Ev) 321 datav data,B] Z_):Calls Tryz.prog 284 #[datav,(iN a),(iN b),(.int .i64 limit),(.func (.func 246) #[] #[])] w (RetY w0 (fun v=>v=.tuple #[]∧(All (SzE 30) (cb data a b limit)∧(cb data a b limit).length=data.length)) (fun v=>[.row (α:=Ev) 321 datav (cb data a b limit),B])):=by
 refine lT (N:=148) Tryz.func284 rfl rfl hbel hsep ?_; intro ac h
 have hlendata:=h.len 0 rfl
 refine gz h <| (W) ?_; clear h; intro _ _ h
 refine rZ 1 ?_
 refine gz h <| (xo (hs:=by exact fj rfl rfl (r:=(((b - a):Nat):Int)) (by rw [IntKind.wrap_i64]; first | omega | grind))) <| (W) ?_; clear h; intro _ _ h
 refine c_ifT h rfl ?_ (decide_eq_true og)
 refine gz h <| (W) ?_; clear h; intro _ _ h
 refine on1 h 0 rfl (jf (vs:=[datav,(iN a),(iN b),(.func (.func 246) #[] #[])]) (A:=fun v=>[.row (α:=Ev) 321 datav (bG data a b)]) (ck Tryz.call297 rfl) (fun w_ B_ hB_ hS_=>iO data datav a b og og og zdata w0 w_ B_ hB_ hS_ )) rfl ?_; clear h; intro vc _ _ s2 h
 obtain rfl:vc=_:=s2.1
 have p3:=s2.2.2
 refine gz h <| (W) ?_; clear h; intro _ _ h
 replace h:=h.sub (F':=[]) trivial
 have hd:cb data a b limit=(bG data a b):=rfl
 refine gz h <| (W) ?_; clear h; intro _ _ h
 exact ret (vs:=[]) h rfl .nil rfl ((h.pick [0,1] DC).retY ⟨rfl,(by rw [hd]; exact ⟨s2.2.1,og⟩)⟩ (by rw [hd]; rfl))
attribute [irreducible] cb
end Go.Sx
namespace Go.Sx
open Go Go.RowKit Go.Proofs
attribute [local irreducible] Code.wp wpList Rd gX ObS Ent
attribute [local irreducible] an bD ah aN aC dg
def gk (x:Nat):Int :=
 ((Lib.bitLen x:Nat):Int)
theorem oW (x:Nat) (hx:x < 18446744073709551616) (w0:World):Calls Tryz.prog 285 #[(.int .u64 (x:Int))] w0 (RetP w0 (.int .i64 (gk x)) (True)):=by
 refine enter (N:=8) Tryz.func285 rfl rfl ?_; intro ac h
 refine gz h <| (W) ?_; clear h; intro _ _ h
 refine th h rfl ?_
 refine gz h <| (xk (vg x (by assumption))) <| (W) ?_; clear h; intro _ _ h
 exact (rt h) (h.retP (by unfold gk; rfl) trivial)
attribute [irreducible] gk
def cc (x:List Ev):List Ev :=
 (cb x 0 x.length (gk x.length))
theorem jT (x:List Ev) (xv:Value) (hl:x.length≤12) (zx:All (SzE 30) x) (w0 w:World) (B:Asn) (hbel:Below w0.heap.size w0 w) (hsep:∃ Z_,Sep w0.heap.size w [.row (α:=Ev) 321 xv x,B] Z_):Calls Tryz.prog 245 #[xv,(.func (.func 246) #[] #[])] w (RetY w0 (fun v=>v=.tuple #[]∧(All (SzE 30) (cc x)∧(cc x).length=x.length)) (fun v=>[.row (α:=Ev) 321 xv (cc x),B])):=by
 refine lT (N:=14) Tryz.func245 rfl rfl hbel hsep ?_; intro ac h
 have hlenx:=h.len 0 rfl
 refine gz h <| (xo (hs:=by exact bf Tryz.runUnderlying3 Tryz.runUnderlying276 rfl (r:=(x.length:Int)) (by rw [IntKind.wrap_u64]; first | omega | grind))) <| (xk (oW x.length og)) <| (W) ?_; clear h; intro _ _ h
 refine on1 h 0 rfl (jf (vs:=[xv,(.int .i64 0),(iN x.length),(.int .i64 (gk x.length)),(.func (.func 246) #[] #[])]) (A:=fun v=>[.row (α:=Ev) 321 xv (cb x 0 x.length (gk x.length))]) (ck Tryz.call284 rfl) (fun w_ B_ hB_ hS_=>jS x xv 0 x.length (gk x.length) og og og og zx w0 w_ B_ hB_ hS_ )) rfl ?_; clear h; intro vc _ _ s2 h
 obtain rfl:vc=_:=s2.1
 have p3:=s2.2.2
 have hd:cc x=(cb x 0 x.length (gk x.length)):=rfl
 refine gz h <| (W) ?_; clear h; intro _ _ h
 exact oJ (vs:=[]) h rfl .nil rfl ((h.pick [0,1] DC).retY ⟨rfl,(by rw [hd]; exact ⟨s2.2.1,og⟩)⟩ (by rw [hd]; rfl))
attribute [irreducible] cc
end Go.Sx
namespace Go.Sx
def kB (b:Bd):Nat:=2*tk b.at_+(bif b.behind then 1 else 0)
theorem bb (b:Bool):(bif b then 1 else 0:Nat)≤1:=by cases b <;> decide
theorem cmpB {a b:Bd} (ha:Tm a.at_) (hb:Tm b.at_):aS a b=sgn (kB a) (kB b):=by
 unfold aS kB
 rw [ha.cmp hb]
 have h1:=bb a.behind
 have h2:=bb b.behind
 rcases Nat.lt_trichotomy (tk a.at_) (tk b.at_) with e | e | e
 ·rw [fL e,fL og]; rfl
 ·rw [e,dO]
  cases a.behind <;> cases b.behind
  ·rw [dO]; rfl
  ·rw [fL (by simp)]; rfl
  ·rw [f7 (by simp)]; rfl
  ·rw [dO]; rfl
 ·rw [f7 e,f7 og]; rfl
theorem kB_inj {a b:Bd} (ha:Tm a.at_) (hb:Tm b.at_) (h:kB a=kB b):a=b:=by
 unfold kB at h
 have h1:=bb a.behind
 have h2:=bb b.behind
 have e:tk a.at_=tk b.at_:=by omega
 have e2:=(ha.inj hb).1 e
 have e3:a.behind=b.behind:=by
  rw [e] at h
  cases ha:a.behind <;> cases hb:b.behind <;> rw [ha,hb] at h <;> simp at h <;> rfl
 obtain ⟨x,y⟩:=a
 obtain ⟨z,w⟩:=b
 simp only at e2 e3
 rw [e2,e3]
theorem pf (i:Iv):aw i=⟨i.lo,i.openLo⟩:=by unfold aw; rfl
theorem pl (i:Iv):aH i=⟨i.hi,!i.openHi⟩:=by unfold aH; rfl
theorem kN (i:Iv):kB (aw i)=dL i:=by rw [pf]; rfl
theorem mw (i:Iv):(kB (aH i):Int)=ee i+1:=by
 unfold kB aH ee
 simp only
 cases i.openHi <;> simp <;> omega
theorem Wv.bd {i:Iv} (h:Wv i):kB (aw i) < kB (aH i):=by
 have h1:=h.le
 have h2:=mw i
 rw [kN]; omega
theorem wv_of {i:Iv} (h:Tv i) (hlt:kB (aw i) < kB (aH i)):Wv i:=by
 rw [pf,pl] at hlt
 have hlt:2*tk i.lo+(bif i.openLo then 1 else 0) < 2*tk i.hi+(bif !i.openHi then 1 else 0):=hlt
 have h1:=bb i.openLo
 have h2:=bb (!i.openHi)
 refine ⟨h,by omega,fun e=>?_⟩
 rw [e] at hlt
 revert hlt
 cases i.openLo <;> cases i.openHi <;> simp
theorem rS (a b:Bd):aw (bC a b)=a:=by
 unfold aw bC; rfl
theorem uh (a b:Bd):aH (bC a b)=b:=by
 unfold aH bC
 simp only [Bool.not_not]
theorem iv_ext {i j:Iv} (hi:Tv i) (hj:Tv j) (h1:kB (aw i)=kB (aw j)) (h2:kB (aH i)=kB (aH j)):i=j:=by
 have e1:=kB_inj (a:=aw i) (b:=aw j) (by rw [pf]; exact hi.1) (by rw [pf]; exact hj.1) h1
 have e2:=kB_inj (a:=aH i) (b:=aH j) (by rw [pl]; exact hi.2) (by rw [pl]; exact hj.2) h2
 rw [pf,pf,Bd.mk.injEq] at e1
 rw [pl,pl,Bd.mk.injEq] at e2
 obtain ⟨lo,hi',ol,oh⟩:=i
 obtain ⟨lo2,hi2,ol2,oh2⟩:=j
 simp only at e1 e2
 obtain ⟨rfl,rfl⟩:=e1
 obtain ⟨rfl,e3⟩:=e2
 rw [show oh=oh2 by cases oh <;> cases oh2 <;> first | rfl | cases e3]
end Go.Sx
namespace Go.Sx
def inI (i:Iv) (x:Nat):Prop:=kB (aw i)≤x∧x < kB (aH i)
def inP (p:List Iv) (x:Nat):Prop:=∃ i∈p,inI i x
structure Cn (p:List Iv):Prop where
 wv:∀ i∈p,Wv i
 sep:p.Pairwise fun i j=>kB (aH i) < kB (aw j)
theorem lK (x:Nat):¬ inP [] x:=fun ⟨_,h,_⟩=>by cases h
theorem gp {i:Iv} {p:List Iv} {x:Nat}:inP (i::p) x↔inI i x∨inP p x:=by
 constructor
 ·rintro ⟨j,hj,h⟩
  rcases List.mem_cons.1 hj with rfl | hj
  ·exact .inl h
  ·exact .inr ⟨j,hj,h⟩
 ·rintro (h | ⟨j,hj,h⟩)
  ·exact ⟨i,List.mem_cons_self ..,h⟩
  ·exact ⟨j,List.mem_cons_of_mem _ hj,h⟩
theorem inP_app {p q:List Iv} {x:Nat}:inP (p++q) x↔inP p x∨inP q x:=by
 constructor
 ·rintro ⟨j,hj,h⟩
  rcases List.mem_append.1 hj with hj | hj
  ·exact .inl ⟨j,hj,h⟩
  ·exact .inr ⟨j,hj,h⟩
 ·rintro (⟨j,hj,h⟩ | ⟨j,hj,h⟩)
  ·exact ⟨j,List.mem_append_left _ hj,h⟩
  ·exact ⟨j,List.mem_append_right _ hj,h⟩
theorem Cn.nil:Cn []:=⟨fun _ h=>(by cases h),List.Pairwise.nil⟩
theorem Cn.tail {i:Iv} {p:List Iv} (h:Cn (i::p)):Cn p∧(∀ j∈p,kB (aH i) < kB (aw j))∧Wv i:=by
 have h2:=List.pairwise_cons.1 h.sep
 exact ⟨⟨fun j hj=>h.wv j (List.mem_cons_of_mem _ hj),h2.2⟩,h2.1,h.wv i (List.mem_cons_self ..)⟩
theorem Cn.behind {i:Iv} {p:List Iv} (h:Cn (i::p)) {x:Nat} (hx:inP p x):kB (aH i) < x:=by
 obtain ⟨j,hj,h1,_⟩:=hx
 have:=h.tail.2.1 j hj
 omega
theorem Cn.ext:∀ {p q:List Iv},Cn p→Cn q→(∀ x,inP p x↔inP q x)→p=q
 | [],[],_,_,_=>rfl
 | [],j::q,_,hq,h=>absurd ((h _).2 (gp.2 (.inl ⟨Nat.le_refl _,(hq.tail.2.2).bd⟩))) (lK _)
 | i::p,[],hp,_,h=>absurd ((h _).1 (gp.2 (.inl ⟨Nat.le_refl _,(hp.tail.2.2).bd⟩))) (lK _)
 | i::p,j::q,hp,hq,h=>by
  have wi:=hp.tail.2.2
  have wj:=hq.tail.2.2
  have bi:=wi.bd
  have bj:=wj.bd
  have f1:kB (aw j)≤kB (aw i):=by
   rcases gp.1 ((h _).1 (gp.2 (.inl ⟨Nat.le_refl _,bi⟩))) with h1 | h1
   ·exact h1.1
   ·have:=hq.behind h1; omega
  have f2:kB (aw i)≤kB (aw j):=by
   rcases gp.1 ((h _).2 (gp.2 (.inl ⟨Nat.le_refl _,bj⟩))) with h1 | h1
   ·exact h1.1
   ·have:=hp.behind h1; omega
  have l1:¬ kB (aH i) < kB (aH j):=fun hl=>by
   rcases gp.1 ((h (kB (aH i))).2 (gp.2 (.inl ⟨by omega,hl⟩))) with h1 | h1
   ·have:=h1.2; omega
   ·have:=hp.behind h1; omega
  have l2:¬ kB (aH j) < kB (aH i):=fun hl=>by
   rcases gp.1 ((h (kB (aH j))).1 (gp.2 (.inl ⟨by omega,hl⟩))) with h1 | h1
   ·have:=h1.2; omega
   ·have:=hq.behind h1; omega
  have e:i=j:=iv_ext wi.1 wj.1 og og
  subst e
  rw [Cn.ext hp.tail.1 hq.tail.1 fun x=>⟨fun hx=>?_,fun hx=>?_⟩]
  ·rcases gp.1 ((h x).1 (gp.2 (.inr hx))) with h1 | h1
   ·have:=hp.behind hx; have:=h1.2; omega
   ·exact h1
  ·rcases gp.1 ((h x).2 (gp.2 (.inr hx))) with h1 | h1
   ·have:=hq.behind hx; have:=h1.2; omega
   ·exact h1
def sm (c:Ev→Int):List Ev→Nat→Int
 | [],_=>0
 | e::r,x=>(if kB e.at_≤x then c e else 0)+sm c r x
def rs (c:Ev→Int):List Ev→Int
 | []=>0
 | e::r=>c e+rs c r
variable {c:Ev→Int}
theorem wR (a b:List Ev) (x:Nat):sm c (a++b) x=sm c a x+sm c b x:=by
 induction a with
 | nil=>show sm c b x=0+sm c b x; omega
 | cons e a ih=>show (if kB e.at_≤x then c e else 0)+sm c (a++b) x=(if kB e.at_≤x then c e else 0)+sm c a x+sm c b x; rw [ih]; omega
theorem uz (a b:List Ev):rs c (a++b)=rs c a+rs c b:=by
 induction a with
 | nil=>show rs c b=0+rs c b; omega
 | cons e a ih=>show c e+rs c (a++b)=c e+rs c a+rs c b; rw [ih]; omega
theorem wQ {a b:List Ev} (h:a.Perm b) (x:Nat):sm c a x=sm c b x:=by
 induction h with
 | nil=>rfl
 | cons e _ ih=>show _+_=_+_; rw [ih]
 | swap e e' l=>show (if kB e'.at_≤x then c e' else 0)+((if kB e.at_≤x then c e else 0)+sm c l x)=(if kB e.at_≤x then c e else 0)+((if kB e'.at_≤x then c e' else 0)+sm c l x); omega
 | trans _ _ h1 h2=>rw [h1,h2]
theorem wZ {a b:List Ev} (h:a.Perm b):rs c a=rs c b:=by
 induction h with
 | nil=>rfl
 | cons e _ ih=>show _+_=_+_; rw [ih]
 | swap e e' l=>show c e'+(c e+rs c l)=c e+(c e'+rs c l); omega
 | trans _ _ h1 h2=>rw [h1,h2]
theorem wS {a:List Ev} {x:Nat} (h:∀ e∈a,kB e.at_≤x):sm c a x=rs c a:=by
 induction a with
 | nil=>rfl
 | cons e a ih =>
  show (if kB e.at_≤x then c e else 0)+sm c a x=c e+rs c a
  rw [if_pos (h e (List.mem_cons_self ..)),ih fun e' he=>h e' (List.mem_cons_of_mem _ he)]
theorem tE {a:List Ev} {x:Nat} (h:∀ e∈a,x < kB e.at_):sm c a x=0:=by
 induction a with
 | nil=>rfl
 | cons e a ih =>
  show (if kB e.at_≤x then c e else 0)+sm c a x=0
  rw [if_neg (by have:=h e (List.mem_cons_self ..); omega),ih fun e' he=>h e' (List.mem_cons_of_mem _ he)]
  rfl
def far:List Ev→Nat
 | []=>0
 | e::r=>kB e.at_+far r
theorem xX:∀ {a:List Ev},∀ e∈a,kB e.at_≤far a
 | [],_,h=>by cases h
 | e'::a,e,h=>by
  rcases List.mem_cons.1 h with rfl | h
  ·exact Nat.le_add_right _ _
  ·exact Nat.le_trans (xX e h) (Nat.le_add_left _ _)
def nxe (e:Ev):List Ev→Bool
 | []=>false
 | e2::_=>aS e.at_ e2.at_ == 0
def swS (keep:Bool→Bool→Bool):List Ev→List Iv→Bool→Bd→Int→Int→List Iv
 | [],out,_,_,_,_=>out
 | e::r,out,in_,fr,n0,n1 =>
  bif (nxe e r) then swS keep r out in_ fr (n0+e.b0) (n1+e.b1)
  else bif (keep (decide (n0+e.b0>0)) (decide (n1+e.b1>0))) && !in_ then swS keep r out (keep (decide (n0+e.b0>0)) (decide (n1+e.b1>0))) e.at_ (n0+e.b0) (n1+e.b1)
  else bif (!(keep (decide (n0+e.b0>0)) (decide (n1+e.b1>0)))) && in_ then swS keep r (out++[bC fr e.at_]) (keep (decide (n0+e.b0>0)) (decide (n1+e.b1>0))) fr (n0+e.b0) (n1+e.b1)
  else swS keep r out (keep (decide (n0+e.b0>0)) (decide (n1+e.b1>0))) fr (n0+e.b0) (n1+e.b1)
theorem eqz {a b:Bd} (ha:Tm a.at_) (hb:Tm b.at_):(aS a b == 0)=decide (kB a=kB b):=by
 rw [cmpB ha hb]
 by_cases e:kB a=kB b
 ·rw [e,dO,decide_eq_true rfl]; rfl
 ·rw [decide_eq_false e]
  exact beq_eq_false_iff_ne.2 fun h=>e (sgn_zero.1 h)
theorem not_in {out:List Iv} {y x:Nat} (h:∀ i∈out,kB (aH i) < y) (hx:y≤x):¬ inP out x:=fun ⟨i,hi,_,h2⟩=>by have:=h i hi; omega
def b0c:Ev→Int:=fun e=>e.b0
def b1c:Ev→Int:=fun e=>e.b1
theorem wG {keep:Bool→Bool→Bool} {S:List Ev} (hT:∀ e∈S,Tm e.at_.at_) (hs:S.Pairwise fun a b=>kB a.at_≤kB b.at_) (hend:keep (decide (rs b0c S>0)) (decide (rs b1c S>0))=false) :
 ∀ (s p:List Ev) (out:List Iv) (in_:Bool) (fr:Bd) (n0 n1:Int),S=p++s→n0=rs b0c p→n1=rs b1c p →
  (∀ x,(∀ e∈s,x < kB e.at_)→((inP out x∨(in_=true∧kB fr≤x))↔keep (decide (sm b0c S x>0)) (decide (sm b1c S x>0))=true)) →
  Cn out→(∀ i∈out,∀ e∈s,kB (aH i) < kB e.at_) →
  (in_=true→Tm fr.at_∧(∀ e∈s,kB fr < kB e.at_)∧∀ i∈out,kB (aH i) < kB fr) →
  Cn (swS keep s out in_ fr n0 n1)∧∀ x,inP (swS keep s out in_ fr n0 n1) x↔keep (decide (sm b0c S x>0)) (decide (sm b1c S x>0))=true
 | [],p,out,in_,fr,n0,n1,hS,_,_,hR,hC,_,hI=>by
  refine ⟨hC,fun x=>?_⟩
  show inP out x↔_
  cases in_ with
  | false =>
   rw [← hR x (fun _ h=>by cases h)]
   exact ⟨.inl,fun h=>h.resolve_right fun h=>by cases h.1⟩
  | true =>
   exfalso
   have h1:=(hR (kB fr+far S) (fun _ h=>by cases h)).1 (.inr ⟨rfl,Nat.le_add_right _ _⟩)
   rw [wS (fun e he=>Nat.le_trans (xX e he) (Nat.le_add_left _ _)),wS (fun e he=>Nat.le_trans (xX e he) (Nat.le_add_left _ _)),hend] at h1
   cases h1
 | e::r,p,out,in_,fr,n0,n1,hS,hn0,hn1,hR,hC,hL,hI=>by
  have hS2:S=(p++[e])++r:=by rw [hS]; simp
  have hTe:=hT e (by rw [hS]; simp)
  have hm0:n0+e.b0=rs b0c (p++[e]):=by rw [uz,hn0]; show _=rs b0c p+(e.b0+0); omega
  have hm1:n1+e.b1=rs b1c (p++[e]):=by rw [uz,hn1]; show _=rs b1c p+(e.b1+0); omega
  have hs2:=hs
  rw [hS2,List.pairwise_append] at hs2
  have hpe:∀ e'∈p++[e],kB e'.at_≤kB e.at_:=fun e' he'=>by
   have h1:=hs
   rw [hS,List.pairwise_append] at h1
   rcases List.mem_append.1 he' with h2 | h2
   ·exact h1.2.2 e' h2 e (List.mem_cons_self ..)
   ·rw [List.mem_singleton.1 h2]; exact Nat.le_refl _
  have her:∀ e'∈r,kB e.at_≤kB e'.at_:=fun e' he'=>hs2.2.2 e (by simp) e' he'
  cases ht:nxe e r with
  | true =>
   obtain ⟨e2,r2,rfl⟩:∃ e2 r2,r=e2::r2:=by
    cases r with
    | nil=>cases ht
    | cons e2 r2=>exact ⟨e2,r2,rfl⟩
   have hk:kB e.at_=kB e2.at_:=by
    have ht:(aS e.at_ e2.at_ == 0)=true:=ht
    rw [eqz hTe (hT e2 (by rw [hS]; simp)),decide_eq_true_eq] at ht
    exact ht
   rw [show swS keep (e::e2::r2) out in_ fr n0 n1=swS keep (e2::r2) out in_ fr (n0+e.b0) (n1+e.b1) by
    show (bif (nxe e (e2::r2)) then _ else _)=_
    rw [ht]; rfl]
   refine wG hT hs hend (e2::r2) (p++[e]) out in_ fr _ _ hS2 hm0 hm1 (fun x hx=>hR x fun e' he'=>?_) hC (fun i hi e' he'=>hL i hi e' (List.mem_cons_of_mem _ he')) (fun hin=>⟨(hI hin).1,fun e' he'=>(hI hin).2.1 e' (List.mem_cons_of_mem _ he'),(hI hin).2.2⟩)
   rcases List.mem_cons.1 he' with rfl | he'
   ·rw [hk]; exact hx e2 (List.mem_cons_self ..)
   ·exact hx e' he'
  | false =>
   have hgt:∀ e'∈r,kB e.at_ < kB e'.at_:=fun e' he'=>by
    cases r with
    | nil=>cases he'
    | cons e2 r2 =>
     have ht:(aS e.at_ e2.at_ == 0)=false:=ht
     rw [eqz hTe (hT e2 (by rw [hS]; simp)),decide_eq_false_iff_not] at ht
     have h1:=her e2 (List.mem_cons_self ..)
     have h2:=List.pairwise_cons.1 hs2.2.1
     rcases List.mem_cons.1 he' with rfl | he'
     ·omega
     ·have:=h2.1 e' he'; omega
   have hK:∀ x,kB e.at_≤x→(∀ e'∈r,x < kB e'.at_)→keep (decide (sm b0c S x>0)) (decide (sm b1c S x>0))=keep (decide (n0+e.b0>0)) (decide (n1+e.b1>0)):=fun x h1 h2=>by
    have q:∀ c:Ev→Int,sm c S x=rs c (p++[e]):=fun c=>by
     rw [hS2,wR,wS (fun e' he'=>Nat.le_trans (hpe e' he') h1),tE h2]; omega
    rw [q,q,hm0,hm1]
   have hlow:∀ x,x < kB e.at_→∀ e'∈e::r,x < kB e'.at_:=fun x hx e' he'=>by
    rcases List.mem_cons.1 he' with rfl | he'
    ·exact hx
    ·have:=her e' he'; omega
   have hLe:∀ i∈out,kB (aH i) < kB e.at_:=fun i hi=>hL i hi e (List.mem_cons_self ..)
   have hLr:∀ i∈out,∀ e'∈r,kB (aH i) < kB e'.at_:=fun i hi e' he'=>hL i hi e' (List.mem_cons_of_mem _ he')
   have ih:=fun out in_ fr=>wG hT hs hend r (p++[e]) out in_ fr _ _ hS2 hm0 hm1
   rw [show swS keep (e::r) out in_ fr n0 n1=bif (keep (decide (n0+e.b0>0)) (decide (n1+e.b1>0))) && !in_ then swS keep r out (keep (decide (n0+e.b0>0)) (decide (n1+e.b1>0))) e.at_ (n0+e.b0) (n1+e.b1)
    else bif (!(keep (decide (n0+e.b0>0)) (decide (n1+e.b1>0)))) && in_ then swS keep r (out++[bC fr e.at_]) (keep (decide (n0+e.b0>0)) (decide (n1+e.b1>0))) fr (n0+e.b0) (n1+e.b1)
    else swS keep r out (keep (decide (n0+e.b0>0)) (decide (n1+e.b1>0))) fr (n0+e.b0) (n1+e.b1) by
    show (bif (nxe e r) then _ else _)=_
    rw [ht]; rfl]
   revert hK
   generalize keep (decide (n0+e.b0>0)) (decide (n1+e.b1>0))=now
   intro hK
   have hall:∀ x,x < kB e.at_∨kB e.at_≤x:=fun x=>Nat.lt_or_ge x _
   cases now with
   | true =>
    cases in_ with
    | false =>
     refine ih out true e.at_ (fun x hx=>?_) hC hLr (fun _=>⟨hTe,hgt,hLe⟩)
     rcases hall x with h1 | h1
     ·rw [← hR x (hlow x h1)]
      exact ⟨fun h=>.inl (h.resolve_right fun h=>by have:=h.2; omega),fun h=>.inl (h.resolve_right fun h=>by cases h.1)⟩
     ·rw [hK x h1 hx]
      exact ⟨fun _=>rfl,fun _=>.inr ⟨rfl,h1⟩⟩
    | true =>
     obtain ⟨i1,i2,i3⟩:=hI rfl
     refine ih out true fr (fun x hx=>?_) hC hLr (fun _=>⟨i1,fun e' he'=>i2 e' (List.mem_cons_of_mem _ he'),i3⟩)
     rcases hall x with h1 | h1
     ·exact hR x (hlow x h1)
     ·rw [hK x h1 hx]
      have:=i2 e (List.mem_cons_self ..)
      exact ⟨fun _=>rfl,fun _=>.inr ⟨rfl,by omega⟩⟩
   | false =>
    cases in_ with
    | false =>
     refine ih out false fr (fun x hx=>?_) hC hLr (fun h=>by cases h)
     rcases hall x with h1 | h1
     ·exact hR x (hlow x h1)
     ·rw [hK x h1 hx]
      exact ⟨fun h=>h.elim (fun h=>absurd h (not_in hLe h1)) fun h=>(by cases h.1),fun h=>(by cases h)⟩
    | true =>
     obtain ⟨i1,i2,i3⟩:=hI rfl
     have hfe:=i2 e (List.mem_cons_self ..)
     have hin:∀ x,inI (bC fr e.at_) x↔(kB fr≤x∧x < kB e.at_):=fun x=>by unfold inI; rw [rS,uh]
     have hw:Wv (bC fr e.at_):=by
      refine wv_of ⟨?_,?_⟩ (by rw [rS,uh]; exact hfe)
      ·unfold bC; exact i1
      ·unfold bC; exact hTe
     refine ih (out++[bC fr e.at_]) false fr (fun x hx=>?_) ⟨fun i hi=>?_,?_⟩ (fun i hi e' he'=>?_) (fun h=>by cases h)
     ·have hx2:inP (out++[bC fr e.at_]) x↔inP out x∨(kB fr≤x∧x < kB e.at_):=by
       rw [inP_app,gp,hin]
       exact ⟨fun h=>h.imp id fun h=>h.resolve_right (lK x),fun h=>h.imp id .inl⟩
      rw [hx2]
      rcases hall x with h1 | h1
      ·rw [← hR x (hlow x h1)]
       constructor
       ·rintro ((h | h) | h)
        ·exact .inl h
        ·exact .inr ⟨rfl,h.1⟩
        ·cases h.1
       ·rintro (h | h)
        ·exact .inl (.inl h)
        ·exact .inl (.inr ⟨h.2,h1⟩)
      ·rw [hK x h1 hx]
       constructor
       ·rintro ((h | h) | h)
        ·exact absurd h (not_in hLe h1)
        ·omega
        ·cases h.1
       ·intro h; cases h
     ·rcases List.mem_append.1 hi with hi | hi
      ·exact hC.wv i hi
      ·rw [List.mem_singleton.1 hi]; exact hw
     ·rw [List.pairwise_append]
      refine ⟨hC.sep,List.pairwise_singleton _ _,fun i hi j hj=>?_⟩
      rw [List.mem_singleton.1 hj,rS]
      exact i3 i hi
     ·rcases List.mem_append.1 hi with hi | hi
      ·exact hLr i hi e' he'
      ·rw [List.mem_singleton.1 hi,uh]
       exact hgt e' he'
def evA (a:List Iv):List Ev:=a.flatMap fun i=>[⟨aw i,1,0⟩,⟨aH i,-1,0⟩]
def evB (b:List Iv):List Ev:=b.flatMap fun i=>[⟨aw i,0,1⟩,⟨aH i,0,-1⟩]
theorem u4 {i:Iv} (h:Wv i) (x:Nat):(if kB (aw i)≤x then (1:Int) else 0)+((if kB (aH i)≤x then (-1:Int) else 0))=if kB (aw i)≤x∧x < kB (aH i) then 1 else 0:=by
 have:=h.bd
 by_cases h1:kB (aw i)≤x
 ·by_cases h2:kB (aH i)≤x
  ·rw [if_pos h1,if_pos h2,if_neg og]; rfl
  ·rw [if_pos h1,if_neg h2,if_pos ⟨h1,by omega⟩]; rfl
 ·rw [if_neg h1,if_neg og,if_neg og]; rfl
theorem evA_sm:∀ {a:List Iv},(∀ i∈a,Wv i)→∀ x,0≤sm b0c (evA a) x∧(0 < sm b0c (evA a) x↔inP a x)
 | [],_,x=>⟨Int.le_refl _,⟨fun h=>absurd h (Int.lt_irrefl _),fun h=>absurd h (lK x)⟩⟩
 | i::a,h,x=>by
  obtain ⟨h1,h2⟩:=evA_sm (a:=a) (fun j hj=>h j (List.mem_cons_of_mem _ hj)) x
  have e:sm b0c (evA (i::a)) x=((if kB (aw i)≤x then (1:Int) else 0)+((if kB (aH i)≤x then (-1:Int) else 0)))+sm b0c (evA a) x:=by
   show (if kB (aw i)≤x then (1:Int) else 0)+((if kB (aH i)≤x then (-1:Int) else 0)+sm b0c (evA a) x)=_
   omega
  rw [e,u4 (h i (List.mem_cons_self ..)),gp,← h2]
  unfold inI
  by_cases h3:kB (aw i)≤x∧x < kB (aH i)
  ·rw [if_pos h3]; exact ⟨by omega,⟨fun _=>.inl h3,fun _=>by omega⟩⟩
  ·rw [if_neg h3]; exact ⟨by omega,⟨fun h4=>.inr og,fun h4=>by have:=h4.resolve_left h3; omega⟩⟩
theorem evB_sm:∀ {a:List Iv},(∀ i∈a,Wv i)→∀ x,0≤sm b1c (evB a) x∧(0 < sm b1c (evB a) x↔inP a x)
 | [],_,x=>⟨Int.le_refl _,⟨fun h=>absurd h (Int.lt_irrefl _),fun h=>absurd h (lK x)⟩⟩
 | i::a,h,x=>by
  obtain ⟨h1,h2⟩:=evB_sm (a:=a) (fun j hj=>h j (List.mem_cons_of_mem _ hj)) x
  have e:sm b1c (evB (i::a)) x=((if kB (aw i)≤x then (1:Int) else 0)+((if kB (aH i)≤x then (-1:Int) else 0)))+sm b1c (evB a) x:=by
   show (if kB (aw i)≤x then (1:Int) else 0)+((if kB (aH i)≤x then (-1:Int) else 0)+sm b1c (evB a) x)=_
   omega
  rw [e,u4 (h i (List.mem_cons_self ..)),gp,← h2]
  unfold inI
  by_cases h3:kB (aw i)≤x∧x < kB (aH i)
  ·rw [if_pos h3]; exact ⟨by omega,⟨fun _=>.inl h3,fun _=>by omega⟩⟩
  ·rw [if_neg h3]; exact ⟨by omega,⟨fun h4=>.inr og,fun h4=>by have:=h4.resolve_left h3; omega⟩⟩
theorem evA_0:∀ (a:List Iv) (x:Nat),sm b1c (evA a) x=0∧rs b1c (evA a)=0∧rs b0c (evA a)=0
 | [],_=>⟨rfl,rfl,rfl⟩
 | i::a,x=>by
  obtain ⟨h1,h2,h3⟩:=evA_0 a x
  refine ⟨?_,?_,?_⟩
  ·show (if kB (aw i)≤x then (0:Int) else 0)+((if kB (aH i)≤x then (0:Int) else 0)+sm b1c (evA a) x)=0
   rw [h1]; simp
  ·show (0:Int)+(0+rs b1c (evA a))=0
   rw [h2]; rfl
  ·show (1:Int)+(-1+rs b0c (evA a))=0
   rw [h3]; rfl
theorem evB_0:∀ (a:List Iv) (x:Nat),sm b0c (evB a) x=0∧rs b0c (evB a)=0∧rs b1c (evB a)=0
 | [],_=>⟨rfl,rfl,rfl⟩
 | i::a,x=>by
  obtain ⟨h1,h2,h3⟩:=evB_0 a x
  refine ⟨?_,?_,?_⟩
  ·show (if kB (aw i)≤x then (0:Int) else 0)+((if kB (aH i)≤x then (0:Int) else 0)+sm b0c (evB a) x)=0
   rw [h1]; simp
  ·show (0:Int)+(0+rs b0c (evB a))=0
   rw [h2]; rfl
  ·show (1:Int)+(-1+rs b1c (evB a))=0
   rw [h3]; rfl
theorem ev_tm {a b:List Iv} (ha:∀ i∈a,Wv i) (hb:∀ i∈b,Wv i):∀ e∈evA a++evB b,Tm e.at_.at_:=fun e he=>by
 rcases List.mem_append.1 he with he | he
 ·obtain ⟨i,hi,he⟩:=List.mem_flatMap.1 he
  have:=(ha i hi).1
  rcases List.mem_cons.1 he with rfl | he
  ·show Tm (aw i).at_; rw [pf]; exact this.1
  ·rw [List.mem_singleton.1 he]; show Tm (aH i).at_; rw [pl]; exact this.2
 ·obtain ⟨i,hi,he⟩:=List.mem_flatMap.1 he
  have:=(hb i hi).1
  rcases List.mem_cons.1 he with rfl | he
  ·show Tm (aw i).at_; rw [pf]; exact this.1
  ·rw [List.mem_singleton.1 he]; show Tm (aH i).at_; rw [pl]; exact this.2
open Classical in
theorem r6 {keep:Bool→Bool→Bool} (hk:keep false false=false) {a b:List Iv} (ha:∀ i∈a,Wv i) (hb:∀ i∈b,Wv i) {S:List Ev} (hp:S.Perm (evA a++evB b)) (hs:S.Pairwise fun a b=>kB a.at_≤kB b.at_) (fr:Bd) :
 Cn (swS keep S [] false fr 0 0)∧∀ x,inP (swS keep S [] false fr 0 0) x↔keep (decide (inP a x)) (decide (inP b x))=true:=by
 have hT:∀ e∈S,Tm e.at_.at_:=fun e he=>ev_tm ha hb e (hp.mem_iff.1 he)
 have h0:∀ x,sm b0c S x=sm b0c (evA a) x:=fun x=>by rw [wQ hp,wR,(evB_0 b x).1]; omega
 have h1:∀ x,sm b1c S x=sm b1c (evB b) x:=fun x=>by rw [wQ hp,wR,(evA_0 a x).1]; omega
 have hend:keep (decide (rs b0c S>0)) (decide (rs b1c S>0))=false:=by
  rw [wZ hp,wZ hp,uz,uz,(evA_0 a 0).2.2,(evB_0 b 0).2.1,(evA_0 a 0).2.1,(evB_0 b 0).2.2]
  exact hk
 have hx:∀ x,keep (decide (sm b0c S x>0)) (decide (sm b1c S x>0))=keep (decide (inP a x)) (decide (inP b x)):=fun x=>by
  rw [h0,h1,decide_eq_decide.2 (evA_sm ha x).2,decide_eq_decide.2 (evB_sm hb x).2]
 obtain ⟨r1,r2⟩:=wG hT hs hend S [] [] false fr 0 0 rfl rfl rfl (fun x hx2=>by
  rw [tE hx2,tE hx2]
  constructor
  ·rintro (h | h)
   ·exact absurd h (lK x)
   ·cases h.1
  ·intro h
   rw [show decide ((0:Int)>0)=false from rfl,hk] at h; cases h) Cn.nil (fun _ h=>by cases h) (fun h=>by cases h)
 exact ⟨r1,fun x=>by rw [r2,hx]⟩
end Go.Sx
namespace Go.Proofs
open Go.Shelf
def Tryz.laysSort_ren:Go.Shelf.Ren:=⟨fun | 6=>245 | 15=>285 | 14=>284 | 28=>296 | 29=>255 | 20=>297 | 21=>298 | 22=>299 | 23=>300 | 24=>301 | 25=>302 | 26=>303 | 27=>304 | 46=>317 | 47=>318 | 48=>319 | 49=>320 | 50=>321 | 57=>334 | n=>n,fun | 22=>317 | 24=>321 | 25=>323 | 3=>3 | 39=>276 | 0=>0 | 53=>341 | 55=>254 | 4=>4 | 46=>375 | 45=>374 | 50=>72 | 5=>5 | 9=>9 | 66=>393 | 70=>397 | 76=>415 | 77=>416 | n=>n,fun | n=>n⟩
theorem Tryz.laysSort:Go.Proofs.SlLaysF0.n6 Tryz.prog Tryz.laysSort_ren:={
 mixed:=by kernel_rfl
 f6:=⟨Tryz.f245.name,by decide,Tryz.func245.trans (congrArg some (by kernel_rfl))⟩
 f14:=⟨Tryz.f284.name,by decide,Tryz.func284.trans (congrArg some (by kernel_rfl))⟩
 f15:=Tryz.func285.trans (congrArg some (by kernel_rfl))
 f20:=⟨Tryz.f297.name,by decide,Tryz.func297.trans (congrArg some (by kernel_rfl))⟩
 f21:=⟨Tryz.f298.name,by decide,Tryz.func298.trans (congrArg some (by kernel_rfl))⟩
 f22:=⟨Tryz.f299.name,by decide,Tryz.func299.trans (congrArg some (by kernel_rfl))⟩
 f23:=⟨Tryz.f300.name,by decide,Tryz.func300.trans (congrArg some (by kernel_rfl))⟩
 f24:=⟨Tryz.f301.name,by decide,Tryz.func301.trans (congrArg some (by kernel_rfl))⟩
 f25:=⟨Tryz.f302.name,by decide,Tryz.func302.trans (congrArg some (by kernel_rfl))⟩
 f26:=⟨Tryz.f303.name,by decide,Tryz.func303.trans (congrArg some (by kernel_rfl))⟩
 f27:=⟨Tryz.f304.name,by decide,Tryz.func304.trans (congrArg some (by kernel_rfl))⟩
 f28:=Tryz.func296.trans (congrArg some (by kernel_rfl))
 f29:=Tryz.func255.trans (congrArg some (by kernel_rfl))
 f46:=⟨Tryz.f317.name,by decide,Tryz.func317.trans (congrArg some (by kernel_rfl))⟩
 f47:=Tryz.func318.trans (congrArg some (by kernel_rfl))
 f48:=Tryz.func319.trans (congrArg some (by kernel_rfl))
 f49:=⟨Tryz.f320.name,by decide,Tryz.func320.trans (congrArg some (by kernel_rfl))⟩
 f50:=⟨Tryz.f321.name,by decide,Tryz.func321.trans (congrArg some (by kernel_rfl))⟩
 f57:=⟨Tryz.f334.name,by decide,Tryz.func334.trans (congrArg some (by kernel_rfl))⟩
 t0:=Tryz.underlying0
 a0:=Tryz.isAgg0
 z0:=Tryz.sizeOf0
 v0:=Tryz.zeroValue0
 t3:=Tryz.underlying3
 a3:=Tryz.isAgg3
 z3:=Tryz.sizeOf3
 v3:=Tryz.zeroValue3
 t4:=Tryz.underlying4
 a4:=Tryz.isAgg4
 z4:=Tryz.sizeOf4
 v4:=Tryz.zeroValue4
 t5:=Tryz.underlying5
 a5:=Tryz.isAgg5
 z5:=Tryz.sizeOf5
 v5:=Tryz.zeroValue5
 t9:=Tryz.underlying9
 a9:=Tryz.isAgg9
 z9:=Tryz.sizeOf9
 v9:=Tryz.zeroValue9
 t22:=nn317
 a22:=Tryz.isAgg317
 z22:=Tryz.sizeOf317
 v22:=Tryz.zeroValue317
 t25:=Tryz.underlying323
 a25:=Tryz.isAgg323
 z25:=Tryz.sizeOf323
 v25:=Tryz.zeroValue323
 t39:=Tryz.underlying276
 a39:=Tryz.isAgg276
 z39:=Tryz.sizeOf276
 v39:=Tryz.zeroValue276
 t45:=Tryz.underlying374
 a45:=Tryz.isAgg374
 z45:=Tryz.sizeOf374
 v45:=Tryz.zeroValue374
 t46:=Tryz.underlying375
 a46:=Tryz.isAgg375
 z46:=Tryz.sizeOf375
 v46:=Tryz.zeroValue375
 t50:=Tryz.underlying72
 a50:=Tryz.isAgg72
 z50:=Tryz.sizeOf72
 v50:=Tryz.zeroValue72
 t53:=Tryz.underlying341
 a53:=Tryz.isAgg341
 z53:=Tryz.sizeOf341
 v53:=Tryz.zeroValue341
 t55:=Tryz.underlying254
 a55:=Tryz.isAgg254
 z55:=Tryz.sizeOf254
 v55:=Tryz.zeroValue254
 t66:=Tryz.underlying393
 a66:=Tryz.isAgg393
 z66:=Tryz.sizeOf393
 v66:=Tryz.zeroValue393
 t70:=Tryz.underlying397
 a70:=Tryz.isAgg397
 z70:=Tryz.sizeOf397
 v70:=Tryz.zeroValue397
 t76:=Tryz.underlying415
 a76:=Tryz.isAgg415
 z76:=Tryz.sizeOf415
 v76:=Tryz.zeroValue415
 t77:=Tryz.underlying416
 a77:=Tryz.isAgg416
 z77:=Tryz.sizeOf416
 v77:=Tryz.zeroValue416 }
end Go.Proofs
namespace Go.Sx
open Go Go.RowKit Go.Proofs Go.Sort Go.Lib
structure TE where
 e:Ev
 tm:Tm e.at_.at_
theorem vm:Tm (default:GR):=⟨0,false,by decide,by unfold ae bk bD ah; rfl⟩
instance zi49:Inhabited TE:=⟨⟨default,vm⟩⟩
def cfT (x y:TE):Int:=ca x.1 y.1
theorem u9 (x y:TE):ltOf cfT x y=decide (kB x.1.at_ < kB y.1.at_):=by
 unfold ltOf cfT ca
 rw [cmpB x.2 y.2]
 exact decide_eq_decide.2 lD
theorem yx:SWO (ltOf cfT) where
 irrefl x:=by rw [u9]; exact decide_eq_false (Nat.lt_irrefl _)
 trans x y z h1 h2:=by
  rw [u9,decide_eq_true_eq] at *
  omega
 ntrans x y z h1 h2:=by
  rw [u9,decide_eq_false_iff_not] at *
  omega
def rY (d:Array TE):Array TE:=pdq (ltOf cfT) d 0 d.size (Lib.bitLen d.size) true true
theorem wK (d:Array TE):(rY d).size=d.size∧(rY d).toList.Perm d.toList∧(rY d).toList.Pairwise fun a b=>kB a.1.at_≤kB b.1.at_:=by
 have h:=pdq_sorts (ltOf cfT) yx d 0 d.size (Lib.bitLen d.size) true true (Nat.zero_le _) (Nat.le_refl _) (Or.inl rfl)
 obtain ⟨⟨h1,_,h3⟩,h4⟩:=h
 have h1:(rY d).size=d.size:=h1
 refine ⟨h1,?_,?_⟩
 ·have h3:((rY d).extract 0 d.size).toList.Perm (d.extract 0 d.size).toList:=h3
  rw [← h1] at h3
  rw [h1] at h3
  have e1:(rY d).extract 0 d.size=rY d:=by rw [← h1]; simp
  have e2:d.extract 0 d.size=d:=by simp
  rwa [e1,e2] at h3
 ·rw [List.pairwise_iff_getElem]
  intro i j hi hj hij
  have hi':i < (rY d).size:=by simpa using hi
  have hj':j < (rY d).size:=by simpa using hj
  have h5:=h4 i j (Nat.zero_le _) hij (by rw [← h1]; exact hj')
  have h5:ltOf cfT (rY d)[j]! (rY d)[i]! = false:=h5
  rw [getElem!_pos (rY d) i hi',getElem!_pos (rY d) j hj',u9,decide_eq_false_iff_not] at h5
  show kB ((rY d).toList[i]).1.at_≤kB ((rY d).toList[j]).1.at_
  simp only [Array.getElem_toList]
  omega
theorem allTm {x:GR} (h:x∈allI):Tm x:=by
 unfold allI at h
 rcases List.mem_append.1 h with h | h
 ·unfold insX at h
  simp only [List.mem_cons,List.not_mem_nil,or_false] at h
  rcases h with h | h | h | h
  ·exact ⟨-1,false,.inl rfl,h⟩
  ·exact ⟨-1,true,.inl rfl,h⟩
  ·exact ⟨1000,false,.inr (.inl rfl),h⟩
  ·exact ⟨1000,true,.inr (.inl rfl),h⟩
 ·unfold sR at h
  obtain ⟨i,hi,h⟩:=List.mem_flatMap.1 h
  have hi:=List.mem_range.1 hi
  rw [Nat.zero_add] at h
  rcases List.mem_cons.1 h with h | h
  ·exact ⟨i,false,.inr (.inr og),h⟩
  ·exact ⟨i,true,.inr (.inr og),List.mem_singleton.1 h⟩
def tmB (x:GR):Bool:=allI.any fun y=>decide (x=y)
theorem wx {x:GR}:tmB x=true↔Tm x:=by
 unfold tmB
 rw [List.any_eq_true]
 constructor
 ·rintro ⟨y,hy,e⟩
  rw [of_decide_eq_true e]; exact allTm hy
 ·intro h
  exact ⟨_,h.all,decide_eq_true rfl⟩
def tmL (l:List Ev):Bool:=l.all fun e=>tmB e.at_.at_
theorem jB {l:List Ev}:tmL l=true↔∀ e∈l,Tm e.at_.at_:=by
 unfold tmL
 rw [List.all_eq_true]
 exact ⟨fun h e he=>wx.1 (h e he),fun h e he=>wx.2 (h e he)⟩
def evT (l:List Ev) (h:tmL l=true):Array TE:=(l.attach.map fun e=>(⟨e.1,jB.1 h e.1 e.2⟩:TE)).toArray
theorem x3 (l:List Ev) (h:tmL l=true):(evT l h).toList.map (fun x=>x.1)=l:=by
 show ((l.attach.map fun e=>(⟨e.1,jB.1 h e.1 e.2⟩:TE)).map fun x=>x.1)=l
 rw [List.map_map]
 exact List.attach_map_subtype_val l
theorem evT_size (l:List Ev) (h:tmL l=true):(evT l h).size=l.length:=by unfold evT; simp
def a6 (l:List Ev):List Ev :=
 if h:tmL l=true then (if l.length≤12 then cc l else (rY (evT l h)).toList.map fun x=>x.1) else l
theorem small_is (l:List Ev):cc l=l6 ca l 0 l.length:=by
 unfold cc cb
 show bG l 0 l.length=_
 unfold bG
 rfl
theorem qO {x:Ev} (hx:Tm x.at_.at_):∀ {r:List Ev},(∀ e∈r,Tm e.at_.at_)→(r.Pairwise fun a b=>kB b.at_≤kB a.at_)→(jA ca x r).Pairwise fun a b=>kB b.at_≤kB a.at_
 | [],_,_=>List.pairwise_singleton _ _
 | y::q,h,hp=>by
  have hy:=h y (List.mem_cons_self ..)
  have hp2:=List.pairwise_cons.1 hp
  have hc:ca x y < 0↔kB x.at_ < kB y.at_:=by
   unfold ca
   rw [cmpB hx hy,lD]
  unfold jA
  by_cases hl:ca x y < 0
  ·rw [if_pos hl,List.pairwise_cons]
   refine ⟨fun z hz=>?_,qO hx (fun e he=>h e (List.mem_cons_of_mem _ he)) hp2.2⟩
   rcases List.mem_cons.1 ((jK (c:=ca) x q).mem_iff.1 hz) with rfl | hz
   ·have:=hc.1 hl; omega
   ·exact hp2.1 z hz
  ·rw [if_neg hl,List.pairwise_cons]
   have hxy:kB y.at_≤kB x.at_:=Nat.le_of_not_lt fun h2=>hl (hc.2 h2)
   refine ⟨fun z hz=>?_,hp⟩
   rcases List.mem_cons.1 hz with rfl | hz
   ·exact hxy
   ·exact Nat.le_trans (hp2.1 z hz) hxy
theorem sO:∀ {s r:List Ev},(∀ e∈s,Tm e.at_.at_)→(∀ e∈r,Tm e.at_.at_)→(r.Pairwise fun a b=>kB b.at_≤kB a.at_)→(qu ca r s).Pairwise fun a b=>kB b.at_≤kB a.at_
 | [],_,_,_,hp=>hp
 | x::s,r,h1,h2,hp=>by
  have hx:=h1 x (List.mem_cons_self ..)
  show (qu ca (jA ca x r) s).Pairwise _
  exact sO (fun e he=>h1 e (List.mem_cons_of_mem _ he)) (fun e he=>by
   rcases List.mem_cons.1 ((jK (c:=ca) x r).mem_iff.1 he) with rfl | he
   ·exact hx
   ·exact h2 e he) (qO hx h2 hp)
theorem tD {l:List Ev} (h:∀ e∈l,Tm e.at_.at_):(a6 l).Perm l∧(a6 l).Pairwise fun a b=>kB a.at_≤kB b.at_:=by
 unfold a6
 rw [dif_pos (jB.2 h)]
 by_cases hl:l.length≤12
 ·rw [if_pos hl,small_is]
  refine ⟨mQ l,?_⟩
  rw [rE,List.pairwise_reverse]
  exact sO h (fun _ h=>by cases h) List.Pairwise.nil
 ·rw [if_neg hl]
  obtain ⟨_,h2,h3⟩:=wK (evT l (jB.2 h))
  refine ⟨?_,by rw [List.pairwise_map]; exact h3⟩
  have:=h2.map (fun x:TE=>x.1)
  rwa [x3] at this
theorem kH (l:List Ev):(a6 l).Perm l:=by
 by_cases h:∀ e∈l,Tm e.at_.at_
 ·exact (tD h).1
 ·unfold a6; rw [dif_neg (fun h2=>h (jB.1 h2))]
theorem lc (x:List Ev) (xv:Value) (hl:x.length≤1000) (hT:∀ e∈x,Tm e.at_.at_) (zx:All (SzE 30) x) (w0 w:World) (B:Asn) (hbel:Below w0.heap.size w0 w) (hsep:∃ Z_,Sep w0.heap.size w [.row (α:=Ev) 321 xv x,B] Z_):Calls Tryz.prog 245 #[xv,(.func (.func 246) #[] #[])] w (RetY w0 (fun v=>v=.tuple #[]∧(All (SzE 30) (a6 x)∧(a6 x).length=x.length)) (fun v=>[.row (α:=Ev) 321 xv (a6 x),B])):=by
 have hprop:All (SzE 30) (a6 x)∧(a6 x).length=x.length:=⟨fun e he=>zx e ((kH x).mem_iff.1 he),(kH x).length_eq⟩
 by_cases h12:x.length≤12
 ·have e:a6 x=cc x:=by unfold a6; rw [dif_pos (jB.2 hT),if_pos h12]
  rw [e]
  exact jT x xv h12 zx w0 w B hbel hsep
 ·have e:a6 x=(rY (evT x (jB.2 hT))).toList.map (fun x=>x.1):=by unfold a6; rw [dif_pos (jB.2 hT),if_neg h12]
  have hsz:=evT_size x (jB.2 hT)
  have hsep2:∃ Z_,Sep w0.heap.size w [.row (α:=Ev) 321 xv ((evT x (jB.2 hT)).toList.map (fun x=>x.1)),B] Z_:=by rw [x3]; exact hsep
  have hk:=sort_own (P:=Tryz.prog) (val:=fun x:TE=>x.1) (F:=245) (more:=[(.func (.func 246) #[] #[])]) (D':=rY (evT x (jB.2 hT))) og (wK _).1 hprop hbel hsep2 fun blk cap hv hH hhi hlo=>by
   have eg:∀ args w,(callFunc 246 args).run Tryz.prog w=.ok (.enter 246 args) w:=Tryz.call246
   have hc:=lays_of (P:=Tryz.prog) (val:=fun x:TE=>x.1) (g:=246) (cf:=cfT) (blk:=blk) (size:=(evT x (jB.2 hT)).size) (w:=w) (p:=fun x y=>(-1≤(ca x.1 y.1)∧(ca x.1 y.1)≤1)) (fun a b w=>jG a.1 b.1 (cu (nT a.2) DC) (cu (nT b.2) DC) w)
   have:=AnyQ.slices_SortFunc_eq (P:=Tryz.prog) Tryz.laysSort 12 Tryz.isAgg321 zz321 (fun x:TE=>Cod.enc x.1) (fun x=>Cod.len x.1) (fun x=>Cod.one x.1) cfT yx 246 #[] blk 0 cap (evT x (jB.2 hT)) w eg hc hH hhi og
   rw [hv]
   exact this
  rw [← e] at hk
  exact hk
def EvB (e:Ev):Prop:=(-1≤e.b0∧e.b0≤1)∧(-1≤e.b1∧e.b1≤1)
theorem evb_nil:∀ e∈([]:List Ev),EvB e:=fun _ h=>by cases h
theorem xZ {l:List Ev} (h:∀ e∈l,EvB e) {x y:Bd} {a b c d:Int} (h1:(-1≤a∧a≤1)∧(-1≤b∧b≤1)) (h2:(-1≤c∧c≤1)∧(-1≤d∧d≤1)):∀ e∈l++[⟨x,a,b⟩,⟨y,c,d⟩],EvB e:=fun e he=>by
 rcases List.mem_append.1 he with he | he
 ·exact h e he
 ·rcases List.mem_cons.1 he with rfl | he
  ·exact h1
  ·rw [List.mem_singleton.1 he]; exact h2
theorem evb_gt {l:List Ev} (h:∀ e∈l,EvB e) (i:Nat):EvB (gt (a6 l) i):=by
 have hp:=kH l
 by_cases hi:i < (a6 l).length
 ·have:gt (a6 l) i∈a6 l:=by
   unfold gt
   rw [List.getD_eq_getElem?_getD,List.getElem?_eq_getElem hi]
   exact List.getElem_mem _
  exact h _ (hp.mem_iff.1 this)
 ·have:gt (a6 l) i=default:=by unfold gt; rw [List.getD_eq_getElem?_getD,List.getElem?_eq_none og]; rfl
  rw [this]; exact ⟨⟨by decide,by decide⟩,⟨by decide,by decide⟩⟩
theorem oC {β:Type} [Inhabited β] {A:List β} {i:Nat} (h:i < A.length):A.take (i+1)=A.take i++[gt A i]:=by
 rw [fK h,List.take_append_getElem]
theorem evA_next {l:List Ev} {a:List Iv} {x:Nat} (h:l=evA (a.take x)) (hx:x < a.length):l++[⟨aw (gt a x),1,0⟩,⟨aH (gt a x),-1,0⟩]=evA (a.take (x+1)):=by
 rw [h,oC hx]; simp [evA]
theorem evB_next {l:List Ev} {a b:List Iv} {x:Nat} (h:l=evA a++evB (b.take x)) (hx:x < b.length):l++[⟨aw (gt b x),0,1⟩,⟨aH (gt b x),0,-1⟩]=evA a++evB (b.take (x+1)):=by
 rw [h,oC hx]; simp [evB]
end Go.Sx
namespace Go.Sx
open Go Go.RowKit Go.Proofs
attribute [local irreducible] Code.wp wpList Rd gX ObS Ent
attribute [local irreducible] an bD ah aN aC dg
theorem pn:SlT Tryz.prog 103 86 20 216 (zc [2,2,2,2,1,2,2,2,2,1,1,1]):=⟨Tryz.underlying103,Tryz.t86,_,Tryz.type86,rfl,rfl,rfl,rfl,rfl,by decide,by decide⟩
theorem uv:SlT Tryz.prog 317 321 12 128 (zc [2,2,2,2,1,1,3,3]):=⟨nn317,Tryz.t321,_,Tryz.type321,rfl,rfl,rfl,rfl,rfl,by decide,by decide⟩
theorem slt318:SlT Tryz.prog 318 103 1 24 [.slice none 0 0]:=⟨Tryz.underlying318,Tryz.t103,_,Tryz.type103,rfl,rfl,rfl,rfl,rfl,by decide,by decide⟩
theorem sw_step {kp:Bool→Bool→Bool} {S:List Ev} {i:Nat} (out:List Iv) (in_:Bool) (fr:Bd) (n0 n1:Int) (h:i < S.length):swS kp (S.drop i) out in_ fr n0 n1 =
 bif (decide (((i+1:Nat):Int) < (S.length:Int)) && (aS (gt S i).at_ (gt S (i+1)).at_ == 0)) then swS kp (S.drop (i+1)) out in_ fr (n0+(gt S i).b0) (n1+(gt S i).b1)
 else bif (kp (decide (n0+(gt S i).b0>0)) (decide (n1+(gt S i).b1>0)) && !in_) then swS kp (S.drop (i+1)) out (kp (decide (n0+(gt S i).b0>0)) (decide (n1+(gt S i).b1>0))) (gt S i).at_ (n0+(gt S i).b0) (n1+(gt S i).b1)
 else bif (!(kp (decide (n0+(gt S i).b0>0)) (decide (n1+(gt S i).b1>0))) && in_) then swS kp (S.drop (i+1)) (out++[bC fr (gt S i).at_]) (kp (decide (n0+(gt S i).b0>0)) (decide (n1+(gt S i).b1>0))) fr (n0+(gt S i).b0) (n1+(gt S i).b1)
 else swS kp (S.drop (i+1)) out (kp (decide (n0+(gt S i).b0>0)) (decide (n1+(gt S i).b1>0))) fr (n0+(gt S i).b0) (n1+(gt S i).b1):=by
 have e:nxe (gt S i) (S.drop (i+1))=(decide (((i+1:Nat):Int) < (S.length:Int)) && (aS (gt S i).at_ (gt S (i+1)).at_ == 0)):=by
  by_cases h2:i+1 < S.length
  ·rw [List.drop_eq_getElem_cons h2,← fK h2,decide_eq_true (by omega:((i+1:Nat):Int) < (S.length:Int))]; rfl
  ·rw [List.drop_of_length_le og,decide_eq_false (by omega:¬ ((i+1:Nat):Int) < (S.length:Int))]; rfl
 rw [← e,List.drop_eq_getElem_cons h,← fK h]; rfl
def z_ev:Ev:=⟨⟨⟨oQ,oQ,false⟩,false⟩,0,0⟩
instance zi50 (x:Bd):Bu Tryz.prog 321 [0] [vW x] (vE (⟨x,0,0⟩:Ev)):=Bu.of tj rfl rfl
def fl (kp:Bool→Bool→Bool) (a b:List Iv):List Iv:=swS kp (a6 (evA a++evB b)) [] false z_ev.at_ 0 0
theorem lR (kp:Bool→Bool→Bool) (kid:FuncId) (hkc:∀ args w,(callFunc kid args).run Tryz.prog w=.ok (.enter kid args) w) (hkp:∀ (p q:Bool) (w:World),Calls Tryz.prog kid #[.bool p,.bool q] w (RetP w (.bool (kp p q)) True)) (a:List Iv) (av:Value) (b:List Iv) (bv:Value) (hla:a.length≤200) (hlb:b.length≤200) (hwa:∀ i∈a,Wv i) (hwb:∀ i∈b,Wv i) (za:All (SzV 30) a) (zb:All (SzV 30) b) (w0:World) (hav:View w0 av a) (hbv:View w0 bv b):Calls Tryz.prog 180 #[av,bv,(.func (.func kid) #[] #[])] w0 (RetR w0 86 (fl kp a b) (All (SzV 30) (fl kp a b)∧(fl kp a b).length≤2*a.length+2*b.length)):=by
 refine enter (N:=127) Tryz.func180 rfl rfl ?_; intro ac h
 haveI:On:=⟨trivial⟩
 have hlena:=hav.len
 have hlenb:=hbv.len
 have sa:=hav.sl
 have sb:=hbv.sl
 refine gz h <| (W) ?_; clear h ac; intro ac wo h
 refine bsl h slt318 rfl rfl (SL.is hav.sl) (SL.is hbv.sl) rfl ?_; clear h ac wo; intro b1 ac wo h
 refine rd0 h (ic Tryz.runUnderlying318 rfl (n:=2) ⟨_,_,rfl⟩) rfl ?_; clear h ac wo; intro ac wo h
 refine gz h <| (W) ?_; clear h ac wo; intro ac wo h
 have hNN:NN (.slice (some ⟨b1,0,none⟩) 2 2) 2:=⟨_,_,_,rfl⟩
 refine rZ 2 ?_
 refine gz h <| (ai) ?_ ?_ <;> clear h ac wo <;> intro ac wo h hc1
 ·
  clear hc1
  refine gz h <| (W) ?_; clear h ac wo; intro ac wo h
  replace h:=h.nilRow (α:=Ev) 321
  refine wp_loop_ghost (fun n_ a_ w_=>∃ (l:List Ev) (x:Nat) (lv:Value),(a.length - x < n_)∧(x≤a.length)∧(All (SzE 30) l)∧(l.length=2*x)∧(∀ e∈l,EvB e)∧(l=evA (a.take x))∧St w0 127 [(2,(.func (.func kid) #[] #[])),(7,lv),(8,(.int .i64 0)),(23,(.slice (some ⟨b1,0,none⟩) 2 2)),(24,(.int .i64 2)),(25,(.int .i64 0)),(30,av),(31,iN a.length),(32,iN x)] [.row (α:=Ev) 321 lv l,.blk b1 [av,bv] 103] a_ w_) (a.length+1) ⟨[],0,(.slice none 0 0),og,og,All.nil,rfl,evb_nil,rfl,h.rs⟩ ?_
  clear h ac wo; rintro n1 ac wo ⟨l1,x,lv1,hm1,hx32,zl1,hll1,hlb1,hle1,h⟩
  obtain ⟨m1,rfl⟩:∃ m,n1=m+1:=⟨n1 - 1,by omega⟩
  refine gz h <| (ai) ?_ ?_ <;> clear h ac wo <;> intro ac wo h hc1
  ·
   have hd1:=of_decide_eq_true hc1
   have zx:=All.gt za (yL _) (i:=x)
   have s2:SzE 30 ⟨aw (gt a x),1,0⟩:=ay (fy (gt a x) zx w0)
   have s3:SzE 30 ⟨aH (gt a x),-1,0⟩:=ay (fP (gt a x) zx w0)
   refine gz h <| (xa) fun b2=>(W) ?_; clear h ac wo; intro ac wo h
   replace h:=h.emps 2
   refine ij mixed [dw (vV (gt a x)) [0],dv (vW (aw (gt a x))),dv (vE ⟨aw (gt a x),0,0⟩),dw (vV (gt a x)) [0],dv (vW (aH (gt a x))),dv (vE ⟨aH (gt a x),0,0⟩),yR 6 3,yR 7 4,dw _ [3],dw _ [4]] [ge _,ge _,ge _,⟨.emp,[(6,.one 6 fun v=>.blk (cg v) (cE z_ev) 321),(8,.one 6 fun v=>.blk (cg v) (cE ⟨aw (gt a x),0,0⟩) 321)]⟩,⟨.emp,[(7,.one 7 fun v=>.blk (cg v) (cE z_ev) 321),(9,.one 7 fun v=>.blk (cg v) (cE ⟨aH (gt a x),0,0⟩) 321)]⟩] h rfl (by kernel_rfl) ⟨oA obA,oA fun _=>kn (fi (ck Tryz.call136 rfl) (kk (fy (gt a x) zx))),oA fun _=>bc (bM tj rfl rfl rfl),oA obA,oA fun _=>kn (fi (ck Tryz.call137 rfl) (kk (fP (gt a x) zx))),oA fun _=>bc (bM tj rfl rfl rfl),fun _ _=>ob_al 3 rfl (fun _=>rfl),fun _ _=>ob_al 4 rfl (fun _=>rfl),fun ξ hφ=>ob_sa (u:=vE ⟨aw (gt a x),0,0⟩) 3 (hφ 6 rfl) rfl rfl rfl rfl rfl rfl rfl,fun ξ hφ=>ob_sa (u:=vE ⟨aH (gt a x),0,0⟩) 4 (hφ 7 rfl) rfl rfl rfl rfl rfl rfl rfl,trivial⟩ ?_
   clear h ac wo; intro ξ ac wo hφ h
   obtain ⟨b3,hb6⟩:∃ b,ξ 6=ptr b 0:=hφ 6
   obtain ⟨b4,hb7⟩:∃ b,ξ 7=ptr b 0:=hφ 7
   replace h:St w0 127 [(2,(.func (.func kid) #[] #[])),(7,lv1),(8,(.int .i64 0)),(23,(.slice (some ⟨b1,0,none⟩) 2 2)),(24,(.int .i64 2)),(25,(.int .i64 0)),(30,av),(31,iN a.length),(32,iN x),(12,ξ 6),(13,ξ 7)] [.row (α:=Ev) 321 lv1 l1,.blk b1 [av,bv] 103,.blk (cg (ξ 6)) (cE ⟨aw (gt a x),0,0⟩) 321,.blk (cg (ξ 7)) (cE ⟨aH (gt a x),0,0⟩) 321] ac wo:=(h.pick [1,2,3,4] DC).sub ⟨rfl,rfl,rfl,rfl,rfl,rfl,rfl,rfl,rfl,rfl,rfl,trivial⟩
   rw [hb6,hb7] at h
   clear hb6 hb7 hφ ξ
   refine gz h <| (xs 2 (cE ⟨aw (gt a x),1,0⟩)) <| (xs 3 (cE ⟨aH (gt a x),-1,0⟩)) <| (W) ?_; clear h ac wo; intro ac wo h
   refine nw h (cB (α:=Ev) (xs:=[.tmp 49,.tmp 50]) (vs:=[vE ⟨aw (gt a x),1,0⟩,vE ⟨aH (gt a x),-1,0⟩]) [⟨aw (gt a x),1,0⟩,⟨aH (gt a x),-1,0⟩] uv rfl rfl rfl DC) rfl ?_; clear h ac wo; intro sv4 ac wo _ h
   refine on2 h 1 0 rfl rfl (eY (xs:=l1) (ys:=[⟨aw (gt a x),1,0⟩,⟨aH (gt a x),-1,0⟩]) uv (fun w hs=>(row_view hs 0 rfl)) rfl rfl og) rfl ?_; clear h ac wo; intro sv5 ac wo _ h
   exact (nx h) fun _ _ h=>by exact ⟨m1,og,_,x+1,sv5,og,og,All.app zl1 (All.cons s2 (All.cons s3 All.nil)),by rw [List.length_append]; show _+2=_; omega,xZ hlb1 ⟨⟨by decide,by decide⟩,⟨by decide,by decide⟩⟩ ⟨⟨by decide,by decide⟩,⟨by decide,by decide⟩⟩,evA_next hle1 og,h.re [0,2]⟩
  ·
   have hd1:=of_decide_eq_false hc1
   obtain rfl:x=a.length:=by omega
   rw [List.take_length] at hle1
   refine gz h <| (ai) ?_ ?_ <;> clear h ac wo <;> intro ac wo h hc2
   ·
    clear hc2
    refine gz h <| (W) ?_; clear h ac wo; intro ac wo h
    refine wp_loop_ghost (fun n_ a_ w_=>∃ (l:List Ev) (x:Nat) (lv:Value),(b.length - x < n_)∧(x≤b.length)∧(All (SzE 30) l)∧(l.length=2*a.length+2*x)∧(∀ e∈l,EvB e)∧(l=evA a++evB (b.take x))∧St w0 127 [(2,(.func (.func kid) #[] #[])),(7,lv),(8,(.int .i64 1)),(23,(.slice (some ⟨b1,0,none⟩) 2 2)),(24,(.int .i64 2)),(25,(.int .i64 1)),(30,bv),(31,iN b.length),(32,iN x)] [.row (α:=Ev) 321 lv l,.blk b1 [av,bv] 103] a_ w_) (b.length+1) ⟨l1,0,lv1,og,og,zl1,by omega,hlb1,by rw [hle1]; simp [evB],h.rs⟩ ?_
    clear h ac wo; rintro n2 ac wo ⟨l2,x,lv2,hm1,hx32,zl2,hll2,hlb2,hle2,h⟩
    obtain ⟨m1,rfl⟩:∃ m,n2=m+1:=⟨n2 - 1,by omega⟩
    refine gz h <| (ai) ?_ ?_ <;> clear h ac wo <;> intro ac wo h hc1
    ·
     have hd1:=of_decide_eq_true hc1
     have zx:=All.gt zb (yL _) (i:=x)
     have s2:SzE 30 ⟨aw (gt b x),0,1⟩:=ay (fy (gt b x) zx w0)
     have s3:SzE 30 ⟨aH (gt b x),0,-1⟩:=ay (fP (gt b x) zx w0)
     refine gz h <| (xa) fun b2=>(W) ?_; clear h ac wo; intro ac wo h
     replace h:=h.emps 2
     refine ij mixed [dw (vV (gt b x)) [0],dv (vW (aw (gt b x))),dv (vE ⟨aw (gt b x),0,0⟩),dw (vV (gt b x)) [0],dv (vW (aH (gt b x))),dv (vE ⟨aH (gt b x),0,0⟩),yR 6 3,yR 7 4,dw _ [3],dw _ [4]] [ge _,ge _,ge _,⟨.emp,[(6,.one 6 fun v=>.blk (cg v) (cE z_ev) 321),(8,.one 6 fun v=>.blk (cg v) (cE ⟨aw (gt b x),0,0⟩) 321)]⟩,⟨.emp,[(7,.one 7 fun v=>.blk (cg v) (cE z_ev) 321),(9,.one 7 fun v=>.blk (cg v) (cE ⟨aH (gt b x),0,0⟩) 321)]⟩] h rfl (by kernel_rfl) ⟨oA obA,oA fun _=>kn (fi (ck Tryz.call136 rfl) (kk (fy (gt b x) zx))),oA fun _=>bc (bM tj rfl rfl rfl),oA obA,oA fun _=>kn (fi (ck Tryz.call137 rfl) (kk (fP (gt b x) zx))),oA fun _=>bc (bM tj rfl rfl rfl),fun _ _=>ob_al 3 rfl (fun _=>rfl),fun _ _=>ob_al 4 rfl (fun _=>rfl),fun ξ hφ=>ob_sa (u:=vE ⟨aw (gt b x),0,0⟩) 3 (hφ 6 rfl) rfl rfl rfl rfl rfl rfl rfl,fun ξ hφ=>ob_sa (u:=vE ⟨aH (gt b x),0,0⟩) 4 (hφ 7 rfl) rfl rfl rfl rfl rfl rfl rfl,trivial⟩ ?_
     clear h ac wo; intro ξ ac wo hφ h
     obtain ⟨b3,hb6⟩:∃ b,ξ 6=ptr b 0:=hφ 6
     obtain ⟨b4,hb7⟩:∃ b,ξ 7=ptr b 0:=hφ 7
     replace h:St w0 127 [(2,(.func (.func kid) #[] #[])),(7,lv2),(8,(.int .i64 1)),(23,(.slice (some ⟨b1,0,none⟩) 2 2)),(24,(.int .i64 2)),(25,(.int .i64 1)),(30,bv),(31,iN b.length),(32,iN x),(12,ξ 6),(13,ξ 7)] [.row (α:=Ev) 321 lv2 l2,.blk b1 [av,bv] 103,.blk (cg (ξ 6)) (cE ⟨aw (gt b x),0,0⟩) 321,.blk (cg (ξ 7)) (cE ⟨aH (gt b x),0,0⟩) 321] ac wo:=(h.pick [1,2,3,4] DC).sub ⟨rfl,rfl,rfl,rfl,rfl,rfl,rfl,rfl,rfl,rfl,rfl,trivial⟩
     rw [hb6,hb7] at h
     clear hb6 hb7 hφ ξ
     refine gz h <| (xs 2 (cE ⟨aw (gt b x),0,1⟩)) <| (xs 3 (cE ⟨aH (gt b x),0,-1⟩)) <| (W) ?_; clear h ac wo; intro ac wo h
     refine nw h (cB (α:=Ev) (xs:=[.tmp 49,.tmp 50]) (vs:=[vE ⟨aw (gt b x),0,1⟩,vE ⟨aH (gt b x),0,-1⟩]) [⟨aw (gt b x),0,1⟩,⟨aH (gt b x),0,-1⟩] uv rfl rfl rfl DC) rfl ?_; clear h ac wo; intro sv4 ac wo _ h
     refine on2 h 1 0 rfl rfl (eY (xs:=l2) (ys:=[⟨aw (gt b x),0,1⟩,⟨aH (gt b x),0,-1⟩]) uv (fun w hs=>(row_view hs 0 rfl)) rfl rfl og) rfl ?_; clear h ac wo; intro sv5 ac wo _ h
     exact (nx h) fun _ _ h=>by exact ⟨m1,og,_,x+1,sv5,og,og,All.app zl2 (All.cons s2 (All.cons s3 All.nil)),by rw [List.length_append]; show _+2=_; omega,xZ hlb2 ⟨⟨by decide,by decide⟩,⟨by decide,by decide⟩⟩ ⟨⟨by decide,by decide⟩,⟨by decide,by decide⟩⟩,evB_next hle2 og,h.re [0,2]⟩
    ·
     have hd1:=of_decide_eq_false hc1
     obtain rfl:x=b.length:=by omega
     rw [List.take_length] at hle2
     refine gz h <| (ai) ?_ ?_ <;> clear h ac wo <;> intro ac wo h hc3
     ·cases hc3
     ·
      refine gz h <| (W) ?_; clear h ac wo; intro ac wo h
      have hT2:∀ e∈l2,Tm e.at_.at_:=by rw [hle2]; exact ev_tm hwa hwb
      refine on1 h 0 rfl (jf (vs:=[lv2,(.func (.func 246) #[] #[])]) (A:=fun v=>[.row (α:=Ev) 321 lv2 (a6 l2)]) (ck Tryz.call245 rfl) (fun w_ B_ hB_ hS_=>lc l2 lv2 og hT2 zl2 w0 w_ B_ hB_ hS_)) rfl ?_; clear h ac wo; intro vc ac wo s11 h
      have zS:=s11.2.1
      have hS:(a6 l2).length=2*a.length+2*b.length:=by rw [(kH l2).length_eq,hll2]
      have bS:=evb_gt hlb2
      clear s11
      obtain ⟨R,hR⟩:∃ R,fl kp a b=R:=⟨_,rfl⟩
      have hR2:=hR
      unfold fl at hR2
      rw [← hle2] at hR2
      rw [hR]
      generalize a6 l2=S at h zS hS bS hR2
      refine gz h <| (xa) fun b8=>(xa) fun b9=>(W) ?_; clear h ac wo; intro ac wo h
      replace h:=h.nilRow (α:=Iv) 86
      refine wp_loop_ghost (fun n_ a_ w_=>∃ (out:List Iv) (i_:Bool) (i:Nat) (fr:Bd) (n:I2) (outv:Value),(S.length - i < n_)∧(i≤S.length)∧(swS kp (S.drop i) out i_ fr n.n0 n.n1=R)∧(All (SzV 30) out)∧(SzW 30 fr)∧(out.length≤i)∧((-(i:Int)≤n.n0∧n.n0≤(i:Int))∧(-(i:Int)≤n.n1∧n.n1≤(i:Int)))∧St w0 127 [(2,(.func (.func kid) #[] #[])),(7,lv2),(14,outv),(15,ptr b8 0),(16,ptr b9 0),(17,.bool i_),(57,lv2),(58,iN S.length),(59,iN i)] [.row (α:=Iv) 86 outv out,.blk b9 (cW fr) 206,.blk b8 (cJ n) 319,.row (α:=Ev) 321 lv2 S] a_ w_) (S.length+1) ⟨[],false,0,z_ev.at_,⟨0,0⟩,(.slice none 0 0),og,og,hR2,All.nil,SzW_d _,og,by decide,h.re [0,1,2,3]⟩ ?_
      clear h ac wo; rintro n3 ac wo ⟨out,i_,i,fr,n,outv,hm3,hi,hR3,zo,zf,lo,hn,h⟩
      obtain ⟨m3,rfl⟩:∃ m,n3=m+1:=⟨n3 - 1,by omega⟩
      obtain ⟨⟨he1,he2⟩,⟨he3,he4⟩⟩:=bS i
      refine gz h <| (ai) ?_ ?_ <;> clear h ac wo <;> intro ac wo h hc4
      ·
       have hd4:=of_decide_eq_true hc4
       rw [sw_step _ _ _ _ _ og] at hR3
       have zi:=All.gt zS (tu _) (i:=i)
       have zj:=All.gt zS (tu _) (i:=i+1)
       refine gz h <| (xa) fun b10=>(dr1 (H:=[ge _,ge _,ge _,⟨.blk b8 (cJ n) 319,[(13,.con (.blk b8 (cJ ⟨n.n0+(gt S i).b0,n.n1⟩) 319)),(15,.con (.blk b8 (cJ ⟨n.n0+(gt S i).b0,n.n1+(gt S i).b1⟩) 319))]⟩,ge _]) (hob:=oE)) <| (dr0 (hob:=(oG (by exact fun hg=>eH (gt S i).at_ (gt S (i+1)).at_ zi zj)) <| oE)) <| (ai) ?_ ?_ <;> clear h ac wo <;> intro ac wo h hc5
       ·
        rw [hc5,cond_true] at hR3
        exact (nx h) fun _ _ h=>by exact ⟨m3,og,out,i_,i+1,fr,⟨n.n0+(gt S i).b0,n.n1+(gt S i).b1⟩,outv,og,og,hR3,zo,zf,og,⟨⟨by simp only; omega,by simp only; omega⟩,⟨by simp only; omega,by simp only; omega⟩⟩,h.re [1,2,3,4]⟩
       ·
        rw [hc5,cond_false] at hR3
        haveI:Cf Tryz.prog kid:=⟨hkc⟩
        refine gz h <| (xk (hkp (decide (n.n0+(gt S i).b0>0)) (decide (n.n1+(gt S i).b1>0)))) <| (ai) ?_ ?_ <;> clear h ac wo <;> intro ac wo h hc6
        ·
         rw [hc6,cond_true] at hR3
         exact (nx h) fun _ _ h=>by exact ⟨m3,og,out,(kp (decide (n.n0+(gt S i).b0>0)) (decide (n.n1+(gt S i).b1>0))),i+1,(gt S i).at_,⟨n.n0+(gt S i).b0,n.n1+(gt S i).b1⟩,outv,og,og,hR3,zo,zi,og,⟨⟨by simp only; omega,by simp only; omega⟩,⟨by simp only; omega,by simp only; omega⟩⟩,h.re [1,2,3,4]⟩
        ·
         rw [hc6,cond_false] at hR3
         refine gz h <| (ai) ?_ ?_ <;> clear h ac wo <;> intro ac wo h hc7
         ·
          rw [hc7,cond_true] at hR3
          have s16:=ay (lx fr (gt S i).at_ zf zi w0)
          refine gz h <| (xk (lx fr (gt S i).at_ zf zi)) <| (W) ?_; clear h ac wo; intro ac wo h
          refine nw h (cB (α:=Iv) (xs:=[.tmp 121]) (vs:=[vV (bC fr (gt S i).at_)]) [bC fr (gt S i).at_] pn rfl rfl rfl DC) rfl ?_; clear h ac wo; intro sv17 ac wo _ h
          refine on2 h 2 0 rfl rfl (eY (xs:=out) (ys:=[bC fr (gt S i).at_]) pn (fun w hs=>(row_view hs 0 rfl)) rfl rfl og) rfl ?_; clear h ac wo; intro sv18 ac wo _ h
          exact (nx h) fun _ _ h=>by exact ⟨m3,og,_,(kp (decide (n.n0+(gt S i).b0>0)) (decide (n.n1+(gt S i).b1>0))),i+1,fr,⟨n.n0+(gt S i).b0,n.n1+(gt S i).b1⟩,_,og,og,hR3,(All.app zo (All.cons s16 All.nil)),zf,og,⟨⟨by simp only; omega,by simp only; omega⟩,⟨by simp only; omega,by simp only; omega⟩⟩,h.re [0,3,4,5]⟩
         ·
          rw [hc7,cond_false] at hR3
          exact (nx h) fun _ _ h=>by exact ⟨m3,og,out,(kp (decide (n.n0+(gt S i).b0>0)) (decide (n.n1+(gt S i).b1>0))),i+1,fr,⟨n.n0+(gt S i).b0,n.n1+(gt S i).b1⟩,outv,og,og,hR3,zo,zf,og,⟨⟨by simp only; omega,by simp only; omega⟩,⟨by simp only; omega,by simp only; omega⟩⟩,h.re [1,2,3,4]⟩
      ·
       have hd4:=of_decide_eq_false hc4
       rw [List.drop_of_length_le og] at hR3
       have e:out=R:=hR3
       exact (rx h) fun _ _ h=>(by rw [← e]; exact h.retR 0 rfl ⟨zo,by omega⟩)
   ·cases hc2
 ·cases hc1
attribute [irreducible] fl
end Go.Sx
namespace Go.Sx
open Go Go.RowKit Go.Proofs
attribute [local irreducible] Code.wp wpList Rd gX ObS Ent
attribute [local irreducible] an bD ah aN aC dg
def fN (a:List Iv) (b:List Iv):(List Iv):=fl eK a b
theorem lq (a:List Iv) (av:Value) (b:List Iv) (bv:Value) (hla:a.length≤200) (hlb:b.length≤200) (hwa:∀ i∈a,Wv i) (hwb:∀ i∈b,Wv i) (za:All (SzV 30) a) (zb:All (SzV 30) b) (w0:World) (hav:View w0 av a) (hbv:View w0 bv b):Calls Tryz.prog 180 #[av,bv,(.func (.func 244) #[] #[])] w0 (RetR w0 86 (fN a b) (All (SzV 30) (fN a b)∧(fN a b).length≤2*a.length+2*b.length)) :=
 lR eK 244 Tryz.call244 ob a av b bv hla hlb hwa hwb za zb w0 hav hbv
attribute [irreducible] fN
def fQ (a:List Iv) (b:List Iv):(List Iv) :=
 (fN a b)
theorem mn (a:List Iv) (av:Value) (b:List Iv) (bv:Value) (hla:a.length≤200) (hlb:b.length≤200) (hwa:∀ i∈a,Wv i) (hwb:∀ i∈b,Wv i) (za:All (SzV 30) a) (zb:All (SzV 30) b) (w0:World) (hav:View w0 av a) (hbv:View w0 bv b):Calls Tryz.prog 178 #[av,bv] w0 (RetR w0 86 (fQ a b) (All (SzV 30) (fQ a b)∧(fQ a b).length≤2*a.length+2*b.length)):=by
 refine enter (N:=8) Tryz.func178 rfl rfl ?_; intro ac h
 have hlena:=hav.len
 have hlenb:=hbv.len
 refine gz h <| (W) ?_; clear h; intro _ _ h
 have s1:=RetR.pr ((fun w_ hB_ hS_=>lq a av b bv og og og og za zb w_ (hav.below hB_) (hbv.below hB_)) _ h.bel h.sep)
 have p2:=s1.2
 refine ky (xs:=(fN a b)) h (ck Tryz.call180 rfl) (fun w_ hB_ hS_=>lq a av b bv og og og og za zb w_ (hav.below hB_) (hbv.below hB_)) rfl ?_; clear h; intro sv3 _ _ _ h
 exact (rx h) fun _ _ h=>(by unfold fQ; exact h.retR 0 rfl ⟨s1.1,og⟩)
attribute [irreducible] fQ
def eN (l:List Iv):(List Iv) :=
 (fQ l ([]))
theorem j6 (l:List Iv) (lv:Value) (hl:l.length≤200) (hw:∀ i∈l,Wv i) (zl:All (SzV 30) l) (w0:World) (hlv:View w0 lv l):Calls Tryz.prog 77 #[lv] w0 (RetR w0 86 (eN l) (All (SzV 30) (eN l)∧(eN l).length≤2*l.length)):=by
 refine enter (N:=5) Tryz.func77 rfl rfl ?_; intro ac h
 have hlenl:=hlv.len
 refine gz h <| (W) ?_; clear h; intro _ _ h
 have s1:=RetR.pr ((fun w_ hB_ hS_=>mn l lv ([]) (.slice none 0 0) og (by simp) og (fun _ h=>by cases h) zl All.nil w_ (hlv.below hB_) View.nilv) _ h.bel h.sep)
 have p2:=s1.2
 refine ky (xs:=(fQ l ([]))) h (ck Tryz.call178 rfl) (fun w_ hB_ hS_=>mn l lv ([]) (.slice none 0 0) og (by simp) og (fun _ h=>by cases h) zl All.nil w_ (hlv.below hB_) View.nilv) rfl ?_; clear h; intro sv3 _ _ _ h
 exact (rx h) fun _ _ h=>(by unfold eN; exact h.retR 0 rfl ⟨s1.1,og⟩)
attribute [irreducible] eN
end Go.Sx
namespace Go.Sx
open Go Go.RowKit Go.Proofs
attribute [local irreducible] Code.wp wpList Rd gX ObS Ent
attribute [local irreducible] an bD ah aN aC dg
def fO (a:List Iv) (b:List Iv):(List Iv):=fl eL a b
theorem lr (a:List Iv) (av:Value) (b:List Iv) (bv:Value) (hla:a.length≤200) (hlb:b.length≤200) (hwa:∀ i∈a,Wv i) (hwb:∀ i∈b,Wv i) (za:All (SzV 30) a) (zb:All (SzV 30) b) (w0:World) (hav:View w0 av a) (hbv:View w0 bv b):Calls Tryz.prog 180 #[av,bv,(.func (.func 181) #[] #[])] w0 (RetR w0 86 (fO a b) (All (SzV 30) (fO a b)∧(fO a b).length≤2*a.length+2*b.length)) :=
 lR eL 181 Tryz.call181 oc a av b bv hla hlb hwa hwb za zb w0 hav hbv
attribute [irreducible] fO
def dW (a:List Iv) (b:List Iv):(List Iv) :=
 (fO a b)
theorem pA (a:List Iv) (av:Value) (b:List Iv) (bv:Value) (hla:a.length≤200) (hlb:b.length≤200) (hwa:∀ i∈a,Wv i) (hwb:∀ i∈b,Wv i) (za:All (SzV 30) a) (zb:All (SzV 30) b) (w0:World) (hav:View w0 av a) (hbv:View w0 bv b):Calls Tryz.prog 79 #[av,bv] w0 (RetR w0 86 (dW a b) (All (SzV 30) (dW a b)∧(dW a b).length≤2*a.length+2*b.length)):=by
 refine enter (N:=8) Tryz.func79 rfl rfl ?_; intro ac h
 have hlena:=hav.len
 have hlenb:=hbv.len
 refine gz h <| (W) ?_; clear h; intro _ _ h
 have s1:=RetR.pr ((fun w_ hB_ hS_=>lr a av b bv og og og og za zb w_ (hav.below hB_) (hbv.below hB_)) _ h.bel h.sep)
 have p2:=s1.2
 refine ky (xs:=(fO a b)) h (ck Tryz.call180 rfl) (fun w_ hB_ hS_=>lr a av b bv og og og og za zb w_ (hav.below hB_) (hbv.below hB_)) rfl ?_; clear h; intro sv3 _ _ _ h
 exact (rx h) fun _ _ h=>(by unfold dW; exact h.retR 0 rfl ⟨s1.1,og⟩)
attribute [irreducible] dW
end Go.Sx
namespace Go.Sx
theorem qD (kp:Bool→Bool→Bool) (a b:List Iv):∃ fr,fl kp a b=swS kp (a6 (evA a++evB b)) [] false fr 0 0:=by
 unfold fl
 exact ⟨_,rfl⟩
theorem vr (a b:List Iv):∃ fr,fN a b=swS eK (a6 (evA a++evB b)) [] false fr 0 0:=by
 unfold fN
 exact qD eK a b
theorem vt (a b:List Iv):∃ fr,fO a b=swS eL (a6 (evA a++evB b)) [] false fr 0 0:=by
 unfold fO
 exact qD eL a b
theorem keep_U:∀ x y,eK x y=(x || y):=fun x y=>by unfold eK; rfl
theorem keep_M:∀ x y,eL x y=(x && !y):=fun x y=>by unfold eL; rfl
section
variable {a b:List Iv}
theorem wq (ha:∀ i∈a,Wv i) (hb:∀ i∈b,Wv i):Cn (fQ a b)∧∀ x,inP (fQ a b) x↔inP a x∨inP b x:=by
 classical
 obtain ⟨fr,e⟩:=vr a b
 obtain ⟨h1,h2⟩:=tD (l:=evA a++evB b) (ev_tm ha hb)
 obtain ⟨h3,h4⟩:=r6 (keep:=eK) (by rw [keep_U]; rfl) ha hb h1 h2 fr
 unfold fQ
 rw [e]
 refine ⟨h3,fun x=>(h4 x).trans ?_⟩
 rw [keep_U,Bool.or_eq_true,decide_eq_true_eq,decide_eq_true_eq]
theorem sI (ha:∀ i∈a,Wv i) (hb:∀ i∈b,Wv i):Cn (dW a b)∧∀ x,inP (dW a b) x↔inP a x∧¬ inP b x:=by
 classical
 obtain ⟨fr,e⟩:=vt a b
 obtain ⟨h1,h2⟩:=tD (l:=evA a++evB b) (ev_tm ha hb)
 obtain ⟨h3,h4⟩:=r6 (keep:=eL) (by rw [keep_M]; rfl) ha hb h1 h2 fr
 unfold dW
 rw [e]
 refine ⟨h3,fun x=>(h4 x).trans ?_⟩
 rw [keep_M,Bool.and_eq_true,decide_eq_true_eq,Bool.not_eq_true',decide_eq_false_iff_not]
theorem qJ (ha:∀ i∈a,Wv i):Cn (eN a)∧∀ x,inP (eN a) x↔inP a x:=by
 unfold eN
 obtain ⟨h1,h2⟩:=wq ha (b:=[]) (fun _ h=>by cases h)
 exact ⟨h1,fun x=>(h2 x).trans ⟨fun h=>h.resolve_right (lK x),.inl⟩⟩
theorem Cn.empty (h:Cn a):a.length=0↔∀ x,¬ inP a x:=by
 constructor
 ·intro h x hx
  rw [List.length_eq_zero_iff.1 h] at hx
  exact lK x hx
 ·intro hx
  rw [Cn.ext h Cn.nil fun x=>⟨fun h=>absurd h (hx x),fun h=>absurd h (lK x)⟩]; rfl
theorem wv_sz (h:∀ i∈a,Wv i):All (SzV 30) a:=fun i hi=>⟨cu (nT (h i hi).1.1) og,cu (nT (h i hi).1.2) og⟩
theorem Cn.sz (h:Cn a):All (SzV 30) a:=wv_sz h.wv
theorem Cn.minus (ha:Cn a) (hb:Cn b):Cn (dW a b):=(sI ha.wv hb.wv).1
end
end Go.Sx
