import Derived.Test.YtbenbmdkhcfcfaaGreatDoorHb
import Derived.Test.YtbenbmdkhcfcfaaGreatDoorY
import Derived.Test.YtbenbmdkhcfcfaaGreatDoorN1
import Derived.Test.YtbenbmdkhcfcfaaGreatDoorProg
import Derived.Test.YtbenbmdkhcfcfaaGreatDoorA7
set_option linter.unusedVariables false
set_option linter.unusedSimpArgs false
open Go.Proofs.Tryz renaming sizeOf321 → zz321, underlying317 → nn317, call180 → cc180
set_option maxRecDepth 100000
set_option maxHeartbeats 40000000
namespace Go.Sx
open Go Go.RowKit Go.Proofs
attribute [local irreducible] Code.wp wpList Rd gW ObS Ent
attribute [local irreducible] an bB ah aO az c8
def bD (a:Bd) (b:Bd):Iv :=
 (⟨a.at_,b.at_,a.behind,(!b.behind)⟩:Iv)
theorem lq (a:Bd) (b:Bd) (za:SzW 30 a) (zb:SzW 30 b) (w0:World):Calls Tryz.prog 247 #[(vW a),(vW b)] w0 (RetP w0 (vV (bD a b)) (SzV 30 (bD a b))):=by
 refine enter (N:=15) Tryz.func247 rfl rfl ?_; intro ac h
 refine gz h <| (xb) fun b1=>(xb) fun b2=>(xa) fun b3=>(xo (hs:=by exact bN qf exs rfl (v:=(vV (⟨a.at_,b.at_,a.behind,(!b.behind)⟩:Iv))) rfl)) <| (W) ?_; clear h; intro _ _ h
 exact ret h rfl (.cell (v:=(vV (⟨a.at_,b.at_,a.behind,(!b.behind)⟩:Iv))) rfl (i:=0) rfl Tryz.isAgg86 Tryz.sizeOf86 rfl rfl rfl .nil) rfl (h.retP (by unfold bD; rfl) (by unfold bD; exact ⟨za,zb⟩))
attribute [irreducible] bD
def bZ (x:Ev) (y:Ev):Int :=
 (cm x.at_ y.at_)
theorem jK (x:Ev) (y:Ev) (zx:SzE 30 x) (zy:SzE 30 y) (w0:World):Calls Tryz.prog 246 #[(vE x),(vE y)] w0 (RetP w0 (.int .i64 (bZ x y)) ((-1≤(bZ x y)∧(bZ x y)≤1))):=by
 refine enter (N:=10) Tryz.func246 rfl rfl ?_; intro ac h
 have c1:=iF x.at_ y.at_ zx zy
 have s1:=Calls.pr (c1 w0)
 have p2:=s1
 refine gz h <| (xb) fun b1=>(xb) fun b2=>(xk (c1)) <| (W) ?_; clear h; intro _ _ h
 exact (rt h) (h.retP (by unfold bZ; rfl) (by unfold bZ; exact og))
attribute [irreducible] bZ
def dF (a:Bool) (b:Bool):Bool :=
 (a && b)
theorem mn (a:Bool) (b:Bool) (w0:World):Calls Tryz.prog 243 #[(.bool a),(.bool b)] w0 (RetP w0 (.bool (dF a b)) (True)):=by
 refine enter (N:=9) Tryz.func243 rfl rfl ?_; intro ac h
 exact (rx h) fun _ _ h=>(h.retP (by unfold dF; rfl) trivial)
attribute [irreducible] dF
def iS (data:List Ev) (a:Nat) (b:Nat) (i:Nat) (data1:List Ev):List Ev :=
 data1
def iR (data:List Ev) (a:Nat) (b:Nat) (i:Nat) (data1:List Ev) (j:Nat) (data2:List Ev):Nx (Nat×(List Ev)) (List Ev) :=
 .go ((i+1),data2)
def ep (data:List Ev) (a:Nat) (b:Nat) (i:Nat) (data1:List Ev) (j:Nat) (data2:List Ev):Nx (Nat×(List Ev)) (List Ev) :=
 bif ((decide ((j:Int)>(a:Int))) && (decide ((bZ (gt data2 j) (gt data2 (j - 1))) < 0))) then
  .go ((j - 1),((data2.set j (gt data2 (j - 1))).set (j - 1) (gt data2 j)))
 else
  .out (j,data2)
def er (data:List Ev) (a:Nat) (b:Nat) (i:Nat) (data1:List Ev):Nx (Nat×(List Ev)) (List Ev) :=
 bif (decide ((i:Int) < (b:Int))) then
  fin (bt (fun s=>ep data a b i data1 s.1 s.2) (i+1) (i,data1)) (fun s=>iR data a b i data1 s.1 s.2) (fun r=>.ret r)
 else
  .out (i,data1)
def bG (data:List Ev) (a:Nat) (b:Nat):List Ev :=
 fin (bt (fun s=>er data a b s.1 s.2) ((b+1 - (a+1))+1) ((a+1),data)) (fun s=>iS data a b s.1 s.2) (fun r=>r)
theorem iQ (data:List Ev) (datav:Value) (a:Nat) (b:Nat) (hab:a≤b) (hb:b≤data.length) (hb2:b≤1000) (zdata:All (SzE 30) data) (w0 w:World) (B:Asn) (hbel:Below w0.heap.size w0 w) (hsep:∃ Z_,Sep w0.heap.size w [.row (α:=Ev) 321 datav data,B] Z_):Calls Tryz.prog 297 #[datav,(iN a),(iN b),(.func (.func 246) #[] #[])] w (RetY w0 (fun v=>v=.tuple #[]∧(All (SzE 30) (bG data a b)∧(bG data a b).length=data.length)) (fun v=>[.row (α:=Ev) 321 datav (bG data a b),B])):=by
 refine lU (N:=53) Tryz.func297 rfl rfl hbel hsep ?_; intro ac h
 have hlendata:=h.len 0 rfl
 obtain ⟨X1,hX1⟩:∃ X,bt (fun s=>er data a b s.1 s.2) ((b+1 - (a+1))+1) ((a+1),data)=X:=⟨_,rfl⟩
 refine gz h <| (W) ?_; clear h; intro _ _ h
 refine wp_loop_ghost (fun n_ a_ w_=>∃ (i:Nat) (data1:List Ev),((b+1 - i) < n_)∧(bt (fun s=>er data a b s.1 s.2) n_ (i,data1)=X1)∧(i≤b+1)∧(All (SzE 30) data1)∧(data1.length=data.length)∧St w0 53 [(0,datav),(1,(iN a)),(2,(iN b)),(3,(.func (.func 246) #[] #[])),(8,(iN i))] [.row (α:=Ev) 321 datav data1,B] a_ w_) ((b+1 - (a+1))+1) ⟨(a+1),data,og,hX1,og,zdata,og,h.rs⟩ ?_
 clear h; rintro n1 _ _ ⟨i,data1,hm1,hL1,hi,zdata1,hdl,h⟩
 obtain ⟨m1,rfl⟩:∃ m,n1=m+1:=⟨n1 - 1,by omega⟩
 refine gz h <| (ai) ?_ ?_ <;> clear h <;> intro _ _ h hc1
 ·
  have hd1:=of_decide_eq_true hc1
  obtain ⟨X2,hX2⟩:∃ X,bt (fun s=>ep data a b i data1 s.1 s.2) (i+1) (i,data1)=X:=⟨_,rfl⟩
  refine gz h <| (W) ?_; clear h; intro _ _ h
  refine wp_loop_ghost (fun n_ a_ w_=>∃ (j:Nat) (data2:List Ev),(j < n_)∧(bt (fun s=>ep data a b i data1 s.1 s.2) n_ (j,data2)=X2)∧(All (SzE 30) data2)∧(j≤i)∧(data2.length=data.length)∧St w0 53 [(0,datav),(1,(iN a)),(2,(iN b)),(3,(.func (.func 246) #[] #[])),(8,(iN i)),(9,(iN j))] [.row (α:=Ev) 321 datav data2,B] a_ w_) (i+1) ⟨i,data1,og,hX2,zdata1,og,og,h.rs⟩ ?_
  clear h; rintro n2 _ _ ⟨j,data2,hm2,hL2,zdata2,hj,hdl2,h⟩
  obtain ⟨m2,rfl⟩:∃ m,n2=m+1:=⟨n2 - 1,by omega⟩
  refine gz h <| (W) ?_; clear h; intro _ _ h
  have s1:=Calls.pr ((fun w_ hB_ hS_=>jK (gt data2 j) (gt data2 (j - 1)) (All.gt zdata2 (tG _)) (All.gt zdata2 (tG _)) w_ ) _ h.bel h.sep)
  have p2:=s1
  refine gz h <| (dr0 (hob:=(oG (by exact fun hg=>jK (gt data2 j) (gt data2 (j - 1)) (All.gt zdata2 (tG _)) (All.gt zdata2 (tG _)))) <| oE)) <| (ai) ?_ ?_ <;> clear h <;> intro _ _ h hc2
  ·
   have q:=hc2; try simp at q
   refine gz h <| (dr1 (H:=[⟨.row (α:=Ev) 321 datav data2,[(15,.con (.row (α:=Ev) 321 datav (data2.set j (gt data2 (j - 1))))),(17,.con (.row (α:=Ev) 321 datav ((data2.set j (gt data2 (j - 1))).set (j - 1) (gt data2 j))))]⟩,ge _]) (hob:=(oY (h:=by exact fun _=>m0 (acc:=[0]) _ [.row (α:=Ev) 321 datav (data2.set j (gt data2 (j - 1)))] rfl rfl (ia (k:=0) (u':=(gt data2 (j - 1))) zz321 (ff og) rfl (Nat.add_zero _) rfl rfl rfl rfl rfl rfl))) <| (oY (h:=by exact fun _=>m0 (acc:=[0]) _ [.row (α:=Ev) 321 datav ((data2.set j (gt data2 (j - 1))).set (j - 1) (gt data2 j))] rfl rfl (ia (k:=0) (u':=(gt data2 j)) zz321 (ff og) rfl (Nat.add_zero _) rfl rfl rfl rfl rfl rfl))) <| oE)) <| (W) ?_; clear h; intro _ _ h
   have hg:=bI hL2 pt
   exact aD ⟨m2,og,_,_,og,hg,(All.set (All.set zdata2 (All.gt zdata2 (tG _))) (All.gt zdata2 (tG _))),og,og,h.re [0,1]⟩
  ·
   have q:=hc2; try simp at q
   have hx2:=cG hL2 pt
   have hg:=bI hL1 pt
   exact (nx h) fun _ _ h=>by exact ⟨m1,og,_,_,og,hg,og,zdata2,og,h.re [0,1]⟩
 ·
  have hd1:=of_decide_eq_false hc1
  have hx1:=cG hL1 pt
  have hd:bG data a b=data1:=pt
  refine gz h <| (W) ?_; clear h; intro _ _ h
  exact oP (vs:=[]) h rfl .nil rfl ((h.pick [0,1] DC).retY ⟨rfl,(by rw [hd]; exact ⟨zdata1,og⟩)⟩ (by rw [hd]; rfl))
attribute [irreducible] bG
def eI (a:Bool) (b:Bool):Bool :=
 (a || b)
theorem oi (a:Bool) (b:Bool) (w0:World):Calls Tryz.prog 244 #[(.bool a),(.bool b)] w0 (RetP w0 (.bool (eI a b)) (True)):=by
 refine enter (N:=9) Tryz.func244 rfl rfl ?_; intro ac h
 exact (rx h) fun _ _ h=>(h.retP (by unfold eI; rfl) trivial)
attribute [irreducible] eI
def eJ (a:Bool) (b:Bool):Bool :=
 (a && (!b))
theorem oo (a:Bool) (b:Bool) (w0:World):Calls Tryz.prog 181 #[(.bool a),(.bool b)] w0 (RetP w0 (.bool (eJ a b)) (True)):=by
 refine enter (N:=10) Tryz.func181 rfl rfl ?_; intro ac h
 exact (rx h) fun _ _ h=>(h.retP (by unfold eJ; rfl) trivial)
attribute [irreducible] eJ
end Go.Sx
namespace Go.Sx
open Go Go.RowKit Go.Proofs
attribute [local irreducible] Code.wp wpList Rd gW ObS Ent
attribute [local irreducible] an bB ah aO az c8
def ca (data:List Ev) (a:Nat) (b:Nat) (limit:Int):List Ev :=
 (bG data a b)
theorem jV (data:List Ev) (datav:Value) (a:Nat) (b:Nat) (limit:Int) (hab:a≤b) (hb:b≤data.length) (hb2:b≤1000) (h12:b≤a+12) (zdata:All (SzE 30) data) (w0 w:World) (B:Asn) (hbel:Below w0.heap.size w0 w) (hsep:∃ Z_,Sep w0.heap.size w [.row (α:=Ev) 321 datav data,B] Z_):Calls Tryz.prog 284 #[datav,(iN a),(iN b),(.int .i64 limit),(.func (.func 246) #[] #[])] w (RetY w0 (fun v=>v=.tuple #[]∧(All (SzE 30) (ca data a b limit)∧(ca data a b limit).length=data.length)) (fun v=>[.row (α:=Ev) 321 datav (ca data a b limit),B])):=by
 refine lU (N:=148) Tryz.func284 rfl rfl hbel hsep ?_; intro ac h
 have hlendata:=h.len 0 rfl
 refine gz h <| (W) ?_; clear h; intro _ _ h
 refine r7 1 ?_
 refine gz h <| (xo (hs:=by exact fh rfl rfl (r:=(((b - a):Nat):Int)) (by rw [IntKind.wrap_i64]; first | omega | grind))) <| (W) ?_; clear h; intro _ _ h
 refine c_ifT h rfl ?_ (decide_eq_true og)
 refine gz h <| (W) ?_; clear h; intro _ _ h
 refine on1 h 0 rfl (ji (vs:=[datav,(iN a),(iN b),(.func (.func 246) #[] #[])]) (A:=fun v=>[.row (α:=Ev) 321 datav (bG data a b)]) (ck Tryz.call297 rfl) (fun w_ B_ hB_ hS_=>iQ data datav a b og og og zdata w0 w_ B_ hB_ hS_ )) rfl ?_; clear h; intro vc _ _ s2 h
 obtain rfl:vc=_:=s2.1
 have p3:=s2.2.2
 refine gz h <| (W) ?_; clear h; intro _ _ h
 replace h:=h.sub (F':=[]) trivial
 have hd:ca data a b limit=(bG data a b):=rfl
 refine gz h <| (W) ?_; clear h; intro _ _ h
 exact ret (vs:=[]) h rfl .nil rfl ((h.pick [0,1] DC).retY ⟨rfl,(by rw [hd]; exact ⟨s2.2.1,og⟩)⟩ (by rw [hd]; rfl))
attribute [irreducible] ca
end Go.Sx
namespace Go.Sx
open Go Go.RowKit Go.Proofs
attribute [local irreducible] Code.wp wpList Rd gW ObS Ent
attribute [local irreducible] an bB ah aO az c8
def gh (x:Nat):Int :=
 ((Lib.bitLen x:Nat):Int)
theorem o8 (x:Nat) (hx:x < 18446744073709551616) (w0:World):Calls Tryz.prog 285 #[(.int .u64 (x:Int))] w0 (RetP w0 (.int .i64 (gh x)) (True)):=by
 refine enter (N:=8) Tryz.func285 rfl rfl ?_; intro ac h
 refine gz h <| (W) ?_; clear h; intro _ _ h
 refine tr h rfl ?_
 refine gz h <| (xk (vu x (by assumption))) <| (W) ?_; clear h; intro _ _ h
 exact (rt h) (h.retP (by unfold gh; rfl) trivial)
attribute [irreducible] gh
def cb (x:List Ev):List Ev :=
 (ca x 0 x.length (gh x.length))
theorem jW (x:List Ev) (xv:Value) (hl:x.length≤12) (zx:All (SzE 30) x) (w0 w:World) (B:Asn) (hbel:Below w0.heap.size w0 w) (hsep:∃ Z_,Sep w0.heap.size w [.row (α:=Ev) 321 xv x,B] Z_):Calls Tryz.prog 245 #[xv,(.func (.func 246) #[] #[])] w (RetY w0 (fun v=>v=.tuple #[]∧(All (SzE 30) (cb x)∧(cb x).length=x.length)) (fun v=>[.row (α:=Ev) 321 xv (cb x),B])):=by
 refine lU (N:=14) Tryz.func245 rfl rfl hbel hsep ?_; intro ac h
 have hlenx:=h.len 0 rfl
 refine gz h <| (xo (hs:=by exact be Tryz.runUnderlying3 Tryz.runUnderlying276 rfl (r:=(x.length:Int)) (by rw [IntKind.wrap_u64]; first | omega | grind))) <| (xk (o8 x.length og)) <| (W) ?_; clear h; intro _ _ h
 refine on1 h 0 rfl (ji (vs:=[xv,(.int .i64 0),(iN x.length),(.int .i64 (gh x.length)),(.func (.func 246) #[] #[])]) (A:=fun v=>[.row (α:=Ev) 321 xv (ca x 0 x.length (gh x.length))]) (ck Tryz.call284 rfl) (fun w_ B_ hB_ hS_=>jV x xv 0 x.length (gh x.length) og og og og zx w0 w_ B_ hB_ hS_ )) rfl ?_; clear h; intro vc _ _ s2 h
 obtain rfl:vc=_:=s2.1
 have p3:=s2.2.2
 have hd:cb x=(ca x 0 x.length (gh x.length)):=rfl
 refine gz h <| (W) ?_; clear h; intro _ _ h
 exact oP (vs:=[]) h rfl .nil rfl ((h.pick [0,1] DC).retY ⟨rfl,(by rw [hd]; exact ⟨s2.2.1,og⟩)⟩ (by rw [hd]; rfl))
attribute [irreducible] cb
end Go.Sx
namespace Go.Sx
def kB (b:Bd):Nat:=2*tk b.at_+(bif b.behind then 1 else 0)
theorem bb (b:Bool):(bif b then 1 else 0:Nat)≤1:=by cases b <;> decide
theorem cmpB {a b:Bd} (ha:Tm a.at_) (hb:Tm b.at_):cm a b=sgn (kB a) (kB b):=by
 unfold cm kB
 rw [ha.cmp hb]
 have h1:=bb a.behind
 have h2:=bb b.behind
 rcases Nat.lt_trichotomy (tk a.at_) (tk b.at_) with e | e | e
 ·rw [fO e,fO og]; rfl
 ·rw [e,dW]
  cases a.behind <;> cases b.behind
  ·rw [dW]; rfl
  ·rw [fO (by simp)]; rfl
  ·rw [gb (by simp)]; rfl
  ·rw [dW]; rfl
 ·rw [gb e,gb og]; rfl
theorem kB_inj {a b:Bd} (ha:Tm a.at_) (hb:Tm b.at_) (h:kB a=kB b):a=b:=by
 unfold kB at h
 have h1:=bb a.behind
 have h2:=bb b.behind
 have e:tk a.at_=tk b.at_:=by omega
 have e2:=(ha.inj hb).1 e
 have e3:a.behind=b.behind:=by
  rw [e] at h
  cases ha:a.behind <;> cases hb:b.behind <;> rw [ha,hb] at h <;> simp at h <;> rfl
 obtain ⟨x,y⟩:=a
 obtain ⟨z,w⟩:=b
 simp only at e2 e3
 rw [e2,e3]
theorem pf (i:Iv):aI i=⟨i.lo,i.openLo⟩:=by unfold aI; rfl
theorem pl (i:Iv):aG i=⟨i.hi,!i.openHi⟩:=by unfold aG; rfl
theorem kO (i:Iv):kB (aI i)=dL i:=by rw [pf]; rfl
theorem mu (i:Iv):(kB (aG i):Int)=ec i+1:=by
 unfold kB aG ec
 simp only
 cases i.openHi <;> simp <;> omega
theorem Wv.bd {i:Iv} (h:Wv i):kB (aI i) < kB (aG i):=by
 have h1:=h.le
 have h2:=mu i
 rw [kO]; omega
theorem wv_of {i:Iv} (h:Tv i) (hlt:kB (aI i) < kB (aG i)):Wv i:=by
 rw [pf,pl] at hlt
 have hlt:2*tk i.lo+(bif i.openLo then 1 else 0) < 2*tk i.hi+(bif !i.openHi then 1 else 0):=hlt
 have h1:=bb i.openLo
 have h2:=bb (!i.openHi)
 refine ⟨h,by omega,fun e=>?_⟩
 rw [e] at hlt
 revert hlt
 cases i.openLo <;> cases i.openHi <;> simp
theorem rW (a b:Bd):aI (bD a b)=a:=by
 unfold aI bD; rfl
theorem ur (a b:Bd):aG (bD a b)=b:=by
 unfold aG bD
 simp only [Bool.not_not]
theorem iv_ext {i j:Iv} (hi:Tv i) (hj:Tv j) (h1:kB (aI i)=kB (aI j)) (h2:kB (aG i)=kB (aG j)):i=j:=by
 have e1:=kB_inj (a:=aI i) (b:=aI j) (by rw [pf]; exact hi.1) (by rw [pf]; exact hj.1) h1
 have e2:=kB_inj (a:=aG i) (b:=aG j) (by rw [pl]; exact hi.2) (by rw [pl]; exact hj.2) h2
 rw [pf,pf,Bd.mk.injEq] at e1
 rw [pl,pl,Bd.mk.injEq] at e2
 obtain ⟨lo,hi',ol,oh⟩:=i
 obtain ⟨lo2,hi2,ol2,oh2⟩:=j
 simp only at e1 e2
 obtain ⟨rfl,rfl⟩:=e1
 obtain ⟨rfl,e3⟩:=e2
 rw [show oh=oh2 by cases oh <;> cases oh2 <;> first | rfl | cases e3]
end Go.Sx
namespace Go.Sx
def inI (i:Iv) (x:Nat):Prop:=kB (aI i)≤x∧x < kB (aG i)
def inP (p:List Iv) (x:Nat):Prop:=∃ i∈p,inI i x
structure Cn (p:List Iv):Prop where
 wv:∀ i∈p,Wv i
 sep:p.Pairwise fun i j=>kB (aG i) < kB (aI j)
theorem lL (x:Nat):¬ inP [] x:=fun ⟨_,h,_⟩=>by cases h
theorem gj {i:Iv} {p:List Iv} {x:Nat}:inP (i::p) x↔inI i x∨inP p x:=by
 constructor
 ·rintro ⟨j,hj,h⟩
  rcases List.mem_cons.1 hj with rfl | hj
  ·exact .inl h
  ·exact .inr ⟨j,hj,h⟩
 ·rintro (h | ⟨j,hj,h⟩)
  ·exact ⟨i,List.mem_cons_self ..,h⟩
  ·exact ⟨j,List.mem_cons_of_mem _ hj,h⟩
theorem inP_app {p q:List Iv} {x:Nat}:inP (p++q) x↔inP p x∨inP q x:=by
 constructor
 ·rintro ⟨j,hj,h⟩
  rcases List.mem_append.1 hj with hj | hj
  ·exact .inl ⟨j,hj,h⟩
  ·exact .inr ⟨j,hj,h⟩
 ·rintro (⟨j,hj,h⟩ | ⟨j,hj,h⟩)
  ·exact ⟨j,List.mem_append_left _ hj,h⟩
  ·exact ⟨j,List.mem_append_right _ hj,h⟩
theorem Cn.nil:Cn []:=⟨fun _ h=>(by cases h),List.Pairwise.nil⟩
theorem Cn.tail {i:Iv} {p:List Iv} (h:Cn (i::p)):Cn p∧(∀ j∈p,kB (aG i) < kB (aI j))∧Wv i:=by
 have h2:=List.pairwise_cons.1 h.sep
 exact ⟨⟨fun j hj=>h.wv j (List.mem_cons_of_mem _ hj),h2.2⟩,h2.1,h.wv i (List.mem_cons_self ..)⟩
theorem Cn.behind {i:Iv} {p:List Iv} (h:Cn (i::p)) {x:Nat} (hx:inP p x):kB (aG i) < x:=by
 obtain ⟨j,hj,h1,_⟩:=hx
 have:=h.tail.2.1 j hj
 omega
theorem Cn.ext:∀ {p q:List Iv},Cn p→Cn q→(∀ x,inP p x↔inP q x)→p=q
 | [],[],_,_,_=>rfl
 | [],j::q,_,hq,h=>absurd ((h _).2 (gj.2 (.inl ⟨Nat.le_refl _,(hq.tail.2.2).bd⟩))) (lL _)
 | i::p,[],hp,_,h=>absurd ((h _).1 (gj.2 (.inl ⟨Nat.le_refl _,(hp.tail.2.2).bd⟩))) (lL _)
 | i::p,j::q,hp,hq,h=>by
  have wi:=hp.tail.2.2
  have wj:=hq.tail.2.2
  have bi:=wi.bd
  have bj:=wj.bd
  have f1:kB (aI j)≤kB (aI i):=by
   rcases gj.1 ((h _).1 (gj.2 (.inl ⟨Nat.le_refl _,bi⟩))) with h1 | h1
   ·exact h1.1
   ·have:=hq.behind h1; omega
  have f2:kB (aI i)≤kB (aI j):=by
   rcases gj.1 ((h _).2 (gj.2 (.inl ⟨Nat.le_refl _,bj⟩))) with h1 | h1
   ·exact h1.1
   ·have:=hp.behind h1; omega
  have l1:¬ kB (aG i) < kB (aG j):=fun hl=>by
   rcases gj.1 ((h (kB (aG i))).2 (gj.2 (.inl ⟨by omega,hl⟩))) with h1 | h1
   ·have:=h1.2; omega
   ·have:=hp.behind h1; omega
  have l2:¬ kB (aG j) < kB (aG i):=fun hl=>by
   rcases gj.1 ((h (kB (aG j))).1 (gj.2 (.inl ⟨by omega,hl⟩))) with h1 | h1
   ·have:=h1.2; omega
   ·have:=hq.behind h1; omega
  have e:i=j:=iv_ext wi.1 wj.1 og og
  subst e
  rw [Cn.ext hp.tail.1 hq.tail.1 fun x=>⟨fun hx=>?_,fun hx=>?_⟩]
  ·rcases gj.1 ((h x).1 (gj.2 (.inr hx))) with h1 | h1
   ·have:=hp.behind hx; have:=h1.2; omega
   ·exact h1
  ·rcases gj.1 ((h x).2 (gj.2 (.inr hx))) with h1 | h1
   ·have:=hq.behind hx; have:=h1.2; omega
   ·exact h1
def sm (c:Ev→Int):List Ev→Nat→Int
 | [],_=>0
 | e::r,x=>(if kB e.at_≤x then c e else 0)+sm c r x
def rs (c:Ev→Int):List Ev→Int
 | []=>0
 | e::r=>c e+rs c r
variable {c:Ev→Int}
theorem w7 (a b:List Ev) (x:Nat):sm c (a++b) x=sm c a x+sm c b x:=by
 induction a with
 | nil=>show sm c b x=0+sm c b x; omega
 | cons e a ih=>show (if kB e.at_≤x then c e else 0)+sm c (a++b) x=(if kB e.at_≤x then c e else 0)+sm c a x+sm c b x; rw [ih]; omega
theorem uI (a b:List Ev):rs c (a++b)=rs c a+rs c b:=by
 induction a with
 | nil=>show rs c b=0+rs c b; omega
 | cons e a ih=>show c e+rs c (a++b)=c e+rs c a+rs c b; rw [ih]; omega
theorem w3 {a b:List Ev} (h:a.Perm b) (x:Nat):sm c a x=sm c b x:=by
 induction h with
 | nil=>rfl
 | cons e _ ih=>show _+_=_+_; rw [ih]
 | swap e e' l=>show (if kB e'.at_≤x then c e' else 0)+((if kB e.at_≤x then c e else 0)+sm c l x)=(if kB e.at_≤x then c e else 0)+((if kB e'.at_≤x then c e' else 0)+sm c l x); omega
 | trans _ _ h1 h2=>rw [h1,h2]
theorem xj {a b:List Ev} (h:a.Perm b):rs c a=rs c b:=by
 induction h with
 | nil=>rfl
 | cons e _ ih=>show _+_=_+_; rw [ih]
 | swap e e' l=>show c e'+(c e+rs c l)=c e+(c e'+rs c l); omega
 | trans _ _ h1 h2=>rw [h1,h2]
theorem w8 {a:List Ev} {x:Nat} (h:∀ e∈a,kB e.at_≤x):sm c a x=rs c a:=by
 induction a with
 | nil=>rfl
 | cons e a ih =>
  show (if kB e.at_≤x then c e else 0)+sm c a x=c e+rs c a
  rw [if_pos (h e (List.mem_cons_self ..)),ih fun e' he=>h e' (List.mem_cons_of_mem _ he)]
theorem tN {a:List Ev} {x:Nat} (h:∀ e∈a,x < kB e.at_):sm c a x=0:=by
 induction a with
 | nil=>rfl
 | cons e a ih =>
  show (if kB e.at_≤x then c e else 0)+sm c a x=0
  rw [if_neg (by have:=h e (List.mem_cons_self ..); omega),ih fun e' he=>h e' (List.mem_cons_of_mem _ he)]
  rfl
def far:List Ev→Nat
 | []=>0
 | e::r=>kB e.at_+far r
theorem ye:∀ {a:List Ev},∀ e∈a,kB e.at_≤far a
 | [],_,h=>by cases h
 | e'::a,e,h=>by
  rcases List.mem_cons.1 h with rfl | h
  ·exact Nat.le_add_right _ _
  ·exact Nat.le_trans (ye e h) (Nat.le_add_left _ _)
def nxe (e:Ev):List Ev→Bool
 | []=>false
 | e2::_=>cm e.at_ e2.at_ == 0
def swS (keep:Bool→Bool→Bool):List Ev→List Iv→Bool→Bd→Int→Int→List Iv
 | [],out,_,_,_,_=>out
 | e::r,out,in_,fr,n0,n1 =>
  bif (nxe e r) then swS keep r out in_ fr (n0+e.b0) (n1+e.b1)
  else bif (keep (decide (n0+e.b0>0)) (decide (n1+e.b1>0))) && !in_ then swS keep r out (keep (decide (n0+e.b0>0)) (decide (n1+e.b1>0))) e.at_ (n0+e.b0) (n1+e.b1)
  else bif (!(keep (decide (n0+e.b0>0)) (decide (n1+e.b1>0)))) && in_ then swS keep r (out++[bD fr e.at_]) (keep (decide (n0+e.b0>0)) (decide (n1+e.b1>0))) fr (n0+e.b0) (n1+e.b1)
  else swS keep r out (keep (decide (n0+e.b0>0)) (decide (n1+e.b1>0))) fr (n0+e.b0) (n1+e.b1)
theorem eqz {a b:Bd} (ha:Tm a.at_) (hb:Tm b.at_):(cm a b == 0)=decide (kB a=kB b):=by
 rw [cmpB ha hb]
 by_cases e:kB a=kB b
 ·rw [e,dW,decide_eq_true rfl]; rfl
 ·rw [decide_eq_false e]
  exact beq_eq_false_iff_ne.2 fun h=>e (sgn_zero.1 h)
theorem not_in {out:List Iv} {y x:Nat} (h:∀ i∈out,kB (aG i) < y) (hx:y≤x):¬ inP out x:=fun ⟨i,hi,_,h2⟩=>by have:=h i hi; omega
def b0c:Ev→Int:=fun e=>e.b0
def b1c:Ev→Int:=fun e=>e.b1
theorem wR {keep:Bool→Bool→Bool} {S:List Ev} (hT:∀ e∈S,Tm e.at_.at_) (hs:S.Pairwise fun a b=>kB a.at_≤kB b.at_) (hend:keep (decide (rs b0c S>0)) (decide (rs b1c S>0))=false) :
 ∀ (s p:List Ev) (out:List Iv) (in_:Bool) (fr:Bd) (n0 n1:Int),S=p++s→n0=rs b0c p→n1=rs b1c p →
  (∀ x,(∀ e∈s,x < kB e.at_)→((inP out x∨(in_=true∧kB fr≤x))↔keep (decide (sm b0c S x>0)) (decide (sm b1c S x>0))=true)) →
  Cn out→(∀ i∈out,∀ e∈s,kB (aG i) < kB e.at_) →
  (in_=true→Tm fr.at_∧(∀ e∈s,kB fr < kB e.at_)∧∀ i∈out,kB (aG i) < kB fr) →
  Cn (swS keep s out in_ fr n0 n1)∧∀ x,inP (swS keep s out in_ fr n0 n1) x↔keep (decide (sm b0c S x>0)) (decide (sm b1c S x>0))=true
 | [],p,out,in_,fr,n0,n1,hS,_,_,hR,hC,_,hI=>by
  refine ⟨hC,fun x=>?_⟩
  show inP out x↔_
  cases in_ with
  | false =>
   rw [← hR x (fun _ h=>by cases h)]
   exact ⟨.inl,fun h=>h.resolve_right fun h=>by cases h.1⟩
  | true =>
   exfalso
   have h1:=(hR (kB fr+far S) (fun _ h=>by cases h)).1 (.inr ⟨rfl,Nat.le_add_right _ _⟩)
   rw [w8 (fun e he=>Nat.le_trans (ye e he) (Nat.le_add_left _ _)),w8 (fun e he=>Nat.le_trans (ye e he) (Nat.le_add_left _ _)),hend] at h1
   cases h1
 | e::r,p,out,in_,fr,n0,n1,hS,hn0,hn1,hR,hC,hL,hI=>by
  have hS2:S=(p++[e])++r:=by rw [hS]; simp
  have hTe:=hT e (by rw [hS]; simp)
  have hm0:n0+e.b0=rs b0c (p++[e]):=by rw [uI,hn0]; show _=rs b0c p+(e.b0+0); omega
  have hm1:n1+e.b1=rs b1c (p++[e]):=by rw [uI,hn1]; show _=rs b1c p+(e.b1+0); omega
  have hs2:=hs
  rw [hS2,List.pairwise_append] at hs2
  have hpe:∀ e'∈p++[e],kB e'.at_≤kB e.at_:=fun e' he'=>by
   have h1:=hs
   rw [hS,List.pairwise_append] at h1
   rcases List.mem_append.1 he' with h2 | h2
   ·exact h1.2.2 e' h2 e (List.mem_cons_self ..)
   ·rw [List.mem_singleton.1 h2]; exact Nat.le_refl _
  have her:∀ e'∈r,kB e.at_≤kB e'.at_:=fun e' he'=>hs2.2.2 e (by simp) e' he'
  cases ht:nxe e r with
  | true =>
   obtain ⟨e2,r2,rfl⟩:∃ e2 r2,r=e2::r2:=by
    cases r with
    | nil=>cases ht
    | cons e2 r2=>exact ⟨e2,r2,rfl⟩
   have hk:kB e.at_=kB e2.at_:=by
    have ht:(cm e.at_ e2.at_ == 0)=true:=ht
    rw [eqz hTe (hT e2 (by rw [hS]; simp)),decide_eq_true_eq] at ht
    exact ht
   rw [show swS keep (e::e2::r2) out in_ fr n0 n1=swS keep (e2::r2) out in_ fr (n0+e.b0) (n1+e.b1) by
    show (bif (nxe e (e2::r2)) then _ else _)=_
    rw [ht]; rfl]
   refine wR hT hs hend (e2::r2) (p++[e]) out in_ fr _ _ hS2 hm0 hm1 (fun x hx=>hR x fun e' he'=>?_) hC (fun i hi e' he'=>hL i hi e' (List.mem_cons_of_mem _ he')) (fun hin=>⟨(hI hin).1,fun e' he'=>(hI hin).2.1 e' (List.mem_cons_of_mem _ he'),(hI hin).2.2⟩)
   rcases List.mem_cons.1 he' with rfl | he'
   ·rw [hk]; exact hx e2 (List.mem_cons_self ..)
   ·exact hx e' he'
  | false =>
   have hgt:∀ e'∈r,kB e.at_ < kB e'.at_:=fun e' he'=>by
    cases r with
    | nil=>cases he'
    | cons e2 r2 =>
     have ht:(cm e.at_ e2.at_ == 0)=false:=ht
     rw [eqz hTe (hT e2 (by rw [hS]; simp)),decide_eq_false_iff_not] at ht
     have h1:=her e2 (List.mem_cons_self ..)
     have h2:=List.pairwise_cons.1 hs2.2.1
     rcases List.mem_cons.1 he' with rfl | he'
     ·omega
     ·have:=h2.1 e' he'; omega
   have hK:∀ x,kB e.at_≤x→(∀ e'∈r,x < kB e'.at_)→keep (decide (sm b0c S x>0)) (decide (sm b1c S x>0))=keep (decide (n0+e.b0>0)) (decide (n1+e.b1>0)):=fun x h1 h2=>by
    have q:∀ c:Ev→Int,sm c S x=rs c (p++[e]):=fun c=>by
     rw [hS2,w7,w8 (fun e' he'=>Nat.le_trans (hpe e' he') h1),tN h2]; omega
    rw [q,q,hm0,hm1]
   have hlow:∀ x,x < kB e.at_→∀ e'∈e::r,x < kB e'.at_:=fun x hx e' he'=>by
    rcases List.mem_cons.1 he' with rfl | he'
    ·exact hx
    ·have:=her e' he'; omega
   have hLe:∀ i∈out,kB (aG i) < kB e.at_:=fun i hi=>hL i hi e (List.mem_cons_self ..)
   have hLr:∀ i∈out,∀ e'∈r,kB (aG i) < kB e'.at_:=fun i hi e' he'=>hL i hi e' (List.mem_cons_of_mem _ he')
   have ih:=fun out in_ fr=>wR hT hs hend r (p++[e]) out in_ fr _ _ hS2 hm0 hm1
   rw [show swS keep (e::r) out in_ fr n0 n1=bif (keep (decide (n0+e.b0>0)) (decide (n1+e.b1>0))) && !in_ then swS keep r out (keep (decide (n0+e.b0>0)) (decide (n1+e.b1>0))) e.at_ (n0+e.b0) (n1+e.b1)
    else bif (!(keep (decide (n0+e.b0>0)) (decide (n1+e.b1>0)))) && in_ then swS keep r (out++[bD fr e.at_]) (keep (decide (n0+e.b0>0)) (decide (n1+e.b1>0))) fr (n0+e.b0) (n1+e.b1)
    else swS keep r out (keep (decide (n0+e.b0>0)) (decide (n1+e.b1>0))) fr (n0+e.b0) (n1+e.b1) by
    show (bif (nxe e r) then _ else _)=_
    rw [ht]; rfl]
   revert hK
   generalize keep (decide (n0+e.b0>0)) (decide (n1+e.b1>0))=now
   intro hK
   have hall:∀ x,x < kB e.at_∨kB e.at_≤x:=fun x=>Nat.lt_or_ge x _
   cases now with
   | true =>
    cases in_ with
    | false =>
     refine ih out true e.at_ (fun x hx=>?_) hC hLr (fun _=>⟨hTe,hgt,hLe⟩)
     rcases hall x with h1 | h1
     ·rw [← hR x (hlow x h1)]
      exact ⟨fun h=>.inl (h.resolve_right fun h=>by have:=h.2; omega),fun h=>.inl (h.resolve_right fun h=>by cases h.1)⟩
     ·rw [hK x h1 hx]
      exact ⟨fun _=>rfl,fun _=>.inr ⟨rfl,h1⟩⟩
    | true =>
     obtain ⟨i1,i2,i3⟩:=hI rfl
     refine ih out true fr (fun x hx=>?_) hC hLr (fun _=>⟨i1,fun e' he'=>i2 e' (List.mem_cons_of_mem _ he'),i3⟩)
     rcases hall x with h1 | h1
     ·exact hR x (hlow x h1)
     ·rw [hK x h1 hx]
      have:=i2 e (List.mem_cons_self ..)
      exact ⟨fun _=>rfl,fun _=>.inr ⟨rfl,by omega⟩⟩
   | false =>
    cases in_ with
    | false =>
     refine ih out false fr (fun x hx=>?_) hC hLr (fun h=>by cases h)
     rcases hall x with h1 | h1
     ·exact hR x (hlow x h1)
     ·rw [hK x h1 hx]
      exact ⟨fun h=>h.elim (fun h=>absurd h (not_in hLe h1)) fun h=>(by cases h.1),fun h=>(by cases h)⟩
    | true =>
     obtain ⟨i1,i2,i3⟩:=hI rfl
     have hfe:=i2 e (List.mem_cons_self ..)
     have hin:∀ x,inI (bD fr e.at_) x↔(kB fr≤x∧x < kB e.at_):=fun x=>by unfold inI; rw [rW,ur]
     have hw:Wv (bD fr e.at_):=by
      refine wv_of ⟨?_,?_⟩ (by rw [rW,ur]; exact hfe)
      ·unfold bD; exact i1
      ·unfold bD; exact hTe
     refine ih (out++[bD fr e.at_]) false fr (fun x hx=>?_) ⟨fun i hi=>?_,?_⟩ (fun i hi e' he'=>?_) (fun h=>by cases h)
     ·have hx2:inP (out++[bD fr e.at_]) x↔inP out x∨(kB fr≤x∧x < kB e.at_):=by
       rw [inP_app,gj,hin]
       exact ⟨fun h=>h.imp id fun h=>h.resolve_right (lL x),fun h=>h.imp id .inl⟩
      rw [hx2]
      rcases hall x with h1 | h1
      ·rw [← hR x (hlow x h1)]
       constructor
       ·rintro ((h | h) | h)
        ·exact .inl h
        ·exact .inr ⟨rfl,h.1⟩
        ·cases h.1
       ·rintro (h | h)
        ·exact .inl (.inl h)
        ·exact .inl (.inr ⟨h.2,h1⟩)
      ·rw [hK x h1 hx]
       constructor
       ·rintro ((h | h) | h)
        ·exact absurd h (not_in hLe h1)
        ·omega
        ·cases h.1
       ·intro h; cases h
     ·rcases List.mem_append.1 hi with hi | hi
      ·exact hC.wv i hi
      ·rw [List.mem_singleton.1 hi]; exact hw
     ·rw [List.pairwise_append]
      refine ⟨hC.sep,List.pairwise_singleton _ _,fun i hi j hj=>?_⟩
      rw [List.mem_singleton.1 hj,rW]
      exact i3 i hi
     ·rcases List.mem_append.1 hi with hi | hi
      ·exact hLr i hi e' he'
      ·rw [List.mem_singleton.1 hi,ur]
       exact hgt e' he'
def evA (a:List Iv):List Ev:=a.flatMap fun i=>[⟨aI i,1,0⟩,⟨aG i,-1,0⟩]
def evB (b:List Iv):List Ev:=b.flatMap fun i=>[⟨aI i,0,1⟩,⟨aG i,0,-1⟩]
theorem vh {i:Iv} (h:Wv i) (x:Nat):(if kB (aI i)≤x then (1:Int) else 0)+((if kB (aG i)≤x then (-1:Int) else 0))=if kB (aI i)≤x∧x < kB (aG i) then 1 else 0:=by
 have:=h.bd
 by_cases h1:kB (aI i)≤x
 ·by_cases h2:kB (aG i)≤x
  ·rw [if_pos h1,if_pos h2,if_neg og]; rfl
  ·rw [if_pos h1,if_neg h2,if_pos ⟨h1,by omega⟩]; rfl
 ·rw [if_neg h1,if_neg og,if_neg og]; rfl
theorem evA_sm:∀ {a:List Iv},(∀ i∈a,Wv i)→∀ x,0≤sm b0c (evA a) x∧(0 < sm b0c (evA a) x↔inP a x)
 | [],_,x=>⟨Int.le_refl _,⟨fun h=>absurd h (Int.lt_irrefl _),fun h=>absurd h (lL x)⟩⟩
 | i::a,h,x=>by
  obtain ⟨h1,h2⟩:=evA_sm (a:=a) (fun j hj=>h j (List.mem_cons_of_mem _ hj)) x
  have e:sm b0c (evA (i::a)) x=((if kB (aI i)≤x then (1:Int) else 0)+((if kB (aG i)≤x then (-1:Int) else 0)))+sm b0c (evA a) x:=by
   show (if kB (aI i)≤x then (1:Int) else 0)+((if kB (aG i)≤x then (-1:Int) else 0)+sm b0c (evA a) x)=_
   omega
  rw [e,vh (h i (List.mem_cons_self ..)),gj,← h2]
  unfold inI
  by_cases h3:kB (aI i)≤x∧x < kB (aG i)
  ·rw [if_pos h3]; exact ⟨by omega,⟨fun _=>.inl h3,fun _=>by omega⟩⟩
  ·rw [if_neg h3]; exact ⟨by omega,⟨fun h4=>.inr og,fun h4=>by have:=h4.resolve_left h3; omega⟩⟩
theorem evB_sm:∀ {a:List Iv},(∀ i∈a,Wv i)→∀ x,0≤sm b1c (evB a) x∧(0 < sm b1c (evB a) x↔inP a x)
 | [],_,x=>⟨Int.le_refl _,⟨fun h=>absurd h (Int.lt_irrefl _),fun h=>absurd h (lL x)⟩⟩
 | i::a,h,x=>by
  obtain ⟨h1,h2⟩:=evB_sm (a:=a) (fun j hj=>h j (List.mem_cons_of_mem _ hj)) x
  have e:sm b1c (evB (i::a)) x=((if kB (aI i)≤x then (1:Int) else 0)+((if kB (aG i)≤x then (-1:Int) else 0)))+sm b1c (evB a) x:=by
   show (if kB (aI i)≤x then (1:Int) else 0)+((if kB (aG i)≤x then (-1:Int) else 0)+sm b1c (evB a) x)=_
   omega
  rw [e,vh (h i (List.mem_cons_self ..)),gj,← h2]
  unfold inI
  by_cases h3:kB (aI i)≤x∧x < kB (aG i)
  ·rw [if_pos h3]; exact ⟨by omega,⟨fun _=>.inl h3,fun _=>by omega⟩⟩
  ·rw [if_neg h3]; exact ⟨by omega,⟨fun h4=>.inr og,fun h4=>by have:=h4.resolve_left h3; omega⟩⟩
theorem evA_0:∀ (a:List Iv) (x:Nat),sm b1c (evA a) x=0∧rs b1c (evA a)=0∧rs b0c (evA a)=0
 | [],_=>⟨rfl,rfl,rfl⟩
 | i::a,x=>by
  obtain ⟨h1,h2,h3⟩:=evA_0 a x
  refine ⟨?_,?_,?_⟩
  ·show (if kB (aI i)≤x then (0:Int) else 0)+((if kB (aG i)≤x then (0:Int) else 0)+sm b1c (evA a) x)=0
   rw [h1]; simp
  ·show (0:Int)+(0+rs b1c (evA a))=0
   rw [h2]; rfl
  ·show (1:Int)+(-1+rs b0c (evA a))=0
   rw [h3]; rfl
theorem evB_0:∀ (a:List Iv) (x:Nat),sm b0c (evB a) x=0∧rs b0c (evB a)=0∧rs b1c (evB a)=0
 | [],_=>⟨rfl,rfl,rfl⟩
 | i::a,x=>by
  obtain ⟨h1,h2,h3⟩:=evB_0 a x
  refine ⟨?_,?_,?_⟩
  ·show (if kB (aI i)≤x then (0:Int) else 0)+((if kB (aG i)≤x then (0:Int) else 0)+sm b0c (evB a) x)=0
   rw [h1]; simp
  ·show (0:Int)+(0+rs b0c (evB a))=0
   rw [h2]; rfl
  ·show (1:Int)+(-1+rs b1c (evB a))=0
   rw [h3]; rfl
theorem yh {a b:List Iv} (ha:∀ i∈a,Wv i) (hb:∀ i∈b,Wv i):∀ e∈evA a++evB b,Tm e.at_.at_:=fun e he=>by
 rcases List.mem_append.1 he with he | he
 ·obtain ⟨i,hi,he⟩:=List.mem_flatMap.1 he
  have:=(ha i hi).1
  rcases List.mem_cons.1 he with rfl | he
  ·show Tm (aI i).at_; rw [pf]; exact this.1
  ·rw [List.mem_singleton.1 he]; show Tm (aG i).at_; rw [pl]; exact this.2
 ·obtain ⟨i,hi,he⟩:=List.mem_flatMap.1 he
  have:=(hb i hi).1
  rcases List.mem_cons.1 he with rfl | he
  ·show Tm (aI i).at_; rw [pf]; exact this.1
  ·rw [List.mem_singleton.1 he]; show Tm (aG i).at_; rw [pl]; exact this.2
open Classical in
theorem pv {keep:Bool→Bool→Bool} (hk:keep false false=false) {a b:List Iv} (ha:∀ i∈a,Wv i) (hb:∀ i∈b,Wv i) {S:List Ev} (hp:S.Perm (evA a++evB b)) (hs:S.Pairwise fun a b=>kB a.at_≤kB b.at_) (fr:Bd) :
 Cn (swS keep S [] false fr 0 0)∧∀ x,inP (swS keep S [] false fr 0 0) x↔keep (decide (inP a x)) (decide (inP b x))=true:=by
 have hT:∀ e∈S,Tm e.at_.at_:=fun e he=>yh ha hb e (hp.mem_iff.1 he)
 have h0:∀ x,sm b0c S x=sm b0c (evA a) x:=fun x=>by rw [w3 hp,w7,(evB_0 b x).1]; omega
 have h1:∀ x,sm b1c S x=sm b1c (evB b) x:=fun x=>by rw [w3 hp,w7,(evA_0 a x).1]; omega
 have hend:keep (decide (rs b0c S>0)) (decide (rs b1c S>0))=false:=by
  rw [xj hp,xj hp,uI,uI,(evA_0 a 0).2.2,(evB_0 b 0).2.1,(evA_0 a 0).2.1,(evB_0 b 0).2.2]
  exact hk
 have hx:∀ x,keep (decide (sm b0c S x>0)) (decide (sm b1c S x>0))=keep (decide (inP a x)) (decide (inP b x)):=fun x=>by
  rw [h0,h1,decide_eq_decide.2 (evA_sm ha x).2,decide_eq_decide.2 (evB_sm hb x).2]
 obtain ⟨r1,r2⟩:=wR hT hs hend S [] [] false fr 0 0 rfl rfl rfl (fun x hx2=>by
  rw [tN hx2,tN hx2]
  constructor
  ·rintro (h | h)
   ·exact absurd h (lL x)
   ·cases h.1
  ·intro h
   rw [show decide ((0:Int)>0)=false from rfl,hk] at h; cases h) Cn.nil (fun _ h=>by cases h) (fun h=>by cases h)
 exact ⟨r1,fun x=>by rw [r2,hx]⟩
end Go.Sx
namespace Go.Proofs
open Go.Shelf
def Tryz.laysSort_ren:Go.Shelf.Ren:=⟨fun | 6=>245 | 15=>285 | 14=>284 | 28=>296 | 29=>255 | 20=>297 | 21=>298 | 22=>299 | 23=>300 | 24=>301 | 25=>302 | 26=>303 | 27=>304 | 46=>317 | 47=>318 | 48=>319 | 49=>320 | 50=>321 | 57=>334 | n=>n,fun | 22=>317 | 24=>321 | 25=>323 | 3=>3 | 39=>276 | 0=>0 | 53=>341 | 55=>254 | 4=>4 | 46=>375 | 45=>374 | 50=>72 | 5=>5 | 9=>9 | 66=>393 | 70=>397 | 76=>415 | 77=>416 | n=>n,fun | n=>n⟩
theorem Tryz.laysSort:Go.Proofs.SlLaysF0.n6 Tryz.prog Tryz.laysSort_ren:={
 mixed:=by kernel_rfl
 f6:=⟨Tryz.f245.name,by decide,Tryz.func245.trans (congrArg some (by kernel_rfl))⟩
 f14:=⟨Tryz.f284.name,by decide,Tryz.func284.trans (congrArg some (by kernel_rfl))⟩
 f15:=Tryz.func285.trans (congrArg some (by kernel_rfl))
 f20:=⟨Tryz.f297.name,by decide,Tryz.func297.trans (congrArg some (by kernel_rfl))⟩
 f21:=⟨Tryz.f298.name,by decide,Tryz.func298.trans (congrArg some (by kernel_rfl))⟩
 f22:=⟨Tryz.f299.name,by decide,Tryz.func299.trans (congrArg some (by kernel_rfl))⟩
 f23:=⟨Tryz.f300.name,by decide,Tryz.func300.trans (congrArg some (by kernel_rfl))⟩
 f24:=⟨Tryz.f301.name,by decide,Tryz.func301.trans (congrArg some (by kernel_rfl))⟩
 f25:=⟨Tryz.f302.name,by decide,Tryz.func302.trans (congrArg some (by kernel_rfl))⟩
 f26:=⟨Tryz.f303.name,by decide,Tryz.func303.trans (congrArg some (by kernel_rfl))⟩
 f27:=⟨Tryz.f304.name,by decide,Tryz.func304.trans (congrArg some (by kernel_rfl))⟩
 f28:=Tryz.func296.trans (congrArg some (by kernel_rfl))
 f29:=Tryz.func255.trans (congrArg some (by kernel_rfl))
 f46:=⟨Tryz.f317.name,by decide,Tryz.func317.trans (congrArg some (by kernel_rfl))⟩
 f47:=Tryz.func318.trans (congrArg some (by kernel_rfl))
 f48:=Tryz.func319.trans (congrArg some (by kernel_rfl))
 f49:=⟨Tryz.f320.name,by decide,Tryz.func320.trans (congrArg some (by kernel_rfl))⟩
 f50:=⟨Tryz.f321.name,by decide,Tryz.func321.trans (congrArg some (by kernel_rfl))⟩
 f57:=⟨Tryz.f334.name,by decide,Tryz.func334.trans (congrArg some (by kernel_rfl))⟩
 t0:=Tryz.underlying0
 a0:=Tryz.isAgg0
 z0:=Tryz.sizeOf0
 v0:=Tryz.zeroValue0
 t3:=Tryz.underlying3
 a3:=Tryz.isAgg3
 z3:=Tryz.sizeOf3
 v3:=Tryz.zeroValue3
 t4:=Tryz.underlying4
 a4:=Tryz.isAgg4
 z4:=Tryz.sizeOf4
 v4:=Tryz.zeroValue4
 t5:=Tryz.underlying5
 a5:=Tryz.isAgg5
 z5:=Tryz.sizeOf5
 v5:=Tryz.zeroValue5
 t9:=Tryz.underlying9
 a9:=Tryz.isAgg9
 z9:=Tryz.sizeOf9
 v9:=Tryz.zeroValue9
 t22:=nn317
 a22:=Tryz.isAgg317
 z22:=Tryz.sizeOf317
 v22:=Tryz.zeroValue317
 t25:=Tryz.underlying323
 a25:=Tryz.isAgg323
 z25:=Tryz.sizeOf323
 v25:=Tryz.zeroValue323
 t39:=Tryz.underlying276
 a39:=Tryz.isAgg276
 z39:=Tryz.sizeOf276
 v39:=Tryz.zeroValue276
 t45:=Tryz.underlying374
 a45:=Tryz.isAgg374
 z45:=Tryz.sizeOf374
 v45:=Tryz.zeroValue374
 t46:=Tryz.underlying375
 a46:=Tryz.isAgg375
 z46:=Tryz.sizeOf375
 v46:=Tryz.zeroValue375
 t50:=Tryz.underlying72
 a50:=Tryz.isAgg72
 z50:=Tryz.sizeOf72
 v50:=Tryz.zeroValue72
 t53:=Tryz.underlying341
 a53:=Tryz.isAgg341
 z53:=Tryz.sizeOf341
 v53:=Tryz.zeroValue341
 t55:=Tryz.underlying254
 a55:=Tryz.isAgg254
 z55:=Tryz.sizeOf254
 v55:=Tryz.zeroValue254
 t66:=Tryz.underlying393
 a66:=Tryz.isAgg393
 z66:=Tryz.sizeOf393
 v66:=Tryz.zeroValue393
 t70:=Tryz.underlying397
 a70:=Tryz.isAgg397
 z70:=Tryz.sizeOf397
 v70:=Tryz.zeroValue397
 t76:=Tryz.underlying415
 a76:=Tryz.isAgg415
 z76:=Tryz.sizeOf415
 v76:=Tryz.zeroValue415
 t77:=Tryz.underlying416
 a77:=Tryz.isAgg416
 z77:=Tryz.sizeOf416
 v77:=Tryz.zeroValue416 }
end Go.Proofs
namespace Go.Sx
open Go Go.RowKit Go.Proofs Go.Sort Go.Lib
structure TE where
 e:Ev
 tm:Tm e.at_.at_
theorem vA:Tm (default:GR):=⟨0,false,by decide,by unfold ae bh bB ah; rfl⟩
instance zi49:Inhabited TE:=⟨⟨default,vA⟩⟩
def cfT (x y:TE):Int:=bZ x.1 y.1
theorem vm (x y:TE):ltOf cfT x y=decide (kB x.1.at_ < kB y.1.at_):=by
 unfold ltOf cfT bZ
 rw [cmpB x.2 y.2]
 exact decide_eq_decide.2 lB
theorem yN:SWO (ltOf cfT) where
 irrefl x:=by rw [vm]; exact decide_eq_false (Nat.lt_irrefl _)
 trans x y z h1 h2:=by
  rw [vm,decide_eq_true_eq] at *
  omega
 ntrans x y z h1 h2:=by
  rw [vm,decide_eq_false_iff_not] at *
  omega
def r6 (d:Array TE):Array TE:=pdq (ltOf cfT) d 0 d.size (Lib.bitLen d.size) true true
theorem wU (d:Array TE):(r6 d).size=d.size∧(r6 d).toList.Perm d.toList∧(r6 d).toList.Pairwise fun a b=>kB a.1.at_≤kB b.1.at_:=by
 have h:=pdq_sorts (ltOf cfT) yN d 0 d.size (Lib.bitLen d.size) true true (Nat.zero_le _) (Nat.le_refl _) (Or.inl rfl)
 obtain ⟨⟨h1,_,h3⟩,h4⟩:=h
 have h1:(r6 d).size=d.size:=h1
 refine ⟨h1,?_,?_⟩
 ·have h3:((r6 d).extract 0 d.size).toList.Perm (d.extract 0 d.size).toList:=h3
  rw [← h1] at h3
  rw [h1] at h3
  have e1:(r6 d).extract 0 d.size=r6 d:=by rw [← h1]; simp
  have e2:d.extract 0 d.size=d:=by simp
  rwa [e1,e2] at h3
 ·rw [List.pairwise_iff_getElem]
  intro i j hi hj hij
  have hi':i < (r6 d).size:=by simpa using hi
  have hj':j < (r6 d).size:=by simpa using hj
  have h5:=h4 i j (Nat.zero_le _) hij (by rw [← h1]; exact hj')
  have h5:ltOf cfT (r6 d)[j]! (r6 d)[i]! = false:=h5
  rw [getElem!_pos (r6 d) i hi',getElem!_pos (r6 d) j hj',vm,decide_eq_false_iff_not] at h5
  show kB ((r6 d).toList[i]).1.at_≤kB ((r6 d).toList[j]).1.at_
  simp only [Array.getElem_toList]
  omega
theorem allTm {x:GR} (h:x∈allI):Tm x:=by
 unfold allI at h
 rcases List.mem_append.1 h with h | h
 ·unfold insX at h
  simp only [List.mem_cons,List.not_mem_nil,or_false] at h
  rcases h with h | h | h | h
  ·exact ⟨-1,false,.inl rfl,h⟩
  ·exact ⟨-1,true,.inl rfl,h⟩
  ·exact ⟨1000,false,.inr (.inl rfl),h⟩
  ·exact ⟨1000,true,.inr (.inl rfl),h⟩
 ·unfold sW at h
  obtain ⟨i,hi,h⟩:=List.mem_flatMap.1 h
  have hi:=List.mem_range.1 hi
  rw [Nat.zero_add] at h
  rcases List.mem_cons.1 h with h | h
  ·exact ⟨i,false,.inr (.inr og),h⟩
  ·exact ⟨i,true,.inr (.inr og),List.mem_singleton.1 h⟩
def tmB (x:GR):Bool:=allI.any fun y=>decide (x=y)
theorem wG {x:GR}:tmB x=true↔Tm x:=by
 unfold tmB
 rw [List.any_eq_true]
 constructor
 ·rintro ⟨y,hy,e⟩
  rw [of_decide_eq_true e]; exact allTm hy
 ·intro h
  exact ⟨_,h.all,decide_eq_true rfl⟩
def tmL (l:List Ev):Bool:=l.all fun e=>tmB e.at_.at_
theorem jF {l:List Ev}:tmL l=true↔∀ e∈l,Tm e.at_.at_:=by
 unfold tmL
 rw [List.all_eq_true]
 exact ⟨fun h e he=>wG.1 (h e he),fun h e he=>wG.2 (h e he)⟩
def evT (l:List Ev) (h:tmL l=true):Array TE:=(l.attach.map fun e=>(⟨e.1,jF.1 h e.1 e.2⟩:TE)).toArray
theorem yi (l:List Ev) (h:tmL l=true):(evT l h).toList.map (fun x=>x.1)=l:=by
 show ((l.attach.map fun e=>(⟨e.1,jF.1 h e.1 e.2⟩:TE)).map fun x=>x.1)=l
 rw [List.map_map]
 exact List.attach_map_subtype_val l
theorem evT_size (l:List Ev) (h:tmL l=true):(evT l h).size=l.length:=by unfold evT; simp
def aY (l:List Ev):List Ev :=
 if h:tmL l=true then (if l.length≤12 then cb l else (r6 (evT l h)).toList.map fun x=>x.1) else l
theorem small_is (l:List Ev):cb l=l6 bZ l 0 l.length:=by
 unfold cb ca
 show bG l 0 l.length=_
 unfold bG
 rfl
theorem qQ {x:Ev} (hx:Tm x.at_.at_):∀ {r:List Ev},(∀ e∈r,Tm e.at_.at_)→(r.Pairwise fun a b=>kB b.at_≤kB a.at_)→(jD bZ x r).Pairwise fun a b=>kB b.at_≤kB a.at_
 | [],_,_=>List.pairwise_singleton _ _
 | y::q,h,hp=>by
  have hy:=h y (List.mem_cons_self ..)
  have hp2:=List.pairwise_cons.1 hp
  have hc:bZ x y < 0↔kB x.at_ < kB y.at_:=by
   unfold bZ
   rw [cmpB hx hy,lB]
  unfold jD
  by_cases hl:bZ x y < 0
  ·rw [if_pos hl,List.pairwise_cons]
   refine ⟨fun z hz=>?_,qQ hx (fun e he=>h e (List.mem_cons_of_mem _ he)) hp2.2⟩
   rcases List.mem_cons.1 ((jO (c:=bZ) x q).mem_iff.1 hz) with rfl | hz
   ·have:=hc.1 hl; omega
   ·exact hp2.1 z hz
  ·rw [if_neg hl,List.pairwise_cons]
   have hxy:kB y.at_≤kB x.at_:=Nat.le_of_not_lt fun h2=>hl (hc.2 h2)
   refine ⟨fun z hz=>?_,hp⟩
   rcases List.mem_cons.1 hz with rfl | hz
   ·exact hxy
   ·exact Nat.le_trans (hp2.1 z hz) hxy
theorem sT:∀ {s r:List Ev},(∀ e∈s,Tm e.at_.at_)→(∀ e∈r,Tm e.at_.at_)→(r.Pairwise fun a b=>kB b.at_≤kB a.at_)→(qx bZ r s).Pairwise fun a b=>kB b.at_≤kB a.at_
 | [],_,_,_,hp=>hp
 | x::s,r,h1,h2,hp=>by
  have hx:=h1 x (List.mem_cons_self ..)
  show (qx bZ (jD bZ x r) s).Pairwise _
  exact sT (fun e he=>h1 e (List.mem_cons_of_mem _ he)) (fun e he=>by
   rcases List.mem_cons.1 ((jO (c:=bZ) x r).mem_iff.1 he) with rfl | he
   ·exact hx
   ·exact h2 e he) (qQ hx h2 hp)
theorem q7 {l:List Ev} (h:∀ e∈l,Tm e.at_.at_):(aY l).Perm l∧(aY l).Pairwise fun a b=>kB a.at_≤kB b.at_:=by
 unfold aY
 rw [dif_pos (jF.2 h)]
 by_cases hl:l.length≤12
 ·rw [if_pos hl,small_is]
  refine ⟨mP l,?_⟩
  rw [rI,List.pairwise_reverse]
  exact sT h (fun _ h=>by cases h) List.Pairwise.nil
 ·rw [if_neg hl]
  obtain ⟨_,h2,h3⟩:=wU (evT l (jF.2 h))
  refine ⟨?_,by rw [List.pairwise_map]; exact h3⟩
  have:=h2.map (fun x:TE=>x.1)
  rwa [yi] at this
theorem kI (l:List Ev):(aY l).Perm l:=by
 by_cases h:∀ e∈l,Tm e.at_.at_
 ·exact (q7 h).1
 ·unfold aY; rw [dif_neg (fun h2=>h (jF.1 h2))]
theorem lc (x:List Ev) (xv:Value) (hl:x.length≤1000) (hT:∀ e∈x,Tm e.at_.at_) (zx:All (SzE 30) x) (w0 w:World) (B:Asn) (hbel:Below w0.heap.size w0 w) (hsep:∃ Z_,Sep w0.heap.size w [.row (α:=Ev) 321 xv x,B] Z_):Calls Tryz.prog 245 #[xv,(.func (.func 246) #[] #[])] w (RetY w0 (fun v=>v=.tuple #[]∧(All (SzE 30) (aY x)∧(aY x).length=x.length)) (fun v=>[.row (α:=Ev) 321 xv (aY x),B])):=by
 have hprop:All (SzE 30) (aY x)∧(aY x).length=x.length:=⟨fun e he=>zx e ((kI x).mem_iff.1 he),(kI x).length_eq⟩
 by_cases h12:x.length≤12
 ·have e:aY x=cb x:=by unfold aY; rw [dif_pos (jF.2 hT),if_pos h12]
  rw [e]
  exact jW x xv h12 zx w0 w B hbel hsep
 ·have e:aY x=(r6 (evT x (jF.2 hT))).toList.map (fun x=>x.1):=by unfold aY; rw [dif_pos (jF.2 hT),if_neg h12]
  have hsz:=evT_size x (jF.2 hT)
  have hsep2:∃ Z_,Sep w0.heap.size w [.row (α:=Ev) 321 xv ((evT x (jF.2 hT)).toList.map (fun x=>x.1)),B] Z_:=by rw [yi]; exact hsep
  have hk:=sort_own (P:=Tryz.prog) (val:=fun x:TE=>x.1) (F:=245) (more:=[(.func (.func 246) #[] #[])]) (D':=r6 (evT x (jF.2 hT))) og (wU _).1 hprop hbel hsep2 fun blk cap hv hH hhi hlo=>by
   have eg:∀ args w,(callFunc 246 args).run Tryz.prog w=.ok (.enter 246 args) w:=Tryz.call246
   have hc:=lays_of (P:=Tryz.prog) (val:=fun x:TE=>x.1) (g:=246) (cf:=cfT) (blk:=blk) (size:=(evT x (jF.2 hT)).size) (w:=w) (p:=fun x y=>(-1≤(bZ x.1 y.1)∧(bZ x.1 y.1)≤1)) (fun a b w=>jK a.1 b.1 (cr (nW a.2) DC) (cr (nW b.2) DC) w)
   have:=AnyQ.slices_SortFunc_eq (P:=Tryz.prog) Tryz.laysSort 12 Tryz.isAgg321 zz321 (fun x:TE=>Cod.enc x.1) (fun x=>Cod.len x.1) (fun x=>Cod.one x.1) cfT yN 246 #[] blk 0 cap (evT x (jF.2 hT)) w eg hc hH hhi og
   rw [hv]
   exact this
  rw [← e] at hk
  exact hk
def EvB (e:Ev):Prop:=(-1≤e.b0∧e.b0≤1)∧(-1≤e.b1∧e.b1≤1)
theorem evb_nil:∀ e∈([]:List Ev),EvB e:=fun _ h=>by cases h
theorem yg {l:List Ev} (h:∀ e∈l,EvB e) {x y:Bd} {a b c d:Int} (h1:(-1≤a∧a≤1)∧(-1≤b∧b≤1)) (h2:(-1≤c∧c≤1)∧(-1≤d∧d≤1)):∀ e∈l++[⟨x,a,b⟩,⟨y,c,d⟩],EvB e:=fun e he=>by
 rcases List.mem_append.1 he with he | he
 ·exact h e he
 ·rcases List.mem_cons.1 he with rfl | he
  ·exact h1
  ·rw [List.mem_singleton.1 he]; exact h2
theorem evb_gt {l:List Ev} (h:∀ e∈l,EvB e) (i:Nat):EvB (gt (aY l) i):=by
 have hp:=kI l
 by_cases hi:i < (aY l).length
 ·have:gt (aY l) i∈aY l:=by
   unfold gt
   rw [List.getD_eq_getElem?_getD,List.getElem?_eq_getElem hi]
   exact List.getElem_mem _
  exact h _ (hp.mem_iff.1 this)
 ·have:gt (aY l) i=default:=by unfold gt; rw [List.getD_eq_getElem?_getD,List.getElem?_eq_none og]; rfl
  rw [this]; exact ⟨⟨by decide,by decide⟩,⟨by decide,by decide⟩⟩
theorem oJ {β:Type} [Inhabited β] {A:List β} {i:Nat} (h:i < A.length):A.take (i+1)=A.take i++[gt A i]:=by
 rw [fL h,List.take_append_getElem]
theorem evA_next {l:List Ev} {a:List Iv} {x:Nat} (h:l=evA (a.take x)) (hx:x < a.length):l++[⟨aI (gt a x),1,0⟩,⟨aG (gt a x),-1,0⟩]=evA (a.take (x+1)):=by
 rw [h,oJ hx]; simp [evA]
theorem evB_next {l:List Ev} {a b:List Iv} {x:Nat} (h:l=evA a++evB (b.take x)) (hx:x < b.length):l++[⟨aI (gt b x),0,1⟩,⟨aG (gt b x),0,-1⟩]=evA a++evB (b.take (x+1)):=by
 rw [h,oJ hx]; simp [evB]
end Go.Sx
namespace Go.Sx
open Go Go.RowKit Go.Proofs
attribute [local irreducible] Code.wp wpList Rd gW ObS Ent
attribute [local irreducible] an bB ah aO az c8
theorem sh:SlT Tryz.prog 103 86 20 216 (zc [2,2,2,2,1,2,2,2,2,1,1,1]):=⟨Tryz.underlying103,Tryz.t86,_,Tryz.type86,rfl,rfl,rfl,rfl,rfl,by decide,by decide⟩
theorem uD:SlT Tryz.prog 317 321 12 128 (zc [2,2,2,2,1,1,3,3]):=⟨nn317,Tryz.t321,_,Tryz.type321,rfl,rfl,rfl,rfl,rfl,by decide,by decide⟩
theorem slt318:SlT Tryz.prog 318 103 1 24 [.slice none 0 0]:=⟨Tryz.underlying318,Tryz.t103,_,Tryz.type103,rfl,rfl,rfl,rfl,rfl,by decide,by decide⟩
theorem sw_step {kp:Bool→Bool→Bool} {S:List Ev} {i:Nat} (out:List Iv) (in_:Bool) (fr:Bd) (n0 n1:Int) (h:i < S.length):swS kp (S.drop i) out in_ fr n0 n1 =
 bif (decide (((i+1:Nat):Int) < (S.length:Int)) && (cm (gt S i).at_ (gt S (i+1)).at_ == 0)) then swS kp (S.drop (i+1)) out in_ fr (n0+(gt S i).b0) (n1+(gt S i).b1)
 else bif (kp (decide (n0+(gt S i).b0>0)) (decide (n1+(gt S i).b1>0)) && !in_) then swS kp (S.drop (i+1)) out (kp (decide (n0+(gt S i).b0>0)) (decide (n1+(gt S i).b1>0))) (gt S i).at_ (n0+(gt S i).b0) (n1+(gt S i).b1)
 else bif (!(kp (decide (n0+(gt S i).b0>0)) (decide (n1+(gt S i).b1>0))) && in_) then swS kp (S.drop (i+1)) (out++[bD fr (gt S i).at_]) (kp (decide (n0+(gt S i).b0>0)) (decide (n1+(gt S i).b1>0))) fr (n0+(gt S i).b0) (n1+(gt S i).b1)
 else swS kp (S.drop (i+1)) out (kp (decide (n0+(gt S i).b0>0)) (decide (n1+(gt S i).b1>0))) fr (n0+(gt S i).b0) (n1+(gt S i).b1):=by
 have e:nxe (gt S i) (S.drop (i+1))=(decide (((i+1:Nat):Int) < (S.length:Int)) && (cm (gt S i).at_ (gt S (i+1)).at_ == 0)):=by
  by_cases h2:i+1 < S.length
  ·rw [List.drop_eq_getElem_cons h2,← fL h2,decide_eq_true (by omega:((i+1:Nat):Int) < (S.length:Int))]; rfl
  ·rw [List.drop_of_length_le og,decide_eq_false (by omega:¬ ((i+1:Nat):Int) < (S.length:Int))]; rfl
 rw [← e,List.drop_eq_getElem_cons h,← fL h]; rfl
def z_ev:Ev:=⟨⟨⟨oQ,oQ,false⟩,false⟩,0,0⟩
instance zi50 (x:Bd):Bu Tryz.prog 321 [0] [vW x] (vE (⟨x,0,0⟩:Ev)):=Bu.of tB rfl rfl
def eL (kp:Bool→Bool→Bool) (a b:List Iv):List Iv:=swS kp (aY (evA a++evB b)) [] false z_ev.at_ 0 0
theorem j8 (kp:Bool→Bool→Bool) (kid:FuncId) (hkc:∀ args w,(callFunc kid args).run Tryz.prog w=.ok (.enter kid args) w) (hkp:∀ (p q:Bool) (w:World),Calls Tryz.prog kid #[.bool p,.bool q] w (RetP w (.bool (kp p q)) True)) (a:List Iv) (av:Value) (b:List Iv) (bv:Value) (hla:a.length≤200) (hlb:b.length≤200) (hwa:∀ i∈a,Wv i) (hwb:∀ i∈b,Wv i) (za:All (SzV 30) a) (zb:All (SzV 30) b) (w0:World) (hav:View w0 av a) (hbv:View w0 bv b):Calls Tryz.prog 180 #[av,bv,(.func (.func kid) #[] #[])] w0 (RetR w0 86 (eL kp a b) (All (SzV 30) (eL kp a b)∧(eL kp a b).length≤2*a.length+2*b.length)):=by
 refine enter (N:=127) Tryz.func180 rfl rfl ?_; intro ac h
 haveI:On:=⟨trivial⟩
 have hlena:=hav.len
 have hlenb:=hbv.len
 have sa:=hav.sl
 have sb:=hbv.sl
 refine gz h <| (W) ?_; clear h ac; intro ac wo h
 refine bsl h slt318 rfl rfl (SL.is hav.sl) (SL.is hbv.sl) rfl ?_; clear h ac wo; intro b1 ac wo h
 refine rd0 h (il Tryz.runUnderlying318 rfl (n:=2) ⟨_,_,rfl⟩) rfl ?_; clear h ac wo; intro ac wo h
 refine gz h <| (W) ?_; clear h ac wo; intro ac wo h
 have hNN:NN (.slice (some ⟨b1,0,none⟩) 2 2) 2:=⟨_,_,_,rfl⟩
 refine r7 2 ?_
 refine gz h <| (ai) ?_ ?_ <;> clear h ac wo <;> intro ac wo h hc1
 ·
  clear hc1
  refine gz h <| (W) ?_; clear h ac wo; intro ac wo h
  replace h:=h.nilRow (α:=Ev) 321
  refine wp_loop_ghost (fun n_ a_ w_=>∃ (l:List Ev) (x:Nat) (lv:Value),(a.length - x < n_)∧(x≤a.length)∧(All (SzE 30) l)∧(l.length=2*x)∧(∀ e∈l,EvB e)∧(l=evA (a.take x))∧St w0 127 [(2,(.func (.func kid) #[] #[])),(7,lv),(8,(.int .i64 0)),(23,(.slice (some ⟨b1,0,none⟩) 2 2)),(24,(.int .i64 2)),(25,(.int .i64 0)),(30,av),(31,iN a.length),(32,iN x)] [.row (α:=Ev) 321 lv l,.blk b1 [av,bv] 103] a_ w_) (a.length+1) ⟨[],0,(.slice none 0 0),og,og,All.nil,rfl,evb_nil,rfl,h.rs⟩ ?_
  clear h ac wo; rintro n1 ac wo ⟨l1,x,lv1,hm1,hx32,zl1,hll1,hlb1,hle1,h⟩
  obtain ⟨m1,rfl⟩:∃ m,n1=m+1:=⟨n1 - 1,by omega⟩
  refine gz h <| (ai) ?_ ?_ <;> clear h ac wo <;> intro ac wo h hc1
  ·
   have hd1:=of_decide_eq_true hc1
   have zx:=All.gt za (SzV_d _) (i:=x)
   have s2:SzE 30 ⟨aI (gt a x),1,0⟩:=au (gQ (gt a x) zx w0)
   have s3:SzE 30 ⟨aG (gt a x),-1,0⟩:=au (ig (gt a x) zx w0)
   refine gz h <| (xa) fun b2=>(W) ?_; clear h ac wo; intro ac wo h
   replace h:=h.emps 2
   refine im mixed [dw (vV (gt a x)) [0],dv (vW (aI (gt a x))),dv (vE ⟨aI (gt a x),0,0⟩),dw (vV (gt a x)) [0],dv (vW (aG (gt a x))),dv (vE ⟨aG (gt a x),0,0⟩),y8 6 3,y8 7 4,dw _ [3],dw _ [4]] [ge _,ge _,ge _,⟨.emp,[(6,.one 6 fun v=>.blk (ch v) (cE z_ev) 321),(8,.one 6 fun v=>.blk (ch v) (cE ⟨aI (gt a x),0,0⟩) 321)]⟩,⟨.emp,[(7,.one 7 fun v=>.blk (ch v) (cE z_ev) 321),(9,.one 7 fun v=>.blk (ch v) (cE ⟨aG (gt a x),0,0⟩) 321)]⟩] h rfl (by kernel_rfl) ⟨oA obA,oA fun _=>kD (fB (ck Tryz.call136 rfl) (kk (gQ (gt a x) zx))),oA fun _=>bg (bN tB rfl rfl rfl),oA obA,oA fun _=>kD (fB (ck Tryz.call137 rfl) (kk (ig (gt a x) zx))),oA fun _=>bg (bN tB rfl rfl rfl),fun _ _=>ob_al 3 rfl (fun _=>rfl),fun _ _=>ob_al 4 rfl (fun _=>rfl),fun ξ hφ=>ob_sa (u:=vE ⟨aI (gt a x),0,0⟩) 3 (hφ 6 rfl) rfl rfl rfl rfl rfl rfl rfl,fun ξ hφ=>ob_sa (u:=vE ⟨aG (gt a x),0,0⟩) 4 (hφ 7 rfl) rfl rfl rfl rfl rfl rfl rfl,trivial⟩ ?_
   clear h ac wo; intro ξ ac wo hφ h
   obtain ⟨b3,hb6⟩:∃ b,ξ 6=ptr b 0:=hφ 6
   obtain ⟨b4,hb7⟩:∃ b,ξ 7=ptr b 0:=hφ 7
   replace h:St w0 127 [(2,(.func (.func kid) #[] #[])),(7,lv1),(8,(.int .i64 0)),(23,(.slice (some ⟨b1,0,none⟩) 2 2)),(24,(.int .i64 2)),(25,(.int .i64 0)),(30,av),(31,iN a.length),(32,iN x),(12,ξ 6),(13,ξ 7)] [.row (α:=Ev) 321 lv1 l1,.blk b1 [av,bv] 103,.blk (ch (ξ 6)) (cE ⟨aI (gt a x),0,0⟩) 321,.blk (ch (ξ 7)) (cE ⟨aG (gt a x),0,0⟩) 321] ac wo:=(h.pick [1,2,3,4] DC).sub ⟨rfl,rfl,rfl,rfl,rfl,rfl,rfl,rfl,rfl,rfl,rfl,trivial⟩
   rw [hb6,hb7] at h
   clear hb6 hb7 hφ ξ
   refine gz h <| (xs 2 (cE ⟨aI (gt a x),1,0⟩)) <| (xs 3 (cE ⟨aG (gt a x),-1,0⟩)) <| (W) ?_; clear h ac wo; intro ac wo h
   refine nw h (cA (α:=Ev) (xs:=[.tmp 49,.tmp 50]) (vs:=[vE ⟨aI (gt a x),1,0⟩,vE ⟨aG (gt a x),-1,0⟩]) [⟨aI (gt a x),1,0⟩,⟨aG (gt a x),-1,0⟩] uD rfl rfl rfl DC) rfl ?_; clear h ac wo; intro sv4 ac wo _ h
   refine on2 h 1 0 rfl rfl (fe (xs:=l1) (ys:=[⟨aI (gt a x),1,0⟩,⟨aG (gt a x),-1,0⟩]) uD (fun w hs=>(row_view hs 0 rfl)) rfl rfl og) rfl ?_; clear h ac wo; intro sv5 ac wo _ h
   exact (nx h) fun _ _ h=>by exact ⟨m1,og,_,x+1,sv5,og,og,All.app zl1 (All.cons s2 (All.cons s3 All.nil)),by rw [List.length_append]; show _+2=_; omega,yg hlb1 ⟨⟨by decide,by decide⟩,⟨by decide,by decide⟩⟩ ⟨⟨by decide,by decide⟩,⟨by decide,by decide⟩⟩,evA_next hle1 og,h.re [0,2]⟩
  ·
   have hd1:=of_decide_eq_false hc1
   obtain rfl:x=a.length:=by omega
   rw [List.take_length] at hle1
   refine gz h <| (ai) ?_ ?_ <;> clear h ac wo <;> intro ac wo h hc2
   ·
    clear hc2
    refine gz h <| (W) ?_; clear h ac wo; intro ac wo h
    refine wp_loop_ghost (fun n_ a_ w_=>∃ (l:List Ev) (x:Nat) (lv:Value),(b.length - x < n_)∧(x≤b.length)∧(All (SzE 30) l)∧(l.length=2*a.length+2*x)∧(∀ e∈l,EvB e)∧(l=evA a++evB (b.take x))∧St w0 127 [(2,(.func (.func kid) #[] #[])),(7,lv),(8,(.int .i64 1)),(23,(.slice (some ⟨b1,0,none⟩) 2 2)),(24,(.int .i64 2)),(25,(.int .i64 1)),(30,bv),(31,iN b.length),(32,iN x)] [.row (α:=Ev) 321 lv l,.blk b1 [av,bv] 103] a_ w_) (b.length+1) ⟨l1,0,lv1,og,og,zl1,by omega,hlb1,by rw [hle1]; simp [evB],h.rs⟩ ?_
    clear h ac wo; rintro n2 ac wo ⟨l2,x,lv2,hm1,hx32,zl2,hll2,hlb2,hle2,h⟩
    obtain ⟨m1,rfl⟩:∃ m,n2=m+1:=⟨n2 - 1,by omega⟩
    refine gz h <| (ai) ?_ ?_ <;> clear h ac wo <;> intro ac wo h hc1
    ·
     have hd1:=of_decide_eq_true hc1
     have zx:=All.gt zb (SzV_d _) (i:=x)
     have s2:SzE 30 ⟨aI (gt b x),0,1⟩:=au (gQ (gt b x) zx w0)
     have s3:SzE 30 ⟨aG (gt b x),0,-1⟩:=au (ig (gt b x) zx w0)
     refine gz h <| (xa) fun b2=>(W) ?_; clear h ac wo; intro ac wo h
     replace h:=h.emps 2
     refine im mixed [dw (vV (gt b x)) [0],dv (vW (aI (gt b x))),dv (vE ⟨aI (gt b x),0,0⟩),dw (vV (gt b x)) [0],dv (vW (aG (gt b x))),dv (vE ⟨aG (gt b x),0,0⟩),y8 6 3,y8 7 4,dw _ [3],dw _ [4]] [ge _,ge _,ge _,⟨.emp,[(6,.one 6 fun v=>.blk (ch v) (cE z_ev) 321),(8,.one 6 fun v=>.blk (ch v) (cE ⟨aI (gt b x),0,0⟩) 321)]⟩,⟨.emp,[(7,.one 7 fun v=>.blk (ch v) (cE z_ev) 321),(9,.one 7 fun v=>.blk (ch v) (cE ⟨aG (gt b x),0,0⟩) 321)]⟩] h rfl (by kernel_rfl) ⟨oA obA,oA fun _=>kD (fB (ck Tryz.call136 rfl) (kk (gQ (gt b x) zx))),oA fun _=>bg (bN tB rfl rfl rfl),oA obA,oA fun _=>kD (fB (ck Tryz.call137 rfl) (kk (ig (gt b x) zx))),oA fun _=>bg (bN tB rfl rfl rfl),fun _ _=>ob_al 3 rfl (fun _=>rfl),fun _ _=>ob_al 4 rfl (fun _=>rfl),fun ξ hφ=>ob_sa (u:=vE ⟨aI (gt b x),0,0⟩) 3 (hφ 6 rfl) rfl rfl rfl rfl rfl rfl rfl,fun ξ hφ=>ob_sa (u:=vE ⟨aG (gt b x),0,0⟩) 4 (hφ 7 rfl) rfl rfl rfl rfl rfl rfl rfl,trivial⟩ ?_
     clear h ac wo; intro ξ ac wo hφ h
     obtain ⟨b3,hb6⟩:∃ b,ξ 6=ptr b 0:=hφ 6
     obtain ⟨b4,hb7⟩:∃ b,ξ 7=ptr b 0:=hφ 7
     replace h:St w0 127 [(2,(.func (.func kid) #[] #[])),(7,lv2),(8,(.int .i64 1)),(23,(.slice (some ⟨b1,0,none⟩) 2 2)),(24,(.int .i64 2)),(25,(.int .i64 1)),(30,bv),(31,iN b.length),(32,iN x),(12,ξ 6),(13,ξ 7)] [.row (α:=Ev) 321 lv2 l2,.blk b1 [av,bv] 103,.blk (ch (ξ 6)) (cE ⟨aI (gt b x),0,0⟩) 321,.blk (ch (ξ 7)) (cE ⟨aG (gt b x),0,0⟩) 321] ac wo:=(h.pick [1,2,3,4] DC).sub ⟨rfl,rfl,rfl,rfl,rfl,rfl,rfl,rfl,rfl,rfl,rfl,trivial⟩
     rw [hb6,hb7] at h
     clear hb6 hb7 hφ ξ
     refine gz h <| (xs 2 (cE ⟨aI (gt b x),0,1⟩)) <| (xs 3 (cE ⟨aG (gt b x),0,-1⟩)) <| (W) ?_; clear h ac wo; intro ac wo h
     refine nw h (cA (α:=Ev) (xs:=[.tmp 49,.tmp 50]) (vs:=[vE ⟨aI (gt b x),0,1⟩,vE ⟨aG (gt b x),0,-1⟩]) [⟨aI (gt b x),0,1⟩,⟨aG (gt b x),0,-1⟩] uD rfl rfl rfl DC) rfl ?_; clear h ac wo; intro sv4 ac wo _ h
     refine on2 h 1 0 rfl rfl (fe (xs:=l2) (ys:=[⟨aI (gt b x),0,1⟩,⟨aG (gt b x),0,-1⟩]) uD (fun w hs=>(row_view hs 0 rfl)) rfl rfl og) rfl ?_; clear h ac wo; intro sv5 ac wo _ h
     exact (nx h) fun _ _ h=>by exact ⟨m1,og,_,x+1,sv5,og,og,All.app zl2 (All.cons s2 (All.cons s3 All.nil)),by rw [List.length_append]; show _+2=_; omega,yg hlb2 ⟨⟨by decide,by decide⟩,⟨by decide,by decide⟩⟩ ⟨⟨by decide,by decide⟩,⟨by decide,by decide⟩⟩,evB_next hle2 og,h.re [0,2]⟩
    ·
     have hd1:=of_decide_eq_false hc1
     obtain rfl:x=b.length:=by omega
     rw [List.take_length] at hle2
     refine gz h <| (ai) ?_ ?_ <;> clear h ac wo <;> intro ac wo h hc3
     ·cases hc3
     ·
      refine gz h <| (W) ?_; clear h ac wo; intro ac wo h
      have hT2:∀ e∈l2,Tm e.at_.at_:=by rw [hle2]; exact yh hwa hwb
      refine on1 h 0 rfl (ji (vs:=[lv2,(.func (.func 246) #[] #[])]) (A:=fun v=>[.row (α:=Ev) 321 lv2 (aY l2)]) (ck Tryz.call245 rfl) (fun w_ B_ hB_ hS_=>lc l2 lv2 og hT2 zl2 w0 w_ B_ hB_ hS_)) rfl ?_; clear h ac wo; intro vc ac wo s11 h
      have zS:=s11.2.1
      have hS:(aY l2).length=2*a.length+2*b.length:=by rw [(kI l2).length_eq,hll2]
      have bS:=evb_gt hlb2
      clear s11
      obtain ⟨R,hR⟩:∃ R,eL kp a b=R:=⟨_,rfl⟩
      have hR2:=hR
      unfold eL at hR2
      rw [← hle2] at hR2
      rw [hR]
      generalize aY l2=S at h zS hS bS hR2
      refine gz h <| (xa) fun b8=>(xa) fun b9=>(W) ?_; clear h ac wo; intro ac wo h
      replace h:=h.nilRow (α:=Iv) 86
      refine wp_loop_ghost (fun n_ a_ w_=>∃ (out:List Iv) (i_:Bool) (i:Nat) (fr:Bd) (n:I2) (outv:Value),(S.length - i < n_)∧(i≤S.length)∧(swS kp (S.drop i) out i_ fr n.n0 n.n1=R)∧(All (SzV 30) out)∧(SzW 30 fr)∧(out.length≤i)∧((-(i:Int)≤n.n0∧n.n0≤(i:Int))∧(-(i:Int)≤n.n1∧n.n1≤(i:Int)))∧St w0 127 [(2,(.func (.func kid) #[] #[])),(7,lv2),(14,outv),(15,ptr b8 0),(16,ptr b9 0),(17,.bool i_),(57,lv2),(58,iN S.length),(59,iN i)] [.row (α:=Iv) 86 outv out,.blk b9 (cW fr) 206,.blk b8 (cJ n) 319,.row (α:=Ev) 321 lv2 S] a_ w_) (S.length+1) ⟨[],false,0,z_ev.at_,⟨0,0⟩,(.slice none 0 0),og,og,hR2,All.nil,SzW_d _,og,by decide,h.re [0,1,2,3]⟩ ?_
      clear h ac wo; rintro n3 ac wo ⟨out,i_,i,fr,n,outv,hm3,hi,hR3,zo,zf,lo,hn,h⟩
      obtain ⟨m3,rfl⟩:∃ m,n3=m+1:=⟨n3 - 1,by omega⟩
      obtain ⟨⟨he1,he2⟩,⟨he3,he4⟩⟩:=bS i
      refine gz h <| (ai) ?_ ?_ <;> clear h ac wo <;> intro ac wo h hc4
      ·
       have hd4:=of_decide_eq_true hc4
       rw [sw_step _ _ _ _ _ og] at hR3
       have zi:=All.gt zS (tG _) (i:=i)
       have zj:=All.gt zS (tG _) (i:=i+1)
       refine gz h <| (xa) fun b10=>(dr1 (H:=[ge _,ge _,ge _,⟨.blk b8 (cJ n) 319,[(13,.con (.blk b8 (cJ ⟨n.n0+(gt S i).b0,n.n1⟩) 319)),(15,.con (.blk b8 (cJ ⟨n.n0+(gt S i).b0,n.n1+(gt S i).b1⟩) 319))]⟩,ge _]) (hob:=oE)) <| (dr0 (hob:=(oG (by exact fun hg=>iF (gt S i).at_ (gt S (i+1)).at_ zi zj)) <| oE)) <| (ai) ?_ ?_ <;> clear h ac wo <;> intro ac wo h hc5
       ·
        rw [hc5,cond_true] at hR3
        exact (nx h) fun _ _ h=>by exact ⟨m3,og,out,i_,i+1,fr,⟨n.n0+(gt S i).b0,n.n1+(gt S i).b1⟩,outv,og,og,hR3,zo,zf,og,⟨⟨by simp only; omega,by simp only; omega⟩,⟨by simp only; omega,by simp only; omega⟩⟩,h.re [1,2,3,4]⟩
       ·
        rw [hc5,cond_false] at hR3
        haveI:Cf Tryz.prog kid:=⟨hkc⟩
        refine gz h <| (xk (hkp (decide (n.n0+(gt S i).b0>0)) (decide (n.n1+(gt S i).b1>0)))) <| (ai) ?_ ?_ <;> clear h ac wo <;> intro ac wo h hc6
        ·
         rw [hc6,cond_true] at hR3
         exact (nx h) fun _ _ h=>by exact ⟨m3,og,out,(kp (decide (n.n0+(gt S i).b0>0)) (decide (n.n1+(gt S i).b1>0))),i+1,(gt S i).at_,⟨n.n0+(gt S i).b0,n.n1+(gt S i).b1⟩,outv,og,og,hR3,zo,zi,og,⟨⟨by simp only; omega,by simp only; omega⟩,⟨by simp only; omega,by simp only; omega⟩⟩,h.re [1,2,3,4]⟩
        ·
         rw [hc6,cond_false] at hR3
         refine gz h <| (ai) ?_ ?_ <;> clear h ac wo <;> intro ac wo h hc7
         ·
          rw [hc7,cond_true] at hR3
          have s16:=au (lq fr (gt S i).at_ zf zi w0)
          refine gz h <| (xk (lq fr (gt S i).at_ zf zi)) <| (W) ?_; clear h ac wo; intro ac wo h
          refine nw h (cA (α:=Iv) (xs:=[.tmp 121]) (vs:=[vV (bD fr (gt S i).at_)]) [bD fr (gt S i).at_] sh rfl rfl rfl DC) rfl ?_; clear h ac wo; intro sv17 ac wo _ h
          refine on2 h 2 0 rfl rfl (fe (xs:=out) (ys:=[bD fr (gt S i).at_]) sh (fun w hs=>(row_view hs 0 rfl)) rfl rfl og) rfl ?_; clear h ac wo; intro sv18 ac wo _ h
          exact (nx h) fun _ _ h=>by exact ⟨m3,og,_,(kp (decide (n.n0+(gt S i).b0>0)) (decide (n.n1+(gt S i).b1>0))),i+1,fr,⟨n.n0+(gt S i).b0,n.n1+(gt S i).b1⟩,_,og,og,hR3,(All.app zo (All.cons s16 All.nil)),zf,og,⟨⟨by simp only; omega,by simp only; omega⟩,⟨by simp only; omega,by simp only; omega⟩⟩,h.re [0,3,4,5]⟩
         ·
          rw [hc7,cond_false] at hR3
          exact (nx h) fun _ _ h=>by exact ⟨m3,og,out,(kp (decide (n.n0+(gt S i).b0>0)) (decide (n.n1+(gt S i).b1>0))),i+1,fr,⟨n.n0+(gt S i).b0,n.n1+(gt S i).b1⟩,outv,og,og,hR3,zo,zf,og,⟨⟨by simp only; omega,by simp only; omega⟩,⟨by simp only; omega,by simp only; omega⟩⟩,h.re [1,2,3,4]⟩
      ·
       have hd4:=of_decide_eq_false hc4
       rw [List.drop_of_length_le og] at hR3
       have e:out=R:=hR3
       exact (rx h) fun _ _ h=>(by rw [← e]; exact h.retR 0 rfl ⟨zo,by omega⟩)
   ·cases hc2
 ·cases hc1
attribute [irreducible] eL
def fJ (a:List Iv) (b:List Iv):(List Iv):=eL dF a b
theorem ln (a:List Iv) (av:Value) (b:List Iv) (bv:Value) (hla:a.length≤200) (hlb:b.length≤200) (hwa:∀ i∈a,Wv i) (hwb:∀ i∈b,Wv i) (za:All (SzV 30) a) (zb:All (SzV 30) b) (w0:World) (hav:View w0 av a) (hbv:View w0 bv b):Calls Tryz.prog 180 #[av,bv,(.func (.func 243) #[] #[])] w0 (RetR w0 86 (fJ a b) (All (SzV 30) (fJ a b)∧(fJ a b).length≤2*a.length+2*b.length)) :=
 j8 dF 243 Tryz.call243 mn a av b bv hla hlb hwa hwb za zb w0 hav hbv
attribute [irreducible] fJ
def dB (a:List Iv) (b:List Iv):(List Iv) :=
 (fJ a b)
theorem nl (a:List Iv) (av:Value) (b:List Iv) (bv:Value) (hla:a.length≤200) (hlb:b.length≤200) (hwa:∀ i∈a,Wv i) (hwb:∀ i∈b,Wv i) (za:All (SzV 30) a) (zb:All (SzV 30) b) (w0:World) (hav:View w0 av a) (hbv:View w0 bv b):Calls Tryz.prog 177 #[av,bv] w0 (RetR w0 86 (dB a b) (All (SzV 30) (dB a b)∧(dB a b).length≤2*a.length+2*b.length)):=by
 refine enter (N:=8) Tryz.func177 rfl rfl ?_; intro ac h
 haveI:On:=⟨trivial⟩
 have hlena:=hav.len
 have hlenb:=hbv.len
 refine gz h <| (W) ?_; clear h; intro _ _ h
 have s1:=RetR.pr ((fun w_ hB_ hS_=>ln a av b bv og og og og za zb w_ (hav.below hB_) (hbv.below hB_)) _ h.bel h.sep)
 have p2:=s1.2
 refine jj (xs:=(fJ a b)) h (ck cc180 rfl) (fun w_ hB_ hS_=>ln a av b bv og og og og za zb w_ (hav.below hB_) (hbv.below hB_)) rfl ?_; clear h; intro sv3 _ _ _ h
 exact (rx h) fun _ _ h=>(by unfold dB; exact h.retR 0 rfl ⟨s1.1,og⟩)
attribute [irreducible] dB
end Go.Sx
namespace Go.Sx
open Go Go.RowKit Go.Proofs
attribute [local irreducible] Code.wp wpList Rd gW ObS Ent
attribute [local irreducible] an bB ah aO az c8
def fH (a:List Iv) (b:List Iv):(List Iv):=eL eI a b
theorem ll (a:List Iv) (av:Value) (b:List Iv) (bv:Value) (hla:a.length≤200) (hlb:b.length≤200) (hwa:∀ i∈a,Wv i) (hwb:∀ i∈b,Wv i) (za:All (SzV 30) a) (zb:All (SzV 30) b) (w0:World) (hav:View w0 av a) (hbv:View w0 bv b):Calls Tryz.prog 180 #[av,bv,(.func (.func 244) #[] #[])] w0 (RetR w0 86 (fH a b) (All (SzV 30) (fH a b)∧(fH a b).length≤2*a.length+2*b.length)) :=
 j8 eI 244 Tryz.call244 oi a av b bv hla hlb hwa hwb za zb w0 hav hbv
attribute [irreducible] fH
def fK (a:List Iv) (b:List Iv):(List Iv) :=
 (fH a b)
theorem ml (a:List Iv) (av:Value) (b:List Iv) (bv:Value) (hla:a.length≤200) (hlb:b.length≤200) (hwa:∀ i∈a,Wv i) (hwb:∀ i∈b,Wv i) (za:All (SzV 30) a) (zb:All (SzV 30) b) (w0:World) (hav:View w0 av a) (hbv:View w0 bv b):Calls Tryz.prog 178 #[av,bv] w0 (RetR w0 86 (fK a b) (All (SzV 30) (fK a b)∧(fK a b).length≤2*a.length+2*b.length)):=by
 refine enter (N:=8) Tryz.func178 rfl rfl ?_; intro ac h
 have hlena:=hav.len
 have hlenb:=hbv.len
 refine gz h <| (W) ?_; clear h; intro _ _ h
 have s1:=RetR.pr ((fun w_ hB_ hS_=>ll a av b bv og og og og za zb w_ (hav.below hB_) (hbv.below hB_)) _ h.bel h.sep)
 have p2:=s1.2
 refine jj (xs:=(fH a b)) h (ck cc180 rfl) (fun w_ hB_ hS_=>ll a av b bv og og og og za zb w_ (hav.below hB_) (hbv.below hB_)) rfl ?_; clear h; intro sv3 _ _ _ h
 exact (rx h) fun _ _ h=>(by unfold fK; exact h.retR 0 rfl ⟨s1.1,og⟩)
attribute [irreducible] fK
def fj (l:List Iv):(List Iv) :=
 (fK l ([]))
theorem lS (l:List Iv) (lv:Value) (hl:l.length≤200) (hw:∀ i∈l,Wv i) (zl:All (SzV 30) l) (w0:World) (hlv:View w0 lv l):Calls Tryz.prog 77 #[lv] w0 (RetR w0 86 (fj l) (All (SzV 30) (fj l)∧(fj l).length≤2*l.length)):=by
 refine enter (N:=5) Tryz.func77 rfl rfl ?_; intro ac h
 have hlenl:=hlv.len
 refine gz h <| (W) ?_; clear h; intro _ _ h
 have s1:=RetR.pr ((fun w_ hB_ hS_=>ml l lv ([]) (.slice none 0 0) og (by simp) og (fun _ h=>by cases h) zl All.nil w_ (hlv.below hB_) View.nilv) _ h.bel h.sep)
 have p2:=s1.2
 refine jj (xs:=(fK l ([]))) h (ck Tryz.call178 rfl) (fun w_ hB_ hS_=>ml l lv ([]) (.slice none 0 0) og (by simp) og (fun _ h=>by cases h) zl All.nil w_ (hlv.below hB_) View.nilv) rfl ?_; clear h; intro sv3 _ _ _ h
 exact (rx h) fun _ _ h=>(by unfold fj; exact h.retR 0 rfl ⟨s1.1,og⟩)
attribute [irreducible] fj
end Go.Sx
namespace Go.Sx
open Go Go.RowKit Go.Proofs
attribute [local irreducible] Code.wp wpList Rd gW ObS Ent
attribute [local irreducible] an bB ah aO az c8
def fI (a:List Iv) (b:List Iv):(List Iv):=eL eJ a b
theorem lm (a:List Iv) (av:Value) (b:List Iv) (bv:Value) (hla:a.length≤200) (hlb:b.length≤200) (hwa:∀ i∈a,Wv i) (hwb:∀ i∈b,Wv i) (za:All (SzV 30) a) (zb:All (SzV 30) b) (w0:World) (hav:View w0 av a) (hbv:View w0 bv b):Calls Tryz.prog 180 #[av,bv,(.func (.func 181) #[] #[])] w0 (RetR w0 86 (fI a b) (All (SzV 30) (fI a b)∧(fI a b).length≤2*a.length+2*b.length)) :=
 j8 eJ 181 Tryz.call181 oo a av b bv hla hlb hwa hwb za zb w0 hav hbv
attribute [irreducible] fI
def dg (a:List Iv) (b:List Iv):(List Iv) :=
 (fI a b)
theorem mm (a:List Iv) (av:Value) (b:List Iv) (bv:Value) (hla:a.length≤200) (hlb:b.length≤200) (hwa:∀ i∈a,Wv i) (hwb:∀ i∈b,Wv i) (za:All (SzV 30) a) (zb:All (SzV 30) b) (w0:World) (hav:View w0 av a) (hbv:View w0 bv b):Calls Tryz.prog 79 #[av,bv] w0 (RetR w0 86 (dg a b) (All (SzV 30) (dg a b)∧(dg a b).length≤2*a.length+2*b.length)):=by
 refine enter (N:=8) Tryz.func79 rfl rfl ?_; intro ac h
 have hlena:=hav.len
 have hlenb:=hbv.len
 refine gz h <| (W) ?_; clear h; intro _ _ h
 have s1:=RetR.pr ((fun w_ hB_ hS_=>lm a av b bv og og og og za zb w_ (hav.below hB_) (hbv.below hB_)) _ h.bel h.sep)
 have p2:=s1.2
 refine jj (xs:=(fI a b)) h (ck cc180 rfl) (fun w_ hB_ hS_=>lm a av b bv og og og og za zb w_ (hav.below hB_) (hbv.below hB_)) rfl ?_; clear h; intro sv3 _ _ _ h
 exact (rx h) fun _ _ h=>(by unfold dg; exact h.retR 0 rfl ⟨s1.1,og⟩)
attribute [irreducible] dg
end Go.Sx
namespace Go.Sx
theorem nY (kp:Bool→Bool→Bool) (a b:List Iv):∃ fr,eL kp a b=swS kp (aY (evA a++evB b)) [] false fr 0 0:=by
 unfold eL
 exact ⟨_,rfl⟩
theorem vH (a b:List Iv):∃ fr,fJ a b=swS dF (aY (evA a++evB b)) [] false fr 0 0:=by
 unfold fJ
 exact nY dF a b
theorem vF (a b:List Iv):∃ fr,fH a b=swS eI (aY (evA a++evB b)) [] false fr 0 0:=by
 unfold fH
 exact nY eI a b
theorem vG (a b:List Iv):∃ fr,fI a b=swS eJ (aY (evA a++evB b)) [] false fr 0 0:=by
 unfold fI
 exact nY eJ a b
theorem keep_I:∀ x y,dF x y=(x && y):=fun x y=>by unfold dF; rfl
theorem keep_U:∀ x y,eI x y=(x || y):=fun x y=>by unfold eI; rfl
theorem keep_M:∀ x y,eJ x y=(x && !y):=fun x y=>by unfold eJ; rfl
section
variable {a b:List Iv}
theorem x3 (ha:∀ i∈a,Wv i) (hb:∀ i∈b,Wv i):Cn (dB a b)∧∀ x,inP (dB a b) x↔inP a x∧inP b x:=by
 classical
 obtain ⟨fr,e⟩:=vH a b
 obtain ⟨h1,h2⟩:=q7 (l:=evA a++evB b) (yh ha hb)
 obtain ⟨h3,h4⟩:=pv (keep:=dF) (by rw [keep_I]; rfl) ha hb h1 h2 fr
 unfold dB
 rw [e]
 refine ⟨h3,fun x=>(h4 x).trans ?_⟩
 rw [keep_I,Bool.and_eq_true,decide_eq_true_eq,decide_eq_true_eq]
theorem wC (ha:∀ i∈a,Wv i) (hb:∀ i∈b,Wv i):Cn (fK a b)∧∀ x,inP (fK a b) x↔inP a x∨inP b x:=by
 classical
 obtain ⟨fr,e⟩:=vF a b
 obtain ⟨h1,h2⟩:=q7 (l:=evA a++evB b) (yh ha hb)
 obtain ⟨h3,h4⟩:=pv (keep:=eI) (by rw [keep_U]; rfl) ha hb h1 h2 fr
 unfold fK
 rw [e]
 refine ⟨h3,fun x=>(h4 x).trans ?_⟩
 rw [keep_U,Bool.or_eq_true,decide_eq_true_eq,decide_eq_true_eq]
theorem sN (ha:∀ i∈a,Wv i) (hb:∀ i∈b,Wv i):Cn (dg a b)∧∀ x,inP (dg a b) x↔inP a x∧¬ inP b x:=by
 classical
 obtain ⟨fr,e⟩:=vG a b
 obtain ⟨h1,h2⟩:=q7 (l:=evA a++evB b) (yh ha hb)
 obtain ⟨h3,h4⟩:=pv (keep:=eJ) (by rw [keep_M]; rfl) ha hb h1 h2 fr
 unfold dg
 rw [e]
 refine ⟨h3,fun x=>(h4 x).trans ?_⟩
 rw [keep_M,Bool.and_eq_true,decide_eq_true_eq,Bool.not_eq_true',decide_eq_false_iff_not]
theorem v7 (ha:∀ i∈a,Wv i):Cn (fj a)∧∀ x,inP (fj a) x↔inP a x:=by
 unfold fj
 obtain ⟨h1,h2⟩:=wC ha (b:=[]) (fun _ h=>by cases h)
 exact ⟨h1,fun x=>(h2 x).trans ⟨fun h=>h.resolve_right (lL x),.inl⟩⟩
theorem Cn.empty (h:Cn a):a.length=0↔∀ x,¬ inP a x:=by
 constructor
 ·intro h x hx
  rw [List.length_eq_zero_iff.1 h] at hx
  exact lL x hx
 ·intro hx
  rw [Cn.ext h Cn.nil fun x=>⟨fun h=>absurd h (hx x),fun h=>absurd h (lL x)⟩]; rfl
theorem wv_sz (h:∀ i∈a,Wv i):All (SzV 30) a:=fun i hi=>⟨cr (nW (h i hi).1.1) og,cr (nW (h i hi).1.2) og⟩
theorem Cn.sz (h:Cn a):All (SzV 30) a:=wv_sz h.wv
theorem Cn.minus (ha:Cn a) (hb:Cn b):Cn (dg a b):=(sN ha.wv hb.wv).1
end
end Go.Sx
