/- A part of the proof of movingnumberChecks. -/
import Derived.Test.YtpfdaoajcnophaaGreatDoorD2
import Derived.Test.YtpfdaoajcnophaaGreatDoorD1
set_option linter.unusedVariables false
set_option linter.unusedSimpArgs false
open Go.Proofs.Tryz renaming call168 → cc168, call132 → cc132, runUnderlying229 → uu229, zeroValue229 → vv229, sizeOf4 → zz4, runUnderlying106 → uu106, zeroValue106 → vv106, runUnderlying317 → uu317, zeroValue317 → vv317, runUnderlying245 → uu245, runUnderlying9 → uu9, runUnderlying5 → uu5, runUnderlying3 → uu3
namespace Go.Sx
open Go Go.RowKit Go.Proofs
set_option maxRecDepth 100000
set_option maxHeartbeats 8000000
theorem s_nw2 {P:Program} {w0:World} {F:List (Nat×Value)} {op:Op} {f:FuncId} {vs:List Value} {φ:Value→Prop} {A:Value→List Asn} (he:Ent P F op f vs) (ct:∀ w,Calls P f vs.toArray w (Ret w φ A)):Step P w0 F [] op φ A :=
 by have h:=qL (P:=P) (w0:=w0) (F:=F) (L:=[]) he fun w _ _=>ct w; simpa using h
attribute [local irreducible] Code.wp wpList Rd Step ObS Ent
attribute [local irreducible] ah ak aq an bN aQ dU vk sW sO qt cC
instance sh132:Sh Tryz.prog 132 (Bt Qd Qd) vBD:=⟨trivial⟩
instance celBD (x:Bt Qd Qd):Cel (vBD x) (cBD x):=⟨rfl⟩
instance dcBD (x:Bt Qd Qd):Dc (cBD x) (vBD x):=⟨rfl⟩
theorem ob_ex {P:Program} {w0:World} {ol:List Oper} {H:List Hist} {ξ:Nat→Value} {G:(Nat→Value)→List (Nat×Value)} {i j j':Nat} {x:Operand} {vs:List Value} {dst:Option Tmp} {ty:TypeId} {pos:String} {aft:Array Edge} (hij:j≠i) (hx:ev (g7 (G ξ) (fB (.extract x 0))) x=some (ξ j')) (he:ξ j'=ξ j) (hv:ξ j=.tuple (kh (ξ j)::vs).toArray) :
 ObS P w0 ol H G ξ i ⟨dst,.extract x 0,ty,pos,aft,none⟩ ⟨.nd (.two i j fun a b=>a=kh b),[]⟩ :=
 ob_n (φ:=.two i j fun a b=>a=kh b) (v:=kh (ξ j)) [] rfl rfl (by show upd ξ i (kh (ξ j)) i=kh (upd ξ i (kh (ξ j)) j); rw [bt,mt hij]) (cY (vs:=kh (ξ j)::vs) (hx.trans (congrArg some (he.trans hv))) rfl)
theorem ob_mv {P:Program} {w0:World} {ol:List Oper} {H:List Hist} {ξ:Nat→Value} {G:(Nat→Value)→List (Nat×Value)} {i j:Nat} {x:Operand} {dst:Option Tmp} {ty:TypeId} {pos:String} {aft:Array Edge} (hij:j≠i) (hx:ev (g7 (G ξ) (fB (.move x))) x=some (ξ j)):ObS P w0 ol H G ξ i ⟨dst,.move x,ty,pos,aft,none⟩ ⟨.nd (.two i j fun a b=>a=b),[]⟩ :=
 ob_n (φ:=.two i j fun a b=>a=b) (v:=ξ j) [] rfl rfl (by show upd ξ i (ξ j) i=upd ξ i (ξ j) j; rw [bt,mt hij]) (ay hx)
def uf (Wl:Nat→List Iv) (k:Nat):List Iv:=(List.range k).flatMap Wl
theorem xy (Wl:Nat→List Iv) (k:Nat):uf Wl (k+1)=uf Wl k++Wl k:=by unfold uf; rw [List.range_succ,List.flatMap_append]; simp
def ua (R:List (Bt Qd Qd)) (k:Nat):List Iv:=(R.take k).map (·.iv)
theorem aap {R:List (Bt Qd Qd)} {k:Nat} (hk:k < R.length):ua R (k+1)=ua R k++[(gt R k).iv]:=by
 unfold ua
 rw [List.take_succ_eq_append_getElem hk,List.map_append,gU hk]; rfl
structure CpH [K:Key] (R:List (Bt Qd Qd)) (n z p:Bool) (Wl:Nat→List Iv) (E:Nat→Int):Prop where
 len:R.length≤60
 sz:∀ k,k < R.length→SzD 40 (gt R k).f∧SzD 40 (gt R k).g∧SzV 30 (gt R k).iv∧Wv (gt R k).iv
 wh:∀ k,k < R.length→∀ w0,Calls Tryz.prog 193 #[vD (cC (gt R k).f (gt R k).g),vV (gt R k).iv,.bool n,.bool z,.bool p] w0 (RetT w0 74 (Wl k) [.int .i64 (E k)] True)
 wv:∀ k,k < R.length→∀ i∈Wl k,Wv i∧SzV 30 i
 yl:∀ k,k≤R.length→(uf Wl k).length≤60
def cpD [K:Key] (R:List (Bt Qd Qd)):List Iv:=bo (bo (ua R R.length))
def cpT [K:Key] (R:List (Bt Qd Qd)) (Wl:Nat→List Iv):List Iv:=dp (cpD R) (bo (bo (uf Wl R.length)))
theorem uK [K:Key] (a b:List (U Qd)) (av bv:Value) (n z p:Bool) (R:List (Bt Qd Qd)) (Wl:Nat→List Iv) (E:Nat→Int) (hla:a.length≤20) (hlb:b.length≤20) (za:All (g6 30) a) (zb:All (g6 30) b) (hR:ef a b=R) (H:CpH R n z p Wl E) (h30:R.length≤30) (hy30:(uf Wl R.length).length≤15) (hr15:R.length≤15) (w0:World) (hav:View w0 av a) (hbv:View w0 bv b) :
 Calls Tryz.prog 158 #[av,bv,.bool n,.bool z,.bool p] w0 (Ret w0 IsBv (fun v=>[.row 74 (bvD v) (cpD R),.row 74 (bvT v) (cpT R Wl)])):=by
 refine enter (N:=61) (args:=[av,bv,.bool n,.bool z,.bool p]) Tryz.func158 rfl rfl ?_; intro ac h
 haveI:On:=⟨trivial⟩
 have hlen:=hav.len
 have hlen2:=hbv.len
 refine gz h <| (xa) fun b1=>(W) ?_; clear h ac; intro ac wo h
 refine iu (xs:=a) h (cz cc168 rfl) (fun w_ hB_ hS_=>lT a av (by omega) w_ (hav.below hB_)) rfl ?_; clear h ac wo; intro au ac wo _ h
 refine gz h <| (W) ?_; clear h ac wo; intro ac wo h
 refine iu (xs:=b) h (cz cc168 rfl) (fun w_ hB_ hS_=>lT b bv (by omega) w_ (hbv.below hB_)) rfl ?_; clear h ac wo; intro bu ac wo _ h
 refine gz h <| (W) ?_; clear h ac wo; intro ac wo h
 refine iu (xs:=R) h (cz Tryz.call78 rfl) (fun w_ hB_ hS_=>by rw [← hR]; exact RetR.top (lO a au b bu (by omega) (by omega) za zb w_ (row_view hS_ 1 rfl) (row_view hS_ 0 rfl))) rfl ?_; clear h ac wo; intro rv1 ac wo _ h
 have hsl:=h.row_sl 0 rfl
 refine gz h <| (W) ?_; clear h ac wo; intro ac wo h
 replace h:St w0 61 [(2,.bool n),(3,.bool z),(4,.bool p),(10,ptr b1 0),(11,.slice none 0 0),(12,.slice none 0 0),(23,rv1),(24,iN R.length),(25,iN 0)] [.row 132 rv1 R,.blk b1 [.slice none 0 0,.slice none 0 0] 99] ac wo:=h.re [0,3]
 replace h:=(h.nilRow (α:=Iv) 74).nilRow (α:=Iv) 74
 refine wp_loop_ghost (fun n_ a_ w_=>∃ (k:Nat) (v1 v2:Value),(R.length - k < n_)∧(k≤R.length)∧St w0 61 [(2,.bool n),(3,.bool z),(4,.bool p),(10,ptr b1 0),(11,v1),(12,v2),(23,rv1),(24,iN R.length),(25,iN k)] [.row 74 v1 (ua R k),.row 74 v2 (uf Wl k),.row 132 rv1 R,.blk b1 [.slice none 0 0,.slice none 0 0] 99] a_ w_) (R.length+1) ⟨0,_,_,by omega,by omega,h.re [0,1,2,3]⟩ ?_
 clear h ac wo; rintro n1 ac wo ⟨k,v1,v2,hm1,hk,h⟩
 obtain ⟨m1,rfl⟩:∃ m,n1=m+1:=⟨n1 - 1,by omega⟩
 refine gz h <| (ai) ?_ ?_ <;> clear h ac wo <;> intro ac wo h hc2
 ·
  have hd1:k < R.length:=by have:=of_decide_eq_true hc2; omega
  have n1':=h.row_nn 2 rfl (by omega)
  have zz:=H.sz k hd1
  have cw:=H.wh k hd1
  have cs:=jD (gt R k).f (gt R k).g 30 og (fD zz.1 og) (fD zz.2.1 og)
  have ea:=aap hd1
  have ey:=xy Wl k
  have hyl:=H.yl (k+1) (by omega)
  have hal:(ua R k).length≤60:=by unfold ua; rw [List.length_map,List.length_take]; omega
  rw [ey,List.length_append] at hyl
  refine gz h <| (xa) fun b2=>(W) ?_; clear h ac wo; intro ac wo h
  obtain ⟨x,hx⟩:∃ x,gt R k=x:=⟨_,rfl⟩
  rw [hx] at h cs cw ea
  obtain ⟨xi,xf,xg⟩:=x
  refine nw h (bT (α:=Iv) (xs:=[.tmp 31]) (vs:=[vV xi]) [xi] slt103 rfl rfl rfl (by decide)) rfl ?_; clear h ac wo; intro v3 ac wo _ h
  refine on2 h 2 0 rfl rfl (eA (xs:=ua R k) (ys:=[xi]) slt103 (fun w hs=>(row_view hs 0 rfl)) rfl rfl (by show _+1≤_; omega)) rfl ?_; clear h ac wo; intro v4 ac wo _ h
  rw [← ea] at h
  refine gz h <| (W) ?_; clear h ac wo; intro ac wo h
  obtain ⟨sb,hsb⟩:∃ sb,cC xf xg=sb:=⟨_,rfl⟩
  have cs:∀ w0,Calls Tryz.prog 41 #[vD xf,vD xg] w0 (dh w0 (vD sb) (SzD 30 sb)):=by rw [← hsb]; exact cs
  have cw:∀ w0,Calls Tryz.prog 193 #[vD sb,vV xi,.bool n,.bool z,.bool p] w0 (RetT w0 74 (Wl k) [.int .i64 (E k)] True):=by rw [← hsb]; exact cw
  replace h:St w0 61 [(11,v4),(14,ptr b2 0),(2,.bool n),(3,.bool z),(4,.bool p),(10,ptr b1 0),(12,v2),(23,rv1),(24,iN R.length),(25,iN k)] [.row 74 v4 (ua R (k+1)),.blk b2 (cBD (⟨xi,xf,xg⟩:Bt Qd Qd)) 132,.row 74 v2 (uf Wl k),.row 132 rv1 R,.blk b1 [.slice none 0 0,.slice none 0 0] 99] ac wo:=h.re [0,2,3,4,5]
  replace h:=h.emps 1
  refine fU mixed [dv (ptr b2 20),dw (vD xf) [1],dv (ptr b2 32),dw (vD xg) [1],dv (vD sb),dv (ptr b2 0),dw (vV xi) [1],dv (.bool n),dv (.bool z),dv (.bool p),
   ⟨.nd (.one 10 fun v=>v=.tuple (kh v::[.int .i64 (E k)]).toArray∧SL (kh v) (Wl k).length∧True),[5]⟩,⟨.nd (.two 11 10 fun a b=>a=b),[]⟩,⟨.nd (.two 12 10 fun a b=>a=kh b),[]⟩,dv (.int .i64 (E k)),⟨.nd (.two 14 12 fun a b=>a=b),[]⟩,dv _]
   [⟨_,[]⟩,⟨_,[]⟩,⟨_,[]⟩,⟨_,[]⟩,⟨_,[]⟩,⟨.emp,[(10,.one 10 fun v=>.row (α:=Iv) 74 (kh v) (Wl k))]⟩] h rfl (by kernel_rfl)
   ⟨oA obA,oA obA,oA obA,oA obA,oA fun _=>i0 (iC Tryz.call41 rfl cs),oA obA,oA obA,oA obA,oA obA,oA obA,
    fun ξ _=>my (ψ:=fun v=>v=.tuple (kh v::[.int .i64 (E k)]).toArray∧SL (kh v) (Wl k).length∧True) (B:=fun z=>[.row (α:=Iv) 74 (kh z) (Wl k)]) [.emp] rfl (fun v _=>by simp only [dJ,bt] <;> rfl) (fun v hv=>by simpa [DF.one,bt] using hv) (jh (s_nw2 (cz Tryz.call193 rfl) (fun w_=>cw w_))),
    fun ξ _=>ob_mv (j:=10) (by decide) rfl,fun ξ hφ=>ob_ex (j:=10) (j':=11) (vs:=[.int .i64 (E k)]) (by decide) rfl (hφ 11 rfl) (hφ 10 rfl).1,fun ξ hφ=>bk (cY (vs:=[kh (ξ 10),.int .i64 (E k)]) (Eq.trans rfl (congrArg some ((hφ 11 rfl:ξ 11=ξ 10).trans (hφ 10 rfl).1))) rfl),fun ξ _=>rI (j:=12) (by decide) rfl,oA obA,trivial⟩ ?_
  clear h ac wo; intro ξ ac wo hφ h
  replace h:St w0 61 [(15,ξ 14),(11,v4),(2,.bool n),(3,.bool z),(4,.bool p),(10,ptr b1 0),(12,v2),(23,rv1),(24,iN R.length),(25,iN k)] [.row 74 v4 (ua R (k+1)),.row 74 v2 (uf Wl k),.row 132 rv1 R,.blk b1 [.slice none 0 0,.slice none 0 0] 99,.row 74 (kh (ξ 10)) (Wl k)] ac wo:=(h.pick [0,2,3,4,5] (by decide)).sub ⟨rfl,rfl,rfl,rfl,rfl,rfl,rfl,rfl,rfl,rfl,trivial⟩
  have e14:ξ 14=kh (ξ 10):=(hφ 14:ξ 14=ξ 12).trans (hφ 12:ξ 12=kh (ξ 10))
  rw [e14] at h
  generalize kh (ξ 10)=wv at h
  clear hφ e14 ξ
  refine gz h <| (W) ?_; clear h ac wo; intro ac wo h
  refine on2 h 1 3 rfl rfl (eA (xs:=uf Wl k) (ys:=Wl k) slt103 (fun w hs=>(row_view hs 0 rfl)) rfl rfl (by omega)) rfl ?_; clear h ac wo; intro v5 ac wo _ h
  rw [← ey] at h
  refine gz h <| (W) ?_; clear h ac wo; intro ac wo h
  exact az ⟨m1,by omega,k+1,v4,v5,by omega,by omega,h.re [2,0,3,4]⟩
 ·
  have hke:k=R.length:=by have:=of_decide_eq_false hc2; omega
  subst hke
  have hal:∀ i∈ua R R.length,Wv i∧SzV 30 i:=fun i hi=>by
   unfold ua at hi
   rw [List.take_length] at hi
   obtain ⟨x,hx,rfl⟩:=List.mem_map.1 hi
   obtain ⟨j,hj,rfl⟩:=List.getElem_of_mem hx
   have:=H.sz j hj
   rw [gU hj] at this
   exact ⟨this.2.2.2,this.2.2.1⟩
  have hyl:∀ i∈uf Wl R.length,Wv i∧SzV 30 i:=fun i hi=>by
   unfold uf at hi
   obtain ⟨j,hj,hi⟩:=List.mem_flatMap.1 hi
   exact H.wv j (List.mem_range.1 hj) i hi
  have ll:(ua R R.length).length≤15:=by unfold ua; rw [List.length_map,List.length_take]; omega
  have nd:=kP (fun i hi=>(hal i hi).1)
  have nt:=kP (fun i hi=>(hyl i hi).1)
  have cd:=fun v w_ hv=>gF (ua R R.length) v (by omega) (fun i hi=>(hal i hi).1) (fun i hi=>(hal i hi).2) w_ hv
  have ct:=fun v w_ hv=>gF (uf Wl R.length) v (by omega) (fun i hi=>(hyl i hi).1) (fun i hi=>(hyl i hi).2) w_ hv
  refine gz h <| (W) ?_; clear h ac wo; intro ac wo h
  refine iu (xs:=bo (ua R R.length)) h (cz cc132 rfl) (fun w_ hB_ hS_=>cd v1 w_ (row_view hS_ 0 rfl)) rfl ?_; clear h ac wo; intro nv ac wo pn h
  refine gz h <| (W) ?_; clear h ac wo; intro ac wo h
  refine iu (xs:=bo (uf Wl R.length)) h (cz cc132 rfl) (fun w_ hB_ hS_=>ct v2 w_ (row_view hS_ 2 rfl)) rfl ?_; clear h ac wo; intro mv ac wo pm h
  refine gz h <| (W) ?_; clear h ac wo; intro ac wo h
  refine uS h (cz Tryz.call251 rfl) (fun w_ hB_ hS_=>make_ct (bo (ua R R.length)) (bo (uf Wl R.length)) nv mv (by omega) (by omega) nd.1.wv nt.1.wv pn.1 pm.1 w_ (row_view hS_ 1 rfl) (row_view hS_ 0 rfl)) rfl ?_; clear h ac wo; intro mkv_ ac wo hmk h
  obtain ⟨e1,x,y,e2,ix,iy⟩:=hmk
  generalize kh mkv_=q at e1 e2 h
  subst e1 e2
  replace h:St w0 61 [(57,.tuple #[.agg #[x,y],.int .i64 0]),(10,ptr b1 0)] [.row 74 x (cpD R),.row 74 y (cpT R Wl),.blk b1 [.slice none 0 0,.slice none 0 0] 99] ac wo:=h.re [0,1,7]
  obtain ⟨x1,x2,x3,rfl⟩:=ix
  obtain ⟨y1,y2,y3,rfl⟩:=iy
  refine gz h <| (xa) fun b3=>(W) ?_; clear h ac wo; intro ac wo h
  exact rtc 3 h (h.retA (v:=.agg #[.slice x1 x2 x3,.slice y1 y2 y3]) ⟨_,_,rfl,⟨_,_,_,rfl⟩,⟨_,_,_,rfl⟩⟩ (h.pick [1,2] (by decide)))
theorem less_ct [K:Key] (a b:List (U Qd)) (av bv:Value) (R:List (Bt Qd Qd)) (Wl:Nat→List Iv) (E:Nat→Int) (hla:a.length≤20) (hlb:b.length≤20) (za:All (g6 30) a) (zb:All (g6 30) b) (hR:ef a b=R) (H:CpH R true false false Wl E) (hy30:(uf Wl R.length).length≤15) (hr15:R.length≤15) (w0:World) (hav:View w0 av a) (hbv:View w0 bv b) :
 Calls Tryz.prog 50 #[av,bv] w0 (Ret w0 IsBv (fun v=>[.row 74 (bvD v) (cpD R),.row 74 (bvT v) (cpT R Wl)])):=by
 refine enter (N:=8) (args:=[av,bv]) Tryz.func50 rfl rfl ?_; intro ac h
 refine gz h <| (xa) fun b1=>(W) ?_; clear h ac; intro ac wo h
 refine uS h (cz Tryz.call158 rfl) (fun w_ hB_ hS_=>uK a b av bv true false false R Wl E hla hlb za zb hR H (by omega) hy30 hr15 w_ (hav.below hB_) (hbv.below hB_)) rfl ?_; clear h ac wo; intro mv ac wo hmk h
 obtain ⟨x,y,rfl,ix,iy⟩:=hmk
 obtain ⟨x1,x2,x3,rfl⟩:=ix
 obtain ⟨y1,y2,y3,rfl⟩:=iy
 refine gz h <| (W) ?_; clear h ac wo; intro ac wo h
 exact rtc 2 h (h.retA (v:=.agg #[.slice x1 x2 x3,.slice y1 y2 y3]) ⟨_,_,rfl,⟨_,_,_,rfl⟩,⟨_,_,_,rfl⟩⟩ (h.pick [0,1] (by decide)))
theorem pdom_ct [K:Key] (l:List (U Qd)) (lv:Value) (hl:l.length≤100) (zl:All (g6 30) l) (hw:∀ u∈bQ l,Wv u) (w0:World) (hlv:View w0 lv l):Calls Tryz.prog 179 #[lv] w0 (RetR w0 74 (bo (bQ l)) True):=by
 refine enter (N:=6) (args:=[lv]) Tryz.func179 rfl rfl ?_; intro ac h
 have ci:=fun w hv=>kK l lv (by omega) zl w hv
 have pi:=RetR.pr (ci w0 hlv)
 refine gz h <| (W) ?_; clear h ac; intro ac wo h
 refine iu (xs:=bQ l) h (cz Tryz.call260 rfl) (fun w_ hB_ hS_=>ci w_ (hlv.below hB_)) rfl ?_; clear h ac wo; intro iv ac wo _ h
 refine gz h <| (W) ?_; clear h ac wo; intro ac wo h
 refine iu (xs:=bo (bQ l)) h (cz cc132 rfl) (fun w_ hB_ hS_=>gF (bQ l) iv (by omega) hw pi.1 w_ (row_view hS_ 0 rfl)) rfl ?_; clear h ac wo; intro nv ac wo _ h
 refine gz h <| (W) ?_; clear h ac wo; intro ac wo h
 exact (rt h) (h.retR 0 rfl trivial)
theorem ndom_ct [K:Key] (l:List (U Qd)) (lv:Value) (hl:l.length≤100) (zl:All (g6 30) l) (hw:∀ u∈bQ l,Wv u) (w0:World) (hlv:View w0 lv l):Calls Tryz.prog 70 #[lv] w0 (RetR w0 74 (bo (bQ l)) True):=by
 refine enter (N:=6) (args:=[lv]) Tryz.func70 rfl rfl ?_; intro ac h
 refine gz h <| (W) ?_; clear h ac; intro ac wo h
 refine iu (xs:=l) h (cz cc168 rfl) (fun w_ hB_ hS_=>lT l lv (by omega) w_ (hlv.below hB_)) rfl ?_; clear h ac wo; intro uv ac wo _ h
 refine gz h <| (W) ?_; clear h ac wo; intro ac wo h
 refine iu (xs:=bo (bQ l)) h (cz Tryz.call179 rfl) (fun w_ hB_ hS_=>pdom_ct l uv hl zl hw w_ (row_view hS_ 0 rfl)) rfl ?_; clear h ac wo; intro nv ac wo _ h
 refine gz h <| (W) ?_; clear h ac wo; intro ac wo h
 exact (rt h) (h.retR 0 rfl trivial)
instance cf157:Cf Tryz.prog 157:=⟨Tryz.call157⟩
def o8 (c:GQ) (i:Iv):U Qd:=⟨i,an c⟩
theorem const_ct (c:GQ) (d:List Iv) (pv:Value) (zc:SzQ 40 c) (hl:d.length < 20) (zd:All (SzV 30) d) (w0:World) (hpv:View w0 pv d):Calls Tryz.prog 49 #[vQ c,pv] w0 (RetR w0 76 (aF (d.map (o8 c))).1 True):=by
 refine enter (N:=28) (args:=[vQ c,pv]) Tryz.func49 rfl rfl ?_; intro ac h
 haveI:On:=⟨trivial⟩
 have hlen:=hpv.len
 have cc:=fS c 40 og zc
 refine gz h <| (xb) fun b1=>(W) ?_; clear h ac; intro ac wo h
 replace h:=h.nilRow (α:=U Qd) 76
 refine wp_loop_ghost (fun n_ a_ w_=>∃ (i:Nat) (sv:Value),(d.length - i < n_)∧(i≤d.length)∧St w0 28 [(2,ptr b1 0),(5,sv),(8,pv),(9,iN d.length),(10,iN i)] [.row (α:=U Qd) 76 sv ((d.take i).map (o8 c)),.blk b1 (cQ c) 29] a_ w_) (d.length+1) ⟨0,_,by omega,by omega,h.re [0,1]⟩ ?_
 clear h ac wo; rintro n1 ac wo ⟨i,sv,hm1,hi,h⟩
 obtain ⟨m1,rfl⟩:∃ m,n1=m+1:=⟨n1 - 1,by omega⟩
 refine gz h <| (ai) ?_ ?_ <;> clear h ac wo <;> intro ac wo h hc1
 ·
  have hd1:i < d.length:=by have:=of_decide_eq_true hc1; omega
  have n1':=hpv.nn hd1
  refine gz h <| (xa) fun b2=>(W) ?_; clear h ac wo; intro ac wo h
  obtain ⟨x,hx⟩:∃ x,gt d i=x:=⟨_,rfl⟩
  rw [hx] at h
  obtain ⟨f,hf⟩:∃ f,an c=f:=⟨_,rfl⟩
  rw [hf] at cc
  replace h:St w0 28 [(7,ptr b2 0),(2,ptr b1 0),(5,sv),(8,pv),(9,iN d.length),(10,iN i)] [.row (α:=U Qd) 76 sv ((d.take i).map (o8 c)),.blk b2 (cV x) 74,.blk b1 (cQ c) 29] ac wo:=h.re [1,0,2]
  replace h:=h.emps 1
  refine fU mixed [dv _,dw (vV x) [1],dw (vQ c) [2],dv (vD f),dv (vUD ⟨x,f⟩),⟨.nd (.one 5 fun v=>NN v 1),[3]⟩,⟨.nd (.con True),[0,3]⟩,⟨.nd (.two 7 6 fun a b=>a=b),[]⟩]
   [⟨.row (α:=U Qd) 76 sv ((d.take i).map (o8 c)),[(6,.one 6 fun v=>.row (α:=U Qd) 76 v ((d.take i).map (o8 c)++[⟨x,f⟩]))]⟩,⟨_,[]⟩,⟨_,[]⟩,⟨.emp,[(5,.one 5 fun v=>.row (α:=U Qd) 76 v [⟨x,f⟩])]⟩] h rfl (by kernel_rfl)
   ⟨oA obA,oA obA,oA obA,oA fun _=>i0 (iC Tryz.call157 rfl cc),oA fun _=>bk (bX aai rfl rfl rfl),fun _ _=>ob_sl 3 (⟨x,f⟩:U Qd) pG rfl rfl,fun _ _=>ob_ap (j:=5) 0 3 pG rfl rfl (by rw [List.length_map,List.length_take]; omega) rfl (fun v=>by simp only [dJ,bt] <;> rfl),fun _ _=>rI (j:=6) (by decide) rfl,trivial⟩ ?_
  clear h ac wo; intro ξ ac wo hφ h
  replace h:St w0 28 [(5,ξ 7),(2,ptr b1 0),(8,pv),(9,iN d.length),(10,iN i)] [.row (α:=U Qd) 76 (ξ 6) ((d.take i).map (o8 c)++[⟨x,f⟩]),.blk b1 (cQ c) 29] ac wo:=(h.pick [0,2] (by decide)).sub ⟨rfl,rfl,rfl,rfl,rfl,trivial⟩
  rw [show ξ 7=ξ 6 from hφ 7,show (d.take i).map (o8 c)++[⟨x,f⟩]=(d.take (i+1)).map (o8 c) by rw [List.take_succ_eq_append_getElem hd1,List.map_append,← gU hd1,hx,← hf]; rfl] at h
  generalize ξ 6=s2 at h; clear hφ ξ
  refine gz h <| (W) ?_; clear h ac wo; intro ac wo h
  exact az ⟨m1,by omega,i+1,s2,by omega,by omega,h.re [0,1]⟩
 ·
  have hd1:=of_decide_eq_false hc1
  obtain rfl:i=d.length:=by omega
  rw [List.take_length] at h
  have hz:All (g6 30) (d.map (o8 c)):=fun u hu=>by
   obtain ⟨i,hi,rfl⟩:=List.mem_map.1 hu
   exact ⟨zd i hi,fD (ar (cc w0)) og⟩
  refine gz h <| (W) ?_; clear h ac wo; intro ac wo h
  refine sg (xs:=(aF (d.map (o8 c))).1) h (cz Tryz.call65 rfl) (fun w_ hB_ hS_=>qQ (d.map (o8 c)) sv (by rw [List.length_map]; exact hl) hz w_ (row_view hS_ 0 rfl)) rfl ?_; clear h ac wo; intro nv ac wo _ h
  refine gz h <| (W) ?_; clear h ac wo; intro ac wo h
  exact (rt h) (h.retR 0 rfl trivial)
end Go.Sx
namespace Go.Sx
open Go Go.RowKit Go.Proofs
set_option maxRecDepth 100000
set_option maxHeartbeats 8000000
attribute [local irreducible] Code.wp wpList Rd Step ObS Ent
attribute [local irreducible] ah ak aq an bN aQ dU vk sW sO qt cC aM aB
structure EX where
 v:GR
 t:GR
 r:Bool
deriving DecidableEq
def cEX (x:EX):List Value:=cR x.v++(cR x.t++[.bool x.r])
def vEX (x:EX):Value:=.agg (cEX x).toArray
def oEX:EX:=⟨⟨oQ,oQ,false⟩,⟨oQ,oQ,false⟩,false⟩
instance celEX (x:EX):Cel (vEX x) (cEX x):=⟨rfl⟩
instance dcEX (x:EX):Dc (cEX x) (vEX x):=⟨rfl⟩
instance sz229:Sz Tryz.prog 229 19:=⟨Tryz.sizeOf229⟩
instance ag229:Ag Tryz.prog 229 true:=⟨Tryz.isAgg229⟩
instance sh229:Sh Tryz.prog 229 EX vEX:=⟨trivial⟩
instance fl229a:Fl Tryz.prog 229 0 46 0:=⟨⟨_,_,uu229,rfl,rfl,rfl⟩⟩
instance fl229b:Fl Tryz.prog 229 1 46 9:=⟨⟨_,_,uu229,rfl,rfl,rfl⟩⟩
instance fl229c:Fl Tryz.prog 229 2 4 18:=⟨⟨_,_,uu229,rfl,rfl,rfl⟩⟩
instance zc229:Zc Tryz.prog 229 (cEX oEX):=⟨⟨_,vv229,rfl⟩⟩
theorem bld229:BuildF Tryz.prog 229 (cEX oEX) [(0,9),(9,9),(18,1)]:=BuildF.of vv229 rfl uu229 (by intro w; simp [Tryz.sizeOf46,zz4])
instance bu229 (x y:GR):Bu Tryz.prog 229 [0,1] [vR x,vR y] (vEX ⟨x,y,false⟩):=Bu.of bld229 rfl rfl
instance sz106:Sz Tryz.prog 106 19:=⟨Tryz.sizeOf106⟩
instance ag106:Ag Tryz.prog 106 true:=⟨Tryz.isAgg106⟩
instance sh106:Sh Tryz.prog 106 EX vEX:=⟨trivial⟩
instance fl106a:Fl Tryz.prog 106 0 46 0:=⟨⟨_,_,uu106,rfl,rfl,rfl⟩⟩
instance fl106b:Fl Tryz.prog 106 1 46 9:=⟨⟨_,_,uu106,rfl,rfl,rfl⟩⟩
instance fl106c:Fl Tryz.prog 106 2 4 18:=⟨⟨_,_,uu106,rfl,rfl,rfl⟩⟩
instance zc106:Zc Tryz.prog 106 (cEX oEX):=⟨⟨_,vv106,rfl⟩⟩
theorem bld106:BuildF Tryz.prog 106 (cEX oEX) [(0,9),(9,9),(18,1)]:=BuildF.of vv106 rfl uu106 (by intro w; simp [Tryz.sizeOf46,zz4])
instance un317:Un Tryz.prog 317 (.array 3 29):=⟨uu317⟩
instance sz317:Sz Tryz.prog 317 12:=⟨Tryz.sizeOf317⟩
instance ag317:Ag Tryz.prog 317 true:=⟨Tryz.isAgg317⟩
instance zc317:Zc Tryz.prog 317 (cD oD):=⟨⟨_,vv317,rfl⟩⟩
theorem deg2_ct (q:Qd) (h2:aq q.c2≠0) (w0:World):Calls Tryz.prog 185 #[vD q] w0 (dh w0 (.int .i64 2) True):=by
 refine enter (N:=22) (args:=[vD q]) Tryz.func185 rfl rfl ?_; intro ac h
 haveI:On:=⟨trivial⟩
 have c1:=cB q.c2
 refine gz h <| (xb) fun b1=>(xo (hs:=by exact pd (α:=GQ) (xs:=[.tmp 6,.tmp 8,.tmp 10]) (vs:=[vQ q.c0,vQ q.c1,vQ q.c2]) [q.c0,q.c1,q.c2] vv317 uu317 Tryz.sizeOf29 rfl rfl rfl)) <| (W) ?_; clear h ac; intro ac wo h
 replace h:St w0 22 [(11,vD q)] [] ac wo:=h.re []
 refine gz h <| (xa) fun b2=>(W) ?_; clear h ac wo; intro ac wo h
 refine wp_loop_ghost (fun n_ a_ w_=>(0 < n_)∧St w0 22 [(3,ptr b2 0),(4,.int .i64 2)] [.blk b2 (cD q) 317] a_ w_) 1 ⟨by omega,h.re [0]⟩ ?_
 clear h ac wo; rintro n1 ac wo ⟨hn,h⟩
 obtain ⟨m1,rfl⟩:∃ m,n1=m+1:=⟨n1 - 1,by omega⟩
 refine gz h <| (ai) ?_ ?_ <;> clear h ac wo <;> intro ac wo h hc1
 · refine gz h <| (xo (hs:=by exact r_iaA (i:=2) uu317 Tryz.sizeOf29 rfl rfl (by decide))) <| (xk c1) <| (ai) ?_ ?_ <;> clear h ac wo <;> intro ac wo h hc2
   · refine gz h <| (W) ?_; clear h ac wo; intro ac wo h
     exact (rt h) (h.retP rfl trivial)
   · exfalso
     exact h2 (by simpa using hc2)
 · cases hc1
theorem t7 (a b:GR) (za:SzR 30 a) (zb:SzR 30 b) (w0:World):Calls Tryz.prog 253 #[vR a,vR b] w0 (dh w0 (.bool (decide (ah a b < 0))) True):=by
 refine enter (N:=9) (args:=[vR a,vR b]) Tryz.func253 rfl rfl ?_; intro ac h
 refine gz h <| (xb) fun b1=>(xb) fun b2=>(xk (aL a b 10 og za zb)) <| (W) ?_; clear h ac; intro ac wo h
 exact (rt h) (h.retP rfl trivial)
instance cf278:Cf Tryz.prog 278:=⟨Tryz.call278⟩
instance cf185:Cf Tryz.prog 185:=⟨Tryz.call185⟩
instance cf253:Cf Tryz.prog 253:=⟨Tryz.call253⟩
structure E1 (q:Qd) (i:Iv) (r1:Bool):Prop where
 bd:BD 100 q
 lo:RBq 90 i.lo
 hi:RBq 90 i.hi
 ck:vk i=0
 dv:(eW (aM q.c1) (aB q.c2 q.c2)).2=0
 no:decide (ah i.lo (aQ (eW (aM q.c1) (aB q.c2 q.c2)).1) < 0)=false
 c2:aq q.c2≠0
 l0:decide (ah (qAt q i.lo) (qAt q i.lo) < 0)=false
 l1:decide (ah (qAt q i.hi) (qAt q i.lo) < 0)=false
 r:r1=true∧sW i i.lo=true
theorem ext1_ct (q:Qd) (i:Iv) (r1:Bool) (H:E1 q i r1) (w0:World):Calls Tryz.prog 252 #[vD q,vV i,.func (.func 253) #[] #[]] w0 (dh w0 (.tuple #[vEX ⟨qAt q i.lo,i.lo,true⟩,.int .i64 0]) True):=by
 refine enter (N:=119) (args:=[vD q,vV i,.func (.func 253) #[] #[]]) Tryz.func252 rfl rfl ?_; intro ac h
 haveI:On:=⟨trivial⟩
 have zq:=aal H.bd (by decide)
 have zl:=H.lo.sz (by decide)
 have zh:=H.hi.sz (by decide)
 have c1:=uw i (pH H.lo H.hi)
 rw [H.ck] at c1
 have d1:=eN q.c1 38 og (di zq.2.1 og)
 have s1:=ar (d1 w0)
 have d2:=cH q.c2 q.c2 37 og zq.2.2 zq.2.2
 have s2:=ar (d2 w0)
 have d3:=lp (aM q.c1) (aB q.c2 q.c2) 35 og (di s1 og) s2
 have s3:=ar (d3 w0)
 obtain ⟨D,hD⟩:∃ D,eW (aM q.c1) (aB q.c2 q.c2)=D:=⟨_,rfl⟩
 have hdv:=H.dv
 have hno:=H.no
 rw [hD] at d3 s3 hdv hno
 obtain ⟨tp,te⟩:=D
 simp only at hdv hno d3 s3
 subst hdv
 have d4:=g8 tp 35 og s3
 have d5:=aL i.lo (aQ tp) 10 og (dG zl og) (dG (ar (d4 w0)) og)
 have e1:=yq q i.lo 10 og (fD zq og) (dG zl og) trivial (di zl.2 og)
 have e2:=yq q i.hi 10 og (fD zq og) (dG zh og) trivial (di zh.2 og)
 have q1:=rB H.bd H.lo (by decide)
 have q2:=rB H.bd H.hi (by decide)
 have y1:=wc (by decide) q1.2
 have y2:=wc (by decide) q2.2
 have b1':=t7 (qAt q i.lo) (qAt q i.lo) y1 y1
 have b2':=t7 (qAt q i.hi) (qAt q i.lo) y2 y1
 rw [H.l0] at b1'
 rw [H.l1] at b2'
 have g1:=deg2_ct q H.c2
 refine gz h <| (xb) fun b1=>(xb) fun b2=>(xa) fun b3=>(xk c1) <| (ai) ?_ ?_ <;> clear h ac <;> intro ac wo h hc1
 · cases hc1
 refine gz h <| (W) ?_; clear h ac wo; intro ac wo h
 refine nw h (bT (α:=GR) (xs:=[.tmp 26]) (vs:=[vR i.lo]) [i.lo] wD rfl rfl rfl (by decide)) rfl ?_; clear h ac wo; intro lv ac wo _ h
 refine gz h <| (W) ?_; clear h ac wo; intro ac wo h
 replace h:St w0 119 [(2,.func (.func 253) #[] #[]),(3,ptr b1 0),(4,ptr b2 0),(6,ptr b3 0),(9,lv)] [.row 46 lv [i.lo],.blk b3 (cEX oEX) 229,.blk b2 (cV i) 74,.blk b1 (cD q) 72] ac wo:=h.re [0,1,2,3]
 replace h:=h.emps 1
 refine fU mixed [dv (ptr b1 4),dw (vQ q.c1) [3],dv _,dv (ptr b1 8),dw (vQ q.c2) [3],dv (ptr b1 8),dw (vQ q.c2) [3],dv _,dv _,dv _,dv (vQ tp),dv (.int .i64 0),⟨.nd (.one 12 fun x=>∃ b,x=ptr b 0),[4]⟩,dw undef [4],dv _] [⟨_,[]⟩,⟨_,[]⟩,⟨_,[]⟩,⟨_,[]⟩,⟨.emp,[(12,.one 12 fun x=>.blk (bR x) (cQ oQ) 29),(13,.one 12 fun y=>.blk (bR y) (cQ tp) 29)]⟩] h rfl (by kernel_rfl)
  ⟨oA obA,oA obA,oA fun _=>i0 (iC Tryz.call170 rfl d1),oA obA,oA obA,oA obA,oA obA,oA fun _=>i0 (iC Tryz.call106 rfl d2),oA fun _=>i0 (iC Tryz.call278 rfl d3),oA obA,oA obA,oA obA,fun _ _=>pS 4 rfl (fun _=>rfl),fun ξ hφ=>pQ (u:=vQ tp) 4 (hφ 12 rfl) rfl rfl rfl rfl rfl rfl rfl,oA obA,trivial⟩ ?_
 clear h ac wo; intro ξ ac wo hφ h
 obtain ⟨b4,hb⟩:∃ b,ξ 12=ptr b 0:=hφ 12
 replace h:St w0 119 [(2,.func (.func 253) #[] #[]),(3,ptr b1 0),(4,ptr b2 0),(6,ptr b3 0),(9,lv),(10,ξ 12),(11,.int .i64 0)] [.row 46 lv [i.lo],.blk b3 (cEX oEX) 229,.blk b2 (cV i) 74,.blk b1 (cD q) 72,.blk (bR (ξ 12)) (cQ tp) 29] ac wo:=h.sub ⟨rfl,rfl,rfl,rfl,rfl,rfl,rfl,trivial⟩
 rw [hb] at h
 clear hb hφ ξ
 refine gz h <| (ai) ?_ ?_ <;> clear h ac wo <;> intro ac wo h hc2
 rotate_left
 · cases hc2
 have d6:=aL (aQ tp) i.hi 10 og (dG (ar (d4 w0)) og) (dG zh og)
 refine gz h <| (xk d4) <| (xa) fun b5=>(xk d5) <| (xg (hs:=by exact fun hg=>fq enA (kk d6))) <| (ai) ?_ ?_ <;> clear h ac wo <;> intro ac wo h hc3
 · exfalso
   rw [hno] at hc3
   cases hc3
 refine gz h <| (W) ?_; clear h ac wo; intro ac wo h
 refine nw h (bT (α:=GR) (xs:=[.tmp 62]) (vs:=[vR i.hi]) [i.hi] wD rfl rfl rfl (by decide)) rfl ?_; clear h ac wo; intro v1 ac wo _ h
 refine on2 h 2 0 rfl rfl (eA (xs:=[i.lo]) (ys:=[i.hi]) wD (fun w hs=>(row_view hs 0 rfl)) rfl rfl (by show 1+1≤_; decide)) rfl ?_; clear h ac wo; intro lv2 ac wo _ h
 refine gz h <| (W) ?_; clear h ac wo; intro ac wo h
 obtain ⟨v0,hv0⟩:∃ v0,qAt q i.lo=v0:=⟨_,rfl⟩
 rw [hv0] at e1 b1' b2' y1 ⊢
 replace h:St w0 119 [(2,.func (.func 253) #[] #[]),(3,ptr b1 0),(4,ptr b2 0),(6,ptr b3 0),(9,lv2)] [.row 46 lv2 [i.lo,i.hi],.blk b3 (cEX oEX) 229,.blk b2 (cV i) 74,.blk b1 (cD q) 72] ac wo:=h.re [0,3,4,5]
 replace h:=h.emps 1
 refine fU mixed [dw (vD q) [3],dv (ptr b2 0),dw (vR i.lo) [2],dv (vR v0),dv (ptr b2 0),dw (vR i.lo) [2],dv (vEX ⟨v0,i.lo,false⟩),⟨.nd (.one 7 fun x=>∃ b,x=ptr b 0),[4]⟩,dw undef [4]] [⟨_,[]⟩,⟨_,[]⟩,⟨_,[]⟩,⟨_,[]⟩,⟨.emp,[(7,.one 7 fun x=>.blk (bR x) (cEX oEX) 229),(8,.one 7 fun y=>.blk (bR y) (cEX ⟨v0,i.lo,false⟩) 229)]⟩] h rfl (by kernel_rfl)
  ⟨oA obA,oA obA,oA obA,oA fun _=>i0 (iC Tryz.call67 rfl e1),oA obA,oA obA,oA fun _=>bk (bX bld229 rfl rfl rfl),fun _ _=>pS 4 rfl (fun _=>rfl),fun ξ hφ=>pQ (u:=vEX ⟨v0,i.lo,false⟩) 4 (hφ 7 rfl) rfl rfl rfl rfl rfl rfl rfl,trivial⟩ ?_
 clear h ac wo; intro ξ ac wo hφ h
 obtain ⟨b6,hb⟩:∃ b,ξ 7=ptr b 0:=hφ 7
 replace h:St w0 119 [(2,.func (.func 253) #[] #[]),(3,ptr b1 0),(4,ptr b2 0),(6,ptr b3 0),(9,lv2),(13,ξ 7)] [.row 46 lv2 [i.lo,i.hi],.blk b3 (cEX oEX) 229,.blk b2 (cV i) 74,.blk b1 (cD q) 72,.blk (bR (ξ 7)) (cEX ⟨v0,i.lo,false⟩) 229] ac wo:=h.sub ⟨rfl,rfl,rfl,rfl,rfl,rfl,trivial⟩
 rw [hb] at h
 clear hb hφ ξ
 have hsl:SL lv2 2:=h.row_sl 0 rfl
 have hn2:NN lv2 2:=h.row_nn 0 rfl (by show 0 < 2; decide)
 obtain ⟨l2,hl2⟩:∃ l2,[i.lo,i.hi]=l2:=⟨_,rfl⟩
 have hlen:l2.length=2:=by rw [← hl2]; rfl
 have hA:∀ k,k < 2→∀ w0,Calls Tryz.prog 67 #[vD q,vR (gt l2 k)] w0 (dh w0 (vR (qAt q (gt l2 k))) (SzR 10 (qAt q (gt l2 k)))):=fun k hk=>by
  rw [← hl2]
  obtain rfl | rfl:k=0∨k=1:=by omega
  · show ∀ w0,Calls Tryz.prog 67 #[vD q,vR i.lo] w0 (dh w0 (vR (qAt q i.lo)) (SzR 10 (qAt q i.lo)))
    rw [hv0]; exact e1
  · exact e2
 have hB:∀ k,k < 2→∀ w0,Calls Tryz.prog 253 #[vR (qAt q (gt l2 k)),vR v0] w0 (dh w0 (.bool false) True):=fun k hk=>by
  rw [← hl2]
  obtain rfl | rfl:k=0∨k=1:=by omega
  · show ∀ w0,Calls Tryz.prog 253 #[vR (qAt q i.lo),vR v0] w0 (dh w0 (.bool false) True)
    rw [hv0]; exact b1'
  · exact b2'
 have hC:∀ k,k < 2→∀ w0,Calls Tryz.prog 298 #[vV i,vR (gt l2 k)] w0 (dh w0 (.bool (sW i (gt l2 k))) True):=fun k hk=>by
  rw [← hl2]
  obtain rfl | rfl:k=0∨k=1:=by omega
  · exact uu i i.lo (pH H.lo H.hi) (dG zl og)
  · exact uu i i.hi (pH H.lo H.hi) (dG zh og)
 rw [hl2] at h
 replace h:St w0 119 [(2,.func (.func 253) #[] #[]),(3,ptr b1 0),(4,ptr b2 0),(6,ptr b3 0),(9,lv2),(13,ptr b6 0)] [.row 46 lv2 l2,.blk b3 (cEX oEX) 229,.blk b2 (cV i) 74,.blk b1 (cD q) 72,.blk b6 (cEX ⟨v0,i.lo,false⟩) 229] ac wo:=h
 refine gz h <| (W) ?_; clear h ac wo; intro ac wo h
 refine wp_loop_ghost (fun n_ a_ w_=>∃ (k:Nat),(2 - k < n_)∧(k≤2)∧St w0 119 [(2,.func (.func 253) #[] #[]),(3,ptr b1 0),(4,ptr b2 0),(6,ptr b3 0),(9,lv2),(13,ptr b6 0),(72,lv2),(73,iN 2),(74,iN k)] [.row 46 lv2 l2,.blk b3 (cEX oEX) 229,.blk b2 (cV i) 74,.blk b1 (cD q) 72,.blk b6 (cEX ⟨v0,i.lo,false⟩) 229] a_ w_) 3 ⟨0,by omega,by omega,h.re [0,1,2,3,4]⟩ ?_
 clear h ac wo; rintro n1 ac wo ⟨k,hm1,hk,h⟩
 obtain ⟨m1,rfl⟩:∃ m,n1=m+1:=⟨n1 - 1,by omega⟩
 refine gz h <| (ai) ?_ ?_ <;> clear h ac wo <;> intro ac wo h hc4
 ·
  have hd1:k < 2:=by have:=of_decide_eq_true hc4; omega
  have hk2:k < l2.length:=by omega
  have n1':NN lv2 l2.length:=by rw [hlen]; exact hn2
  refine gz h <| (xa) fun b7=>(xk (hA k hd1)) <| (xa) fun b8=>(xk (hB k hd1)) <| (ai) ?_ ?_ <;> clear h ac wo <;> intro ac wo h hc5
  · cases hc5
  refine gz h <| (W) ?_; clear h ac wo; intro ac wo h
  exact az ⟨m1,by omega,k+1,by omega,by omega,h.re [2,3,4,5,6]⟩
 refine gz h <| (xk g1) <| (xs 4 (cEX ⟨v0,i.lo,false⟩)) <| (W) ?_; clear h ac wo; intro ac wo h
 refine wp_loop_ghost (fun n_ a_ w_=>∃ (k:Nat),(2 - k < n_)∧(k≤2)∧St w0 119 [(3,ptr b1 0),(4,ptr b2 0),(6,ptr b3 0),(13,ptr b6 0),(95,lv2),(96,iN 2),(97,iN k)] [.row 46 lv2 l2,.blk b3 (cEX oEX) 229,.blk b2 (cV i) 74,.blk b1 (cD q) 72,.blk b6 (cEX ⟨v0,i.lo,decide (0 < k)⟩) 229] a_ w_) 3 ⟨0,by omega,by omega,h.re [0,1,2,3,4]⟩ ?_
 clear h ac wo; rintro n2 ac wo ⟨k2,hm2,hk',h⟩
 obtain ⟨m2,rfl⟩:∃ m,n2=m+1:=⟨n2 - 1,by omega⟩
 refine gz h <| (ai) ?_ ?_ <;> clear h ac wo <;> intro ac wo h hc5
 ·
  have hd1:k2 < 2:=by have:=of_decide_eq_true hc5; omega
  have hk2:k2 < l2.length:=by omega
  have n1':NN lv2 l2.length:=by rw [hlen]; exact hn2
  refine gz h <| (xa) fun b9=>(W) ?_; clear h ac wo; intro ac wo h
  obtain ⟨r,hr⟩:∃ r,decide (0 < k2)=r:=⟨_,rfl⟩
  obtain ⟨t,ht⟩:∃ t,gt l2 k2=t:=⟨_,rfl⟩
  have hA':=hA k2 hd1
  have hC':=hC k2 hd1
  rw [hr] at h
  rw [ht] at h hA' hC'
  have hval:(r || (sW i t && decide (qAt q t=v0)))=decide (0 < k2+1):=by
   rw [decide_eq_true (by omega:0 < k2+1),← hr,← ht]
   obtain rfl | rfl:k2=0∨k2=1:=by omega
   · have e0:gt l2 0=i.lo:=by rw [← hl2]; rfl
     rw [e0,H.r.2,hv0,decide_eq_true rfl]; rfl
   · rfl
  replace h:St w0 119 [(18,ptr b9 0),(3,ptr b1 0),(4,ptr b2 0),(6,ptr b3 0),(13,ptr b6 0),(95,lv2),(96,iN 2),(97,iN k2)] [.blk b9 (cR t) 46,.row 46 lv2 l2,.blk b3 (cEX oEX) 229,.blk b2 (cV i) 74,.blk b1 (cD q) 72,.blk b6 (cEX ⟨v0,i.lo,r⟩) 229] ac wo:=h.re [0,1,2,3,4,5]
  refine gz h <| (dr1 (H:=[⟨_,[]⟩,⟨_,[]⟩,⟨_,[]⟩,⟨_,[]⟩,⟨_,[]⟩,⟨.blk b6 (cEX ⟨v0,i.lo,r⟩) 229,[(16,.con (.blk b6 (cEX ⟨v0,i.lo,r || (sW i t && decide (qAt q t=v0))⟩) 229))]⟩]) (hob:=(oG (fun _=>hC')) <| (oG (fun _=>hA')) <| oE)) <| (W) ?_; clear h ac wo; intro ac wo h
  rw [hval] at h
  exact az ⟨m2,by omega,k2+1,by omega,by omega,h.re [1,2,3,4,5]⟩
 have hke:k2=2:=by have:=of_decide_eq_false hc5; omega
 subst hke
 refine gz h <| (W) ?_; clear h ac wo; intro ac wo h
 exact xw 1 h (h.retP (u:=.tuple #[vEX ⟨v0,i.lo,true⟩,.int .i64 0]) rfl trivial)
end Go.Sx
namespace Go.Sx
def e8 (n v:Nat):List Int:=(List.range n).map fun i=>((v / 256 ^ i % 256:Nat):Int)
def n8 (v:Nat):Nat:=(le v).length
def d8 (v:Nat):List Int:=e8 (n8 v) v
theorem p8 (i:Nat):0 < 256 ^ i:=Nat.pow_pos (by decide)
theorem p8s (i:Nat):256 ^ (i+1)=256 ^ i*256:=Nat.pow_succ ..
theorem k8 {v k:Nat}:n8 v≤k↔v < 256 ^ k:=cS k v
theorem jY (v:Nat):v < 256 ^ n8 v:=k8.1 (Nat.le_refl _)
theorem uy {v k:Nat}:k < n8 v↔256 ^ k≤v:=by have:=k8 (v:=v) (k:=k); omega
theorem yF {v:Nat}:0 < n8 v↔0 < v:=by rw [uy]; simp; omega
theorem eY (n v:Nat):(e8 n v).length=n:=by simp [e8]
theorem qi (v:Nat):(d8 v).length=n8 v:=eY _ _
theorem tP {n v i:Nat} (h:i < n):(e8 n v)[i]?=some ((v / 256 ^ i % 256:Nat):Int):=by simp [e8,h]
theorem nG {n v i:Nat} (h:i < n):gt (e8 n v) i=((v / 256 ^ i % 256:Nat):Int):=by unfold gt; simp [List.getD,tP h]
theorem r5 {n m v:Nat} (h:m≤n):(e8 n v).take m=e8 m v:=by
 unfold e8; rw [← List.map_take,List.take_range,Nat.min_eq_left h]
theorem jF (n v:Nat):e8 (n+1) v=e8 n v++[((v / 256 ^ n % 256:Nat):Int)]:=by unfold e8; rw [List.range_succ,List.map_append]; rfl
theorem qg (v n i:Nat) (h:i < n):v % 256 ^ n / 256 ^ i % 256=v / 256 ^ i % 256:=by
 obtain ⟨k,rfl⟩:∃ k,n=i+(k+1):=⟨n - i - 1,by omega⟩
 rw [Nat.pow_add,Nat.mod_mul_right_div_self,Nat.pow_succ,Nat.mul_comm (256 ^ k),Nat.mod_mul_right_mod]
theorem pg (v i:Nat):v % 256 ^ (i+1)=v / 256 ^ i % 256*256 ^ i+v % 256 ^ i:=by
 rw [p8s,Nat.mod_mul,Nat.mul_comm,Nat.add_comm]
theorem vS {v i:Nat} (h:¬ i < n8 v):v / 256 ^ i % 256=0:=by
 rw [Nat.div_eq_of_lt (k8.1 (by omega))]
theorem zC {n:Nat} {l:List Int} {v:Nat} (hl:l.length=n) (h:∀ i,i < n→l[i]?=some ((v / 256 ^ i % 256:Nat):Int)):l=e8 n v:=by
 refine List.ext_getElem? fun i=>?_
 by_cases hi:i < n
 · rw [h i hi,tP hi]
 · rw [List.getElem?_eq_none (by omega),List.getElem?_eq_none (by rw [eY]; omega)]
def cy8 (a b i:Nat):Nat:=(a % 256 ^ i+b % 256 ^ i) / 256 ^ i
theorem cy8_zero (a b:Nat):cy8 a b 0=0:=by unfold cy8; rw [Nat.pow_zero,Nat.mod_one,Nat.mod_one]
theorem cy8_le (a b i:Nat):cy8 a b i≤1:=by
 unfold cy8
 have h1:=Nat.mod_lt a (p8 i); have h2:=Nat.mod_lt b (p8 i)
 have:=(Nat.div_lt_iff_lt_mul (p8 i)).2 (show a % 256 ^ i+b % 256 ^ i < 2*256 ^ i by omega)
 omega
theorem cy8_step (a b i:Nat):(cy8 a b i+a / 256 ^ i % 256+b / 256 ^ i % 256) / 256=cy8 a b (i+1)∧(cy8 a b i+a / 256 ^ i % 256+b / 256 ^ i % 256) % 256=(a+b) / 256 ^ i % 256:=by
 have h1:=pg a i; have h2:=pg b i
 constructor
 · unfold cy8
   rw [h1,h2,p8s,← Nat.div_div_eq_div_mul]
   congr 1
   rw [show a / 256 ^ i % 256*256 ^ i+a % 256 ^ i+(b / 256 ^ i % 256*256 ^ i+b % 256 ^ i)=a % 256 ^ i+b % 256 ^ i+(a / 256 ^ i % 256+b / 256 ^ i % 256)*256 ^ i by rw [Nat.add_mul]; omega,
    Nat.add_mul_div_right _ _ (p8 i)]
   omega
 · unfold cy8
   have e:(a+b) / 256 ^ i=(a % 256 ^ i+b % 256 ^ i) / 256 ^ i+(a / 256 ^ i+b / 256 ^ i):=by
    rw [← Nat.add_mul_div_right _ _ (p8 i)]
    congr 1
    have:=Nat.div_add_mod a (256 ^ i); have:=Nat.div_add_mod b (256 ^ i)
    rw [Nat.add_mul,Nat.mul_comm (a / 256 ^ i),Nat.mul_comm (b / 256 ^ i)]
    omega
   rw [e]
   omega
theorem zM {a b i:Nat} (ha:¬ i < n8 a) (hb:¬ i < n8 b):(0 < cy8 a b i)↔i < n8 (a+b):=by
 unfold cy8
 rw [Nat.mod_eq_of_lt (k8.1 (by omega)),Nat.mod_eq_of_lt (k8.1 (by omega)),uy]
 rw [Nat.div_pos_iff]
 have:=p8 i
 omega
theorem n8_add {a b i:Nat} (h:i < n8 a∨i < n8 b):i < n8 (a+b):=by
 rw [uy] at *
 rw [uy] at h
 omega
def bw8 (a b i:Nat):Nat:=if a % 256 ^ i < b % 256 ^ i then 1 else 0
theorem bw_lt {x y u v P:Nat} (hu:u < P) (hv:v < P):x*P+u < y*P+v↔x < y+(if u < v then 1 else 0):=by
 split
 · rename_i huv
   constructor
   · intro hh
     refine Classical.byContradiction fun hn=>?_
     have:=Nat.mul_le_mul_right P (show y+1≤x by omega)
     rw [Nat.add_mul] at this; omega
   · intro hh
     have:=Nat.mul_le_mul_right P (show x≤y by omega)
     omega
 · rename_i huv
   constructor
   · intro hh
     refine Classical.byContradiction fun hn=>?_
     have:=Nat.mul_le_mul_right P (show y≤x by omega)
     omega
   · intro hh
     have:=Nat.mul_le_mul_right P (show x+1≤y by omega)
     rw [Nat.add_mul] at this; omega
theorem bw_div {A B u v P:Nat} (hu:u < P) (hv:v < P) (h:P*B+v≤P*A+u):B+(if u < v then 1 else 0)≤A∧(P*A+u - (P*B+v)) / P=A - (B+(if u < v then 1 else 0)):=by
 have hP:0 < P:=by omega
 split
 · rename_i huv
   have hAB:B+1≤A:=by
    refine Classical.byContradiction fun hn=>?_
    have:=Nat.mul_le_mul_left P (show A≤B by omega)
    omega
   obtain ⟨k,rfl⟩:∃ k,A=B+1+k:=⟨A - (B+1),by omega⟩
   refine ⟨hAB,?_⟩
   rw [show P*(B+1+k)+u - (P*B+v)=P*k+(P+u - v) by rw [Nat.mul_add,Nat.mul_add,Nat.mul_one]; omega,Nat.mul_add_div hP,Nat.div_eq_of_lt (by omega)]
   omega
 · rename_i huv
   have hAB:B≤A:=by
    refine Classical.byContradiction fun hn=>?_
    have:=Nat.mul_le_mul_left P (show A+1≤B by omega)
    rw [Nat.mul_add,Nat.mul_one] at this
    omega
   obtain ⟨k,rfl⟩:∃ k,A=B+k:=⟨A - B,by omega⟩
   refine ⟨by omega,?_⟩
   rw [show P*(B+k)+u - (P*B+v)=P*k+(u - v) by rw [Nat.mul_add]; omega,Nat.mul_add_div hP,Nat.div_eq_of_lt (by omega)]
   omega
theorem bw8_step {a b:Nat} (h:b≤a) (i:Nat):(a / 256 ^ i % 256 < b / 256 ^ i % 256+bw8 a b i↔bw8 a b (i+1)=1) ∧
 (if a / 256 ^ i % 256 < b / 256 ^ i % 256+bw8 a b i then a / 256 ^ i % 256+256 - (b / 256 ^ i % 256+bw8 a b i) else a / 256 ^ i % 256 - (b / 256 ^ i % 256+bw8 a b i))=(a - b) / 256 ^ i % 256:=by
 have la:=Nat.mod_lt a (p8 i); have lb:=Nat.mod_lt b (p8 i)
 have da:=Nat.mod_lt (a / 256 ^ i) (show 0 < 256 by decide); have db:=Nat.mod_lt (b / 256 ^ i) (show 0 < 256 by decide)
 have h3:=bw_lt (x:=a / 256 ^ i % 256) (y:=b / 256 ^ i % 256) la lb
 rw [← pg,← pg] at h3
 have ea:=Nat.div_add_mod a (256 ^ i); have eb:=Nat.div_add_mod b (256 ^ i)
 obtain ⟨h4,h5⟩:=bw_div (A:=a / 256 ^ i) (B:=b / 256 ^ i) la lb (by rw [ea,eb]; exact h)
 rw [ea,eb] at h5
 have hb1:bw8 a b (i+1)=1↔a % 256 ^ (i+1) < b % 256 ^ (i+1):=by
  unfold bw8
  split
  · rename_i hh; exact ⟨fun _=>hh,fun _=>rfl⟩
  · rename_i hh; exact ⟨fun e=>absurd e (by decide),fun e=>absurd e hh⟩
 have hb0:(if a % 256 ^ i < b % 256 ^ i then 1 else 0)=bw8 a b i:=rfl
 rw [hb0] at h3 h4 h5
 refine ⟨by rw [hb1,h3],?_⟩
 rw [h5]
 generalize a / 256 ^ i=A at *; generalize b / 256 ^ i=B at *
 have hbw:bw8 a b i≤1:=by unfold bw8; split <;> omega
 generalize bw8 a b i=c at *
 split <;> omega
def set8 (v j x:Nat):Nat:=v / 256 ^ (j+1)*256 ^ (j+1)+x*256 ^ j+v % 256 ^ j
theorem set8_mod (v j x:Nat):set8 v j x % 256 ^ j=v % 256 ^ j:=by
 unfold set8
 rw [show v / 256 ^ (j+1)*256 ^ (j+1)+x*256 ^ j+v % 256 ^ j=v % 256 ^ j+(v / 256 ^ (j+1)*256+x)*256 ^ j by rw [p8s,Nat.add_mul]; rw [← Nat.mul_assoc,Nat.mul_right_comm]; omega,Nat.add_mul_mod_self_right,Nat.mod_mod]
theorem u6 (v j x:Nat):set8 v j x / 256 ^ j=v / 256 ^ (j+1)*256+x:=by
 unfold set8
 rw [show v / 256 ^ (j+1)*256 ^ (j+1)+x*256 ^ j+v % 256 ^ j=v % 256 ^ j+(v / 256 ^ (j+1)*256+x)*256 ^ j by rw [p8s,Nat.add_mul]; rw [← Nat.mul_assoc,Nat.mul_right_comm]; omega,Nat.add_mul_div_right _ _ (p8 j),Nat.div_eq_of_lt (Nat.mod_lt _ (p8 j)),Nat.zero_add]
theorem e8_set {n v j x:Nat} (hj:j < n) (hx:x < 256):(e8 n v).set j (x:Int)=e8 n (set8 v j x):=by
 refine zC (by rw [List.length_set,eY]) fun i hi=>?_
 by_cases hij:j=i
 · subst hij
   rw [List.getElem?_set_self (by rw [eY]; exact hj),u6]
   congr 2; omega
 · rw [List.getElem?_set_ne hij,tP hi]
   congr 2
   rcases Nat.lt_or_gt_of_ne hij with h | h
   · obtain ⟨k,rfl⟩:∃ k,i=j+(k+1):=⟨i - j - 1,by omega⟩
     rw [Nat.pow_add,← Nat.div_div_eq_div_mul,← Nat.div_div_eq_div_mul,u6,Nat.pow_succ,Nat.mul_comm (256 ^ k),← Nat.div_div_eq_div_mul,← Nat.div_div_eq_div_mul]
     congr 2
     rw [Nat.div_div_eq_div_mul v,← p8s]; omega
   · rw [← qg v j i h,← qg (set8 v j x) j i h,set8_mod]
theorem rep8 (n:Nat):List.replicate n (0:Int)=e8 n 0:=by
 refine zC (by simp) fun i hi=>?_
 rw [List.getElem?_replicate,if_pos hi,Nat.zero_div]; rfl
theorem cons8 (n v x:Nat) (hx:x < 256):(x:Int)::e8 n v=e8 (n+1) (v*256+x):=by
 refine zC (by simp [eY]) fun i hi=>?_
 cases i with
 | zero=>simp; omega
 | succ i =>
  rw [List.getElem?_cons_succ,tP (by omega),Nat.pow_succ,Nat.mul_comm (256 ^ i),← Nat.div_div_eq_div_mul]
  congr 4; omega
theorem vP (a b i:Nat) (hb:0 < b):(a / 256 ^ (i+1) % b*256+a / 256 ^ i % 256) / b+a / 256 ^ (i+1) / b*256=a / 256 ^ i / b∧(a / 256 ^ (i+1) % b*256+a / 256 ^ i % 256) % b=a / 256 ^ i % b:=by
 have e:a / 256 ^ (i+1)*256+a / 256 ^ i % 256=a / 256 ^ i:=by rw [p8s,← Nat.div_div_eq_div_mul]; omega
 have h1:=Nat.div_add_mod (a / 256 ^ (i+1)) b
 generalize a / 256 ^ (i+1)=A at *
 generalize a / 256 ^ i % 256=x at *
 rw [← e]
 have e2:A*256+x=A % b*256+x+A / b*256*b:=by
  have:A*256=(b*(A / b)+A % b)*256:=by rw [h1]
  rw [this,Nat.add_mul]
  rw [Nat.mul_comm b,Nat.mul_right_comm]; omega
 rw [e2,Nat.add_mul_div_right _ _ hb,Nat.add_mul_mod_self_right]
 exact ⟨rfl,rfl⟩
theorem wZ (a b i:Nat) (hb:0 < b):a / 256 ^ (i+1) % b*256+a / 256 ^ i % 256 < 256*b:=by
 have h1:=Nat.mod_lt (a / 256 ^ (i+1)) hb
 have h2:=Nat.mod_lt (a / 256 ^ i) (show 0 < 256 by decide)
 omega
theorem tS (Q i g:Nat) (hg:g < 256):(Q*256 ^ (i+1)+g*256 ^ i) / 256 ^ i % 256=g:=by
 rw [p8s,← Nat.mul_assoc,Nat.mul_right_comm,← Nat.add_mul,Nat.mul_div_cancel _ (p8 i)]; omega
theorem qJ (Q i g g':Nat) (hg:g < 256):set8 (Q*256 ^ (i+1)+g*256 ^ i) i g'=Q*256 ^ (i+1)+g'*256 ^ i:=by
 have e:(Q*256 ^ (i+1)+g*256 ^ i) / 256 ^ (i+1)=Q:=by
  rw [Nat.mul_comm Q,Nat.mul_add_div (p8 (i+1)),Nat.div_eq_of_lt (by rw [p8s,Nat.mul_comm (256 ^ i)]; exact Nat.mul_lt_mul_of_pos_right hg (p8 i)),Nat.add_zero]
 unfold set8
 rw [e,show (Q*256 ^ (i+1)+g*256 ^ i) % 256 ^ i=0 by rw [p8s,← Nat.mul_assoc,Nat.mul_right_comm,← Nat.add_mul]; exact Nat.mul_mod_left _ _,Nat.add_zero]
theorem next8 (a b i g:Nat) (hb:0 < b) (hg:(a / 256 ^ (i+1) % b*256+a / 256 ^ i % 256) / b=g):a / 256 ^ (i+1) / b*256 ^ (i+1)+g*256 ^ i=a / 256 ^ i / b*256 ^ i:=by
 have:=(vP a b i hb).1
 rw [hg] at this
 rw [← this,p8s,Nat.add_mul,Nat.mul_assoc,Nat.mul_comm (256 ^ i)]; omega
end Go.Sx
namespace Go.Sx
open Go Go.RowKit Go.Proofs
set_option maxRecDepth 100000
set_option maxHeartbeats 4000000
attribute [local irreducible] Code.wp wpList Rd Step ObS Ent
instance un245:Un Tryz.prog 245 (.slice 3):=⟨uu245⟩
theorem tr8_next {v m:Nat} (hm:0 < m) (hv:v < 256 ^ m) (h0:v / 256 ^ (m - 1) % 256=0):v < 256 ^ (m - 1):=by
 obtain ⟨k,rfl⟩:∃ k,m=k+1:=⟨m - 1,by omega⟩
 rw [Nat.add_sub_cancel] at *
 rw [p8s] at hv
 have:=Nat.div_lt_of_lt_mul hv
 rw [Nat.mod_eq_of_lt this] at h0
 exact (Nat.div_eq_zero_iff_lt (p8 k)).1 h0
theorem tr8_done {v m:Nat} (hv:v < 256 ^ m) (h:m=0∨v / 256 ^ (m - 1) % 256≠0):n8 v=m:=by
 have h1:=k8.2 hv
 rcases h with rfl | h
 · omega
 · refine Nat.le_antisymm h1 (Nat.not_lt.1 fun hl=>h ?_)
   rw [Nat.div_eq_of_lt (k8.1 (by omega))]
theorem mg (n v:Nat) (lv:Value) (hv:v < 256 ^ n) (w0:World) (hlv:View w0 lv (e8 n v)):Calls Tryz.prog 265 #[lv] w0 (dh w0 (nP lv (n8 v)) True):=by
 refine enter (N:=21) (args:=[lv]) Tryz.func265 rfl rfl ?_; intro ac h
 haveI:On:=⟨trivial⟩
 have hlen:=hlv.len
 rw [eY] at hlen
 refine gz h <| (W) ?_; clear h ac; intro ac wo h
 rw [eY] at h
 refine wp_loop_ghost (fun n_ a_ w_=>∃ (m:Nat),(m < n_)∧(m≤n)∧(v < 256 ^ m)∧St w0 21 [(0,lv),(3,iN m)] [] a_ w_) (n+1) ⟨n,by omega,by omega,hv,(h.pick [] (by decide)).sub ⟨rfl,rfl,trivial⟩⟩ ?_
 clear h ac wo; rintro n1 ac wo ⟨m,hm1,hm,hvm,h⟩
 obtain ⟨m1,rfl⟩:∃ m,n1=m+1:=⟨n1 - 1,by omega⟩
 have hpos:decide (((m:Nat):Int)>0)=true→0 < m:=fun h=>by have:=of_decide_eq_true h; omega
 have hml:m≤9223372036854775807:=by omega
 have hL:=eY n v
 refine gz h <| (ai) ?_ ?_ <;> clear h ac wo <;> intro ac wo h hc
 ·
  obtain ⟨h1,h2⟩:=Bool.and_eq_true_iff.mp hc
  have hp:=hpos h1
  rw [nG (by omega)] at h2
  have h3:v / 256 ^ (m - 1) % 256=0:=by have:=eq_of_beq h2; omega
  refine gz h <| (W) ?_; clear h ac wo; intro ac wo h
  exact az ⟨m1,by omega,m - 1,by omega,by omega,tr8_next hp hvm h3,(h.pick [] (by decide)).sub ⟨rfl,rfl,trivial⟩⟩
 ·
  have hd:=tr8_done hvm (by
   by_cases h0:m=0
   · exact .inl h0
   · refine .inr fun e=>?_
     have h1:decide ((m:Int)>0)=true:=decide_eq_true (by omega)
     rw [nG (by omega),e,h1] at hc
     cases hc)
  refine gz h <| (xo (hs:=by exact r_cut (n:=m) uu245 Tryz.sizeOf3 rfl rfl hlv (by rw [eY]; omega))) <| (W) ?_; clear h ac wo; intro ac wo h
  exact (rt h) (h.retP (by rw [hd]; rfl) trivial)
theorem f5:SlT Tryz.prog 245 3 1 8 [.int .i64 0]:=⟨Tryz.underlying245,Tryz.t3,_,Tryz.type3,rfl,rfl,rfl,rfl,rfl,by decide,by decide⟩
theorem subN {w0:World} {F:List (Nat×Value)} {x:Operand} {t tt:TypeId} {m:Nat} (hx:ev F x=some (iN m)) (hm:m≤9223372036854775807):Rd Tryz.prog w0 F [] (.binOp .sub t x (.const (.int .i64 1)) tt) (.int .i64 ((m:Int) - 1)) :=
 fv hx rfl (r:=(m:Int) - 1) (by rw [IntKind.wrap_i64]; omega)
theorem bs_dig {m k:Nat} (h:k < n8 m) (h2:n8 m - 1 - k < (bs m).size):((bs m)[n8 m - 1 - k]'h2).toNat=m / 256 ^ k % 256:=by
 rw [aag]; congr 2; show 256 ^ (n8 m - 1 - _)=_; congr 1; omega
instance cf265:Cf Tryz.prog 265:=⟨Tryz.call265⟩
theorem zI (a:GI) (hz:n8 a.mag≤1073741824) (w0:World):Calls Tryz.prog 261 #[vI a] w0 (RetR w0 3 (d8 a.mag) True):=by
 refine enter (N:=23) (args:=[vI a]) Tryz.func261 rfl rfl ?_; intro ac h
 haveI:On:=⟨trivial⟩
 have hb:(bs a.mag).size=n8 a.mag:=fm _
 refine gz h <| (xb) fun b1=>(xo (hs:=by exact lM uu9 rfl)) <| (xo (hs:=by exact fv rfl rfl (r:=(n8 a.mag:Int) - 1) (by rw [hb,IntKind.wrap_i64]; omega))) <| (W) ?_; clear h ac; intro ac wo h
 replace h:=h.nilRow (α:=Int) 3
 refine wp_loop_ghost (fun n_ a_ w_=>∃ (k:Nat) (sv:Value),(n8 a.mag - k < n_)∧(k≤n8 a.mag)∧St w0 23 [(1,ptr b1 0),(3,sv),(4,.int .i64 ((n8 a.mag:Int) - 1 - (k:Int)))] [.row (α:=Int) 3 sv (e8 k a.mag),.blk b1 (cI a) 27] a_ w_) (n8 a.mag+1) ⟨0,_,by omega,by omega,by rw [show ((n8 a.mag:Int) - 1 - ((0:Nat):Int))=(n8 a.mag:Int) - 1 by omega]; exact h.re [0,1]⟩ ?_
 clear h ac wo; rintro n1 ac wo ⟨k,sv,hm1,hk,h⟩
 obtain ⟨m1,rfl⟩:∃ m,n1=m+1:=⟨n1 - 1,by omega⟩
 refine gz h <| (ai) ?_ ?_ <;> clear h ac wo <;> intro ac wo h hc
 ·
  have hlt:k < n8 a.mag:=by have:=of_decide_eq_true hc; omega
  rw [show ((n8 a.mag:Int) - 1 - (k:Int))=((n8 a.mag - 1 - k:Nat):Int) by omega] at h
  have hi:n8 a.mag - 1 - k < (bs a.mag).size:=by rw [hb]; omega
  have hg:=bs_dig hlt hi
  refine gz h <| (xo (hs:=by exact nh (i:=n8 a.mag - 1 - k) uu9 rfl rfl hi)) <| (xo (hs:=by exact a8 uu5 uu3 rfl (r:=((a.mag / 256 ^ k % 256:Nat):Int)) (by rw [hg,IntKind.wrap_i64]; omega))) <| (W) ?_; clear h ac wo; intro ac wo h
  refine nw h (bT (α:=Int) (xs:=[.tmp 18]) (vs:=[.int .i64 ((a.mag / 256 ^ k % 256:Nat):Int)]) [((a.mag / 256 ^ k % 256:Nat):Int)] f5 rfl rfl rfl (by decide)) rfl ?_; clear h ac wo; intro s1 ac wo _ h
  refine on2 h 1 0 rfl rfl (eA (xs:=e8 k a.mag) (ys:=[((a.mag / 256 ^ k % 256:Nat):Int)]) f5 (fun w hs=>(row_view hs 0 rfl)) rfl rfl (by rw [eY]; show _+1≤_; omega)) rfl ?_; clear h ac wo; intro s2 ac wo _ h
  rw [← jF] at h
  refine gz h <| (xo (hs:=by exact subN (m:=n8 a.mag - 1 - k) rfl (by omega))) <| (W) ?_; clear h ac wo; intro ac wo h
  exact az ⟨m1,by omega,k+1,s2,by omega,by omega,by rw [show ((n8 a.mag:Int) - 1 - ((k+1:Nat):Int))=((n8 a.mag - 1 - k:Nat):Int) - 1 by omega]; exact h.re [0,2]⟩
 ·
  obtain rfl:k=n8 a.mag:=by have:=of_decide_eq_false hc; omega
  have hsl:=(row_view h.sep 0 rfl).sl
  rw [eY] at hsl
  refine gz h <| (xc (ct:=by exact fun w_ hB_ hS_=>mg (n8 a.mag) a.mag sv (jY _) w_ (row_view hS_ 0 rfl))) <| (W) ?_; clear h ac wo; intro ac wo h
  rw [qj hsl] at h
  exact (rt h) (h.retR 0 rfl trivial)
end Go.Sx
namespace Go.Sx
open Go Go.RowKit Go.Proofs
set_option maxRecDepth 100000
set_option maxHeartbeats 4000000
attribute [local irreducible] Code.wp wpList Rd Step ObS Ent
section
variable {w0:World} {F:List (Nat×Value)} {x y:Operand} {t tt:TypeId}
theorem mulN {m n:Int} (hx:ev F x=some (.int .i64 m)) (hy:ev F y=some (.int .i64 n)) (h:-9223372036854775808≤m*n∧m*n < 9223372036854775808):Rd Tryz.prog w0 F [] (.binOp .mul t x y tt) (.int .i64 (m*n)) :=
 lD hx hy (by rw [IntKind.wrap_i64]; omega)
theorem subI {m n:Int} (hx:ev F x=some (.int .i64 m)) (hy:ev F y=some (.int .i64 n)) (h:-9223372036854775808≤m - n∧m - n < 9223372036854775808):Rd Tryz.prog w0 F [] (.binOp .sub t x y tt) (.int .i64 (m - n)) :=
 fv hx hy (by rw [IntKind.wrap_i64]; omega)
theorem rem8 {m:Nat} (hx:ev F x=some (iN m)):Rd Tryz.prog w0 F [] (.binOp .rem t x (.const (.int .i64 256)) tt) (iN (m % 256)) :=
 ru hx rfl (by decide) (by rw [Int.tmod_eq_emod_of_nonneg (Int.natCast_nonneg m)]; rfl)
theorem quo8 {m:Nat} (hx:ev F x=some (iN m)) (hm:m≤9223372036854775807):Rd Tryz.prog w0 F [] (.binOp .quo t x (.const (.int .i64 256)) tt) (iN (m / 256)) :=
 oV hx rfl (by decide) (by rw [Int.tdiv_eq_ediv_of_nonneg (Int.natCast_nonneg m),IntKind.wrap_i64]; omega)
end
theorem cv8 (d:Nat):IntKind.u8.wrap ((d % 256:Nat):Int)=((UInt8.ofNat (d % 256)).toNat:Int):=by
 rw [IntKind.wrap_u8,UInt8.toNat_ofNat']; omega
theorem lH (n v:Nat) (lv:Value) (neg:Bool) (hv:v < 256 ^ n) (hn:n8 v≤1073741824) (w0:World) (hlv:View w0 lv (e8 n v)):Calls Tryz.prog 264 #[lv,.bool neg] w0 (dh w0 (vI ⟨neg && decide (0 < v),v⟩) True):=by
 refine enter (N:=39) (args:=[lv,.bool neg]) Tryz.func264 rfl rfl ?_; intro ac h
 haveI:On:=⟨trivial⟩
 have hN:n8 v≤n:=k8.2 hv
 have hV:=hlv.cut (n:=n8 v) (by rw [eY]; exact hN)
 rw [r5 hN] at hV
 have hL:=eY (n8 v) v
 refine gz h <| (xa) fun b4=>(xc (ct:=by exact fun w_ hB_ hS_=>mg n v lv hv w_ (hlv.below hB_))) <| (W) ?_; clear h ac; intro ac wo h
 rw [hL] at h
 refine nw h (mu (n:=n8 v) ((0:UInt8)) rfl xU rfl rfl rfl (by omega) (by omega)) rfl ?_; clear h ac wo; intro sv ac wo nns h
 refine gz h <| (W) ?_; clear h ac wo; intro ac wo h
 rw [z8 _ v] at h
 refine wp_loop_ghost (fun n_ a_ w_=>∃ (i:Nat),(n8 v - i < n_)∧(i≤n8 v)∧St w0 39 [(0,nP lv (n8 v)),(1,.bool neg),(4,ptr b4 0),(5,sv),(6,iN i)] [.row (α:=UInt8) 5 sv (bz (n8 v) i v),.blk b4 (cI ⟨false,0⟩) 27] a_ w_) (n8 v+1) ⟨0,by omega,by omega,h.re [0,1]⟩ ?_
 clear h ac wo; rintro n1 ac wo ⟨i,hm1,hi,h⟩
 obtain ⟨m1,rfl⟩:∃ m,n1=m+1:=⟨n1 - 1,by omega⟩
 refine gz h <| (ai) ?_ ?_ <;> clear h ac wo <;> intro ac wo h hc
 ·
  rw [hL] at hc h
  have hlt:i < n8 v:=by have:=of_decide_eq_true hc; omega
  refine gz h <| (xo (hs:=by exact subI rfl rfl (by omega))) <| (W) ?_; clear h ac wo; intro ac wo h
  rw [hL,nG hlt,show ((n8 v - 1:Nat):Int) - (i:Int)=((n8 v - 1 - i:Nat):Int) by omega] at h
  refine gz h <| (xo (hs:=by exact a8 uu3 uu5 rfl (r:=((UInt8.ofNat (v / 256 ^ i % 256)).toNat:Int)) (cv8 _))) <| (W) ?_; clear h ac wo; intro ac wo h
  refine up h 0 rfl (g5 (k:=0) (u':=UInt8.ofNat (v / 256 ^ i % 256)) Tryz.sizeOf5 (rb (by omega)) rfl rfl rfl rfl rfl rfl rfl rfl) ?_; clear h ac wo; intro ac wo h
  replace h:=h.rowEq 0 rfl (aaa hlt rfl)
  refine gz h <| (W) ?_; clear h ac wo; intro ac wo h
  exact az ⟨m1,by omega,i+1,by omega,by omega,h.re [0,1]⟩
 ·
  rw [hL] at hc
  obtain rfl:i=n8 v:=by have:=of_decide_eq_false hc; omega
  have hz:bz (n8 v) (n8 v) v=(le v).reverse:=by
   rw [bz_all (jY v)]; show List.replicate (n8 v - n8 v) 0++_=_; rw [Nat.sub_self]; rfl
  rw [hz] at h
  refine gz h <| (W) ?_; clear h ac wo; intro ac wo h
  have hneg:decide (((n8 v:Nat):Int)>0)=decide (0 < v):=by
   rw [decide_eq_decide,← yF]; omega
  rw [hL,hneg] at h
  refine gz h <| (xo1 0 (hs:=by exact r_str (l:=(le v).reverse) (e:=5) Tryz.underlying339 Tryz.underlying5 Tryz.underlying9 rfl)) <| (xo (hs:=by exact bX qo exs rfl (v:=vI ⟨neg && decide (0 < v),v⟩) rfl)) <| (W) ?_; clear h ac wo; intro ac wo h
  exact rtc 1 h (h.retP (u:=vI ⟨neg && decide (0 < v),v⟩) rfl trivial)
end Go.Sx
namespace Go.Sx
open Go Go.RowKit Go.Proofs
set_option maxRecDepth 100000
set_option maxHeartbeats 4000000
attribute [local irreducible] Code.wp wpList Rd Step ObS Ent
theorem vn (a b:Nat) (av bv:Value) (ha:n8 a≤1073741824) (hb:n8 b≤1073741824) (w0:World) (hav:View w0 av (d8 a)) (hbv:View w0 bv (d8 b)):Calls Tryz.prog 304 #[av,bv] w0 (RetR w0 3 (d8 (a+b)) True):=by
 refine enter (N:=53) (args:=[av,bv]) Tryz.func304 rfl rfl ?_; intro ac h
 haveI:On:=⟨trivial⟩
 have hLa:=eY (n8 a) a
 have hLb:=eY (n8 b) b
 unfold d8 at hav hbv
 have hs:n8 (a+b)≤1073741825:=by
  have h1:=jY a; have h2:=jY b
  have h3:=Nat.pow_le_pow_right (show 0 < 256 by decide) (Nat.le_max_left (n8 a) (n8 b)); have h4:=Nat.pow_le_pow_right (show 0 < 256 by decide) (Nat.le_max_right (n8 a) (n8 b))
  have:=k8.2 (show a+b < 256 ^ (max (n8 a) (n8 b)+1) by rw [p8s]; omega)
  omega
 refine gz h <| (W) ?_; clear h ac; intro ac wo h
 replace h:=h.nilRow (α:=Int) 3
 refine wp_loop_ghost (fun n_ a_ w_=>∃ (i:Nat) (sv:Value),(n8 (a+b) - i < n_)∧(i≤n8 (a+b))∧St w0 53 [(0,av),(1,bv),(5,sv),(6,iN (cy8 a b i)),(7,iN i)] [.row (α:=Int) 3 sv (e8 i (a+b))] a_ w_) (n8 (a+b)+1) ⟨0,_,by omega,by omega,by rw [cy8_zero]; exact h.re [0]⟩ ?_
 clear h ac wo; rintro n1 ac wo ⟨i,sv,hm1,hi,h⟩
 obtain ⟨m1,rfl⟩:∃ m,n1=m+1:=⟨n1 - 1,by omega⟩
 have hcy:=cy8_le a b i
 obtain ⟨st1,st2⟩:=cy8_step a b i
 have da:=Nat.mod_lt (a / 256 ^ i) (show 0 < 256 by decide)
 have db:=Nat.mod_lt (b / 256 ^ i) (show 0 < 256 by decide)
 obtain ⟨c,hc0⟩:∃ c,cy8 a b i=c:=⟨_,rfl⟩
 rw [hc0] at h hcy st1 st2
 refine gz h <| (ai) ?_ ?_ <;> clear h ac wo <;> intro ac wo h hc
 ·
  rw [hLa,hLb] at hc
  have hlt:i < n8 (a+b):=by
   simp only [Bool.or_eq_true,decide_eq_true_eq] at hc
   by_cases h1:i < n8 a
   · exact n8_add (.inl h1)
   · by_cases h2:i < n8 b
     · exact n8_add (.inr h2)
     · refine (zM h1 h2).1 ?_
       rw [hc0]
       rcases hc with (hc | hc) | hc <;> omega
  obtain ⟨S,hS⟩:∃ S,c+a / 256 ^ i % 256+b / 256 ^ i % 256=S:=⟨_,rfl⟩
  rw [hS] at st1 st2
  refine gz h <| (ai) ?_ ?_ <;> clear h ac wo <;> intro ac wo h hc1
  ·
   rw [hLa] at hc1
   have ha1:i < n8 a:=by have:=of_decide_eq_true hc1; omega
   refine gz h <| (W) ?_; clear h ac wo; intro ac wo h
   rw [nG ha1] at h
   refine gz h <| (W) ?_; clear h ac wo; intro ac wo h
   refine gz h <| (ai) ?_ ?_ <;> clear h ac wo <;> intro ac wo h hc2
   ·
    rw [hLb] at hc2
    have hb1:i < n8 b:=by have:=of_decide_eq_true hc2; omega
    refine gz h <| (W) ?_; clear h ac wo; intro ac wo h
    rw [nG hb1] at h
    refine gz h <| (W) ?_; clear h ac wo; intro ac wo h
    rw [hS] at h
    refine gz h <| (xo (hs:=by exact rem8 (m:=S) rfl)) <| (W) ?_; clear h ac wo; intro ac wo h
    rw [st2] at h
    refine nw h (bT (α:=Int) (xs:=[.tmp 46]) (vs:=[.int .i64 (((a+b) / 256 ^ i % 256:Nat):Int)]) [(((a+b) / 256 ^ i % 256:Nat):Int)] f5 rfl rfl rfl (by decide)) rfl ?_; clear h ac wo; intro s1 ac wo _ h
    refine on2 h 1 0 rfl rfl (eA (xs:=e8 i (a+b)) (ys:=[(((a+b) / 256 ^ i % 256:Nat):Int)]) f5 (fun w hs=>(row_view hs 0 rfl)) rfl rfl (by rw [eY]; show _+1≤_; omega)) rfl ?_; clear h ac wo; intro s2 ac wo _ h
    rw [← jF] at h
    refine gz h <| (xo (hs:=by exact quo8 (m:=S) rfl (by omega))) <| (W) ?_; clear h ac wo; intro ac wo h
    rw [st1] at h
    exact az ⟨m1,by omega,i+1,s2,by omega,by omega,h.re [0]⟩
   ·
    rw [hLb] at hc2
    have hb1:¬ i < n8 b:=by have:=of_decide_eq_false hc2; omega
    have z2:=vS hb1
    rw [show c+a / 256 ^ i % 256=S by omega] at h
    refine gz h <| (xo (hs:=by exact rem8 (m:=S) rfl)) <| (W) ?_; clear h ac wo; intro ac wo h
    rw [st2] at h
    refine nw h (bT (α:=Int) (xs:=[.tmp 46]) (vs:=[.int .i64 (((a+b) / 256 ^ i % 256:Nat):Int)]) [(((a+b) / 256 ^ i % 256:Nat):Int)] f5 rfl rfl rfl (by decide)) rfl ?_; clear h ac wo; intro s1 ac wo _ h
    refine on2 h 1 0 rfl rfl (eA (xs:=e8 i (a+b)) (ys:=[(((a+b) / 256 ^ i % 256:Nat):Int)]) f5 (fun w hs=>(row_view hs 0 rfl)) rfl rfl (by rw [eY]; show _+1≤_; omega)) rfl ?_; clear h ac wo; intro s2 ac wo _ h
    rw [← jF] at h
    refine gz h <| (xo (hs:=by exact quo8 (m:=S) rfl (by omega))) <| (W) ?_; clear h ac wo; intro ac wo h
    rw [st1] at h
    exact az ⟨m1,by omega,i+1,s2,by omega,by omega,h.re [0]⟩
  ·
   rw [hLa] at hc1
   have ha1:¬ i < n8 a:=by have:=of_decide_eq_false hc1; omega
   have z:=vS ha1
   rw [show c=c+a / 256 ^ i % 256 by omega] at h
   refine gz h <| (ai) ?_ ?_ <;> clear h ac wo <;> intro ac wo h hc2
   ·
    rw [hLb] at hc2
    have hb1:i < n8 b:=by have:=of_decide_eq_true hc2; omega
    refine gz h <| (W) ?_; clear h ac wo; intro ac wo h
    rw [nG hb1] at h
    refine gz h <| (W) ?_; clear h ac wo; intro ac wo h
    rw [hS] at h
    refine gz h <| (xo (hs:=by exact rem8 (m:=S) rfl)) <| (W) ?_; clear h ac wo; intro ac wo h
    rw [st2] at h
    refine nw h (bT (α:=Int) (xs:=[.tmp 46]) (vs:=[.int .i64 (((a+b) / 256 ^ i % 256:Nat):Int)]) [(((a+b) / 256 ^ i % 256:Nat):Int)] f5 rfl rfl rfl (by decide)) rfl ?_; clear h ac wo; intro s1 ac wo _ h
    refine on2 h 1 0 rfl rfl (eA (xs:=e8 i (a+b)) (ys:=[(((a+b) / 256 ^ i % 256:Nat):Int)]) f5 (fun w hs=>(row_view hs 0 rfl)) rfl rfl (by rw [eY]; show _+1≤_; omega)) rfl ?_; clear h ac wo; intro s2 ac wo _ h
    rw [← jF] at h
    refine gz h <| (xo (hs:=by exact quo8 (m:=S) rfl (by omega))) <| (W) ?_; clear h ac wo; intro ac wo h
    rw [st1] at h
    exact az ⟨m1,by omega,i+1,s2,by omega,by omega,h.re [0]⟩
   ·
    rw [hLb] at hc2
    have hb1:¬ i < n8 b:=by have:=of_decide_eq_false hc2; omega
    have z2:=vS hb1
    rw [show c+a / 256 ^ i % 256=S by omega] at h
    refine gz h <| (xo (hs:=by exact rem8 (m:=S) rfl)) <| (W) ?_; clear h ac wo; intro ac wo h
    rw [st2] at h
    refine nw h (bT (α:=Int) (xs:=[.tmp 46]) (vs:=[.int .i64 (((a+b) / 256 ^ i % 256:Nat):Int)]) [(((a+b) / 256 ^ i % 256:Nat):Int)] f5 rfl rfl rfl (by decide)) rfl ?_; clear h ac wo; intro s1 ac wo _ h
    refine on2 h 1 0 rfl rfl (eA (xs:=e8 i (a+b)) (ys:=[(((a+b) / 256 ^ i % 256:Nat):Int)]) f5 (fun w hs=>(row_view hs 0 rfl)) rfl rfl (by rw [eY]; show _+1≤_; omega)) rfl ?_; clear h ac wo; intro s2 ac wo _ h
    rw [← jF] at h
    refine gz h <| (xo (hs:=by exact quo8 (m:=S) rfl (by omega))) <| (W) ?_; clear h ac wo; intro ac wo h
    rw [st1] at h
    exact az ⟨m1,by omega,i+1,s2,by omega,by omega,h.re [0]⟩
 ·
  rw [hLa,hLb] at hc
  have hx:¬ i < n8 a∧¬ i < n8 b∧c=0:=by
   simp only [Bool.or_eq_false_iff,decide_eq_false_iff_not] at hc
   omega
  have he:i=n8 (a+b):=by
   have:=zM hx.1 hx.2.1
   rw [hc0,hx.2.2] at this
   omega
  subst he
  have hsl:=(row_view h.sep 0 rfl).sl
  rw [eY] at hsl
  refine gz h <| (xc (ct:=by exact fun w_ hB_ hS_=>mg (n8 (a+b)) (a+b) sv (jY _) w_ (row_view hS_ 0 rfl))) <| (W) ?_; clear h ac wo; intro ac wo h
  rw [qj hsl] at h
  exact (rt h) (h.retR 0 rfl trivial)
theorem tg (a b:Nat) (av bv:Value) (hba:b≤a) (ha:n8 a≤1073741824) (w0:World) (hav:View w0 av (d8 a)) (hbv:View w0 bv (d8 b)):Calls Tryz.prog 305 #[av,bv] w0 (RetR w0 3 (d8 (a - b)) True):=by
 refine enter (N:=41) (args:=[av,bv]) Tryz.func305 rfl rfl ?_; intro ac h
 haveI:On:=⟨trivial⟩
 have hLa:=eY (n8 a) a
 have hLb:=eY (n8 b) b
 unfold d8 at hav hbv
 have hs:n8 (a - b)≤n8 a:=k8.2 (Nat.lt_of_le_of_lt (Nat.sub_le _ _) (jY a))
 have hnb:n8 b≤n8 a:=k8.2 (Nat.lt_of_le_of_lt hba (jY a))
 refine gz h <| (W) ?_; clear h ac; intro ac wo h
 replace h:=h.nilRow (α:=Int) 3
 refine wp_loop_ghost (fun n_ a_ w_=>∃ (i:Nat) (sv:Value),(n8 a - i < n_)∧(i≤n8 a)∧St w0 41 [(0,av),(1,bv),(5,sv),(6,iN (bw8 a b i)),(7,iN i)] [.row (α:=Int) 3 sv (e8 i (a - b))] a_ w_) (n8 a+1) ⟨0,_,by omega,by omega,by rw [show bw8 a b 0=0 by unfold bw8; rw [Nat.pow_zero,Nat.mod_one,Nat.mod_one]; rfl]; exact h.re [0]⟩ ?_
 clear h ac wo; rintro n1 ac wo ⟨i,sv,hm1,hi,h⟩
 obtain ⟨m1,rfl⟩:∃ m,n1=m+1:=⟨n1 - 1,by omega⟩
 obtain ⟨st1,st2⟩:=bw8_step hba i
 have da:=Nat.mod_lt (a / 256 ^ i) (show 0 < 256 by decide)
 have db:=Nat.mod_lt (b / 256 ^ i) (show 0 < 256 by decide)
 have hc1:bw8 a b i≤1:=by unfold bw8; split <;> omega
 have hc2:bw8 a b (i+1)≤1:=by unfold bw8; split <;> omega
 obtain ⟨c,hc0⟩:∃ c,bw8 a b i=c:=⟨_,rfl⟩
 obtain ⟨c',hc0'⟩:∃ c,bw8 a b (i+1)=c:=⟨_,rfl⟩
 obtain ⟨x,hx⟩:∃ x,a / 256 ^ i % 256=x:=⟨_,rfl⟩
 obtain ⟨y,hy⟩:∃ x,b / 256 ^ i % 256=x:=⟨_,rfl⟩
 obtain ⟨z,hz⟩:∃ x,(a - b) / 256 ^ i % 256=x:=⟨_,rfl⟩
 rw [hc0] at h hc1 st1 st2
 rw [hc0'] at hc2 st1
 rw [hx,hy] at st1 st2
 rw [hz] at st2
 rw [hx] at da; rw [hy] at db
 refine gz h <| (ai) ?_ ?_ <;> clear h ac wo <;> intro ac wo h hc
 ·
  rw [hLa] at hc
  have hlt:i < n8 a:=by have:=of_decide_eq_true hc; omega
  refine gz h <| (W) ?_; clear h ac wo; intro ac wo h
  rw [nG hlt,hx] at h
  refine gz h <| (xo (hs:=by exact subI rfl rfl (by omega))) <| (ai) ?_ ?_ <;> clear h ac wo <;> intro ac wo h hcb
  ·
   rw [hLb] at hcb
   have hb1:i < n8 b:=by have:=of_decide_eq_true hcb; omega
   refine gz h <| (W) ?_; clear h ac wo; intro ac wo h
   rw [nG hb1,hy] at h
   refine gz h <| (xo (hs:=by exact subI rfl rfl (by omega))) <| (W) ?_; clear h ac wo; intro ac wo h
   refine gz h <| (ai) ?_ ?_ <;> clear h ac wo <;> intro ac wo h hcd
   ·
    have hd:x < y+c:=by have:=of_decide_eq_true hcd; omega
    have hc3:c'=1:=st1.1 hd
    rw [if_pos hd] at st2
    refine gz h <| (W) ?_; clear h ac wo; intro ac wo h
    rw [show (x:Int) - (c:Int) - (y:Int)+256=((z:Nat):Int) by omega] at h
    refine nw h (bT (α:=Int) (xs:=[.tmp 36]) (vs:=[.int .i64 ((z:Nat):Int)]) [((z:Nat):Int)] f5 rfl rfl rfl (by decide)) rfl ?_; clear h ac wo; intro s1 ac wo _ h
    refine on2 h 1 0 rfl rfl (eA (xs:=e8 i (a - b)) (ys:=[((z:Nat):Int)]) f5 (fun w hs=>(row_view hs 0 rfl)) rfl rfl (by rw [eY]; show _+1≤_; omega)) rfl ?_; clear h ac wo; intro s2 ac wo _ h
    rw [← hz,← jF] at h
    refine gz h <| (W) ?_; clear h ac wo; intro ac wo h
    exact az ⟨m1,by omega,i+1,s2,by omega,by omega,by rw [hc0',show c'=1 by omega]; exact h.re [0]⟩
   ·
    have hd:¬ x < y+c:=by have:=of_decide_eq_false hcd; omega
    have hc3:c'=0:=by
     have:c'≠1:=fun e=>hd (st1.2 e)
     omega
    rw [if_neg hd] at st2
    rw [show (x:Int) - (c:Int) - (y:Int)=((z:Nat):Int) by omega] at h
    refine gz h <| (W) ?_; clear h ac wo; intro ac wo h
    refine nw h (bT (α:=Int) (xs:=[.tmp 36]) (vs:=[.int .i64 ((z:Nat):Int)]) [((z:Nat):Int)] f5 rfl rfl rfl (by decide)) rfl ?_; clear h ac wo; intro s1 ac wo _ h
    refine on2 h 1 0 rfl rfl (eA (xs:=e8 i (a - b)) (ys:=[((z:Nat):Int)]) f5 (fun w hs=>(row_view hs 0 rfl)) rfl rfl (by rw [eY]; show _+1≤_; omega)) rfl ?_; clear h ac wo; intro s2 ac wo _ h
    rw [← hz,← jF] at h
    refine gz h <| (W) ?_; clear h ac wo; intro ac wo h
    exact az ⟨m1,by omega,i+1,s2,by omega,by omega,by rw [hc0',show c'=0 by omega]; exact h.re [0]⟩
  ·
   rw [hLb] at hcb
   have hb1:¬ i < n8 b:=by have:=of_decide_eq_false hcb; omega
   have y0:=vS hb1
   rw [hy] at y0
   rw [show ((x:Nat):Int) - ((c:Nat):Int)=(x:Int) - (c:Int) - (y:Int) by omega] at h
   refine gz h <| (ai) ?_ ?_ <;> clear h ac wo <;> intro ac wo h hcd
   ·
    have hd:x < y+c:=by have:=of_decide_eq_true hcd; omega
    have hc3:c'=1:=st1.1 hd
    rw [if_pos hd] at st2
    refine gz h <| (W) ?_; clear h ac wo; intro ac wo h
    rw [show (x:Int) - (c:Int) - (y:Int)+256=((z:Nat):Int) by omega] at h
    refine nw h (bT (α:=Int) (xs:=[.tmp 36]) (vs:=[.int .i64 ((z:Nat):Int)]) [((z:Nat):Int)] f5 rfl rfl rfl (by decide)) rfl ?_; clear h ac wo; intro s1 ac wo _ h
    refine on2 h 1 0 rfl rfl (eA (xs:=e8 i (a - b)) (ys:=[((z:Nat):Int)]) f5 (fun w hs=>(row_view hs 0 rfl)) rfl rfl (by rw [eY]; show _+1≤_; omega)) rfl ?_; clear h ac wo; intro s2 ac wo _ h
    rw [← hz,← jF] at h
    refine gz h <| (W) ?_; clear h ac wo; intro ac wo h
    exact az ⟨m1,by omega,i+1,s2,by omega,by omega,by rw [hc0',show c'=1 by omega]; exact h.re [0]⟩
   ·
    have hd:¬ x < y+c:=by have:=of_decide_eq_false hcd; omega
    have hc3:c'=0:=by
     have:c'≠1:=fun e=>hd (st1.2 e)
     omega
    rw [if_neg hd] at st2
    rw [show (x:Int) - (c:Int) - (y:Int)=((z:Nat):Int) by omega] at h
    refine gz h <| (W) ?_; clear h ac wo; intro ac wo h
    refine nw h (bT (α:=Int) (xs:=[.tmp 36]) (vs:=[.int .i64 ((z:Nat):Int)]) [((z:Nat):Int)] f5 rfl rfl rfl (by decide)) rfl ?_; clear h ac wo; intro s1 ac wo _ h
    refine on2 h 1 0 rfl rfl (eA (xs:=e8 i (a - b)) (ys:=[((z:Nat):Int)]) f5 (fun w hs=>(row_view hs 0 rfl)) rfl rfl (by rw [eY]; show _+1≤_; omega)) rfl ?_; clear h ac wo; intro s2 ac wo _ h
    rw [← hz,← jF] at h
    refine gz h <| (W) ?_; clear h ac wo; intro ac wo h
    exact az ⟨m1,by omega,i+1,s2,by omega,by omega,by rw [hc0',show c'=0 by omega]; exact h.re [0]⟩
 ·
  rw [hLa] at hc
  obtain rfl:i=n8 a:=by have:=of_decide_eq_false hc; omega
  refine gz h <| (xc (ct:=by exact fun w_ hB_ hS_=>mg (n8 a) (a - b) sv (Nat.lt_of_le_of_lt (Nat.sub_le _ _) (jY a)) w_ (row_view hS_ 0 rfl))) <| (W) ?_; clear h ac wo; intro ac wo h
  replace h:=h.rowcut 0 (n8 (a - b)) rfl (by rw [eY]; exact hs)
  rw [r5 hs] at h
  exact (rt h) (h.retR 0 rfl trivial)
end Go.Sx
