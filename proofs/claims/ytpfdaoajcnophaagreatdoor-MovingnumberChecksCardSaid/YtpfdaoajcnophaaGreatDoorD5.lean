/- A part of the proof of movingnumberChecks. -/
import Derived.Test.YtpfdaoajcnophaaGreatDoorD4
import Derived.Test.YtpfdaoajcnophaaGreatDoorD1
set_option linter.unusedVariables false
set_option linter.unusedSimpArgs false
open Go.Proofs.Tryz renaming isAgg46 → aa46, sizeOf46 → zz46, isAgg4 → aa4, underlying4 → nn4, runUnderlying317 → uu317, sizeOf29 → zz29, isAgg29 → aa29, isAgg9 → aa9, isAgg27 → aa27, sizeOf27 → zz27, underlying72 → nn72, underlying76 → nn76, runUnderlying9 → uu9
namespace Go.Sx
open Go Go.RowKit Go.Proofs
set_option maxRecDepth 100000
set_option maxHeartbeats 8000000
attribute [local irreducible] Code.wp wpList Rd Step ObS Ent
attribute [local irreducible] ah ak aq an bN aQ dU vk sW sO qt cC aM aB
instance cf140:Cf Tryz.prog 140:=⟨Tryz.call140⟩
theorem w0':sC 0=⟨oQ,oQ,false⟩:=by decide +kernel
theorem w4':sC 4=in4:=by decide +kernel
theorem exex_ct (w0:World):Calls Tryz.prog 138 #[] w0 (RetR w0 76 [y8] True):=by
 refine enter (N:=9) (args:=[]) Tryz.func138 rfl rfl ?_; intro ac h
 have c1:=mV 0 og
 have c2:=mV 4 og
 have c3:=rH (-2) 1 og og (by decide)
 have c4:=rH 1 1 og og (by decide)
 rw [w0'] at c1
 rw [w4'] at c2
 rw [show ofQ (-2) 1=exF.c0 by decide +kernel] at c3
 rw [show ofQ 1 1=exF.c2 by decide +kernel] at c4
 refine gz h <| (xk c1) <| (xk c2) <| (xk c3) <| (xk c4) <| (xo (hs:=by exact bX xp exs rfl (v:=vD exF) rfl)) <| (W) ?_; clear h ac; intro ac wo h
 refine nw h (bT (α:=U Qd) (xs:=[.tmp 7]) (vs:=[vUD y8]) [y8] pG rfl rfl rfl (by decide)) rfl ?_; clear h ac wo; intro v1 ac wo _ h
 refine gz h <| (W) ?_; clear h ac wo; intro ac wo h
 exact (rt h) (h.retR 0 rfl trivial)
theorem yG (u:U Qd) (lv:Value) (r1:Bool) (H:E1 u.f u.iv r1) (w0:World) (hlv:View w0 lv [u]):Calls Tryz.prog 54 #[lv] w0 (dh w0 (.tuple #[vEX ⟨qAt u.f u.iv.lo,u.iv.lo,true⟩,.int .i64 0]) True):=by
 refine enter (N:=8) (args:=[lv]) Tryz.func54 rfl rfl ?_; intro ac h
 refine gz h <| (xa) fun b1=>(xc (ct:=by exact fun w_ hB_ hS_=>mext1_ct u lv r1 H w_ (hlv.below hB_))) <| (W) ?_; clear h ac; intro ac wo h
 exact xw 0 h (h.retP (u:=.tuple #[vEX ⟨qAt u.f u.iv.lo,u.iv.lo,true⟩,.int .i64 0]) rfl trivial)
theorem eqi106:EqIn Tryz.prog 5 106 vEX:=eqS (c:=cEX) (fun _=>rfl) Tryz.underlying106 Tryz.stoodInHeld106 fun d x y w hd=>by
 refine Eq.trans (eqF (by decide) (bY aa46 zz46 (v:=vR x.v) rfl w) (bY aa46 zz46 (v:=vR y.v) rfl w) (zw d _ _ w og) (eqF (by decide) (bY aa46 zz46 (v:=vR x.t) rfl w) (bY aa46 zz46 (v:=vR y.t) rfl w) (zw d _ _ w og) (eqF (by decide) (e6 aa4 rfl w) (e6 aa4 rfl w) (eqB nn4 d og _ _ w) wY))) ?_
 congr 1
 rw [decide_eq_decide]
 cases x; cases y; simp
theorem eqp106:EqP Tryz.prog 106 vEX:=EqIn.p (k:=5) rfl (c:=fun x=>(cEX x).toArray) (fun _=>rfl) Tryz.eqGuardType106 eqi106
instance ep106:Ep Tryz.prog 106 EX inferInstance vEX:=⟨eqp106⟩
instance cf54:Cf Tryz.prog 54:=⟨Tryz.call54⟩
instance bu46r (q:GQ):Bu Tryz.prog 46 [1] [vQ q] (vR ⟨oQ,q,false⟩):=Bu.of xn rfl rfl
instance bu74c (x y:GR) (b:Bool):Bu Tryz.prog 74 [0,1,3] [vR x,vR y,.bool b] (vV ⟨x,y,false,b⟩):=Bu.of qE rfl rfl
instance bu106c (x y:GR) (b:Bool):Bu Tryz.prog 106 [0,1,2] [vR x,vR y,.bool b] (vEX ⟨x,y,b⟩):=Bu.of bld106 rfl rfl
theorem qU (w0:World):Calls Tryz.prog 31 #[] w0 (dh w0 (.bool true) True):=by
 refine enter (N:=43) (args:=[]) Tryz.func31 rfl rfl ?_; intro ac h
 haveI:On:=⟨trivial⟩
 letI:Key:=tu
 have zexU:All (g6 30) [y8]:=fun u hu=>by
  rw [List.mem_singleton.1 hu]
  exact ⟨pH (rb0.le (by decide)) (rb4.le (by decide)),fD (aal bdF (by decide)) og⟩
 have zc:SzD 30 (an oQ):=fD (ar ((fS oQ 40 og (su 40)) w0)) og
 have zexC:All (g6 30) [(⟨exI,an oQ⟩:U Qd)]:=fun u hu=>by
  rw [List.mem_singleton.1 hu]
  exact ⟨pH (rb0.le (by decide)) (rb4.le (by decide)),zc⟩
 have hsg:=signs_ct exSg exF exI bdF (by decide) (rb0.le (by decide)) (rb4.le (by decide)) (fun r hr=>by
  rw [rY] at hr
  have hr:r∈[sqm2,nN]:=hr
  rcases List.mem_cons.1 hr with rfl | hr
  · exact rbm.le (by decide)
  · rw [List.mem_singleton.1 hr]; exact rb2.le (by decide)) (by rw [rY]; decide) exG exS_ct (by
  rw [rY]
  intro k hk
  obtain rfl | rfl:k=0∨k=1:=by have hk:k < 2:=hk; omega
  · intro h1 _; exact absurd h1 (by decide +kernel)
  · intro _ _; exact .inl (by decide +kernel)) (fun _=>.inr (by decide +kernel))
 rw [ex_sgns exSg,show exSg ⟨⟨oQ,oQ,false⟩,nN,false,true⟩=-1 by decide +kernel,show exSg ⟨nN,in4,true,false⟩=1 by decide +kernel] at hsg
 have cw:=xC _ 0 exF exI true false false (by decide) hsg (by
  intro k hk
  obtain rfl | rfl | rfl:k=0∨k=1∨k=2:=by have hk:k < 3:=hk; omega
  · exact .inl rfl
  · exact .inr (.inl rfl)
  · exact .inr (.inr rfl)) (by
  intro k hk
  obtain rfl | rfl | rfl:k=0∨k=1∨k=2:=by have hk:k < 3:=hk; omega
  all_goals rfl)
 rw [ex_wh rfl rfl] at cw
 have hCp:CpH [(⟨exI,exF,an oQ⟩:Bt Qd Qd)] true false false (fun _=>[iv0]) (fun _=>0):={
  len:=by decide
  sz:=fun k hk=>by
   obtain rfl:k=0:=by have hk:k < 1:=hk; omega
   exact ⟨aal bdF (by decide),ar ((fS oQ 40 og (su 40)) w0),pH (rb0.le (by decide)) (rb4.le (by decide)),wvI⟩
  wh:=fun k hk=>by
   obtain rfl:k=0:=by have hk:k < 1:=hk; omega
   show ∀ w0,Calls Tryz.prog 193 #[vD (cC exF (an oQ)),vV exI,.bool true,.bool false,.bool false] w0 (RetT w0 74 [iv0] [.int .i64 0] True)
   rw [ex_sub]; exact cw
  wv:=fun k hk i hi=>by
   rw [List.mem_singleton.1 hi]
   exact ⟨wv0,pH (rb0.le (by decide)) (rb2.le (by decide))⟩
  yl:=fun k hk=>by
   obtain rfl | rfl:k=0∨k=1:=by have hk:k≤1:=hk; omega
   · decide
   · decide }
 have eD:cpD [(⟨exI,exF,an oQ⟩:Bt Qd Qd)]=[exI]:=by
  unfold cpD
  show bo (bo [exI])=[exI]
  rw [sY wvI,sY wvI]
 have eT:cpT [(⟨exI,exF,an oQ⟩:Bt Qd Qd)] (fun _=>[iv0])=[iv0]:=by
  unfold cpT
  rw [eD]
  show dp [exI] (bo (bo [iv0]))=[iv0]
  rw [sY wv0,sY wv0]; exact in_E
 refine gz h <| (W) ?_; clear h ac; intro ac wo h
 refine iu (xs:=[y8]) h (cz Tryz.call138 rfl) (fun w_ hB_ hS_=>exex_ct w_) rfl ?_; clear h ac wo; intro lv ac wo _ h
 refine gz h <| (xo (hs:=by exact bX mR exs rfl (v:=vQ oQ) rfl)) <| (W) ?_; clear h ac wo; intro ac wo h
 refine iu (xs:=[exI]) h (cz Tryz.call70 rfl) (fun w_ hB_ hS_=>by
  have:=ndom_ct [y8] lv (by decide) zexU (fun u hu=>by rw [y7] at hu; rw [List.mem_singleton.1 hu]; exact wvI) w_ (row_view hS_ 0 rfl)
  rw [y7,sY wvI] at this
  exact this) rfl ?_; clear h ac wo; intro dv1 ac wo _ h
 refine gz h <| (W) ?_; clear h ac wo; intro ac wo h
 refine iu (xs:=[(⟨exI,an oQ⟩:U Qd)]) h (cz Tryz.call49 rfl) (fun w_ hB_ hS_=>by
  have:=const_ct oQ [exI] dv1 (su 40) (by decide) (fun i hi=>by rw [List.mem_singleton.1 hi]; exact pH (rb0.le (by decide)) (rb4.le (by decide))) w_ (row_view hS_ 0 rfl)
  rw [ex_const] at this
  exact this) rfl ?_; clear h ac wo; intro cv ac wo _ h
 refine gz h <| (W) ?_; clear h ac wo; intro ac wo h
 refine uS h (cz Tryz.call50 rfl) (fun w_ hB_ hS_=>less_ct [y8] [(⟨exI,an oQ⟩:U Qd)] lv cv _ _ _ (by decide) (by decide) zexU zexC ex_ref hCp (by decide) (by decide) w_ (row_view hS_ 2 rfl) (row_view hS_ 0 rfl)) rfl ?_; clear h ac wo; intro bv ac wo hbv h
 rw [eD,eT] at h
 obtain ⟨x,y,rfl,ix,iy⟩:=hbv
 replace h:St w0 43 [(11,.agg #[x,y]),(1,lv)] [.row 74 y [iv0],.row 76 lv [y8]] ac wo:=h.re [1,4]
 obtain ⟨x1,x2,x3,rfl⟩:=ix
 obtain ⟨y1,y2,y3,rfl⟩:=iy
 refine gz h <| (xa) fun b1=>(xc (ct:=by exact fun w_ hB_ hS_=>yG y8 lv true exE1 w_ (row_view hS_ 2 rfl))) <| (xa) fun b2=>(W) ?_; clear h ac wo; intro ac wo h
 replace h:St w0 43 [(4,.int .i64 0),(3,ptr b2 0),(2,ptr b1 0)] [.blk b2 (cEX ⟨qAt exF exI.lo,exI.lo,true⟩) 106,.blk b1 [.slice x1 x2 x3,.slice y1 y2 y3] 99,.row 74 (.slice y1 y2 y3) [iv0]] ac wo:=h.re [0,1,2]
 have c1:=mV 0 og
 have c2:=rH 2 1 og og (by decide)
 have c3:=mV (-2) og
 have hsl:=h.row_sl 2 rfl
 have hnn:NN (.slice y1 y2 y3) 1:=h.row_nn 2 rfl (by show 0 < 1; decide)
 have hone:0 < [iv0].length:=by show 0 < 1; decide
 refine gz h <| (dr0 (hob:=(oG (fun _=>c1)) <| (oG (fun _=>c2)) <| (oG (fun _=>c3)) <| (oG (fun _=>c1)) <| oE)) <| (W) ?_; clear h ac wo; intro ac wo h
 refine (rt h) (h.retP (congrArg Value.bool ?_) trivial)
 rw [w0',ex_at]
 decide +kernel
end Go.Sx
namespace Go.Sx
open Go Go.RowKit Go.Proofs
set_option maxRecDepth 100000
set_option maxHeartbeats 8000000
attribute [local irreducible] Code.wp wpList Rd Step ObS Ent
attribute [local irreducible] ah ak aq an bN aQ be cA
theorem memL2 {α:Type} [Inhabited α] {l:List α} {u:α} (h:u∈l):∃ i,i < l.length∧gt l i=u:=by
 obtain ⟨i,hi,e⟩:=List.getElem_of_mem h
 exact ⟨i,hi,by rw [gU hi]; exact e⟩
def GCV (x:XV):Prop:=∃ a,x=ivX a∧(GWr a.lo∧GWr a.hi)∧bI a=0
def GCD (x:XD):Prop:=∃ a,x=dX' a∧(GqW a.c0∧GqW a.c1∧GqW a.c2)∧dr a=0
def GWC (u:U Qd):Prop:=GWu u∧bI u.iv=0∧dr u.f=0
theorem gcv_is {x:XV} (h:GCV x):∃ a,x=ivX a∧GWr a.lo∧GWr a.hi:=by
 obtain ⟨a,e,h,_⟩:=h
 exact ⟨a,e,h⟩
theorem gwc_is {x:XN} (h:GCV x.iv∧GCD x.f):∃ a,x=nX a∧GWC a:=by
 obtain ⟨p,ep,hp,cp⟩:=h.1
 obtain ⟨r,er,hr,cr⟩:=h.2
 refine ⟨⟨p,r⟩,?_,⟨hp,hr⟩,cp,cr⟩
 obtain ⟨a,b⟩:=x
 simp only at ep er
 rw [ep,er]; rfl
theorem yY:∀ {l:List XN},(∀ u∈l,GCV u.iv∧GCD u.f)→∃ l':List (U Qd),l=l'.map nX∧∀ a∈l',GWC a
 | [],_=>⟨[],rfl,fun a h=>(by cases h)⟩
 | s::l,h=>by
  obtain ⟨l',e,k⟩:=yY (l:=l) fun a ha=>h a (List.mem_cons_of_mem _ ha)
  obtain ⟨a,ea,ha⟩:=gwc_is (h s List.mem_cons_self)
  refine ⟨a::l',by rw [List.map_cons,← e,← ea],fun x hx=>?_⟩
  rcases List.mem_cons.1 hx with rfl | hx
  · exact ha
  · exact k x hx
section
attribute [local instance 2000] sM sN x4 xZ sh72X sh76X sh88Y aah
theorem vg (x:XR) (h8:S2R x):∃ e:Int,(∀ w0,Calls Tryz.prog 22 #[vXR x] w0 (dh w0 (.int .i64 e) True))∧(e=0→GWR x):=by
 by_cases hg:GWR x
 · obtain ⟨a,rfl,k⟩:=yX hg
   exact ⟨dO a,fun w0=>iY a trivial (dG (nE k) og) w0,fun _=>hg⟩
 · refine ⟨5,fun w0=>?_,fun e=>absurd e (by decide)⟩
   obtain ⟨e1,c1,g1⟩:=mQ x.p h8.1
   obtain ⟨e2,c2,g2⟩:=mQ x.r h8.2
   refine enter (N:=31) (args:=[vXR x]) Tryz.func22 rfl rfl ?_; intro ac h
   refine gz h <| (xb) fun b1=>(xk c1) <| (xg (hs:=by exact fun hg=>fq enA (kk c2))) <| (ai) ?_ ?_ <;> clear h ac <;> intro ac wo h hc1
   · refine gz h <| (W) ?_; clear h ac wo; intro ac wo h
     exact (rt h) (h.retP rfl trivial)
   · exfalso
     rw [Bool.or_eq_false_iff] at hc1
     have k:∀ {e:Int},(e != 0)=false→e=0:=fun {e} he=>Classical.byContradiction fun hn=>by rw [show (e != 0)=true from bne_iff_ne.2 hn] at he; exact Bool.noConfusion he
     exact hg ⟨g1 (k hc1.1),g2 (k hc1.2)⟩
theorem ichkM_ct (x:XV) (h8:S2R x.lo∧S2R x.hi):∃ e:Int,(∀ w0,Calls Tryz.prog 174 #[vXV x] w0 (dh w0 (.int .i64 e) True))∧(e=0→GCV x):=by
 by_cases hg:GWV x
 · obtain ⟨a,rfl,k1,k2⟩:=gwv_is hg
   exact ⟨bI a,fun w0=>gw a ⟨trivial,trivial⟩ ⟨dG (nE k1) og,dG (nE k2) og⟩ w0,fun h=>⟨a,rfl,⟨k1,k2⟩,h⟩⟩
 · refine ⟨5,fun w0=>?_,fun e=>absurd e (by decide)⟩
   obtain ⟨e1,c1,g1⟩:=vg x.lo h8.1
   obtain ⟨e2,c2,g2⟩:=vg x.hi h8.2
   refine enter (N:=19) (args:=[vXV x]) Tryz.func174 rfl rfl ?_; intro ac h
   refine gz h <| (xb) fun b1=>(xk c1) <| (xg (hs:=by exact fun hg=>fq enA (kk c2))) <| (ai) ?_ ?_ <;> clear h ac <;> intro ac wo h hc1
   · refine gz h <| (W) ?_; clear h ac wo; intro ac wo h
     exact (rt h) (h.retP rfl trivial)
   · exfalso
     rw [Bool.or_eq_false_iff] at hc1
     have k:∀ {e:Int},(e != 0)=false→e=0:=fun {e} he=>Classical.byContradiction fun hn=>by rw [show (e != 0)=true from bne_iff_ne.2 hn] at he; exact Bool.noConfusion he
     exact hg ⟨g1 (k hc1.1),g2 (k hc1.2)⟩
def x3N (f:XD):List XQ:=[f.c0,f.c1,f.c2]
theorem x3N_20 {f:XD} (h:S2D f) {k:Nat} (hk:k < 3):xsz (gt (x3N f) k)≤20:=by
 obtain rfl | rfl | rfl:k=0∨k=1∨k=2:=by omega
 · exact h.1
 · exact h.2.1
 · exact h.2.2
instance cf406:Cf Tryz.prog 406:=⟨Tryz.call406⟩
instance cf15:Cf Tryz.prog 15:=⟨Tryz.call15⟩
theorem lchkM_ct (f:XD) (h8:S2D f):∃ e:Int,(∀ w0,Calls Tryz.prog 402 #[(.agg #[]),vXD f] w0 (dh w0 (.int .i64 e) True))∧(e=0→GCD f):=by
 by_cases hg:GWD f
 · obtain ⟨a,rfl,k⟩:=gwd_is hg
   exact ⟨dr a,fun w0=>jA a ⟨di (oO k.1) og,di (oO k.2.1) og,di (oO k.2.2) og⟩ w0,fun h=>⟨a,rfl,k,h⟩⟩
 · refine ⟨5,fun w1=>?_,fun e=>absurd e (by decide)⟩
   obtain ⟨E,hE⟩:∃ E:Nat→Int,∀ k,k < 3→(∀ w0,Calls Tryz.prog 15 #[vXQ (gt (x3N f) k)] w0 (dh w0 (.int .i64 (E k)) True))∧(E k=0→GdW (gt (x3N f) k)) :=
    ql fun k hk=>mQ (gt (x3N f) k) (x3N_20 h8 hk)
   have c406:∀ w0,Calls Tryz.prog 406 #[vXD f] w0 (dh w0 (.int .i64 5) True):=fun w0=>by
    refine enter (N:=19) (args:=[vXD f]) Tryz.func406 rfl rfl ?_; intro ac h
    refine gz h <| (xb) fun b2=>(xo (hs:=by exact pd (α:=XQ) (xs:=[.tmp 6,.tmp 8,.tmp 10]) (vs:=[vXQ f.c0,vXQ f.c1,vXQ f.c2]) (x3N f) Tryz.zeroValue317 uu317 zz29 rfl rfl rfl)) <| (W) ?_; clear h ac; intro ac wo h
    refine wp_loop_ghost (fun n_ a_ w_=>∃ (i:Nat),(3 - i < n_)∧(i≤3)∧(∀ j,j < i→E j=0)∧St w0 19 [(11,(.agg (flat (x3N f)).toArray)),(12,iN i)] [] a_ w_) 4 ⟨0,by omega,by omega,fun j hj=>by omega,h.re []⟩ ?_
    clear h ac wo; rintro n1 ac wo ⟨i,hm1,hi,hB,h⟩
    obtain ⟨m1,rfl⟩:∃ m,n1=m+1:=⟨n1 - 1,by omega⟩
    refine gz h <| (ai) ?_ ?_ <;> clear h ac wo <;> intro ac wo h hc1
    ·
     have hd1:i < 3:=by have:=of_decide_eq_true hc1; omega
     have c1:=(hE i hd1).1
     refine gz h <| (xo (hs:=by exact vh (i:=i) (us:=x3N f) (u:=gt (x3N f) i) uu317 zz29 aa29 rfl rfl og (iF (show i < 3 from hd1)) (v:=vXQ (gt (x3N f) i)) rfl)) <| (xa) fun b3=>(xk c1) <| (ai) ?_ ?_ <;> clear h ac wo <;> intro ac wo h hc2
     · refine gz h <| (W) ?_; clear h ac wo; intro ac wo h
       exact (rt h) (h.retP rfl trivial)
     · refine gz h <| (W) ?_; clear h ac wo; intro ac wo h
       refine az ⟨m1,by omega,i+1,by omega,by omega,fun j hj=>?_,h.re []⟩
       by_cases e:j=i
       · subst e; simpa using hc2
       · exact hB j (by omega)
    ·
     exfalso
     have hi3:i=3:=by have:=of_decide_eq_false hc1; omega
     subst hi3
     exact hg ⟨(hE 0 (by decide)).2 (hB 0 (by decide)),(hE 1 (by decide)).2 (hB 1 (by decide)),(hE 2 (by decide)).2 (hB 2 (by decide))⟩
   refine enter (N:=7) (args:=[(.agg #[]),vXD f]) Tryz.func402 rfl rfl ?_; intro ac h
   refine gz h <| (xb) fun b1=>(xb) fun b2=>(xk c406) <| (W) ?_; clear h ac; intro ac wo h
   exact (rt h) (h.retP rfl trivial)
structure CkM (l:List XN) (E1 E2:Nat→Int) (A:Nat→Bool) (z e:Int):Prop where
 len:l.length≤6
 c1:∀ i,i < l.length→∀ w0,Calls Tryz.prog 174 #[vXV (gt l i).iv] w0 (dh w0 (.int .i64 (E1 i)) True)
 c2:∀ i,i < l.length→∀ w0,Calls Tryz.prog 402 #[(.agg #[]),vXD (gt l i).f] w0 (dh w0 (.int .i64 (E2 i)) True)
 ap:∀ i,i < l.length→(∀ j,j≤i→E1 j=0∧E2 j=0)→∀ w0,Calls Tryz.prog 152 #[vXV (gt l (i - 1)).iv,vXV (gt l i).iv] w0 (dh w0 (.bool (A i)) True)
 e1:∀ i,i < l.length→(∀ j,j < i→E1 j=0∧E2 j=0∧(0 < j→A j=true))→E1 i≠0→e=E1 i
 e2:∀ i,i < l.length→(∀ j,j < i→E1 j=0∧E2 j=0∧(0 < j→A j=true))→E1 i=0→E2 i≠0→e=E2 i
 e3:∀ i,i < l.length→(∀ j,j < i→E1 j=0∧E2 j=0∧(0 < j→A j=true))→E1 i=0→E2 i=0→0 < i→A i=false→e=7
 e0:(∀ i,i < l.length→E1 i=0∧E2 i=0)→e=z∨∃ i,i < l.length∧0 < i∧A i=false
 gd:(∀ i,i < l.length→E1 i=0∧E2 i=0)→∃ l':List (U Qd),l=l'.map nX∧(∀ a∈l',GWC a)∧z=(bif ((aF l').2 != 0) || !(eK l' (aF l').1) then 5 else 0)
theorem vo (l:List XN) (lv:Value) (E1 E2:Nat→Int) (A:Nat→Bool) (z e:Int) (c:CkM l E1 E2 A z e) (w0:World) (hlv:View w0 lv l):Calls Tryz.prog 62 #[(.iface 92 (.agg #[])),lv] w0 (dh w0 (.int .i64 e) (True)):=by
 refine enter (N:=64) (args:=[(.iface 92 (.agg #[])),lv]) Tryz.func62 rfl rfl ?_; intro ac h
 have hlen:=hlv.len
 have hl:=c.len
 refine gz h <| (ai) ?_ ?_ <;> clear h ac <;> intro ac wo h hc1
 · exfalso; have:=of_decide_eq_true hc1; omega
 refine gz h <| (W) ?_; clear h ac wo; intro ac wo h
 refine wp_loop_ghost (fun n_ a_ w_=>∃ (i:Nat),(l.length - i < n_)∧(i≤l.length)∧(∀ j,j < i→E1 j=0∧E2 j=0∧(0 < j→A j=true))∧St w0 64 [(0,(.iface 92 (.agg #[]))),(1,lv),(14,lv),(15,iN l.length),(16,iN i)] [] a_ w_) (l.length+1) ⟨0,by omega,by omega,fun j hj=>by omega,h.rs⟩ ?_
 clear h ac wo; rintro n1 ac wo ⟨i,hm1,hi,hB,h⟩
 obtain ⟨m1,rfl⟩:∃ m,n1=m+1:=⟨n1 - 1,by omega⟩
 refine gz h <| (ai) ?_ ?_ <;> clear h ac wo <;> intro ac wo h hc2
 ·
  have hd1:i < l.length:=by have:=of_decide_eq_true hc2; omega
  have n1':=hlv.nn hd1
  refine gz h <| (xa) fun b1=>(xk (c.c1 i hd1)) <| (ai) ?_ ?_ <;> clear h ac wo <;> intro ac wo h hc3
  · rw [c.e1 i hd1 hB (bne_iff_ne.1 hc3)]
    refine gz h <| (W) ?_; clear h ac wo; intro ac wo h
    exact (rt h) (h.retP rfl trivial)
  have z1:E1 i=0:=by simpa using hc3
  refine gz h <| (xk (c.c2 i hd1)) <| (ai) ?_ ?_ <;> clear h ac wo <;> intro ac wo h hc4
  · rw [c.e2 i hd1 hB z1 (bne_iff_ne.1 hc4)]
    refine gz h <| (W) ?_; clear h ac wo; intro ac wo h
    exact (rt h) (h.retP rfl trivial)
  have z2:E2 i=0:=by simpa using hc4
  have ca:=c.ap i hd1 fun j hj=>by
   by_cases e:j=i
   · subst e; exact ⟨z1,z2⟩
   · have:=hB j (by omega); exact ⟨this.1,this.2.1⟩
  refine gz h <| (dr0 (hob:=(oG (by exact fun hg=>ca)) <| oE)) <| (ai) ?_ ?_ <;> clear h ac wo <;> intro ac wo h hc5
  · have h0:0 < i∧A i=false:=by
     rw [Bool.and_eq_true] at hc5
     exact ⟨by have:=of_decide_eq_true hc5.1; omega,by simpa using hc5.2⟩
    rw [c.e3 i hd1 hB z1 z2 h0.1 h0.2]
    refine gz h <| (W) ?_; clear h ac wo; intro ac wo h
    exact (rt h) (h.retP rfl trivial)
  have ha:0 < i→A i=true:=fun h0=>by
   rw [decide_eq_true (by omega:((i:Nat):Int)>0),Bool.true_and] at hc5
   simpa using hc5
  refine gz h <| (W) ?_; clear h ac wo; intro ac wo h
  refine az ⟨m1,by omega,i+1,by omega,by omega,fun j hj=>?_,h.re []⟩
  by_cases e:j=i
  · subst e; exact ⟨z1,z2,ha⟩
  · exact hB j (by omega)
 ·
  have hie:i=l.length:=by have:=of_decide_eq_false hc2; omega
  subst hie
  have hz:e=z:=by
   rcases c.e0 (fun i hi=>⟨(hB i hi).1,(hB i hi).2.1⟩) with h | ⟨i,h1,h2,h3⟩
   · exact h
   · rw [(hB i h1).2.2 h2] at h3; cases h3
  obtain ⟨l',rfl,hg,hz2⟩:=c.gd fun i hi=>⟨(hB i hi).1,(hB i hi).2.1⟩
  rw [hz,hz2]
  rw [List.length_map] at hl
  have hlv':=hlv.nX
  have zl:All (g6 30) l':=fun u hu=>oz (gwu_sz (hg u hu).1) og
  obtain ⟨N,hN⟩:∃ N,aF l'=N:=⟨_,rfl⟩
  have cN:=fun w hv=>eH l' lv (by omega) zl w hv
  rw [hN] at cN ⊢
  have pN:=RetT.pr (cN w0 hlv')
  refine gz h <| (W) ?_; clear h ac wo; intro ac wo h
  refine sg (xs:=N.1) h (cz Tryz.call45 rfl) (fun w_ hB_ hS_=>cN w_ (hlv'.below hB_)) rfl ?_; clear h ac wo; intro sv3 ac wo _ h
  refine gz h <| (xg (hs:=by exact fun hg=>fq enA (fun w_ hB_ hS_=>jH l' lv N.1 sv3 (All.mono zl (fun _ h_=>oz h_ og)) pN.1 w_ (hlv'.below hB_) (row_view hS_ 0 rfl)))) <| (ai) ?_ ?_ <;> clear h ac wo <;> intro ac wo h hc6
  · rw [hc6,cond_true]
    refine gz h <| (W) ?_; clear h ac wo; intro ac wo h
    exact (rt h) (h.retP rfl trivial)
  · rw [hc6,cond_false]
    refine gz h <| (W) ?_; clear h ac wo; intro ac wo h
    exact (rt h) (h.retP rfl trivial)
theorem ckM_ex (l:List XN) (hl:l.length≤6) (h8:∀ i,i < l.length→S2N (gt l i)):∃ E1 E2 A z e,CkM l E1 E2 A z e∧((∀ i,i < l.length→E1 i=0∧E2 i=0)→∃ l':List (U Qd),l=l'.map nX∧∀ a∈l',GWC a):=by
 obtain ⟨E1,h1⟩:=ql (n:=l.length) fun k hk=>ichkM_ct (gt l k).iv (h8 k hk).1
 obtain ⟨E2,h2⟩:=ql (n:=l.length) fun k hk=>lchkM_ct (gt l k).f (h8 k hk).2
 have good:(∀ i,i < l.length→E1 i=0∧E2 i=0)→∃ l':List (U Qd),l=l'.map nX∧∀ a∈l',GWC a:=fun h=>yY fun u hu=>by
  obtain ⟨i,hi,rfl⟩:=memL2 hu
  exact ⟨(h1 i hi).2 (h i hi).1,(h2 i hi).2 (h i hi).2⟩
 have hA:∃ A:Nat→Bool,∀ i,i < l.length→(∀ j,j≤i→E1 j=0∧E2 j=0)→∀ w0,Calls Tryz.prog 152 #[vXV (gt l (i - 1)).iv,vXV (gt l i).iv] w0 (dh w0 (.bool (A i)) True):=by
  have key:∀ i,i < l.length→∃ b:Int,(∀ j,j≤i→E1 j=0∧E2 j=0)→∀ w0,Calls Tryz.prog 152 #[vXV (gt l (i - 1)).iv,vXV (gt l i).iv] w0 (dh w0 (.bool (b == 1)) True):=fun i hi=>by
   by_cases hz:∀ j,j≤i→E1 j=0∧E2 j=0
   · obtain ⟨a,ea,ka1,ka2⟩:=gcv_is ((h1 (i - 1) (by omega)).2 (hz (i - 1) (by omega)).1)
     obtain ⟨b,eb,kb1,kb2⟩:=gcv_is ((h1 i hi).2 (hz i (Nat.le_refl _)).1)
     refine ⟨if cA a b=true then 1 else 0,fun _ w0=>?_⟩
     have:=jX a b 10 og ⟨dG (nE ka1) og,dG (nE ka2) og⟩ ⟨dG (nE kb1) og,dG (nE kb2) og⟩ w0
     rw [ea,eb,ivX_v,ivX_v]
     cases hh:cA a b with
     | true=>rw [hh] at this; exact this
     | false=>rw [hh] at this; exact this
   · exact ⟨0,fun h=>absurd h hz⟩
  obtain ⟨B,hB⟩:=ql key
  exact ⟨fun i=>B i == 1,hB⟩
 obtain ⟨A,hA⟩:=hA
 have hz:∃ z:Int,(∀ i,i < l.length→E1 i=0∧E2 i=0)→∃ l':List (U Qd),l=l'.map nX∧(∀ a∈l',GWC a)∧z=(bif ((aF l').2 != 0) || !(eK l' (aF l').1) then 5 else 0):=by
  by_cases h:∀ i,i < l.length→E1 i=0∧E2 i=0
  · obtain ⟨l',e,k⟩:=good h
    exact ⟨_,fun _=>⟨l',e,k,rfl⟩⟩
  · exact ⟨0,fun h'=>absurd h' h⟩
 obtain ⟨z,hz⟩:=hz
 have he:∃ e:Int,(∀ i,i < l.length→(∀ j,j < i→E1 j=0∧E2 j=0∧(0 < j→A j=true))→E1 i≠0→e=E1 i)∧(∀ i,i < l.length→(∀ j,j < i→E1 j=0∧E2 j=0∧(0 < j→A j=true))→E1 i=0→E2 i≠0→e=E2 i)∧(∀ i,i < l.length→(∀ j,j < i→E1 j=0∧E2 j=0∧(0 < j→A j=true))→E1 i=0→E2 i=0→0 < i→A i=false→e=7)∧((∀ i,i < l.length→E1 i=0∧E2 i=0∧(0 < i→A i=true))→e=z):=by
  by_cases hb:∃ i,i < l.length∧(∀ j,j < i→E1 j=0∧E2 j=0∧(0 < j→A j=true))∧¬ (E1 i=0∧E2 i=0∧(0 < i→A i=true))
  · obtain ⟨m,hm,hB,hn⟩:=hb
    have uni:∀ i,i < l.length→(∀ j,j < i→E1 j=0∧E2 j=0∧(0 < j→A j=true))→¬ (E1 i=0∧E2 i=0∧(0 < i→A i=true))→i=m:=fun i hi hBi hni=>by
     rcases Nat.lt_trichotomy i m with h | h | h
     · exact absurd (hB i h) hni
     · exact h
     · exact absurd (hBi m h) hn
    by_cases k1:E1 m=0
    · by_cases k2:E2 m=0
      · refine ⟨7,fun i hi hBi hne=>?_,fun i hi hBi _ hne=>?_,fun _ _ _ _ _ _ _=>rfl,fun h=>absurd (h m hm) hn⟩
        · have:=uni i hi hBi fun h=>hne h.1; subst this; exact absurd k1 hne
        · have:=uni i hi hBi fun h=>hne h.2.1; subst this; exact absurd k2 hne
      · refine ⟨E2 m,fun i hi hBi hne=>?_,fun i hi hBi _ hne=>?_,fun i hi hBi _ h2 h0 ha=>?_,fun h=>absurd (h m hm) hn⟩
        · have:=uni i hi hBi fun h=>hne h.1; subst this; exact absurd k1 hne
        · have:=uni i hi hBi fun h=>hne h.2.1; subst this; rfl
        · have:=uni i hi hBi fun h=>by have:=h.2.2 h0; rw [ha] at this; cases this
          subst this; exact absurd h2 k2
    · refine ⟨E1 m,fun i hi hBi hne=>?_,fun i hi hBi h1 hne=>?_,fun i hi hBi h1 h2 h0 ha=>?_,fun h=>absurd (h m hm) hn⟩
      · have:=uni i hi hBi fun h=>hne h.1; subst this; rfl
      · have:=uni i hi hBi fun h=>hne h.2.1; subst this; exact absurd h1 k1
      · have:=uni i hi hBi fun h=>by have:=h.2.2 h0; rw [ha] at this; cases this
        subst this; exact absurd h1 k1
  · have no:∀ i,i < l.length→(∀ j,j < i→E1 j=0∧E2 j=0∧(0 < j→A j=true))→E1 i=0∧E2 i=0∧(0 < i→A i=true):=fun i hi hB=>Classical.byContradiction fun hn=>hb ⟨i,hi,hB,hn⟩
    exact ⟨z,fun i hi hB hne=>absurd (no i hi hB).1 hne,fun i hi hB _ hne=>absurd (no i hi hB).2.1 hne,fun i hi hB _ _ h0 ha=>(by have:=(no i hi hB).2.2 h0; rw [ha] at this; cases this),fun _=>rfl⟩
 obtain ⟨e,a1,a2,a3,a4⟩:=he
 refine ⟨E1,E2,A,z,e,⟨hl,fun i hi=>(h1 i hi).1,fun i hi=>(h2 i hi).1,hA,a1,a2,a3,fun h=>?_,hz⟩,good⟩
 by_cases hh:∃ i,i < l.length∧0 < i∧A i=false
 · exact .inr hh
 · refine .inl (a4 fun i hi=>⟨(h i hi).1,(h i hi).2,fun h0=>?_⟩)
   cases ha:A i with
   | true=>rfl
   | false=>exact absurd ⟨i,hi,h0,ha⟩ hh
theorem vy (l:List XN) (lv:Value) (E1 E2:Nat→Int) (A:Nat→Bool) (z e:Int) (c:CkM l E1 E2 A z e) (w0:World) (hlv:View w0 lv l):Calls Tryz.prog 61 #[lv] w0 (dh w0 (.int .i64 e) (True)):=by
 refine enter (N:=7) (args:=[lv]) Tryz.func61 rfl rfl ?_; intro ac h
 have hl:=c.len
 refine gz h <| (xk rp) <| (W) ?_; clear h ac; intro ac wo h
 refine iu (xs:=l) h (cz Tryz.call168 rfl) (fun w_ hB_ hS_=>xE l lv (by omega) w_ (hlv.below hB_)) rfl ?_; clear h ac wo; intro s1 ac wo _ h
 refine gz h <| (xc (ct:=by exact fun w_ hB_ hS_=>vo l s1 E1 E2 A z e c w_ (row_view hS_ 0 rfl))) <| (W) ?_; clear h ac wo; intro ac wo h
 exact (rt h) (h.retP rfl trivial)
end
end Go.Sx
namespace Go.Sx
open Go Go.RowKit Go.Proofs
set_option maxRecDepth 100000
set_option maxHeartbeats 8000000
section
variable {P:Program} {w0:World} {F:List (Nat×Value)}
theorem r_one {α:Type} [Cod α] {t e':TypeId} {x y z:Operand} {sv:Value} {xs:List α} {k k':IntKind} {n:Nat} {w1:World} (hu:∀ w,(underlying t).run P w=.ok (.slice e') w) (hz:∀ w,(sizeOf e').run P w=.ok (Cod.n α) w) (hx:ev F x=some sv) (hy:ev F y=some (.int k (n:Int))) (hy':ev F z=some (.int k' ((n+1:Nat):Int))) (hv:View w1 sv xs) (hn:n < xs.length) :
 Rd P w0 F [] (.slice t x (some y) (some z) none) (dropv (nP sv (n+1)) n (Cod.n α)):=by
 refine dP fun o a w ho ha=>?_
 have hc:=hv.cap
 obtain ⟨_,⟨rfl,rfl⟩ | ⟨g,off,cap,cur,e,fr,rfl,_⟩⟩:=hv
 · exact absurd hn (Nat.not_lt_zero n)
 · simp only [tY] at hc
   have h1:((n+1:Nat):Int)≤(cap:Int):=by omega
   have h2:(n:Int)≤((n+1:Nat):Int):=by omega
   have h3:¬ cap=n:=by omega
   simp [execOp,ho,Instr.sliceAt,Instr.slice,Instr.sliceBounds,Instr.sliceBound,asIntOf,ha x _ hx,ha y _ hy,ha z _ hy',hu w,hz w,h1,h2,h3,dropv,nP]
   omega
theorem one_view {α:Type} [Cod α] [Inhabited α] {w:World} {sv:Value} {xs:List α} {n:Nat} (h:View w sv xs) (hn:n < xs.length):View w (dropv (nP sv (n+1)) n (Cod.n α)) [gt xs n]:=by
 have:=(h.cut (n:=n+1) (by omega)).dropv (n:=n) (by rw [List.length_take]; omega)
 rwa [show (xs.take (n+1)).drop n=[gt xs n] by rw [List.take_succ_eq_append_getElem hn,List.drop_append_of_le_length (by rw [List.length_take]; omega),List.drop_of_length_le (by rw [List.length_take]; omega),gU hn]; rfl] at this
end
attribute [local irreducible] Code.wp wpList Rd Step ObS Ent
attribute [local irreducible] ah ak aq an bN aQ be cA
instance decXI:DecidableEq XI:=fun a b=>if h:a.neg=b.neg∧a.b=b.b then isTrue (by obtain ⟨x,y⟩:=a; obtain ⟨z,u⟩:=b; simp only at h; rw [h.1,h.2]) else isFalse fun e=>h (by rw [e]; exact ⟨rfl,rfl⟩)
instance decXQ:DecidableEq XQ:=fun a b=>if h:a.n=b.n∧a.d=b.d then isTrue (by obtain ⟨x,y⟩:=a; obtain ⟨z,u⟩:=b; simp only at h; rw [h.1,h.2]) else isFalse fun e=>h (by rw [e]; exact ⟨rfl,rfl⟩)
instance decXR:DecidableEq XR:=fun a b=>if h:a.p=b.p∧a.r=b.r∧a.neg=b.neg then isTrue (by obtain ⟨x,y,s⟩:=a; obtain ⟨z,u,t⟩:=b; simp only at h; rw [h.1,h.2.1,h.2.2]) else isFalse fun e=>h (by rw [e]; exact ⟨rfl,rfl,rfl⟩)
instance decXV:DecidableEq XV:=fun a b=>if h:a.lo=b.lo∧a.hi=b.hi∧a.openLo=b.openLo∧a.openHi=b.openHi then isTrue (by obtain ⟨x,y,s,q⟩:=a; obtain ⟨z,u,t,r⟩:=b; simp only at h; rw [h.1,h.2.1,h.2.2.1,h.2.2.2]) else isFalse fun e=>h (by rw [e]; exact ⟨rfl,rfl,rfl,rfl⟩)
instance decXD:DecidableEq XD:=fun a b=>if h:a.c0=b.c0∧a.c1=b.c1∧a.c2=b.c2 then isTrue (by obtain ⟨x,y,s⟩:=a; obtain ⟨z,u,t⟩:=b; simp only at h; rw [h.1,h.2.1,h.2.2]) else isFalse fun e=>h (by rw [e]; exact ⟨rfl,rfl,rfl⟩)
instance decXN:DecidableEq XN:=fun a b=>if h:a.iv=b.iv∧a.f=b.f then isTrue (by obtain ⟨x,y⟩:=a; obtain ⟨z,u⟩:=b; simp only at h; rw [h.1,h.2]) else isFalse fun e=>h (by rw [e]; exact ⟨rfl,rfl⟩)
theorem eqBs' {P:Program} {t:TypeId} (h:P.underlying t=some .string) (d:Nat) (hd:1≤d) (a b:ByteArray) (w:World):(Op.equalIn d t (.string a) (.string b)).run P w=.ok (decide (a=b)) w:=by
 obtain ⟨d',rfl⟩:∃ d',d=d'+1:=⟨d - 1,by omega⟩
 rw [run_equalIn_string w d' t _ _ h]
 rw [pk]
theorem eqi27N:EqIn Tryz.prog 2 27 vXI:=eqS (c:=cXI) (fun _=>rfl) Tryz.underlying27 Tryz.stoodInHeld27 fun d x y w hd=>by
 refine Eq.trans (eqF (by decide) (e6 aa4 rfl w) (e6 aa4 rfl w) (eqB nn4 d og _ _ w) (eqF (by decide) (e6 aa9 rfl w) (e6 aa9 rfl w) (eqBs' Tryz.underlying9 d og _ _ w) wY)) ?_
 congr 1
 rw [decide_eq_decide]
 cases x; cases y; simp
theorem tM:EqIn Tryz.prog 3 29 vXQ:=eqS (c:=cXQ) (fun _=>rfl) Tryz.underlying29 Tryz.stoodInHeld29 fun d x y w hd=>by
 refine Eq.trans (eqF (by decide) (bY aa27 zz27 (v:=vXI (x.n)) rfl w) (bY aa27 zz27 (v:=vXI (y.n)) rfl w) (eqi27N d _ _ w og) (eqF (by decide) (bY aa27 zz27 (v:=vXI (x.d)) rfl w) (bY aa27 zz27 (v:=vXI (y.d)) rfl w) (eqi27N d _ _ w og) wY)) ?_
 congr 1
 rw [decide_eq_decide]
 cases x; cases y; simp
theorem eqi46N:EqIn Tryz.prog 4 46 vXR:=eqS (c:=cXR) (fun _=>rfl) Tryz.underlying46 Tryz.stoodInHeld46 fun d x y w hd=>by
 refine Eq.trans (eqF (by decide) (bY aa29 zz29 (v:=vXQ (x.p)) rfl w) (bY aa29 zz29 (v:=vXQ (y.p)) rfl w) (tM d _ _ w og) (eqF (by decide) (bY aa29 zz29 (v:=vXQ (x.r)) rfl w) (bY aa29 zz29 (v:=vXQ (y.r)) rfl w) (tM d _ _ w og) (eqF (by decide) (e6 aa4 rfl w) (e6 aa4 rfl w) (eqB nn4 d og _ _ w) wY))) ?_
 congr 1
 rw [decide_eq_decide]
 cases x; cases y; simp
theorem eqi74N:EqIn Tryz.prog 5 74 vXV:=eqS (c:=cXV) (fun _=>rfl) Tryz.underlying74 Tryz.stoodInHeld74 fun d x y w hd=>by
 refine Eq.trans (eqF (by decide) (bY aa46 zz46 (v:=vXR (x.lo)) rfl w) (bY aa46 zz46 (v:=vXR (y.lo)) rfl w) (eqi46N d _ _ w og) (eqF (by decide) (bY aa46 zz46 (v:=vXR (x.hi)) rfl w) (bY aa46 zz46 (v:=vXR (y.hi)) rfl w) (eqi46N d _ _ w og) (eqF (by decide) (e6 aa4 rfl w) (e6 aa4 rfl w) (eqB nn4 d og _ _ w) (eqF (by decide) (e6 aa4 rfl w) (e6 aa4 rfl w) (eqB nn4 d og _ _ w) wY)))) ?_
 congr 1
 rw [decide_eq_decide]
 cases x; cases y; simp
theorem eqi72N:EqIn Tryz.prog 4 72 vXD:=eqS (c:=cXD) (fun _=>rfl) nn72 Tryz.stoodInHeld72 fun d x y w hd=>by
 refine Eq.trans (eqF (by decide) (bY aa29 zz29 (v:=vXQ (x.c0)) rfl w) (bY aa29 zz29 (v:=vXQ (y.c0)) rfl w) (tM d _ _ w og) (eqF (by decide) (bY aa29 zz29 (v:=vXQ (x.c1)) rfl w) (bY aa29 zz29 (v:=vXQ (y.c1)) rfl w) (tM d _ _ w og) (eqF (by decide) (bY aa29 zz29 (v:=vXQ (x.c2)) rfl w) (bY aa29 zz29 (v:=vXQ (y.c2)) rfl w) (tM d _ _ w og) wY))) ?_
 congr 1
 rw [decide_eq_decide]
 cases x; cases y; simp
theorem eqi76N:EqIn Tryz.prog 6 76 vXN:=eqS (c:=cXN) (fun _=>rfl) nn76 Tryz.stoodInHeld76 fun d x y w hd=>by
 refine Eq.trans (eqF (by decide) (bY Tryz.isAgg74 Tryz.sizeOf74 (v:=vXV (x.iv)) rfl w) (bY Tryz.isAgg74 Tryz.sizeOf74 (v:=vXV (y.iv)) rfl w) (eqi74N d _ _ w og) (eqF (by decide) (bY Tryz.isAgg72 Tryz.sizeOf72 (v:=vXD (x.f)) rfl w) (bY Tryz.isAgg72 Tryz.sizeOf72 (v:=vXD (y.f)) rfl w) (eqi72N d _ _ w og) wY)) ?_
 congr 1
 rw [decide_eq_decide]
 cases x; cases y; simp
theorem eqp76N:EqP Tryz.prog 76 vXN:=EqIn.p (k:=6) rfl (c:=fun x=>(cXN x).toArray) (fun _=>rfl) Tryz.eqGuardType76 eqi76N
theorem ep76N:Ep Tryz.prog 76 XN inferInstance vXN:=⟨eqp76N⟩
section
attribute [local instance 2000] sM sN x4 xZ sh72X sh76X sh88Y aah ep76N
theorem u9 (l m:List XN) (lv mv:Value) (hl:l.length≤1000) (hm:m.length≤1000) (w0:World) (hlv:View w0 lv l) (hmv:View w0 mv m):Calls Tryz.prog 46 #[lv,mv] w0 (dh w0 (.bool (decide (l=m))) True):=by
 refine enter (N:=26) (args:=[lv,mv]) Tryz.func46 rfl rfl ?_; intro ac h
 have hlen:=hlv.len
 have hlen2:=hmv.len
 refine gz h <| (ai) ?_ ?_ <;> clear h ac <;> intro ac wo h hc1
 · have hne:l≠m:=fun e=>by rw [e] at hc1; simp at hc1
   rw [decide_eq_false hne]
   refine gz h <| (W) ?_; clear h ac wo; intro ac wo h
   exact (rt h) (h.retP rfl trivial)
 have hn:l.length=m.length:=by
  simp at hc1; omega
 refine gz h <| (W) ?_; clear h ac wo; intro ac wo h
 refine wp_loop_ghost (fun n_ a_ w_=>∃ (i:Nat),(l.length - i < n_)∧(i≤l.length)∧(∀ j,j < i→gt l j=gt m j)∧St w0 26 [(0,lv),(1,mv),(5,iN i)] [] a_ w_) (l.length+1) ⟨0,by omega,by omega,fun j hj=>by omega,h.rs⟩ ?_
 clear h ac wo; rintro n1 ac wo ⟨i,hm1,hi,hB,h⟩
 obtain ⟨m1,rfl⟩:∃ m,n1=m+1:=⟨n1 - 1,by omega⟩
 refine gz h <| (ai) ?_ ?_ <;> clear h ac wo <;> intro ac wo h hc2
 ·
  have hd1:i < l.length:=by have:=of_decide_eq_true hc2; omega
  have hd2:i < m.length:=by omega
  have n1':=hlv.nn hd1
  have n2':=hmv.nn hd2
  refine gz h <| (dr0 (hob:=oE)) <| (ai) ?_ ?_ <;> clear h ac wo <;> intro ac wo h hc3
  · have hne:l≠m:=fun e=>by rw [e] at hc3; simp at hc3
    rw [decide_eq_false hne]
    refine gz h <| (W) ?_; clear h ac wo; intro ac wo h
    exact (rt h) (h.retP rfl trivial)
  · have he:gt l i=gt m i:=by simpa using hc3
    refine gz h <| (W) ?_; clear h ac wo; intro ac wo h
    refine az ⟨m1,by omega,i+1,by omega,by omega,fun j hj=>?_,h.re []⟩
    by_cases e:j=i
    · subst e; exact he
    · exact hB j (by omega)
 ·
  have hie:i=l.length:=by have:=of_decide_eq_false hc2; omega
  subst hie
  rw [decide_eq_true (vO hn hB)]
  refine gz h <| (W) ?_; clear h ac wo; intro ac wo h
  exact (rt h) (h.retP rfl trivial)
theorem eqN_ct (l m:List XN) (lv mv:Value) (hl:l.length≤1000) (hm:m.length≤1000) (w0:World) (hlv:View w0 lv l) (hmv:View w0 mv m):Calls Tryz.prog 176 #[lv,mv] w0 (dh w0 (.bool (decide (l=m))) True):=by
 refine enter (N:=26) (args:=[lv,mv]) Tryz.func176 rfl rfl ?_; intro ac h
 have hlen:=hlv.len
 have hlen2:=hmv.len
 refine gz h <| (ai) ?_ ?_ <;> clear h ac <;> intro ac wo h hc1
 · have hne:l≠m:=fun e=>by rw [e] at hc1; simp at hc1
   rw [decide_eq_false hne]
   refine gz h <| (W) ?_; clear h ac wo; intro ac wo h
   exact (rt h) (h.retP rfl trivial)
 have hn:l.length=m.length:=by
  simp at hc1; omega
 refine gz h <| (W) ?_; clear h ac wo; intro ac wo h
 refine wp_loop_ghost (fun n_ a_ w_=>∃ (i:Nat),(l.length - i < n_)∧(i≤l.length)∧(∀ j,j < i→gt l j=gt m j)∧St w0 26 [(0,lv),(1,mv),(12,iN l.length),(13,iN i)] [] a_ w_) (l.length+1) ⟨0,by omega,by omega,fun j hj=>by omega,h.rs⟩ ?_
 clear h ac wo; rintro n1 ac wo ⟨i,hm1,hi,hB,h⟩
 obtain ⟨m1,rfl⟩:∃ m,n1=m+1:=⟨n1 - 1,by omega⟩
 refine gz h <| (ai) ?_ ?_ <;> clear h ac wo <;> intro ac wo h hc2
 ·
  have hd1:i < l.length:=by have:=of_decide_eq_true hc2; omega
  have hd2:i < m.length:=by omega
  have n1':=hlv.nn hd1
  have n2':=hmv.nn hd2
  refine gz h <| (W) ?_; clear h ac wo; intro ac wo h
  refine gz h <| (dr0 (hob:=oE)) <| (ai) ?_ ?_ <;> clear h ac wo <;> intro ac wo h hc3
  · have hne:l≠m:=fun e=>by rw [e] at hc3; simp at hc3
    rw [decide_eq_false hne]
    refine gz h <| (W) ?_; clear h ac wo; intro ac wo h
    exact (rt h) (h.retP rfl trivial)
  · have he:gt l i=gt m i:=by simpa using hc3
    refine gz h <| (W) ?_; clear h ac wo; intro ac wo h
    refine az ⟨m1,by omega,i+1,by omega,by omega,fun j hj=>?_,h.re []⟩
    by_cases e:j=i
    · subst e; exact he
    · exact hB j (by omega)
 ·
  have hie:i=l.length:=by have:=of_decide_eq_false hc2; omega
  subst hie
  rw [decide_eq_true (vO hn hB)]
  refine gz h <| (W) ?_; clear h ac wo; intro ac wo h
  exact (rt h) (h.retP rfl trivial)
theorem ti (l m:List XN) (lv mv:Value) (hl:l.length≤1000) (hm:m.length≤1000) (w0:World) (hlv:View w0 lv l) (hmv:View w0 mv m):Calls Tryz.prog 64 #[lv,mv] w0 (dh w0 (.bool (decide (l=m))) True):=by
 refine enter (N:=8) (args:=[lv,mv]) Tryz.func64 rfl rfl ?_; intro ac h
 refine gz h <| (xc (ct:=by exact fun w_ hB_ hS_=>eqN_ct l m lv mv hl hm w_ (hlv.below hB_) (hmv.below hB_))) <| (W) ?_; clear h ac; intro ac wo h
 exact (rt h) (h.retP rfl trivial)
def SzN63 (u:XN):Prop:=∀ k,k < 7→xsz (gt (x7 u) k)≤9223372036854775807
def ShP (l:List XN):Prop:=∀ i,i < l.length→∀ k,k < 7→xsz (gt (x7 (gt l i)) k)≤20
instance un234N:Un Tryz.prog 234 (.slice 29):=⟨Tryz.runUnderlying234⟩
theorem xX (l:List XN) (lv:Value) (b:Bool) (hb:b=true↔ShP l) (hz:∀ i,i < l.length→SzN63 (gt l i)) (w0:World) (hlv:View w0 lv l):Calls Tryz.prog 60 #[lv] w0 (dh w0 (.bool b) True):=by
 refine enter (N:=81) (args:=[lv]) Tryz.func60 rfl rfl ?_; intro ac h
 have hlen:=hlv.len
 refine gz h <| (W) ?_; clear h ac; intro ac wo h
 refine wp_loop_ghost (fun n_ a_ w_=>∃ (i:Nat),(l.length - i < n_)∧(i≤l.length)∧(∀ j,j < i→∀ k,k < 7→xsz (gt (x7 (gt l j)) k)≤20)∧St w0 81 [(0,lv),(3,iN i)] [] a_ w_) (l.length+1) ⟨0,by omega,by omega,fun j hj=>by omega,h.rs⟩ ?_
 clear h ac wo; rintro n1 ac wo ⟨i,hm1,hi,hB,h⟩
 obtain ⟨m1,rfl⟩:∃ m,n1=m+1:=⟨n1 - 1,by omega⟩
 refine gz h <| (ai) ?_ ?_ <;> clear h ac wo <;> intro ac wo h hc2
 ·
  have hd1:i < l.length:=by have:=of_decide_eq_true hc2; omega
  have n1':=hlv.nn hd1
  have z63:=hz i hd1
  refine gz h <| (W) ?_; clear h ac wo; intro ac wo h
  obtain ⟨u,hu⟩:∃ u,gt l i=u:=⟨_,rfl⟩
  replace h:=h.emps 1
  have hL:=hlv
  refine fU mixed [dv _,dv _,dv _,dv _,dv _,dv _,dv (vXQ (gt l i).iv.lo.p),dv _,dv _,dv _,dv _,dv _,dv _,dv (vXQ (gt l i).iv.lo.r),dv _,dv _,dv _,dv _,dv _,dv _,dv (vXQ (gt l i).iv.hi.p),dv _,dv _,dv _,dv _,dv _,dv _,dv (vXQ (gt l i).iv.hi.r),dv _,dv _,dv _,dv _,dv _,dv (vXQ (gt l i).f.c0),dv _,dv _,dv _,dv _,dv _,dv (vXQ (gt l i).f.c1),dv _,dv _,dv _,dv _,dv _,dv (vXQ (gt l i).f.c2),⟨.nd (.one 46 fun v=>NN v 7),[0]⟩,⟨.nd (.two 47 46 fun a b=>a=b),[]⟩]
   [⟨.emp,[(46,.one 46 fun v=>.row (α:=XQ) 29 v (x7 (gt l i)))]⟩] h rfl (by kernel_rfl)
   ⟨oA obA,oA obA,oA obA,oA obA,oA obA,oA obA,oA obA,oA obA,oA obA,oA obA,oA obA,oA obA,oA obA,oA obA,oA obA,oA obA,oA obA,oA obA,oA obA,oA obA,oA obA,oA obA,oA obA,oA obA,oA obA,oA obA,oA obA,oA obA,oA obA,oA obA,oA obA,oA obA,oA obA,oA obA,oA obA,oA obA,oA obA,oA obA,oA obA,oA obA,oA obA,oA obA,oA obA,oA obA,oA obA,oA obA,
    fun ξ _=>my (ψ:=fun v=>NN v 7) (B:=fun v=>[.row (α:=XQ) 29 v (x7 (gt l i))]) [.emp] rfl (fun v _=>by simp only [dJ,bt] <;> rfl) (fun v hv=>by simpa [DF.one,bt] using hv) (jh (bT (α:=XQ) (xs:=[.tmp 18,.tmp 25,.tmp 32,.tmp 39,.tmp 45,.tmp 51,.tmp 57]) (vs:=[vXQ (gt l i).iv.lo.p,vXQ (gt l i).iv.lo.r,vXQ (gt l i).iv.hi.p,vXQ (gt l i).iv.hi.r,vXQ (gt l i).f.c0,vXQ (gt l i).f.c1,vXQ (gt l i).f.c2]) (x7 (gt l i)) slt38X rfl rfl rfl (by decide))),
    fun ξ _=>rI (j:=46) (by decide) rfl,trivial⟩ ?_
  clear h ac wo; intro ξ ac wo hφ h
  replace h:St w0 81 [(0,lv),(3,iN i),(4,ξ 47)] [.row (α:=XQ) 29 (ξ 46) (x7 (gt l i))] ac wo:=h.sub ⟨rfl,rfl,rfl,trivial⟩
  rw [show ξ 47=ξ 46 from hφ 47] at h
  have hnn:NN (ξ 46) (x7 (gt l i)).length:=hφ 46
  generalize ξ 46=sv at h hnn; clear hφ ξ
  rw [hu] at h z63 hnn
  refine gz h <| (W) ?_; clear h ac wo; intro ac wo h
  refine wp_loop_ghost (fun n_ a_ w_=>∃ (k:Nat),(7 - k < n_)∧(k≤7)∧(∀ j,j < k→xsz (gt (x7 u) j)≤20)∧St w0 81 [(0,lv),(3,iN i),(4,sv),(5,iN k)] [.row (α:=XQ) 29 sv (x7 u)] a_ w_) 8 ⟨0,by omega,by omega,fun j hj=>by omega,h.re [0]⟩ ?_
  clear h ac wo; rintro n2 ac wo ⟨k,hm2,hk,hC,h⟩
  obtain ⟨m2,rfl⟩:∃ m,n2=m+1:=⟨n2 - 1,by omega⟩
  refine gz h <| (ai) ?_ ?_ <;> clear h ac wo <;> intro ac wo h hc3
  ·
   have hk1:k < 7:=by
    have h9:=of_decide_eq_true hc3
    have:((x7 u).length:Int)=7:=rfl
    omega
   have hk3:k < (x7 u).length:=hk1
   have nk:=(row_view h.sep 0 rfl).nn hk3
   have hs9:=z63 k hk1
   have hs':(gt (x7 u) k).n.b.size+(gt (x7 u) k).d.b.size≤9223372036854775807:=hs9
   refine gz h <| (dr0 (hob:=(oX (h:=by exact fun _=>bk (lM uu9 rfl))) <| (oX (h:=by exact fun _=>bk (lM uu9 rfl))) <| oE)) <| (ai) ?_ ?_ <;> clear h ac wo <;> intro ac wo h hc4
   · have hbf:b=false:=by
      cases hb':b with
      | false=>rfl
      | true =>
       exfalso
       have:=(hb.1 hb') i hd1 k hk1
       rw [hu] at this
       have h9:=of_decide_eq_true hc4
       unfold xsz at this; omega
     rw [hbf]
     refine gz h <| (W) ?_; clear h ac wo; intro ac wo h
     exact (rt h) (h.retP rfl trivial)
   · refine gz h <| (W) ?_; clear h ac wo; intro ac wo h
     refine az ⟨m2,by omega,k+1,by omega,by omega,fun j hj=>?_,h.re [0]⟩
     by_cases e:j=k
     · subst e
       have h9:=of_decide_eq_false hc4
       unfold xsz; omega
     · exact hC j (by omega)
  ·
   have hk8:k=7:=by
    have h9:=of_decide_eq_false hc3
    have:((x7 u).length:Int)=7:=rfl
    omega
   subst hk8
   refine gz h <| (W) ?_; clear h ac wo; intro ac wo h
   refine az ⟨m1,by omega,i+1,by omega,by omega,fun j hj=>?_,h.re []⟩
   by_cases e:j=i
   · subst e; rw [hu]; exact hC
   · exact hB j (by omega)
 ·
  have hie:i=l.length:=by have:=of_decide_eq_false hc2; omega
  subst hie
  rw [hb.2 hB]
  refine gz h <| (W) ?_; clear h ac wo; intro ac wo h
  exact (rt h) (h.retP rfl trivial)
end
end Go.Sx
namespace Go.Sx
open Go Go.RowKit Go.Proofs
set_option maxRecDepth 100000
set_option maxHeartbeats 8000000
attribute [local irreducible] Code.wp wpList Rd Step ObS Ent
attribute [local irreducible] ah ak aq an bN aQ be cA
theorem numsL_ct (l:List (U Qd)) (lv:Value) (hl:l.length≤1000) (w0:World) (hlv:View w0 lv l):Calls Tryz.prog 48 #[lv] w0 (RetR w0 76 l True):=by
 refine enter (N:=26) (args:=[lv]) Tryz.func48 rfl rfl ?_; intro ac h
 have hlen:=hlv.len
 refine gz h <| (W) ?_; clear h ac; intro ac wo h
 replace h:=h.nilRow (α:=U Qd) 76
 refine wp_loop_ghost (fun n_ a_ w_=>∃ (i:Nat) (sv:Value),(l.length - i < n_)∧(i≤l.length)∧St w0 26 [(0,lv),(3,sv),(4,iN i)] [.row (α:=U Qd) 76 sv (l.take i)] a_ w_) (l.length+1) ⟨0,_,by omega,by omega,h.re [0]⟩ ?_
 clear h ac wo; rintro n1 ac wo ⟨i,sv,hm1,hi,h⟩
 obtain ⟨m1,rfl⟩:∃ m,n1=m+1:=⟨n1 - 1,by omega⟩
 refine gz h <| (ai) ?_ ?_ <;> clear h ac wo <;> intro ac wo h hc1
 ·
  have hd1:=of_decide_eq_true hc1
  refine gz h <| (W) ?_; clear h ac wo; intro ac wo h
  replace h:=h.emps 1
  refine fU mixed [dv _,dv _,dv _,dv _,dv _,dv (vV (gt l i).iv),dv _,dv _,dv _,dv _,dv (vD (gt l i).f),dv (vUD (gt l i)),⟨.nd (.one 12 fun v=>NN v 1),[1]⟩,⟨.nd (.con True),[0,1]⟩,⟨.nd (.two 14 13 fun a b=>a=b),[]⟩]
   [⟨.row (α:=U Qd) 76 sv (l.take i),[(13,.one 13 fun v=>.row (α:=U Qd) 76 v (l.take i++[gt l i]))]⟩,⟨.emp,[(12,.one 12 fun v=>.row (α:=U Qd) 76 v [gt l i])]⟩] h rfl (by kernel_rfl)
   ⟨oA obA,oA obA,oA obA,oA obA,oA obA,oA obA,oA obA,oA obA,oA obA,oA obA,oA obA,oA fun _=>bk (bX aai rfl rfl rfl),fun _ _=>ob_sl 1 (gt l i) pG rfl rfl,fun _ _=>ob_ap (j:=12) 0 1 pG rfl rfl (by rw [List.length_take]; omega) rfl (fun v=>by simp only [dJ,bt] <;> rfl),fun _ _=>rI (j:=13) (by decide) rfl,trivial⟩ ?_
  clear h ac wo; intro ξ ac wo hφ h
  replace h:St w0 26 [(0,lv),(3,ξ 14),(4,iN i)] [.row (α:=U Qd) 76 (ξ 13) (l.take i++[gt l i])] ac wo:=(h.pick [0] (by decide)).sub ⟨rfl,rfl,rfl,trivial⟩
  rw [show ξ 14=ξ 13 from hφ 14,mY (by omega)] at h
  generalize ξ 13=s2 at h; clear hφ ξ
  refine gz h <| (W) ?_; clear h ac wo; intro ac wo h
  exact az ⟨m1,by omega,i+1,s2,by omega,by omega,h.re [0]⟩
 ·
  have hd1:=of_decide_eq_false hc1
  obtain rfl:i=l.length:=by omega
  rw [List.take_length] at h
  refine gz h <| (W) ?_; clear h ac wo; intro ac wo h
  exact (rt h) (h.retR 0 rfl trivial)
instance cf61:Cf Tryz.prog 61:=⟨Tryz.call61⟩
theorem valid_ct (l:List (U Qd)) (lv:Value) (hl:l.length < 20) (zl:All (g6 30) l) (w0:World) (hlv:View w0 lv l):Calls Tryz.prog 66 #[lv] w0 (dh w0 (.bool (cL l == 0)) True):=by
 have c61:∀ w0,View w0 lv l→Calls Tryz.prog 61 #[lv] w0 (dh w0 (.int .i64 (cL l)) True):=fun w0 hlv=>by
  refine enter (N:=7) (args:=[lv]) Tryz.func61 rfl rfl ?_; intro ac h
  refine gz h <| (xk rp) <| (W) ?_; clear h ac; intro ac wo h
  refine iu (xs:=l) h (cz Tryz.call168 rfl) (fun w_ hB_ hS_=>lT l lv (by omega) w_ (hlv.below hB_)) rfl ?_; clear h ac wo; intro s1 ac wo _ h
  have cc:=fun w hv=>mr l s1 hl (fun j=>⟨trivial,trivial⟩) zl w hv
  refine gz h <| (xc (ct:=by exact fun w_ hB_ hS_=>cc w_ (row_view hS_ 0 rfl))) <| (W) ?_; clear h ac wo; intro ac wo h
  exact (rt h) (h.retP rfl trivial)
 refine enter (N:=6) (args:=[lv]) Tryz.func66 rfl rfl ?_; intro ac h
 refine gz h <| (xc (ct:=by exact fun w_ hB_ hS_=>c61 w_ (hlv.below hB_))) <| (W) ?_; clear h ac; intro ac wo h
 exact (rt h) (h.retP rfl trivial)
theorem xD {w:World} {sv:Value} {l:List (U Qd)} (h:View w sv l):View w sv (l.map nX):=by
 unfold View at h ⊢
 rw [uG,List.length_map]
 rw [List.map_eq_nil_iff]
 exact h
theorem one_ex (u:XN) (hu:S2N u):∃ e:Int,(∀ lv w0,View w0 lv [u]→Calls Tryz.prog 61 #[lv] w0 (dh w0 (.int .i64 e) True))∧(e=0→∃ a,u=nX a∧GWC a):=by
 obtain ⟨E1,E2,A,z,e,c,good⟩:=ckM_ex [u] (show 1≤6 by decide) (fun i hi=>by
  obtain rfl:i=0:=by have hi:i < 1:=hi; omega
  exact hu)
 refine ⟨e,fun lv w0 hv=>vy [u] lv E1 E2 A z e c w0 hv,fun h0=>?_⟩
 have h1:E1 0=0:=Classical.byContradiction fun hn=>hn (by rw [← c.e1 0 (show 0 < 1 by decide) (fun j hj=>absurd hj (Nat.not_lt_zero j)) hn]; exact h0)
 have h2:E2 0=0:=Classical.byContradiction fun hn=>hn (by rw [← c.e2 0 (show 0 < 1 by decide) (fun j hj=>absurd hj (Nat.not_lt_zero j)) h1 hn]; exact h0)
 obtain ⟨l',el,hg⟩:=good fun i hi=>by
  obtain rfl:i=0:=by have hi:i < 1:=hi; omega
  exact ⟨h1,h2⟩
 rcases l' with _ | ⟨a,_ | ⟨b,t⟩⟩
 · exact absurd (congrArg List.length el) (by simp)
 · rw [List.map_cons,List.map_nil] at el
   exact ⟨a,(List.cons.inj el).1,hg a List.mem_cons_self⟩
 · exact absurd (congrArg List.length el) (by simp)
theorem all_of {l:List XN} (h:∀ i,i < l.length→∃ a,gt l i=nX a∧GWC a):∃ l':List (U Qd),l=l'.map nX∧∀ a∈l',GWC a:=by
 induction l with
 | nil=>exact ⟨[],rfl,fun a h=>by cases h⟩
 | cons u l ih =>
  obtain ⟨l',e,k⟩:=ih fun i hi=>by
   have:=h (i+1) (by simpa using hi)
   simpa [gt] using this
  obtain ⟨a,ea,ka⟩:=h 0 (by simp)
  refine ⟨a::l',?_,fun x hx=>?_⟩
  · rw [List.map_cons,← e,← ea]; rfl
  · rcases List.mem_cons.1 hx with rfl | hx
    · exact ka
    · exact k x hx
theorem nrm_good {l:List (U Qd)} (hl:l.length≤6) (hg:∀ a∈l,GWC a):((aF l).2≠0→(aF l).1=[])∧((aF l).2=0→All (g6 30) (aF l).1∧((aF l).1.length≤256→cL (aF l).1=0)):=by
 have ht:∀ x∈l.flatMap fun u=>[u.iv.lo,u.iv.hi],TmW x:=fun x hx=>by
  obtain ⟨u,hu,hx⟩:=List.mem_flatMap.1 hx
  obtain ⟨⟨⟨a,b⟩,_⟩,c,_⟩:=hg u hu
  obtain ⟨o1,o2,_⟩:=py c
  simp only [List.mem_cons,List.not_mem_nil,or_false] at hx
  rcases hx with rfl | rfl
  · exact ⟨o1,oP a.1,oP a.2⟩
  · exact ⟨o2,oP b.1,oP b.2⟩
 have hn:(l.flatMap fun u=>[u.iv.lo,u.iv.hi]).length < 1000:=by
  have:∀ m:List (U Qd),(m.flatMap fun u=>[u.iv.lo,u.iv.hi]).length=2*m.length:=fun m=>by
   induction m with
   | nil=>rfl
   | cons a m ih=>rw [List.flatMap_cons,List.length_append,ih]; simp; omega
  rw [this]; omega
 letI:Key:=keyW _ ht hn
 haveI:KeyW:=kwW _ ht hn
 have hW:∀ u∈l,Wv u.iv∧DQ u.f:=fun u hu=>by
  obtain ⟨⟨_,d0,d1,d2⟩,c,_⟩:=hg u hu
  refine ⟨wv_conv c ⟨wt.2 (.inr (List.mem_flatMap.2 ⟨u,hu,by simp⟩)),wt.2 (.inr (List.mem_flatMap.2 ⟨u,hu,by simp⟩))⟩,.inl ⟨oP d0,oP d1,oP d2⟩⟩
 obtain ⟨p,q⟩:=nrmS hW
 refine ⟨p,fun h0=>?_⟩
 obtain ⟨a,c⟩:=q h0
 refine ⟨fun u hu=>?_,c⟩
 have:=a u hu
 exact ⟨⟨dG (this.1.1.1.szr) og,dG (this.1.1.2.szr) og⟩,this.2.bd.sz (by decide)⟩
instance cf60:Cf Tryz.prog 60:=⟨Tryz.call60⟩
instance cf62:Cf Tryz.prog 62:=⟨Tryz.call62⟩
instance cf64:Cf Tryz.prog 64:=⟨Tryz.call64⟩
instance cf46:Cf Tryz.prog 46:=⟨Tryz.call46⟩
instance cf66:Cf Tryz.prog 66:=⟨Tryz.call66⟩
instance cf31:Cf Tryz.prog 31:=⟨Tryz.call31⟩
theorem uQ (l k:List XN) (lv kv:Value) (hz:∀ u∈l,SzN63 u) (w0:World) (hlv:View w0 lv l) (hkv:View w0 kv k):Calls Tryz.prog 9 #[lv,kv] w0 (dh w0 (.bool true) True):=by
 have hlen:=hlv.len
 have hlen2:=hkv.len
 obtain ⟨b,hb⟩:∃ b:Bool,b=true↔ShP l:=by
  by_cases h:ShP l
  · exact ⟨true,fun _=>h,fun _=>rfl⟩
  · exact ⟨false,fun e=>absurd e (by decide),fun e=>absurd e h⟩
 have cf:=fun w hv=>xX l lv b hb (fun i hi=>hz _ (gt_mem0 hi)) w hv
 refine enter (N:=94) (args:=[lv,kv]) Tryz.func9 rfl rfl ?_; intro ac h
 haveI:On:=⟨trivial⟩
 refine gz h <| (xk qU) <| (xg (hs:=by exact fun hg=>fq enA (fun w_ hB_ hS_=>cf w_ (hlv.below hB_)))) <| (ai) ?_ ?_ <;> clear h ac <;> intro ac wo h hc1
 · refine gz h <| (xk qU) <| (W) ?_; clear h ac wo; intro ac wo h
   exact (rt h) (h.retP rfl trivial)
 rw [Bool.or_eq_false_iff,Bool.or_eq_false_iff,Bool.or_eq_false_iff] at hc1
 obtain ⟨⟨⟨_,hl6⟩,hk6⟩,hbb⟩:=hc1
 have hl:l.length≤6:=by have:=of_decide_eq_false hl6; omega
 have hk:k.length≤6:=by have:=of_decide_eq_false hk6; omega
 have hP:ShP l:=hb.1 (by simpa using hbb)
 have hS:∀ i,i < l.length→S2N (gt l i):=fun i hi=>x7_20 (hP i hi)
 obtain ⟨E1,E2,A,z,e,c,_⟩:=ckM_ex l hl hS
 replace h:St w0 94 [(0,lv),(1,kv)] [] ac wo:=h.re []
 refine gz h <| (xc (ct:=by exact fun w_ hB_ hS_=>vy l lv E1 E2 A z e c w_ (hlv.below hB_))) <| (W) ?_; clear h ac wo; intro ac wo h
 refine iu (xs:=l) h (cz Tryz.call63 rfl) (fun w_ hB_ hS_=>sE l lv (by omega) w_ (hlv.below hB_)) rfl ?_; clear h ac wo; intro s1 ac wo _ h
 refine gz h <| (xc (ct:=by exact fun w_ hB_ hS_=>vo l s1 E1 E2 A z e c w_ (row_view hS_ 0 rfl))) <| (xg (hs:=by exact fun hg=>fq enA (fun w_ hB_ hS_=>ti l k lv kv (by omega) (by omega) w_ (hlv.below hB_) (hkv.below hB_)))) <| (xg (hs:=by exact fun hg=>fq enA (fun w_ hB_ hS_=>u9 l k lv kv (by omega) (by omega) w_ (hlv.below hB_) (hkv.below hB_)))) <| (xg (hs:=by exact fun hg=>fq enA (fun w_ hB_ hS_=>ti l l lv lv (by omega) (by omega) w_ (hlv.below hB_) (hlv.below hB_)))) <| (ai) ?_ ?_ <;> clear h ac wo <;> intro ac wo h hc2
 · exfalso
   simp at hc2
 obtain ⟨O,hO⟩:=ql (n:=l.length) (R:=fun i (e:Int)=>(∀ lv w0,View w0 lv [gt l i]→Calls Tryz.prog 61 #[lv] w0 (dh w0 (.int .i64 e) True))∧(e=0→∃ a,gt l i=nX a∧GWC a)) fun i hi=>one_ex (gt l i) (hS i hi)
 refine gz h <| (W) ?_; clear h ac wo; intro ac wo h
 refine wp_loop_ghost (fun n_ a_ w_=>∃ (i:Nat),(l.length - i < n_)∧(i≤l.length)∧(∀ j,j < i→O j=0)∧St w0 94 [(0,lv),(5,iN i)] [] a_ w_) (l.length+1) ⟨0,by omega,by omega,fun j hj=>by omega,h.re []⟩ ?_
 clear h ac wo; rintro n1 ac wo ⟨i,hm1,hi,hB,h⟩
 obtain ⟨m1,rfl⟩:∃ m,n1=m+1:=⟨n1 - 1,by omega⟩
 refine gz h <| (ai) ?_ ?_ <;> clear h ac wo <;> intro ac wo h hc3
 ·
  have hd1:i < l.length:=by have:=of_decide_eq_true hc3; omega
  have n1':=hlv.nn hd1
  refine gz h <| (xo (hs:=by exact r_one (α:=XN) (n:=i) Tryz.runUnderlying66 Tryz.sizeOf76 rfl rfl rfl hlv hd1)) <| (xc (ct:=by exact fun w_ hB_ hS_=>(hO i hd1).1 _ w_ (one_view (hlv.below hB_) hd1))) <| (ai) ?_ ?_ <;> clear h ac wo <;> intro ac wo h hc4
  · refine gz h <| (W) ?_; clear h ac wo; intro ac wo h
    exact (rt h) (h.retP rfl trivial)
  · refine gz h <| (W) ?_; clear h ac wo; intro ac wo h
    refine az ⟨m1,by omega,i+1,by omega,by omega,fun j hj=>?_,h.re []⟩
    by_cases e:j=i
    · subst e; simpa using hc4
    · exact hB j (by omega)
 ·
  have hie:i=l.length:=by have:=of_decide_eq_false hc3; omega
  subst hie
  obtain ⟨l',hl',hg⟩:=all_of fun i hi=>(hO i hi).2 (hB i hi)
  subst hl'
  rw [List.length_map] at hl
  have hlv':=hlv.nX
  have zl:All (g6 30) l':=fun u hu=>oz (gwu_sz (hg u hu).1) og
  have c65:=fun w hv=>qQ l' lv (by omega) zl w hv
  have c45:=fun v w hv=>eH l' v (by omega) zl w hv
  have hng:=nrm_good hl hg
  obtain ⟨N,hN⟩:∃ N,aF l'=N:=⟨_,rfl⟩
  rw [hN] at c65 c45 hng
  have pN:=(RetT.pr (c45 lv w0 hlv'))
  refine gz h <| (W) ?_; clear h ac wo; intro ac wo h
  refine sg (xs:=N.1) h (cz Tryz.call65 rfl) (fun w_ hB_ hS_=>c65 w_ (hlv'.below hB_)) rfl ?_; clear h ac wo; intro nv ac wo _ h
  refine gz h <| (W) ?_; clear h ac wo; intro ac wo h
  refine iu (xs:=l'.map nX) h (cz Tryz.call63 rfl) (fun w_ hB_ hS_=>sE (l'.map nX) lv (by rw [List.length_map]; omega) w_ (hlv.below hB_)) rfl ?_; clear h ac wo; intro uv ac wo _ h
  refine gz h <| (W) ?_; clear h ac wo; intro ac wo h
  refine sg (xs:=N.1) h (cz Tryz.call45 rfl) (fun w_ hB_ hS_=>c45 uv w_ (row_view hS_ 0 rfl).nX) rfl ?_; clear h ac wo; intro wv ac wo _ h
  obtain ⟨N1,N2⟩:=N
  simp only at h pN hng
  have hNl:N1.length≤1000:=by have:=pN.2; omega
  replace h:St w0 94 [(74,.tuple #[wv,.int .i64 N2]),(7,.int .i64 N2),(6,nv)] [.row 88 wv N1,.row 76 nv N1] ac wo:=h.re [0,2]
  have zN:All (g6 30) N1:=by
   by_cases e:N2=0
   · exact (hng.2 e).1
   · rw [hng.1 e]; exact fun u hu=>(by cases hu)
  have lN:N1.length < 20:=by have:=pN.2; omega
  have cV:=fun w hv=>valid_ct N1 nv lN zN w hv
  refine gz h <| (W) ?_; clear h ac wo; intro ac wo h
  have hNN:(N2 == N2)=true:=by simp
  rw [hNN] at h
  refine gK h rfl (c:=true) (b:=true) rfl rfl rfl ?_
  replace h:St w0 94 [(82,wv),(81,nv),(80,.bool true),(7,.int .i64 N2),(6,nv)] [.row 88 wv N1,.row 76 nv N1] ac wo:=h.re [0,1]
  refine iu (xs:=N1) h (cz Tryz.call48 rfl) (fun w_ hB_ hS_=>numsL_ct N1 wv hNl w_ (row_view hS_ 0 rfl)) rfl ?_; clear h ac wo; intro xv ac wo _ h
  refine gz h <| (xg (hs:=by exact fun hg=>fq enA (fun w_ hB_ hS_=>u9 (N1.map nX) (N1.map nX) nv xv (by rw [List.length_map]; exact hNl) (by rw [List.length_map]; exact hNl) w_ (xD (row_view hS_ 2 rfl)) (xD (row_view hS_ 0 rfl))))) <| (xg (hs:=by exact fun hg=>fq enA (fun w_ hB_ hS_=>cV w_ (row_view hS_ 2 rfl)))) <| (W) ?_; clear h ac wo; intro ac wo h
  refine (rt h) (h.retP (congrArg Value.bool ?_) trivial)
  rw [decide_eq_true rfl]
  by_cases e:N2=0
  · rw [(hng.2 e).2 (by omega)]; simp
  · rw [show (N2 != 0)=true from bne_iff_ne.2 e]; rfl
end Go.Sx
namespace Go.Sx
open Go Go.RowKit Go.Proofs Go.ChangeShapes Go.WideShapes
set_option maxRecDepth 100000
section
variable {H:Type} {enc:TypeId×Value→H} {W:World} {base:Nat} {sp:Nat→Bool} {held:Bool}
def dXD (x:XD):DataW H:=.agg [dXQ x.c0,dXQ x.c1,dXQ x.c2]
theorem xd_cells {fuel:Nat} {cs:List Value} {x:DataW H×List MemPlace} (h:DataW.trod enc Tryz.prog W base sp held fuel 72 cs=some x):∃ i:XD,cs=cXD i∧x.1=dXD i:=by
 obtain ⟨xs,n,_,hx,hlen,hxl,hf⟩:=DataW.trod_struct nn72 h
 rw [show Tryz.prog.cellsOf 72=12 by kernel_rfl] at hlen
 have k29:Tryz.prog.cellsOf 29=4:=by kernel_rfl
 have f0:DataW.trod enc Tryz.prog W base sp held n 29 ((cs.drop 0).take (Tryz.prog.cellsOf 29))=xs[0]?:=hf 0 _ rfl
 have f1:DataW.trod enc Tryz.prog W base sp held n 29 ((cs.drop 4).take (Tryz.prog.cellsOf 29))=xs[1]?:=hf 1 _ rfl
 have f2:DataW.trod enc Tryz.prog W base sp held n 29 ((cs.drop 8).take (Tryz.prog.cellsOf 29))=xs[2]?:=hf 2 _ rfl
 rw [k29] at f0 f1 f2
 obtain ⟨y0,y1,y2,rfl⟩:∃ y0 y1 y2,xs=[y0,y1,y2]:=by
  have:xs.length=3:=hxl
  match xs,this with
  | [y0,y1,y2],_=>exact ⟨_,_,_,rfl⟩
 obtain ⟨i,e0,d0⟩:=mU f0
 obtain ⟨j,e1,d1⟩:=mU f1
 obtain ⟨k,e2,d2⟩:=mU f2
 refine ⟨⟨i,j,k⟩,?_,?_⟩
 · show cs=cXQ i++(cXQ j++cXQ k)
   rw [← e0,← e1,← e2,List.drop_zero]
   match cs,hlen with
   | [c0,c1,c2,c3,c4,c5,c6,c7,c8,c9,c10,c11],_=>rfl
 · rw [hx]
   show DataW.agg [y0.1,y1.1,y2.1]=DataW.agg [dXQ i,dXQ j,dXQ k]
   rw [d0,d1,d2]
theorem w_xd (x:XD):DataW.weights Tryz.prog 72 (dXD (H:=H) x)=DataW.weights Tryz.prog 29 (dXQ (H:=H) x.c0)++(DataW.weights Tryz.prog 29 (dXQ (H:=H) x.c1)++DataW.weights Tryz.prog 29 (dXQ (H:=H) x.c2)):=by
 unfold dXD
 simp [DataW.weights,DataW.weightsEach,nn72]
theorem xn_cells {fuel:Nat} {cs:List Value} {x:DataW H×List MemPlace} (h:DataW.trod enc Tryz.prog W base sp held fuel 76 cs=some x) (hw:(DataW.weights Tryz.prog 76 x.1).all lim=true):∃ s:XN,cs=Cod.enc s∧SzN63 s:=by
 obtain ⟨xs,n,_,hx,hlen,hxl,hf⟩:=DataW.trod_struct nn76 h
 rw [show Tryz.prog.cellsOf 76=32 by kernel_rfl] at hlen
 have k74:Tryz.prog.cellsOf 74=20:=by kernel_rfl
 have k72:Tryz.prog.cellsOf 72=12:=by kernel_rfl
 have f0:DataW.trod enc Tryz.prog W base sp held n 74 ((cs.drop 0).take (Tryz.prog.cellsOf 74))=xs[0]?:=hf 0 _ rfl
 have f1:DataW.trod enc Tryz.prog W base sp held n 72 ((cs.drop 20).take (Tryz.prog.cellsOf 72))=xs[1]?:=hf 1 _ rfl
 rw [k74] at f0
 rw [k72] at f1
 obtain ⟨y0,y1,rfl⟩:∃ y0 y1,xs=[y0,y1]:=by
  have:xs.length=2:=hxl
  match xs,this with
  | [y0,y1],_=>exact ⟨_,_,rfl⟩
 obtain ⟨a,e0,d0⟩:=xv_cells f0
 obtain ⟨b,e1,d1⟩:=xd_cells f1
 have hd:x.1=.agg [dXV a,dXD b]:=by
  rw [hx]
  show DataW.agg [y0.1,y1.1]=_
  rw [d0,d1]
 rw [hd] at hw
 have hw2:DataW.weights Tryz.prog 76 (.agg [dXV (H:=H) a,dXD b])=DataW.weights Tryz.prog 74 (dXV (H:=H) a)++DataW.weights Tryz.prog 72 (dXD (H:=H) b):=by
  simp [DataW.weights,DataW.weightsEach,nn76]
 rw [hw2,w_xv,w_xd,w_xr,w_xr] at hw
 simp only [List.all_append,Bool.and_eq_true] at hw
 obtain ⟨⟨⟨w0,w1⟩,w2,w3⟩,w4,w5,w6⟩:=hw
 refine ⟨⟨a,b⟩,?_,fun k hk=>?_⟩
 · show cs=cXV a++cXD b
   rw [← e0,← e1,List.drop_zero]
   have:(cs.drop 20).take 12=cs.drop 20:=List.take_of_length_le (by rw [List.length_drop]; omega)
   rw [this,List.take_append_drop]
 · obtain rfl | rfl | rfl | rfl | rfl | rfl | rfl:k=0∨k=1∨k=2∨k=3∨k=4∨k=5∨k=6:=by omega
   · exact xq_w w0
   · exact xq_w w1
   · exact xq_w w2
   · exact xq_w w3
   · exact xq_w w4
   · exact xq_w w5
   · exact xq_w w6
theorem vq {v:Value} {d:DataW H} {p:List MemPlace} (hval:Value.okWide Tryz.prog W .any base 66 v) (h:DataW.Trod enc Tryz.prog W 0 sp held 66 v d p) (hw:(DataW.weights Tryz.prog 66 d).all lim=true):∃ xs:List XN,View W v xs∧∀ s∈xs,SzN63 s :=
 wN Tryz.underlying66 (by kernel_rfl) hval h hw fun n cs x h k=>xn_cells h k
end
end Go.Sx
