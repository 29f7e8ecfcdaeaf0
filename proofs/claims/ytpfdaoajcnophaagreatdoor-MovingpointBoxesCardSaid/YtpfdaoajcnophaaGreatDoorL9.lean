/- A part of the proof of movingpointBoxes. -/
import Derived.Test.YtpfdaoajcnophaaGreatDoorL7
import Derived.Test.YtpfdaoajcnophaaGreatDoorL8
set_option linter.unusedVariables false
set_option linter.unusedSimpArgs false
open Go.Proofs.Tryz renaming isAgg29 → aa29, sizeOf29 → zz29, underlying192 → nn192, call322 → cc322, sizeOf192 → zz192, runUnderlying292 → uu292, sizeOf74 → zz74, runUnderlying74 → uu74, sizeOf46 → zz46, isAgg46 → aa46
namespace Go.Sx
open Go Go.RowKit Go.Proofs
set_option maxRecDepth 100000
set_option maxHeartbeats 40000000
attribute [local irreducible] Code.wp wpList Rd Step ObS Ent
attribute [local irreducible] ao aL ah au ax bN
theorem eqi79:EqIn Tryz.prog 4 163 vN:=eqS (c:=cN) (fun _=>rfl) Tryz.underlying163 Tryz.stoodInHeld163 fun d x y w hd=>by
 refine Eq.trans (eqF (by decide) (dc aa29 zz29 (v:=vQ (x.x0)) rfl w) (dc aa29 zz29 (v:=vQ (y.x0)) rfl w) (qh d _ _ w og) (eqF (by decide) (dc aa29 zz29 (v:=vQ (x.x1)) rfl w) (dc aa29 zz29 (v:=vQ (y.x1)) rfl w) (qh d _ _ w og) (eqF (by decide) (dc aa29 zz29 (v:=vQ (x.y0)) rfl w) (dc aa29 zz29 (v:=vQ (y.y0)) rfl w) (qh d _ _ w og) (eqF (by decide) (dc aa29 zz29 (v:=vQ (x.y1)) rfl w) (dc aa29 zz29 (v:=vQ (y.y1)) rfl w) (qh d _ _ w og) eqF0)))) ?_
 congr 1
 rw [decide_eq_decide]
 cases x; cases y; simp
theorem eqp79:EqP Tryz.prog 163 vN:=EqIn.p (k:=4) rfl (c:=fun x=>(cN x).toArray) (fun _=>rfl) Tryz.eqGuardType163 eqi79
instance yL9_1:Ep Tryz.prog 163 Ln inferInstance vN:=⟨eqp79⟩
theorem iz:SlT Tryz.prog 192 292 36 408 [.bool false,.string ⟨#[]⟩,.bool false,.string ⟨#[]⟩,.bool false,.string ⟨#[]⟩,.bool false,.string ⟨#[]⟩,.bool false,.bool false,.string ⟨#[]⟩,.bool false,.string ⟨#[]⟩,.bool false,.string ⟨#[]⟩,.bool false,.string ⟨#[]⟩,.bool false,.bool false,.bool false,.bool false,.string ⟨#[]⟩,.bool false,.string ⟨#[]⟩,.bool false,.string ⟨#[]⟩,.bool false,.string ⟨#[]⟩,.bool false,.string ⟨#[]⟩,.bool false,.string ⟨#[]⟩,.bool false,.string ⟨#[]⟩,.bool false,.string ⟨#[]⟩]:=⟨nn192,Tryz.t292,_,Tryz.type292,rfl,rfl,rfl,rfl,rfl,by decide,by decide⟩
def cA (f:Ln) (g:Ln):Bool :=
 (decide (f=g))
theorem kQ (f:Ln) (g:Ln) (zf:SzN 20 f) (zg:SzN 20 g) (w0:World) :Calls Tryz.prog 408 #[(.agg #[]),(vN f),(vN g)] w0 (dE w0 (.bool (cA f g)) (True)):=by
 refine enter (N:=10) (args:=[(.agg #[]),(vN f),(vN g)]) Tryz.func408 rfl rfl ?_; intro ac h
 refine gz h <| (xb) fun b1=>(xb) fun b2=>(xb) fun b3=>(W) ?_; clear h ac; intro ac wo h
 exact (rt h) (h.retP (by unfold cA; rfl) trivial)
attribute [irreducible] cA
def bt (f:Ln) (g:Ln) (t:GR):Bool :=
 ((gg ((aR f).1) ((aR g).1) t) && (gg ((aR f).2) ((aR g).2) t))
theorem fR (f:Ln) (g:Ln) (t:GR) (zf:SzN 20 f) (zg:SzN 20 g) (zt:SzR 30 t) (w0:World) :Calls Tryz.prog 316 #[(.agg #[]),(vN f),(vN g),(vR t)] w0 (dE w0 (.bool (bt f g t)) (True)):=by
 refine enter (N:=33) (args:=[(.agg #[]),(vN f),(vN g),(vR t)]) Tryz.func316 rfl rfl ?_; intro ac h
 have c1:=gC f 20 og zf
 have s1:=ap (c1 w0)
 have c2:=gC g 20 og zg
 have s2:=ap (c2 w0)
 refine gz h <| (xb) fun b1=>(xb) fun b2=>(xb) fun b3=>(xb) fun b4=>(xk (c1)) <| (xa) fun b5=>(xa) fun b6=>(xk (c2)) <| (xa) fun b7=>(xa) fun b8=>(xk (j4 ((aR f).1) ((aR g).1) t 6 og s1.1 s2.1 (fh zt og))) <| (xg (hs:=by exact fun hg=>gk enA (kk (j4 ((aR f).2) ((aR g).2) t 6 og s1.2 s2.2 (fh zt og))))) <| (W) ?_; clear h ac; intro ac wo h
 exact (rt h) (h.retP (by unfold bt; rfl) trivial)
attribute [irreducible] bt
def aC (f:Ln) (t:GR):Ln :=
 (⟨(aY ((aR f).1) t).c0,(aY ((aR f).1) t).c1,(aY ((aR f).2) t).c0,(aY ((aR f).2) t).c1⟩:Ln)
theorem iC (f:Ln) (t:GR) (zf:SzN 30 f) (zt:SzR 30 t) (w0:World) :Calls Tryz.prog 409 #[(.agg #[]),(vN f),(vR t)] w0 (dE w0 (vN (aC f t)) (SzN 20 (aC f t))):=by
 refine enter (N:=29) (args:=[(.agg #[]),(vN f),(vR t)]) Tryz.func409 rfl rfl ?_; intro ac h
 have c1:=gC f 30 og zf
 have s1:=ap (c1 w0)
 refine gz h <| (xb) fun b1=>(xb) fun b2=>(xb) fun b3=>(xa) fun b4=>(xk (c1)) <| (xa) fun b5=>(xa) fun b6=>(W) ?_; clear h ac; intro ac wo h
 have c2:=fw ((aR f).1) t 20 og s1.1 zt
 have s2:=ap (c2 w0)
 have s3:=ap ((fw ((aR f).2) t 20 og s1.2 zt) w0)
 refine gz h <| (dr1 (H:=[⟨.blk b6 (cD ((aR f).2)) 72,[(7,.con (.blk b6 (cD (aY ((aR f).2) t)) 72))]⟩,⟨.blk b5 (cD ((aR f).1)) 72,[(6,.con (.blk b5 (cD (aY ((aR f).1) t)) 72))]⟩,⟨.blk b4 (cN (⟨oQ,oQ,oQ,oQ⟩:Ln)) 163,[]⟩,⟨.blk b3 (cR t) 46,[]⟩,⟨.blk b2 (cN f) 163,[]⟩,⟨.blk b1 [] 275,[]⟩]) (hob:=(oK (c2)) <| (oK (fw ((aR f).2) t 20 og s1.2 zt)) <| oE)) <| (xo (hs:=by exact bK w7 exs rfl (v:=(vN (⟨(aY ((aR f).1) t).c0,(aY ((aR f).1) t).c1,(aY ((aR f).2) t).c0,(aY ((aR f).2) t).c1⟩:Ln))) rfl)) <| (W) ?_; clear h ac wo; intro ac wo h
 exact ret h rfl (.cell (v:=(vN (⟨(aY ((aR f).1) t).c0,(aY ((aR f).1) t).c1,(aY ((aR f).2) t).c0,(aY ((aR f).2) t).c1⟩:Ln))) rfl (i:=2) rfl Tryz.isAgg163 Tryz.sizeOf163 rfl rfl rfl .nil) rfl (h.retP (by unfold aC; rfl) (by unfold aC; exact ⟨s2.1,s2.2.1,s3.1,s3.2.1⟩))
attribute [irreducible] aC
def a6 (s:List (U Ln)):(List (U Ln)):=s
theorem ff (s:List (U Ln)) (sv:Value) (hl:s.length≤1000) (zs:All (jD 30) s) (w0:World) (hsv:View w0 sv s):Calls Tryz.prog 318 #[sv] w0 (RetR w0 292 (a6 s) (All (jD 30) (a6 s)∧(a6 s)=s∧(a6 s).length=s.length)):=by
 refine enter (N:=8) (args:=[sv]) Tryz.func318 rfl rfl ?_; intro ac h
 have hlens:=hsv.len
 refine gz h <| (xo (hs:=by exact yF nn192 hsv.sl rfl)) <| (ai) ?_ ?_ <;> clear h ac <;> intro ac wo h hc1
 ·
  have hq1:=hc1; try simp at hq1
  refine gz h <| (W) ?_; clear h ac wo; intro ac wo h
  replace h:=h.nilRow (α:=U Ln) 292
  have hd:a6 s=[]:=(hsv.nil hc1).1
  exact (rt h) (by rw [hd]; exact h.retR 0 rfl ⟨All.nil,⟨(hsv.nil hc1).1.symm,by rw [(hsv.nil hc1).1]⟩⟩)
 ·
  have hq1:=hc1; try simp at hq1
  refine gz h <| (W) ?_; clear h ac wo; intro ac wo h
  refine nw h (dG (α:=U Ln) (xs:=[]) (vs:=[]) [] iz rfl rfl rfl (by decide)) rfl ?_; clear h ac wo; intro sv2 ac wo nnsv2 h
  refine gz h <| (W) ?_; clear h ac wo; intro ac wo h
  refine on1 h 0 rfl (s_appV (xs:=[]) (ys:=s) iz hsv rfl rfl og) rfl ?_; clear h ac wo; intro sv3 ac wo apsv3 h
  refine gz h <| (W) ?_; clear h ac wo; intro ac wo h
  exact (rt h) (by unfold a6; exact h.retR 0 rfl ⟨(All.app All.nil zs),⟨rfl,rfl⟩⟩)
attribute [irreducible] a6
def aT (i:Iv):Int :=
 bif i.openLo then
  1
 else
  0
theorem eQ (i:Iv) (zi:SzV 30 i) (w0:World) :Calls Tryz.prog 321 #[(vV i)] w0 (dE w0 (.int .i64 (aT i)) ((-1≤(aT i)∧(aT i)≤1))):=by
 refine enter (N:=5) (args:=[(vV i)]) Tryz.func321 rfl rfl ?_; intro ac h
 refine gz h <| (xb) fun b1=>(ai) ?_ ?_ <;> clear h ac <;> intro ac wo h hc1
 ·
  have hq1:=hc1; try simp at hq1
  have hd:aT i=1:=pt
  refine gz h <| (W) ?_; clear h ac wo; intro ac wo h
  exact (rt h) (h.retP (by rw [hd] <;> rfl) (by rw [hd]; exact og))
 ·
  have hq1:=hc1; try simp at hq1
  have hd:aT i=0:=pt
  refine gz h <| (W) ?_; clear h ac wo; intro ac wo h
  exact (rt h) (h.retP (by rw [hd] <;> rfl) (by rw [hd]; exact og))
attribute [irreducible] aT
def fG (l:List (U Ln)) (t:GR):Bool :=
 (((decide (((l.length:Nat):Int)>0)) && (decide (((gt l (l.length - 1)).iv).hi=t))) && (!((gt l (l.length - 1)).iv).openHi))
theorem jt (l:List (U Ln)) (lv:Value) (t:GR) (zl:All (jD 20) l) (zt:SzR 30 t) (w0:World) (hlv:View w0 lv l):Calls Tryz.prog 286 #[lv,(vR t)] w0 (dE w0 (.bool (fG l t)) (True)):=by
 refine enter (N:=31) (args:=[lv,(vR t)]) Tryz.func286 rfl rfl ?_; intro ac h
 have hlenl:=hlv.len
 refine gz h <| (xb) fun b1=>(dr0 (hob:=oE)) <| (W) ?_; clear h ac; intro ac wo h
 exact (rt h) (h.retP (by unfold fG; rfl) trivial)
attribute [irreducible] fG
def gK (l:List (U Ln)) (x10:Nat) (out:List (U Ln)):(List (U Ln)) :=
 out
def dJ (l:List (U Ln)) (x10:Nat) (out:List (U Ln)):Nx (Nat×(List (U Ln))) (List (U Ln)) :=
 bif (decide (((x10:Nat):Int) < ((l.length:Nat):Int))) then
  bif (!((gt l x10).iv).openLo) then
   bif (aM ((gt l x10).iv)) then
    .go ((x10+1),(out++[(⟨(⟨((gt l x10).iv).lo,((gt l x10).iv).lo,false,false⟩:Iv),(gt l x10).f⟩:U Ln)]))
   else
    bif (!((gt l x10).iv).openHi) then
     .go ((x10+1),(((out++[(⟨(⟨((gt l x10).iv).lo,((gt l x10).iv).lo,false,false⟩:Iv),(gt l x10).f⟩:U Ln)])++[(⟨(⟨((gt l x10).iv).lo,((gt l x10).iv).hi,true,true⟩:Iv),(gt l x10).f⟩:U Ln)])++[(⟨(⟨((gt l x10).iv).hi,((gt l x10).iv).hi,false,false⟩:Iv),(gt l x10).f⟩:U Ln)]))
    else
     .go ((x10+1),((out++[(⟨(⟨((gt l x10).iv).lo,((gt l x10).iv).lo,false,false⟩:Iv),(gt l x10).f⟩:U Ln)])++[(⟨(⟨((gt l x10).iv).lo,((gt l x10).iv).hi,true,true⟩:Iv),(gt l x10).f⟩:U Ln)]))
  else
   bif (aM ((gt l x10).iv)) then
    .go ((x10+1),out)
   else
    bif (!((gt l x10).iv).openHi) then
     .go ((x10+1),((out++[(⟨(⟨((gt l x10).iv).lo,((gt l x10).iv).hi,true,true⟩:Iv),(gt l x10).f⟩:U Ln)])++[(⟨(⟨((gt l x10).iv).hi,((gt l x10).iv).hi,false,false⟩:Iv),(gt l x10).f⟩:U Ln)]))
    else
     .go ((x10+1),(out++[(⟨(⟨((gt l x10).iv).lo,((gt l x10).iv).hi,true,true⟩:Iv),(gt l x10).f⟩:U Ln)]))
 else
  .out (x10,out)
def ag (l:List (U Ln)):(List (U Ln)) :=
 fin (d7 (fun s=>dJ l s.1 s.2) ((l.length - 0)+1) (0,[])) (fun s=>gK l s.1 s.2) (fun r=>r)
theorem jf (l:List (U Ln)) (lv:Value) (hl:l.length≤1000) (zl:All (jD 30) l) (w0:World) (hlv:View w0 lv l):Calls Tryz.prog 285 #[lv] w0 (RetR w0 292 (ag l) (All (jD 30) (ag l)∧(ag l).length≤3*l.length)):=by
 refine enter (N:=54) (args:=[lv]) Tryz.func285 rfl rfl ?_; intro ac h
 have hlenl:=hlv.len
 refine gz h <| (xa) fun b1=>(xo (hs:=by exact qq rfl)) <| (W) ?_; clear h ac; intro ac wo h
 replace h:=h.nilRow (α:=U Ln) 292
 obtain ⟨X1,hX1⟩:∃ X,d7 (fun s=>dJ l s.1 s.2) ((l.length - 0)+1) (0,[])=X:=⟨_,rfl⟩
 refine wp_loop_ghost (fun n_ a_ w_=>∃ (x10:Nat) (out:List (U Ln)) (outv:Value),((l.length - x10) < n_)∧(d7 (fun s=>dJ l s.1 s.2) n_ (x10,out)=X1)∧(x10≤l.length)∧(All (jD 30) out)∧(out.length≤3*x10)∧St w0 54 [(3,(ptr b1 0)),(4,(.func (.func 322) #[] #[(ptr b1 0)])),(8,lv),(9,(.int .i64 ((l.length:Nat):Int))),(10,(.int .i64 ((x10:Nat):Int)))] [.row (α:=U Ln) 292 outv out,.blk b1 [outv] 192] a_ w_) ((l.length - 0)+1) ⟨0,[],(.slice none 0 0),og,hX1,og,All.nil,og,h.rs⟩ ?_
 clear h ac wo; rintro n1 ac wo ⟨x10,out,outv,hm1,hL1,hx10,zout,hol,h⟩
 obtain ⟨m1,rfl⟩:∃ m,n1=m+1:=⟨n1 - 1,by omega⟩
 refine gz h <| (ai) ?_ ?_ <;> clear h ac wo <;> intro ac wo h hc1
 ·
  have hd1:=of_decide_eq_true hc1
  refine gz h <| (xa) fun b2=>(ai) ?_ ?_ <;> clear h ac wo <;> intro ac wo h hc2
  ·
   have hq2:=hc2; try simp at hq2
   refine gz h <| (W) ?_; clear h ac wo; intro ac wo h
   refine inl (vs:=[(vR (((gt l x10).iv).lo)),(vN ((gt l x10).f)),(ptr b1 0)]) (M:=13) h (wV (vs:=[(vR (((gt l x10).iv).lo)),(vN ((gt l x10).f))]) (cap:=[(ptr b1 0)]) cc322 rfl rfl) Tryz.func322 rfl rfl rfl ?_
   clear h ac; intro R1 hR1 ac h
   refine gz h <| (xb) fun b3=>(xb) fun b4=>(xo (hs:=by exact bK mY exs rfl (v:=(vV (⟨((gt l x10).iv).lo,((gt l x10).iv).lo,false,false⟩:Iv))) rfl)) <| (xo (hs:=by exact bK pN exs rfl (v:=(vUN (⟨(⟨((gt l x10).iv).lo,((gt l x10).iv).lo,false,false⟩:Iv),(gt l x10).f⟩:U Ln))) rfl)) <| ?_; clear h ac wo; intro ac wo h
   refine nw h (dG (α:=U Ln) (xs:=[.tmp 10]) (vs:=[(vUN (⟨(⟨((gt l x10).iv).lo,((gt l x10).iv).lo,false,false⟩:Iv),(gt l x10).f⟩:U Ln))]) [(⟨(⟨((gt l x10).iv).lo,((gt l x10).iv).lo,false,false⟩:Iv),(gt l x10).f⟩:U Ln)] iz rfl rfl rfl (by decide)) rfl ?_; clear h ac wo; intro sv2 ac wo nnsv2 h
   refine on2 h 4 0 rfl rfl (gQ (xs:=out) (ys:=[(⟨(⟨((gt l x10).iv).lo,((gt l x10).iv).lo,false,false⟩:Iv),(gt l x10).f⟩:U Ln)]) iz (fun w hs=>(row_view hs 0 rfl)) rfl rfl og) rfl ?_; clear h ac wo; intro sv3 ac wo apsv3 h
   refine st h 5 [sv3] rfl zz192 rfl rfl (mn (h.row_sl 0 rfl)) rfl (sd (h.row_sl 0 rfl)) rfl rfl ?_; clear h ac wo; intro ac wo h
   refine gz h <| (W) ?_; clear h ac wo; intro ac wo h
   refine pc (rs:=[]) (vs:=[]) h rfl .nil rfl (hR1 _ _ _ h.bel h.sep ?_)
   clear h ac hR1; intro ac h
   refine gz h <| (xk (eM ((gt l x10).iv))) <| (ai) ?_ ?_ <;> clear h ac wo <;> intro ac wo h hc3
   ·
    have hq3:=hc3; try simp at hq3
    refine gz h <| (W) ?_; clear h ac wo; intro ac wo h
    have hg:=fE hL1 pt
    exact aO ⟨m1,og,_,_,_,og,hg,og,(All.app zout (All.cons ⟨⟨((All.gt zl (cC _)).1).1,((All.gt zl (cC _)).1).1⟩,(All.gt zl (cC _)).2⟩ All.nil)),og,h.re [0,5]⟩
   ·
    have hq3:=hc3; try simp at hq3
    refine gz h <| (xo (hs:=by exact bK mY exs rfl (v:=(vV (⟨((gt l x10).iv).lo,((gt l x10).iv).hi,true,true⟩:Iv))) rfl)) <| (xo (hs:=by exact bK pN exs rfl (v:=(vUN (⟨(⟨((gt l x10).iv).lo,((gt l x10).iv).hi,true,true⟩:Iv),(gt l x10).f⟩:U Ln))) rfl)) <| ?_; clear h ac wo; intro ac wo h
    refine nw h (dG (α:=U Ln) (xs:=[.tmp 38]) (vs:=[(vUN (⟨(⟨((gt l x10).iv).lo,((gt l x10).iv).hi,true,true⟩:Iv),(gt l x10).f⟩:U Ln))]) [(⟨(⟨((gt l x10).iv).lo,((gt l x10).iv).hi,true,true⟩:Iv),(gt l x10).f⟩:U Ln)] iz rfl rfl rfl (by decide)) rfl ?_; clear h ac wo; intro sv4 ac wo nnsv4 h
    refine on2 h 1 0 rfl rfl (gQ (xs:=(out++[(⟨(⟨((gt l x10).iv).lo,((gt l x10).iv).lo,false,false⟩:Iv),(gt l x10).f⟩:U Ln)])) (ys:=[(⟨(⟨((gt l x10).iv).lo,((gt l x10).iv).hi,true,true⟩:Iv),(gt l x10).f⟩:U Ln)]) iz (fun w hs=>(row_view hs 0 rfl)) rfl rfl og) rfl ?_; clear h ac wo; intro sv5 ac wo apsv5 h
    refine st h 6 [sv5] rfl zz192 rfl rfl (mn (h.row_sl 0 rfl)) rfl (sd (h.row_sl 0 rfl)) rfl rfl ?_; clear h ac wo; intro ac wo h
    refine gz h <| (ai) ?_ ?_ <;> clear h ac wo <;> intro ac wo h hc4
    ·
     have hq4:=hc4; try simp at hq4
     refine gz h <| (W) ?_; clear h ac wo; intro ac wo h
     refine inl (vs:=[(vR (((gt l x10).iv).hi)),(vN ((gt l x10).f)),(ptr b1 0)]) (M:=13) h (wV (vs:=[(vR (((gt l x10).iv).hi)),(vN ((gt l x10).f))]) (cap:=[(ptr b1 0)]) cc322 rfl rfl) Tryz.func322 rfl rfl rfl ?_
     clear h ac; intro R2 hR2 ac h
     refine gz h <| (xb) fun b5=>(xb) fun b6=>(xo (hs:=by exact bK mY exs rfl (v:=(vV (⟨((gt l x10).iv).hi,((gt l x10).iv).hi,false,false⟩:Iv))) rfl)) <| (xo (hs:=by exact bK pN exs rfl (v:=(vUN (⟨(⟨((gt l x10).iv).hi,((gt l x10).iv).hi,false,false⟩:Iv),(gt l x10).f⟩:U Ln))) rfl)) <| ?_; clear h ac wo; intro ac wo h
     refine nw h (dG (α:=U Ln) (xs:=[.tmp 10]) (vs:=[(vUN (⟨(⟨((gt l x10).iv).hi,((gt l x10).iv).hi,false,false⟩:Iv),(gt l x10).f⟩:U Ln))]) [(⟨(⟨((gt l x10).iv).hi,((gt l x10).iv).hi,false,false⟩:Iv),(gt l x10).f⟩:U Ln)] iz rfl rfl rfl (by decide)) rfl ?_; clear h ac wo; intro sv6 ac wo nnsv6 h
     refine on2 h 3 0 rfl rfl (gQ (xs:=((out++[(⟨(⟨((gt l x10).iv).lo,((gt l x10).iv).lo,false,false⟩:Iv),(gt l x10).f⟩:U Ln)])++[(⟨(⟨((gt l x10).iv).lo,((gt l x10).iv).hi,true,true⟩:Iv),(gt l x10).f⟩:U Ln)])) (ys:=[(⟨(⟨((gt l x10).iv).hi,((gt l x10).iv).hi,false,false⟩:Iv),(gt l x10).f⟩:U Ln)]) iz (fun w hs=>(row_view hs 0 rfl)) rfl rfl og) rfl ?_; clear h ac wo; intro sv7 ac wo apsv7 h
     refine st h 9 [sv7] rfl zz192 rfl rfl (mn (h.row_sl 0 rfl)) rfl (sd (h.row_sl 0 rfl)) rfl rfl ?_; clear h ac wo; intro ac wo h
     refine gz h <| (W) ?_; clear h ac wo; intro ac wo h
     refine pc (rs:=[]) (vs:=[]) h rfl .nil rfl (hR2 _ _ _ h.bel h.sep ?_)
     clear h ac hR2; intro ac h
     refine gz h <| (W) ?_; clear h ac wo; intro ac wo h
     have hg:=fE hL1 pt
     exact aO ⟨m1,og,_,_,_,og,hg,og,(All.app (All.app (All.app zout (All.cons ⟨⟨((All.gt zl (cC _)).1).1,((All.gt zl (cC _)).1).1⟩,(All.gt zl (cC _)).2⟩ All.nil)) (All.cons ⟨⟨((All.gt zl (cC _)).1).1,((All.gt zl (cC _)).1).2⟩,(All.gt zl (cC _)).2⟩ All.nil)) (All.cons ⟨⟨((All.gt zl (cC _)).1).2,((All.gt zl (cC _)).1).2⟩,(All.gt zl (cC _)).2⟩ All.nil)),og,h.re [0,9]⟩
    ·
     have hq4:=hc4; try simp at hq4
     refine gz h <| (W) ?_; clear h ac wo; intro ac wo h
     have hg:=fE hL1 pt
     exact aO ⟨m1,og,_,_,_,og,hg,og,(All.app (All.app zout (All.cons ⟨⟨((All.gt zl (cC _)).1).1,((All.gt zl (cC _)).1).1⟩,(All.gt zl (cC _)).2⟩ All.nil)) (All.cons ⟨⟨((All.gt zl (cC _)).1).1,((All.gt zl (cC _)).1).2⟩,(All.gt zl (cC _)).2⟩ All.nil)),og,h.re [0,6]⟩
  ·
   have hq2:=hc2; try simp at hq2
   refine gz h <| (xk (eM ((gt l x10).iv))) <| (ai) ?_ ?_ <;> clear h ac wo <;> intro ac wo h hc5
   ·
    have hq5:=hc5; try simp at hq5
    refine gz h <| (W) ?_; clear h ac wo; intro ac wo h
    have hg:=fE hL1 pt
    exact aO ⟨m1,og,_,_,_,og,hg,og,zout,og,h.re [1,2]⟩
   ·
    have hq5:=hc5; try simp at hq5
    refine gz h <| (xo (hs:=by exact bK mY exs rfl (v:=(vV (⟨((gt l x10).iv).lo,((gt l x10).iv).hi,true,true⟩:Iv))) rfl)) <| (xo (hs:=by exact bK pN exs rfl (v:=(vUN (⟨(⟨((gt l x10).iv).lo,((gt l x10).iv).hi,true,true⟩:Iv),(gt l x10).f⟩:U Ln))) rfl)) <| ?_; clear h ac wo; intro ac wo h
    refine nw h (dG (α:=U Ln) (xs:=[.tmp 38]) (vs:=[(vUN (⟨(⟨((gt l x10).iv).lo,((gt l x10).iv).hi,true,true⟩:Iv),(gt l x10).f⟩:U Ln))]) [(⟨(⟨((gt l x10).iv).lo,((gt l x10).iv).hi,true,true⟩:Iv),(gt l x10).f⟩:U Ln)] iz rfl rfl rfl (by decide)) rfl ?_; clear h ac wo; intro sv8 ac wo nnsv8 h
    refine on2 h 2 0 rfl rfl (gQ (xs:=out) (ys:=[(⟨(⟨((gt l x10).iv).lo,((gt l x10).iv).hi,true,true⟩:Iv),(gt l x10).f⟩:U Ln)]) iz (fun w hs=>(row_view hs 0 rfl)) rfl rfl og) rfl ?_; clear h ac wo; intro sv9 ac wo apsv9 h
    refine st h 3 [sv9] rfl zz192 rfl rfl (mn (h.row_sl 0 rfl)) rfl (sd (h.row_sl 0 rfl)) rfl rfl ?_; clear h ac wo; intro ac wo h
    refine gz h <| (ai) ?_ ?_ <;> clear h ac wo <;> intro ac wo h hc6
    ·
     have hq6:=hc6; try simp at hq6
     refine gz h <| (W) ?_; clear h ac wo; intro ac wo h
     refine inl (vs:=[(vR (((gt l x10).iv).hi)),(vN ((gt l x10).f)),(ptr b1 0)]) (M:=13) h (wV (vs:=[(vR (((gt l x10).iv).hi)),(vN ((gt l x10).f))]) (cap:=[(ptr b1 0)]) cc322 rfl rfl) Tryz.func322 rfl rfl rfl ?_
     clear h ac; intro R3 hR3 ac h
     refine gz h <| (xb) fun b7=>(xb) fun b8=>(xo (hs:=by exact bK mY exs rfl (v:=(vV (⟨((gt l x10).iv).hi,((gt l x10).iv).hi,false,false⟩:Iv))) rfl)) <| (xo (hs:=by exact bK pN exs rfl (v:=(vUN (⟨(⟨((gt l x10).iv).hi,((gt l x10).iv).hi,false,false⟩:Iv),(gt l x10).f⟩:U Ln))) rfl)) <| ?_; clear h ac wo; intro ac wo h
     refine nw h (dG (α:=U Ln) (xs:=[.tmp 10]) (vs:=[(vUN (⟨(⟨((gt l x10).iv).hi,((gt l x10).iv).hi,false,false⟩:Iv),(gt l x10).f⟩:U Ln))]) [(⟨(⟨((gt l x10).iv).hi,((gt l x10).iv).hi,false,false⟩:Iv),(gt l x10).f⟩:U Ln)] iz rfl rfl rfl (by decide)) rfl ?_; clear h ac wo; intro sv10 ac wo nnsv10 h
     refine on2 h 3 0 rfl rfl (gQ (xs:=(out++[(⟨(⟨((gt l x10).iv).lo,((gt l x10).iv).hi,true,true⟩:Iv),(gt l x10).f⟩:U Ln)])) (ys:=[(⟨(⟨((gt l x10).iv).hi,((gt l x10).iv).hi,false,false⟩:Iv),(gt l x10).f⟩:U Ln)]) iz (fun w hs=>(row_view hs 0 rfl)) rfl rfl og) rfl ?_; clear h ac wo; intro sv11 ac wo apsv11 h
     refine st h 6 [sv11] rfl zz192 rfl rfl (mn (h.row_sl 0 rfl)) rfl (sd (h.row_sl 0 rfl)) rfl rfl ?_; clear h ac wo; intro ac wo h
     refine gz h <| (W) ?_; clear h ac wo; intro ac wo h
     refine pc (rs:=[]) (vs:=[]) h rfl .nil rfl (hR3 _ _ _ h.bel h.sep ?_)
     clear h ac hR3; intro ac h
     refine gz h <| (W) ?_; clear h ac wo; intro ac wo h
     have hg:=fE hL1 pt
     exact aO ⟨m1,og,_,_,_,og,hg,og,(All.app (All.app zout (All.cons ⟨⟨((All.gt zl (cC _)).1).1,((All.gt zl (cC _)).1).2⟩,(All.gt zl (cC _)).2⟩ All.nil)) (All.cons ⟨⟨((All.gt zl (cC _)).1).2,((All.gt zl (cC _)).1).2⟩,(All.gt zl (cC _)).2⟩ All.nil)),og,h.re [0,6]⟩
    ·
     have hq6:=hc6; try simp at hq6
     refine gz h <| (W) ?_; clear h ac wo; intro ac wo h
     have hg:=fE hL1 pt
     exact aO ⟨m1,og,_,_,_,og,hg,og,(All.app zout (All.cons ⟨⟨((All.gt zl (cC _)).1).1,((All.gt zl (cC _)).1).2⟩,(All.gt zl (cC _)).2⟩ All.nil)),og,h.re [0,3]⟩
 ·
  have hd1:=of_decide_eq_false hc1
  have hx1:=iT hL1 pt
  have hd:ag l=out:=pt
  refine gz h <| (W) ?_; clear h ac wo; intro ac wo h
  exact (rt h) (by rw [hd]; exact h.retR 0 rfl ⟨zout,og⟩)
attribute [irreducible] ag
def dh (a:U Ln) (b:U Ln):Int :=
 (lR ([(ao a.iv.lo b.iv.lo),(bN (aT a.iv) (aT b.iv)),(ao a.iv.hi b.iv.hi)]))
theorem kq (a:U Ln) (b:U Ln) (za:jD 30 a) (zb:jD 30 b) (w0:World) :Calls Tryz.prog 320 #[(vUN a),(vUN b)] w0 (dE w0 (.int .i64 (dh a b)) (True)):=by
 refine enter (N:=31) (args:=[(vUN a),(vUN b)]) Tryz.func320 rfl rfl ?_; intro ac h
 have p2:=ap ((dO a.iv.lo b.iv.lo 10 og za.1.1 zb.1.1) w0)
 refine gz h <| (xb) fun b1=>(xb) fun b2=>(W) ?_; clear h ac; intro ac wo h
 have s3:=Calls.pr ((fun w_ hB_ hS_=>eQ a.iv za.1 w_ ) _ h.bel h.sep)
 have p4:=s3
 have s5:=Calls.pr ((fun w_ hB_ hS_=>eQ b.iv zb.1 w_ ) _ h.bel h.sep)
 have p6:=s5
 have p8:=ap ((ki (aT a.iv) (aT b.iv)) w0)
 have p10:=ap ((dO a.iv.hi b.iv.hi 10 og za.1.2 zb.1.2) w0)
 replace h:=h.emps 1
 refine eZ mixed [dv _,dv _,dw _ [1],dv _,dv _,dw _ [0],dv _,dv _,dv _,dw _ [1],dv _,dv _,dv _,dw _ [0],dv _,dv _,dv _,dv _,dw _ [1],dv _,dv _,dw _ [0],dv _,⟨.nd (.one 23 fun v=>NN v 3),[2]⟩,dw _ [2],dv _] [⟨_,[]⟩,⟨_,[]⟩,⟨.emp,[(23,.one 23 fun v=>.row (α:=Int) 3 v ([(ao a.iv.lo b.iv.lo),(bN (aT a.iv) (aT b.iv)),(ao a.iv.hi b.iv.hi)]))]⟩] h rfl (by kernel_rfl) ⟨fun _ _=>aQ (fa uu292 rfl zz74 rfl rfl rfl (k':=0)),fun _ _=>aQ (fa uu74 rfl zz46 rfl rfl rfl (k':=0)),fun _ _=>iy _ rfl rfl (js aa46 zz46 rfl rfl rfl (v:=(vR a.iv.lo)) rfl),fun _ _=>aQ (fa uu292 rfl zz74 rfl rfl rfl (k':=0)),fun _ _=>aQ (fa uu74 rfl zz46 rfl rfl rfl (k':=0)),fun _ _=>iy _ rfl rfl (js aa46 zz46 rfl rfl rfl (v:=(vR b.iv.lo)) rfl),fun _ _=>fD (gk (dH Tryz.call59 rfl) (kk (dO a.iv.lo b.iv.lo 10 og za.1.1 zb.1.1))),fun _ _=>om rfl,fun _ _=>aQ (fa uu292 rfl zz74 rfl rfl rfl (k':=0)),fun _ _=>iy _ rfl rfl (js Tryz.isAgg74 zz74 rfl rfl rfl (v:=(vV a.iv)) rfl),fun _ _=>fD (gk (wV (cap:=[]) Tryz.call321 rfl rfl) (kk (eQ a.iv za.1))),fun _ _=>om rfl,fun _ _=>aQ (fa uu292 rfl zz74 rfl rfl rfl (k':=0)),fun _ _=>iy _ rfl rfl (js Tryz.isAgg74 zz74 rfl rfl rfl (v:=(vV b.iv)) rfl),fun _ _=>fD (gk (wV (cap:=[]) Tryz.call321 rfl rfl) (kk (eQ b.iv zb.1))),fun _ _=>fD (gk (dH Tryz.call196 rfl) (kk (ki (aT a.iv) (aT b.iv)))),fun _ _=>aQ (fa uu292 rfl zz74 rfl rfl rfl (k':=0)),fun _ _=>aQ (fa uu74 rfl zz46 rfl rfl rfl (k':=9)),fun _ _=>iy _ rfl rfl (js aa46 zz46 rfl rfl rfl (v:=(vR a.iv.hi)) rfl),fun _ _=>aQ (fa uu292 rfl zz74 rfl rfl rfl (k':=0)),fun _ _=>aQ (fa uu74 rfl zz46 rfl rfl rfl (k':=9)),fun _ _=>iy _ rfl rfl (js aa46 zz46 rfl rfl rfl (v:=(vR b.iv.hi)) rfl),fun _ _=>fD (gk (dH Tryz.call59 rfl) (kk (dO a.iv.hi b.iv.hi 10 og za.1.2 zb.1.2))),fun _ _=>oB (ψ:=fun v=>NN v 3) (B:=fun v=>[.row (α:=Int) 3 v ([(ao a.iv.lo b.iv.lo),(bN (aT a.iv) (aT b.iv)),(ao a.iv.hi b.iv.hi)])]) [.emp] rfl (fun v _=>by simp only [dg,bA] <;> rfl) (fun v hv=>by simpa [DF.one,bA] using hv) (jX (dG (α:=Int) (xs:=[.tmp 12,.tmp 21,.tmp 28]) (vs:=[(.int .i64 (ao a.iv.lo b.iv.lo)),(.int .i64 (bN (aT a.iv) (aT b.iv))),(.int .i64 (ao a.iv.hi b.iv.hi))]) [(ao a.iv.lo b.iv.lo),(bN (aT a.iv) (aT b.iv)),(ao a.iv.hi b.iv.hi)] slt358 rfl rfl rfl (by decide))),fun ξ hφ=>kb _ [.row (α:=Int) 3 (ξ 23) ([(ao a.iv.lo b.iv.lo),(bN (aT a.iv) (aT b.iv)),(ao a.iv.hi b.iv.hi)])] rfl rfl (gk (dH Tryz.call249 rfl) (fun w_ hB_ hS_=>aan ([(ao a.iv.lo b.iv.lo),(bN (aT a.iv) (aT b.iv)),(ao a.iv.hi b.iv.hi)]) (ξ 23) w_ (row_view hS_ 0 rfl))),fun _ _=>aQ (aF rfl),trivial⟩ ?_
 clear h ac wo; intro ξ ac wo hφ h
 replace h:St w0 31 [(4,(.int .i64 (lR ([(ao a.iv.lo b.iv.lo),(bN (aT a.iv) (aT b.iv)),(ao a.iv.hi b.iv.hi)]))))] [.blk b2 (cUN b) 292,.blk b1 (cUN a) 292] ac wo:=(h.pick [0,1] (by decide)).sub ⟨rfl,trivial⟩
 clear hφ ξ
 refine gz h <| (W) ?_; clear h ac wo; intro ac wo h
 exact (rt h) (h.retP (by unfold dh; rfl) trivial)
attribute [irreducible] dh
def g7 (data:List (U Ln)) (a:Nat) (b:Nat) (i:Nat) (data1:List (U Ln)):List (U Ln) :=
 data1
def gZ (data:List (U Ln)) (a:Nat) (b:Nat) (i:Nat) (data1:List (U Ln)) (j:Nat) (data2:List (U Ln)):Nx (Nat×(List (U Ln))) (List (U Ln)) :=
 .go ((i+1),data2)
def d9 (data:List (U Ln)) (a:Nat) (b:Nat) (i:Nat) (data1:List (U Ln)) (j:Nat) (data2:List (U Ln)):Nx (Nat×(List (U Ln))) (List (U Ln)) :=
 bif ((decide (((j:Nat):Int)>((a:Nat):Int))) && (decide ((dh (gt data2 j) (gt data2 (j - 1))) < 0))) then
  .go ((j - 1),((data2.set j (gt data2 (j - 1))).set (j - 1) (gt data2 j)))
 else
  .out (j,data2)
def ed (data:List (U Ln)) (a:Nat) (b:Nat) (i:Nat) (data1:List (U Ln)):Nx (Nat×(List (U Ln))) (List (U Ln)) :=
 bif (decide (((i:Nat):Int) < ((b:Nat):Int))) then
  fin (d7 (fun s=>d9 data a b i data1 s.1 s.2) (i+1) (i,data1)) (fun s=>gZ data a b i data1 s.1 s.2) (fun r=>.ret r)
 else
  .out (i,data1)
def bn (data:List (U Ln)) (a:Nat) (b:Nat):List (U Ln) :=
 fin (d7 (fun s=>ed data a b s.1 s.2) ((b+1 - (a+1))+1) ((a+1),data)) (fun s=>g7 data a b s.1 s.2) (fun r=>r)
theorem gY (data:List (U Ln)) (datav:Value) (a:Nat) (b:Nat) (hab:a≤b) (hb:b≤data.length) (hb2:b≤1000) (zdata:All (jD 30) data) (w0 w:World) (B:Asn) (hbel:Below w0.heap.size w0 w) (hsep:∃ Z_,Sep w0.heap.size w [.row (α:=U Ln) 292 datav data,B] Z_) :Calls Tryz.prog 367 #[datav,(.int .i64 ((a:Nat):Int)),(.int .i64 ((b:Nat):Int)),(.func (.func 320) #[] #[])] w (RetY w0 (fun v=>v=.tuple #[]∧(All (jD 30) (bn data a b)∧(bn data a b).length=data.length)) (fun v=>[.row (α:=U Ln) 292 datav (bn data a b),B])):=by
 refine lh (N:=53) (args:=[datav,(.int .i64 ((a:Nat):Int)),(.int .i64 ((b:Nat):Int)),(.func (.func 320) #[] #[])]) Tryz.func367 rfl rfl hbel hsep ?_; intro ac h
 have hlendata:=h.len 0 rfl
 obtain ⟨X1,hX1⟩:∃ X,d7 (fun s=>ed data a b s.1 s.2) ((b+1 - (a+1))+1) ((a+1),data)=X:=⟨_,rfl⟩
 refine gz h <| (W) ?_; clear h ac; intro ac wo h
 refine wp_loop_ghost (fun n_ a_ w_=>∃ (i:Nat) (data1:List (U Ln)),((b+1 - i) < n_)∧(d7 (fun s=>ed data a b s.1 s.2) n_ (i,data1)=X1)∧(i≤b+1)∧(All (jD 30) data1)∧(data1.length=data.length)∧St w0 53 [(0,datav),(1,(.int .i64 ((a:Nat):Int))),(2,(.int .i64 ((b:Nat):Int))),(3,(.func (.func 320) #[] #[])),(8,(.int .i64 ((i:Nat):Int)))] [.row (α:=U Ln) 292 datav data1,B] a_ w_) ((b+1 - (a+1))+1) ⟨(a+1),data,og,hX1,og,zdata,og,h.rs⟩ ?_
 clear h ac wo; rintro n1 ac wo ⟨i,data1,hm1,hL1,hi,zdata1,hdl,h⟩
 obtain ⟨m1,rfl⟩:∃ m,n1=m+1:=⟨n1 - 1,by omega⟩
 refine gz h <| (ai) ?_ ?_ <;> clear h ac wo <;> intro ac wo h hc1
 ·
  have hd1:=of_decide_eq_true hc1
  obtain ⟨X2,hX2⟩:∃ X,d7 (fun s=>d9 data a b i data1 s.1 s.2) (i+1) (i,data1)=X:=⟨_,rfl⟩
  refine gz h <| (W) ?_; clear h ac wo; intro ac wo h
  refine wp_loop_ghost (fun n_ a_ w_=>∃ (j:Nat) (data2:List (U Ln)),(j < n_)∧(d7 (fun s=>d9 data a b i data1 s.1 s.2) n_ (j,data2)=X2)∧(All (jD 30) data2)∧(j≤i)∧(data2.length=data.length)∧St w0 53 [(0,datav),(1,(.int .i64 ((a:Nat):Int))),(2,(.int .i64 ((b:Nat):Int))),(3,(.func (.func 320) #[] #[])),(8,(.int .i64 ((i:Nat):Int))),(9,(.int .i64 ((j:Nat):Int)))] [.row (α:=U Ln) 292 datav data2,B] a_ w_) (i+1) ⟨i,data1,og,hX2,zdata1,og,og,h.rs⟩ ?_
  clear h ac wo; rintro n2 ac wo ⟨j,data2,hm2,hL2,zdata2,hj,hdl2,h⟩
  obtain ⟨m2,rfl⟩:∃ m,n2=m+1:=⟨n2 - 1,by omega⟩
  refine gz h <| (dr0 (hob:=(oG (by exact fun hg=>kq (gt data2 j) (gt data2 (j - 1)) (All.gt zdata2 (cC _)) (All.gt zdata2 (cC _)))) <| oE)) <| (ai) ?_ ?_ <;> clear h ac wo <;> intro ac wo h hc2
  ·
   have hq2:=hc2; try simp at hq2
   refine gz h <| (dr1 (H:=[⟨.row (α:=U Ln) 292 datav data2,[(15,.con (.row (α:=U Ln) 292 datav (data2.set j (gt data2 (j - 1))))),(17,.con (.row (α:=U Ln) 292 datav ((data2.set j (gt data2 (j - 1))).set (j - 1) (gt data2 j))))]⟩,⟨_,[]⟩]) (hob:=(oY (h:=by exact fun _=>kb (acc:=[0]) _ [.row (α:=U Ln) 292 datav (data2.set j (gt data2 (j - 1)))] rfl rfl (ik (k:=0) (u':=(gt data2 (j - 1))) Tryz.sizeOf292 (nO og) rfl (Nat.add_zero _) rfl rfl rfl rfl rfl rfl))) <| (oY (h:=by exact fun _=>kb (acc:=[0]) _ [.row (α:=U Ln) 292 datav ((data2.set j (gt data2 (j - 1))).set (j - 1) (gt data2 j))] rfl rfl (ik (k:=0) (u':=(gt data2 j)) Tryz.sizeOf292 (nO og) rfl (Nat.add_zero _) rfl rfl rfl rfl rfl rfl))) <| oE)) <| (W) ?_; clear h ac wo; intro ac wo h
   have hg:=fE hL2 pt
   exact aO ⟨m2,og,_,_,og,hg,(All.set (All.set zdata2 (All.gt zdata2 (cC _))) (All.gt zdata2 (cC _))),og,og,h.re [0,1]⟩
  ·
   have hq2:=hc2; try simp at hq2
   have hx2:=iT hL2 pt
   refine gz h <| (W) ?_; clear h ac wo; intro ac wo h
   have hg:=fE hL1 pt
   exact aO ⟨m1,og,_,_,og,hg,og,zdata2,og,h.re [0,1]⟩
 ·
  have hd1:=of_decide_eq_false hc1
  have hx1:=iT hL1 pt
  have hd:bn data a b=data1:=pt
  refine gz h <| (W) ?_; clear h ac wo; intro ac wo h
  exact pc (vs:=[]) h rfl .nil rfl ((h.pick [0,1] (by decide)).retY ⟨rfl,(by rw [hd]; exact ⟨zdata1,og⟩)⟩ (by rw [hd]; rfl))
attribute [irreducible] bn
def jj (data:List (U Ln)) (n:Nat) (a:Nat) (b:Nat) (data1:List (U Ln)) (blockSize:Nat):List (U Ln) :=
 (bn data1 a n)
def ef (data:List (U Ln)) (n:Nat) (a:Nat) (b:Nat) (data1:List (U Ln)) (blockSize:Nat):Nx Nat (List (U Ln)) :=
 .out blockSize
def jk (data:List (U Ln)) (n:Nat) (a:Nat) (b:Nat) (data1:List (U Ln)):List (U Ln) :=
 fin (d7 (fun s=>ef data n a b data1 s) (0+1) 20) (fun s=>jj data n a b data1 s) (fun r=>r)
def eh (data:List (U Ln)) (n:Nat) (a:Nat) (b:Nat) (data1:List (U Ln)):Nx (Nat×Nat×(List (U Ln))) (List (U Ln)) :=
 .out (a,b,data1)
def cr (data:List (U Ln)) (n:Nat):List (U Ln) :=
 fin (d7 (fun s=>eh data n s.1 s.2.1 s.2.2) (0+1) (0,20,data)) (fun s=>jk data n s.1 s.2.1 s.2.2) (fun r=>r)
theorem ji (data:List (U Ln)) (datav:Value) (n:Nat) (hn:n=data.length) (hl:data.length < 20) (zdata:All (jD 30) data) (w0 w:World) (B:Asn) (hbel:Below w0.heap.size w0 w) (hsep:∃ Z_,Sep w0.heap.size w [.row (α:=U Ln) 292 datav data,B] Z_) :Calls Tryz.prog 349 #[datav,(.int .i64 ((n:Nat):Int)),(.func (.func 320) #[] #[])] w (RetY w0 (fun v=>v=.tuple #[]∧(All (jD 30) (cr data n)∧(cr data n).length=data.length)) (fun v=>[.row (α:=U Ln) 292 datav (cr data n),B])):=by
 refine lh (N:=63) (args:=[datav,(.int .i64 ((n:Nat):Int)),(.func (.func 320) #[] #[])]) Tryz.func349 rfl rfl hbel hsep ?_; intro ac h
 have hlendata:=h.len 0 rfl
 obtain ⟨X1,hX1⟩:∃ X,d7 (fun s=>eh data n s.1 s.2.1 s.2.2) (0+1) (0,20,data)=X:=⟨_,rfl⟩
 refine gz h <| (W) ?_; clear h ac; intro ac wo h
 refine wp_loop_ghost (fun n_ a_ w_=>∃ (a:Nat) (b:Nat) (data1:List (U Ln)),(0 < n_)∧(d7 (fun s=>eh data n s.1 s.2.1 s.2.2) n_ (a,b,data1)=X1)∧(All (jD 30) data1)∧(a=0)∧(b=20)∧(data1.length=data.length)∧St w0 63 [(0,datav),(1,(.int .i64 ((n:Nat):Int))),(2,(.func (.func 320) #[] #[])),(6,(.int .i64 20)),(7,(.int .i64 ((a:Nat):Int))),(8,(.int .i64 ((b:Nat):Int)))] [.row (α:=U Ln) 292 datav data1,B] a_ w_) (0+1) ⟨0,20,data,og,hX1,zdata,og,og,og,h.rs⟩ ?_
 clear h ac wo; rintro n1 ac wo ⟨a,b,data1,hm1,hL1,zdata1,ha0,hb0,hdl,h⟩
 obtain ⟨m1,rfl⟩:∃ m,n1=m+1:=⟨n1 - 1,by omega⟩
 refine gz h <| (W) ?_; clear h ac wo; intro ac wo h
 refine aau h rfl ?_ (decide_eq_false og)
 have hx1:=iT hL1 (show eh data n a b data1=.out (a,b,data1) from rfl)
 refine gz h <| (W) ?_; clear h ac wo; intro ac wo h
 refine on1 h 0 rfl (lU (vs:=[datav,(.int .i64 ((a:Nat):Int)),(.int .i64 ((n:Nat):Int)),(.func (.func 320) #[] #[])]) (A:=fun v=>[.row (α:=U Ln) 292 datav (bn data1 a n)]) (dH Tryz.call367 rfl) (fun w_ B_ hB_ hS_=>gY data1 datav a n og og og zdata1 w0 w_ B_ hB_ hS_ )) rfl ?_; clear h ac wo; intro vc ac wo s2 h
 obtain rfl:vc=_:=s2.1
 have p3:=s2.2.2
 obtain ⟨X2,hX2⟩:∃ X,d7 (fun s=>ef data n a b data1 s) (0+1) 20=X:=⟨_,rfl⟩
 refine gz h <| (W) ?_; clear h ac wo; intro ac wo h
 refine wp_loop_ghost (fun n_ a_ w_=>∃ (blockSize:Nat),(0 < n_)∧(d7 (fun s=>ef data n a b data1 s) n_ blockSize=X2)∧(blockSize=20)∧St w0 63 [(0,datav),(1,(.int .i64 ((n:Nat):Int))),(2,(.func (.func 320) #[] #[])),(6,(.int .i64 ((blockSize:Nat):Int)))] [.row (α:=U Ln) 292 datav (bn data1 a n),B] a_ w_) (0+1) ⟨20,og,hX2,og,h.rs⟩ ?_
 clear h ac wo; rintro n2 ac wo ⟨blockSize,hm2,hL2,hbs,h⟩
 obtain ⟨m2,rfl⟩:∃ m,n2=m+1:=⟨n2 - 1,by omega⟩
 refine gz h <| (W) ?_; clear h ac wo; intro ac wo h
 refine aau h rfl ?_ (decide_eq_false og)
 have hx2:=iT hL2 (show ef data n a b data1 blockSize=.out blockSize from rfl)
 have hd:cr data n=(bn data1 a n):=pt
 refine gz h <| (W) ?_; clear h ac wo; intro ac wo h
 exact pc (vs:=[]) h rfl .nil rfl ((h.pick [0,1] (by decide)).retY ⟨rfl,(by rw [hd]; exact ⟨s2.2.1,og⟩)⟩ (by rw [hd]; rfl))
attribute [irreducible] cr
def be (x:List (U Ln)):List (U Ln) :=
 (cr x x.length)
theorem fP (x:List (U Ln)) (xv:Value) (hl:x.length < 20) (zx:All (jD 30) x) (w0 w:World) (B:Asn) (hbel:Below w0.heap.size w0 w) (hsep:∃ Z_,Sep w0.heap.size w [.row (α:=U Ln) 292 xv x,B] Z_) :Calls Tryz.prog 319 #[xv,(.func (.func 320) #[] #[])] w (RetY w0 (fun v=>v=.tuple #[]∧(All (jD 30) (be x)∧(be x).length=x.length)) (fun v=>[.row (α:=U Ln) 292 xv (be x),B])):=by
 refine lh (N:=9) (args:=[xv,(.func (.func 320) #[] #[])]) Tryz.func319 rfl rfl hbel hsep ?_; intro ac h
 have hlenx:=h.len 0 rfl
 refine gz h <| (W) ?_; clear h ac; intro ac wo h
 refine on1 h 0 rfl (lU (vs:=[xv,(.int .i64 ((x.length:Nat):Int)),(.func (.func 320) #[] #[])]) (A:=fun v=>[.row (α:=U Ln) 292 xv (cr x x.length)]) (dH Tryz.call349 rfl) (fun w_ B_ hB_ hS_=>ji x xv x.length og og zx w0 w_ B_ hB_ hS_ )) rfl ?_; clear h ac wo; intro vc ac wo s2 h
 obtain rfl:vc=_:=s2.1
 have p3:=s2.2.2
 have hd:be x=(cr x x.length):=rfl
 refine gz h <| (W) ?_; clear h ac wo; intro ac wo h
 exact pc (vs:=[]) h rfl .nil rfl ((h.pick [0,1] (by decide)).retY ⟨rfl,(by rw [hd]; exact ⟨s2.2.1,og⟩)⟩ (by rw [hd]; rfl))
attribute [irreducible] be
def af (l:List (U Ln)):(List (U Ln)) :=
 (be (a6 l))
theorem iY (l:List (U Ln)) (lv:Value) (hl:l.length < 20) (zl:All (jD 30) l) (w0:World) (hlv:View w0 lv l):Calls Tryz.prog 284 #[lv] w0 (RetR w0 292 (af l) (All (jD 30) (af l)∧(af l).length=l.length)):=by
 refine enter (N:=9) (args:=[lv]) Tryz.func284 rfl rfl ?_; intro ac h
 have hlenl:=hlv.len
 refine gz h <| (W) ?_; clear h ac; intro ac wo h
 have s1:=RetR.pr ((fun w_ hB_ hS_=>ff l lv og zl w_ (hlv.below hB_)) _ h.bel h.sep)
 have p2:=s1.2
 have p2_0:=p2.1
 have p2_1:=p2.2
 refine jo (xs:=(a6 l)) h (dH Tryz.call318 rfl) (fun w_ hB_ hS_=>ff l lv og zl w_ (hlv.below hB_)) rfl ?_; clear h ac wo; intro sv3 ac wo _ h
 refine gz h <| (W) ?_; clear h ac wo; intro ac wo h
 refine on1 h 0 rfl (lU (vs:=[sv3,(.func (.func 320) #[] #[])]) (A:=fun v=>[.row (α:=U Ln) 292 sv3 (be (a6 l))]) (dH Tryz.call319 rfl) (fun w_ B_ hB_ hS_=>fP (a6 l) sv3 og s1.1 w0 w_ B_ hB_ hS_ )) rfl ?_; clear h ac wo; intro vc ac wo s5 h
 obtain rfl:vc=_:=s5.1
 have p6:=s5.2.2
 refine gz h <| (W) ?_; clear h ac wo; intro ac wo h
 exact (rt h) (by unfold af; exact h.retR 0 rfl ⟨s5.2.1,og⟩)
attribute [irreducible] af
end Go.Sx
