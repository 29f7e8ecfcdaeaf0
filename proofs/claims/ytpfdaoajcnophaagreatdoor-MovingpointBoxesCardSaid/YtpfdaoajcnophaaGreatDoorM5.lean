/- A part of the proof of movingpointBoxes. -/
import Derived.Test.YtpfdaoajcnophaaGreatDoorM4
import Derived.Test.YtpfdaoajcnophaaGreatDoorM3
set_option linter.unusedVariables false
set_option linter.unusedSimpArgs false
open Go.Proofs.Tryz renaming isAgg27 → aa27, sizeOf27 → zz27, runUnderlying46 → uu46, sizeOf29 → zz29, isAgg29 → aa29, zeroValue27 → vv27, call223 → cc223
namespace Go.Sx
open Go Go.RowKit Go.Proofs
set_option maxRecDepth 100000
set_option maxHeartbeats 40000000
attribute [local irreducible] Code.wp wpList Rd Step ObS Ent
attribute [local irreducible] ao aL ah au ax bN
def aj (a:GQ):GI :=
 a.num
theorem il (a:GQ) (za:SzQ 36 a) (w0:World) :Calls Tryz.prog 220 #[(vQ a)] w0 (dE w0 (vI (aj a)) (SzI 36 (aj a))):=by
 refine enter (N:=5) (args:=[(vQ a)]) Tryz.func220 rfl rfl ?_; intro ac h
 refine gz h <| (xb) fun b1=>(xa) fun b2=>(W) ?_; clear h ac; intro ac wo h
 exact ret h rfl (.cell (v:=(vI a.num)) rfl (i:=0) rfl aa27 zz27 rfl rfl rfl .nil) rfl (h.retP (by unfold aj; rfl) (by unfold aj; exact za.1))
attribute [irreducible] aj
def bG (a:GI) (b:GI):GI :=
 (aJ a (az b))
theorem jR (a:GI) (b:GI) (za:SzI 28 a) (zb:SzI 28 b) (w0:World) :Calls Tryz.prog 224 #[(vI a),(vI b)] w0 (dE w0 (vI (bG a b)) (SzI 26 (bG a b))):=by
 refine enter (N:=9) (args:=[(vI a),(vI b)]) Tryz.func224 rfl rfl ?_; intro ac h
 refine gz h <| (xb) fun b1=>(xb) fun b2=>(xa) fun b3=>(W) ?_; clear h ac; intro ac wo h
 have c1:=dV b 28 og zb
 have s1:=ap (c1 w0)
 have s2:=ap ((eV a (az b) 27 og za s1) w0)
 refine gz h <| (dr1 (H:=[⟨.blk b3 (cI (⟨false,0⟩:GI)) 27,[(4,.con (.blk b3 (cI (aJ a (az b))) 27))]⟩,⟨.blk b2 (cI b) 27,[]⟩,⟨.blk b1 (cI a) 27,[]⟩]) (hob:=(oK (c1)) <| (oK (eV a (az b) 27 og za s1)) <| oE)) <| (W) ?_; clear h ac wo; intro ac wo h
 exact ret h rfl (.cell (v:=(vI (aJ a (az b)))) rfl (i:=0) rfl aa27 zz27 rfl rfl rfl .nil) rfl (h.retP (by unfold bG; rfl) (by unfold bG; exact (fA s2 og)))
attribute [irreducible] bG
def aA (a:GI):GI×Int :=
 bif a.neg then
  ((⟨false,0⟩:GI),2)
 else
  ((aB false (bC a.mag)),0)
theorem k8 (a:GI) (ha4:a.mag < 4) (za:SzI 30 a) (w0:World) :Calls Tryz.prog 222 #[(vI a)] w0 (dE w0 (.tuple #[(vI ((aA a).1)),(.int .i64 ((aA a).2))]) (SzI 29 ((aA a).1))):=by
 refine enter (N:=11) (args:=[(vI a)]) Tryz.func222 rfl rfl ?_; intro ac h
 refine gz h <| (xb) fun b1=>(xa) fun b2=>(ai) ?_ ?_ <;> clear h ac <;> intro ac wo h hc1
 ·
  have hq1:=hc1; try simp at hq1
  have hd:aA a=((⟨false,0⟩:GI),2):=pt
  refine gz h <| (xo (hs:=by exact bK pM exs rfl (v:=(vI (⟨false,0⟩:GI))) rfl)) <| (W) ?_; clear h ac wo; intro ac wo h
  exact ret h rfl (.cell (v:=(vI (⟨false,0⟩:GI))) rfl (i:=0) rfl aa27 zz27 rfl rfl rfl (.tmp rfl .nil)) rfl (h.retP (by rw [hd] <;> rfl) (by rw [hd]; exact (cX 0 (by decide) og)))
 ·
  have hq1:=hc1; try simp at hq1
  have c1:=root4_ct a.mag ha4 za
  have s1:=Calls.pr (c1 w0)
  have c2:=bU false (bC a.mag) 29 og s1
  have s2:=ap (c2 w0)
  have hd:aA a=((aB false (bC a.mag)),0):=pt
  refine gz h <| (xk (c1)) <| (xk (c2)) <| (W) ?_; clear h ac wo; intro ac wo h
  exact ret h rfl (.cell (v:=(vI (aB false (bC a.mag)))) rfl (i:=0) rfl aa27 zz27 rfl rfl rfl (.tmp rfl .nil)) rfl (h.retP (by rw [hd] <;> rfl) (by rw [hd]; exact s2))
attribute [irreducible] aA
def cK (num:GI) (den:GI):GQ×Int :=
 bif ((cw den) == 0) then
  ((⟨(⟨false,0⟩:GI),(⟨false,0⟩:GI)⟩:GQ),6)
 else
  ((ba num den),0)
attribute [irreducible] cK
def bc (x:GR):GI :=
 bif x.neg then
  (aD (bG (ae (aj x.p) (aa x.r)) (aJ ((aA (ae (ae (aa x.p) (aa x.p)) (ae (aj x.r) (aa x.r)))).1) (aw 1))) (ae (aa x.p) (aa x.r))).1
 else
  (aD (aJ (ae (aj x.p) (aa x.r)) ((aA (ae (ae (aa x.p) (aa x.p)) (ae (aj x.r) (aa x.r)))).1)) (ae (aa x.p) (aa x.r))).1
theorem mu (x:GR) (ht:(ae (ae (aa x.p) (aa x.p)) (ae (aj x.r) (aa x.r))).mag < 4∧SzI 40 (bc x)) (zx:SzR 36 x) (w0:World) :Calls Tryz.prog 120 #[(vR x)] w0 (dE w0 (vI (bc x)) (SzI 40 (bc x))):=by
 refine enter (N:=59) (args:=[(vR x)]) Tryz.func120 rfl rfl ?_; intro ac h
 refine gz h <| (xb) fun b1=>(xa) fun b2=>(W) ?_; clear h ac; intro ac wo h
 have c1:=il x.p zx.1
 have s1:=Calls.pr (c1 w0)
 have s2:=ap ((bE x.p 36 og zx.1) w0)
 replace h:=h.emps 2
 refine eZ mixed [⟨.det (ptr b1 0),[]⟩,⟨.det (vQ x.p),[1]⟩,⟨.det (vI (aj x.p)),[]⟩,⟨.det (ptr b1 0),[]⟩,⟨.det (vQ x.p),[1]⟩,⟨.det (vI (aa x.p)),[]⟩,⟨.nd (.one 6 fun v=>∃ b,v=ptr b 0),[2]⟩,⟨.nd (.one 7 fun v=>∃ b,v=ptr b 0),[3]⟩,⟨.det undef,[2]⟩,⟨.det undef,[3]⟩] [⟨.blk b2 (cI (⟨false,0⟩:GI)) 27,[]⟩,⟨.blk b1 (cR x) 46,[]⟩,⟨.emp,[(6,.one 6 fun v=>.blk (bu v) (cI (⟨false,0⟩:GI)) 27),(8,.one 6 fun v=>.blk (bu v) (cI (aj x.p)) 27)]⟩,⟨.emp,[(7,.one 7 fun v=>.blk (bu v) (cI (⟨false,0⟩:GI)) 27),(9,.one 7 fun v=>.blk (bu v) (cI (aa x.p)) 27)]⟩] h rfl (by kernel_rfl) ⟨?_,?_,?_,?_,?_,?_,?_,?_,?_,?_,trivial⟩ ?_
 · intro ξ hφ; exact aQ (fa uu46 rfl zz29 rfl rfl rfl (k':=0))
 · intro ξ hφ; exact iy [.blk b1 (cR x) 46] rfl rfl (js aa29 zz29 rfl rfl rfl (v:=(vQ x.p)) rfl)
 · intro ξ hφ; exact fD (gk (dH Tryz.call220 rfl) (kk c1))
 · intro ξ hφ; exact aQ (fa uu46 rfl zz29 rfl rfl rfl (k':=0))
 · intro ξ hφ; exact iy [.blk b1 (cR x) 46] rfl rfl (js aa29 zz29 rfl rfl rfl (v:=(vQ x.p)) rfl)
 · intro ξ hφ; exact fD (gk (dH Tryz.call221 rfl) (kk (bE x.p 36 og zx.1)))
 · intro ξ hφ; exact oB (ψ:=fun v=>∃ b,v=ptr b 0) (B:=fun v=>[.blk (bu v) (cI (⟨false,0⟩:GI)) 27]) [.emp] rfl (fun v _=>by simp only [dg,bA] <;> rfl) (fun v hv=>by simpa [DF.one,bA] using hv) (jX (gI vv27 rfl))
 · intro ξ hφ; exact oB (ψ:=fun v=>∃ b,v=ptr b 0) (B:=fun v=>[.blk (bu v) (cI (⟨false,0⟩:GI)) 27]) [.emp] rfl (fun v _=>by simp only [dg,bA] <;> rfl) (fun v hv=>by simpa [DF.one,bA] using hv) (jX (gI vv27 rfl))
 · intro ξ hφ; obtain ⟨b3,hb6⟩:=hφ 6 rfl; exact kb [.blk b3 (cI (⟨false,0⟩:GI)) 27] [.blk b3 (cI (aj x.p)) 27] (congrArg (fun v=>[Asn.blk (bu v) (cI (⟨false,0⟩:GI)) 27]) hb6) (congrArg (fun v=>[Asn.blk (bu v) (cI (aj x.p)) 27]) hb6) (oi zz27 (Eq.trans rfl (congrArg some hb6)) rfl rfl rfl rfl rfl rfl)
 · intro ξ hφ; obtain ⟨b4,hb7⟩:=hφ 7 rfl; exact kb [.blk b4 (cI (⟨false,0⟩:GI)) 27] [.blk b4 (cI (aa x.p)) 27] (congrArg (fun v=>[Asn.blk (bu v) (cI (⟨false,0⟩:GI)) 27]) hb7) (congrArg (fun v=>[Asn.blk (bu v) (cI (aa x.p)) 27]) hb7) (oi zz27 (Eq.trans rfl (congrArg some hb7)) rfl rfl rfl rfl rfl rfl)
 clear h ac wo; intro ξ ac wo hφ h
 replace h:St w0 59 [(1,(ptr b1 0)),(2,(ptr b2 0)),(3,ξ 6),(4,ξ 7)] [.blk b2 (cI (⟨false,0⟩:GI)) 27,.blk b1 (cR x) 46,.blk (bu (ξ 6)) (cI (aj x.p)) 27,.blk (bu (ξ 7)) (cI (aa x.p)) 27] ac wo:=(h.pick [0,1,2,3] (by decide)).sub ⟨rfl,rfl,rfl,rfl,trivial⟩
 revert h
 obtain ⟨b3,hb6⟩:∃ b,ξ 6=ptr b 0:=hφ 6
 obtain ⟨b4,hb7⟩:∃ b,ξ 7=ptr b 0:=hφ 7
 rw [hb6,hb7]; intro h
 clear hb6 hb7
 clear hφ ξ
 refine gz h <| (W) ?_; clear h ac wo; intro ac wo h
 have c3:=il x.r zx.2
 have s3:=Calls.pr (c3 w0)
 have s4:=ap ((bE x.r 36 og zx.2) w0)
 replace h:=h.emps 2
 refine eZ mixed [⟨.det (ptr b1 4),[]⟩,⟨.det (vQ x.r),[1]⟩,⟨.det (vI (aj x.r)),[]⟩,⟨.det (ptr b1 4),[]⟩,⟨.det (vQ x.r),[1]⟩,⟨.det (vI (aa x.r)),[]⟩,⟨.nd (.one 6 fun v=>∃ b,v=ptr b 0),[4]⟩,⟨.nd (.one 7 fun v=>∃ b,v=ptr b 0),[5]⟩,⟨.det undef,[4]⟩,⟨.det undef,[5]⟩] [⟨.blk b2 (cI (⟨false,0⟩:GI)) 27,[]⟩,⟨.blk b1 (cR x) 46,[]⟩,⟨.blk b3 (cI (aj x.p)) 27,[]⟩,⟨.blk b4 (cI (aa x.p)) 27,[]⟩,⟨.emp,[(6,.one 6 fun v=>.blk (bu v) (cI (⟨false,0⟩:GI)) 27),(8,.one 6 fun v=>.blk (bu v) (cI (aj x.r)) 27)]⟩,⟨.emp,[(7,.one 7 fun v=>.blk (bu v) (cI (⟨false,0⟩:GI)) 27),(9,.one 7 fun v=>.blk (bu v) (cI (aa x.r)) 27)]⟩] h rfl (by kernel_rfl) ⟨?_,?_,?_,?_,?_,?_,?_,?_,?_,?_,trivial⟩ ?_
 · intro ξ hφ; exact aQ (fa uu46 rfl zz29 rfl rfl rfl (k':=4))
 · intro ξ hφ; exact iy [.blk b1 (cR x) 46] rfl rfl (js aa29 zz29 rfl rfl rfl (v:=(vQ x.r)) rfl)
 · intro ξ hφ; exact fD (gk (dH Tryz.call220 rfl) (kk c3))
 · intro ξ hφ; exact aQ (fa uu46 rfl zz29 rfl rfl rfl (k':=4))
 · intro ξ hφ; exact iy [.blk b1 (cR x) 46] rfl rfl (js aa29 zz29 rfl rfl rfl (v:=(vQ x.r)) rfl)
 · intro ξ hφ; exact fD (gk (dH Tryz.call221 rfl) (kk (bE x.r 36 og zx.2)))
 · intro ξ hφ; exact oB (ψ:=fun v=>∃ b,v=ptr b 0) (B:=fun v=>[.blk (bu v) (cI (⟨false,0⟩:GI)) 27]) [.emp] rfl (fun v _=>by simp only [dg,bA] <;> rfl) (fun v hv=>by simpa [DF.one,bA] using hv) (jX (gI vv27 rfl))
 · intro ξ hφ; exact oB (ψ:=fun v=>∃ b,v=ptr b 0) (B:=fun v=>[.blk (bu v) (cI (⟨false,0⟩:GI)) 27]) [.emp] rfl (fun v _=>by simp only [dg,bA] <;> rfl) (fun v hv=>by simpa [DF.one,bA] using hv) (jX (gI vv27 rfl))
 · intro ξ hφ; obtain ⟨b5,hb6⟩:=hφ 6 rfl; exact kb [.blk b5 (cI (⟨false,0⟩:GI)) 27] [.blk b5 (cI (aj x.r)) 27] (congrArg (fun v=>[Asn.blk (bu v) (cI (⟨false,0⟩:GI)) 27]) hb6) (congrArg (fun v=>[Asn.blk (bu v) (cI (aj x.r)) 27]) hb6) (oi zz27 (Eq.trans rfl (congrArg some hb6)) rfl rfl rfl rfl rfl rfl)
 · intro ξ hφ; obtain ⟨b6,hb7⟩:=hφ 7 rfl; exact kb [.blk b6 (cI (⟨false,0⟩:GI)) 27] [.blk b6 (cI (aa x.r)) 27] (congrArg (fun v=>[Asn.blk (bu v) (cI (⟨false,0⟩:GI)) 27]) hb7) (congrArg (fun v=>[Asn.blk (bu v) (cI (aa x.r)) 27]) hb7) (oi zz27 (Eq.trans rfl (congrArg some hb7)) rfl rfl rfl rfl rfl rfl)
 clear h ac wo; intro ξ ac wo hφ h
 replace h:St w0 59 [(1,(ptr b1 0)),(2,(ptr b2 0)),(3,(ptr b3 0)),(4,(ptr b4 0)),(5,ξ 6),(6,ξ 7)] [.blk b2 (cI (⟨false,0⟩:GI)) 27,.blk b1 (cR x) 46,.blk b3 (cI (aj x.p)) 27,.blk b4 (cI (aa x.p)) 27,.blk (bu (ξ 6)) (cI (aj x.r)) 27,.blk (bu (ξ 7)) (cI (aa x.r)) 27] ac wo:=(h.pick [0,1,2,3,4,5] (by decide)).sub ⟨rfl,rfl,rfl,rfl,rfl,rfl,trivial⟩
 revert h
 obtain ⟨b5,hb6⟩:∃ b,ξ 6=ptr b 0:=hφ 6
 obtain ⟨b6,hb7⟩:∃ b,ξ 7=ptr b 0:=hφ 7
 rw [hb6,hb7]; intro h
 clear hb6 hb7
 clear hφ ξ
 refine gz h <| (W) ?_; clear h ac wo; intro ac wo h
 have s5:=ap ((bD (aa x.p) (aa x.p) 35 og s2 s2) w0)
 have s6:=ap ((bD (aj x.r) (aa x.r) 35 og s3 s4) w0)
 have s7:=ap ((bD (ae (aa x.p) (aa x.p)) (ae (aj x.r) (aa x.r)) 34 og s5 s6) w0)
 have s8:=Calls.pr ((fun w_ hB_ hS_=>k8 (ae (ae (aa x.p) (aa x.p)) (ae (aj x.r) (aa x.r))) (ht.1) (fA s7 og) w_ ) _ h.bel h.sep)
 replace h:=h.emps 1
 refine eZ mixed [⟨.det (vI (aa x.p)),[3]⟩,⟨.det (vI (aa x.p)),[3]⟩,⟨.det (vI (ae (aa x.p) (aa x.p))),[]⟩,⟨.det (vI (aj x.r)),[4]⟩,⟨.det (vI (aa x.r)),[5]⟩,⟨.det (vI (ae (aj x.r) (aa x.r))),[]⟩,⟨.det (vI (ae (ae (aa x.p) (aa x.p)) (ae (aj x.r) (aa x.r)))),[]⟩,⟨.det (.tuple #[(vI ((aA (ae (ae (aa x.p) (aa x.p)) (ae (aj x.r) (aa x.r)))).1)),(.int .i64 ((aA (ae (ae (aa x.p) (aa x.p)) (ae (aj x.r) (aa x.r)))).2))]),[]⟩,⟨.det (.tuple #[(vI ((aA (ae (ae (aa x.p) (aa x.p)) (ae (aj x.r) (aa x.r)))).1)),(.int .i64 ((aA (ae (ae (aa x.p) (aa x.p)) (ae (aj x.r) (aa x.r)))).2))]),[]⟩,⟨.det (vI ((aA (ae (ae (aa x.p) (aa x.p)) (ae (aj x.r) (aa x.r)))).1)),[]⟩,⟨.det (.int .i64 ((aA (ae (ae (aa x.p) (aa x.p)) (ae (aj x.r) (aa x.r)))).2)),[]⟩,⟨.nd (.one 11 fun v=>∃ b,v=ptr b 0),[6]⟩,⟨.det undef,[6]⟩,⟨.det (.int .i64 ((aA (ae (ae (aa x.p) (aa x.p)) (ae (aj x.r) (aa x.r)))).2)),[]⟩] [⟨.blk b2 (cI (⟨false,0⟩:GI)) 27,[]⟩,⟨.blk b1 (cR x) 46,[]⟩,⟨.blk b3 (cI (aj x.p)) 27,[]⟩,⟨.blk b4 (cI (aa x.p)) 27,[]⟩,⟨.blk b5 (cI (aj x.r)) 27,[]⟩,⟨.blk b6 (cI (aa x.r)) 27,[]⟩,⟨.emp,[(11,.one 11 fun v=>.blk (bu v) (cI (⟨false,0⟩:GI)) 27),(12,.one 11 fun v=>.blk (bu v) (cI ((aA (ae (ae (aa x.p) (aa x.p)) (ae (aj x.r) (aa x.r)))).1)) 27)]⟩] h rfl (by kernel_rfl) ⟨?_,?_,?_,?_,?_,?_,?_,?_,?_,?_,?_,?_,?_,?_,trivial⟩ ?_
 · intro ξ hφ; exact iy [.blk b4 (cI (aa x.p)) 27] rfl rfl (js aa27 zz27 rfl rfl rfl (v:=(vI (aa x.p))) rfl)
 · intro ξ hφ; exact iy [.blk b4 (cI (aa x.p)) 27] rfl rfl (js aa27 zz27 rfl rfl rfl (v:=(vI (aa x.p))) rfl)
 · intro ξ hφ; exact fD (gk (vs:=[(vI (aa x.p)),(vI (aa x.p))]) (dH cc223 rfl) (fun w_ hB_ hS_=>(bD (aa x.p) (aa x.p) 35 og s2 s2) w_))
 · intro ξ hφ; exact iy [.blk b5 (cI (aj x.r)) 27] rfl rfl (js aa27 zz27 rfl rfl rfl (v:=(vI (aj x.r))) rfl)
 · intro ξ hφ; exact iy [.blk b6 (cI (aa x.r)) 27] rfl rfl (js aa27 zz27 rfl rfl rfl (v:=(vI (aa x.r))) rfl)
 · intro ξ hφ; exact fD (gk (dH cc223 rfl) (kk (bD (aj x.r) (aa x.r) 35 og s3 s4)))
 · intro ξ hφ; exact fD (gk (dH cc223 rfl) (kk (bD (ae (aa x.p) (aa x.p)) (ae (aj x.r) (aa x.r)) 34 og s5 s6)))
 · intro ξ hφ; exact fD (gk (dH Tryz.call222 rfl) (kk (k8 (ae (ae (aa x.p) (aa x.p)) (ae (aj x.r) (aa x.r))) (ht.1) (fA s7 og))))
 · intro ξ hφ; exact aQ (ay rfl)
 · intro ξ hφ; exact aQ (dF rfl rfl)
 · intro ξ hφ; exact aQ (dF rfl rfl)
 · intro ξ hφ; exact oB (ψ:=fun v=>∃ b,v=ptr b 0) (B:=fun v=>[.blk (bu v) (cI (⟨false,0⟩:GI)) 27]) [.emp] rfl (fun v _=>by simp only [dg,bA] <;> rfl) (fun v hv=>by simpa [DF.one,bA] using hv) (jX (gI vv27 rfl))
 · intro ξ hφ; obtain ⟨b7,hb11⟩:=hφ 11 rfl; exact kb [.blk b7 (cI (⟨false,0⟩:GI)) 27] [.blk b7 (cI ((aA (ae (ae (aa x.p) (aa x.p)) (ae (aj x.r) (aa x.r)))).1)) 27] (congrArg (fun v=>[Asn.blk (bu v) (cI (⟨false,0⟩:GI)) 27]) hb11) (congrArg (fun v=>[Asn.blk (bu v) (cI ((aA (ae (ae (aa x.p) (aa x.p)) (ae (aj x.r) (aa x.r)))).1)) 27]) hb11) (oi zz27 (Eq.trans rfl (congrArg some hb11)) rfl rfl rfl rfl rfl rfl)
 · intro ξ hφ; exact aQ (aF rfl)
 clear h ac wo; intro ξ ac wo hφ h
 replace h:St w0 59 [(1,(ptr b1 0)),(2,(ptr b2 0)),(3,(ptr b3 0)),(4,(ptr b4 0)),(6,(ptr b6 0)),(7,ξ 11)] [.blk b2 (cI (⟨false,0⟩:GI)) 27,.blk b1 (cR x) 46,.blk b3 (cI (aj x.p)) 27,.blk b4 (cI (aa x.p)) 27,.blk b5 (cI (aj x.r)) 27,.blk b6 (cI (aa x.r)) 27,.blk (bu (ξ 11)) (cI ((aA (ae (ae (aa x.p) (aa x.p)) (ae (aj x.r) (aa x.r)))).1)) 27] ac wo:=(h.pick [0,1,2,3,4,5,6] (by decide)).sub ⟨rfl,rfl,rfl,rfl,rfl,rfl,trivial⟩
 revert h
 obtain ⟨b7,hb11⟩:∃ b,ξ 11=ptr b 0:=hφ 11
 rw [hb11]; intro h
 clear hb11
 clear hφ ξ
 have c9:=bD (aj x.p) (aa x.r) 35 og s1 s4
 have s9:=ap (c9 w0)
 refine gz h <| (xk (c9)) <| (xa) fun b8=>(ai) ?_ ?_ <;> clear h ac wo <;> intro ac wo h hc1
 ·
   have hq1:=hc1; try simp at hq1
   have s10:=ap ((eG 1 40 og  og) w0)
   have s11:=ap ((eV ((aA (ae (ae (aa x.p) (aa x.p)) (ae (aj x.r) (aa x.r)))).1) (aw 1) 28 og s8 (fA s10 og)) w0)
   have s12:=Calls.pr ((fun w_ hB_ hS_=>jR (ae (aj x.p) (aa x.r)) (aJ ((aA (ae (ae (aa x.p) (aa x.p)) (ae (aj x.r) (aa x.r)))).1) (aw 1)) (fA s9 og) s11 w_ ) _ h.bel h.sep)
   refine gz h <| (dr1 (H:=[⟨.blk b8 (cI (ae (aj x.p) (aa x.r))) 27,[(5,.con (.blk b8 (cI (bG (ae (aj x.p) (aa x.r)) (aJ ((aA (ae (ae (aa x.p) (aa x.p)) (ae (aj x.r) (aa x.r)))).1) (aw 1)))) 27))]⟩,⟨.blk b2 (cI (⟨false,0⟩:GI)) 27,[]⟩,⟨.blk b1 (cR x) 46,[]⟩,⟨.blk b3 (cI (aj x.p)) 27,[]⟩,⟨.blk b4 (cI (aa x.p)) 27,[]⟩,⟨.blk b5 (cI (aj x.r)) 27,[]⟩,⟨.blk b6 (cI (aa x.r)) 27,[]⟩,⟨.blk b7 (cI ((aA (ae (ae (aa x.p) (aa x.p)) (ae (aj x.r) (aa x.r)))).1)) 27,[]⟩]) (hob:=(oX (h:=by exact fun _=>fD (gk (vs:=[(.int .i64 1)]) (dH Tryz.call199 rfl) (fun w_ hB_ hS_=>(eG 1 40 og  og) w_)))) <| (oK (eV ((aA (ae (ae (aa x.p) (aa x.p)) (ae (aj x.r) (aa x.r)))).1) (aw 1) 28 og s8 (fA s10 og))) <| (oK (jR (ae (aj x.p) (aa x.r)) (aJ ((aA (ae (ae (aa x.p) (aa x.p)) (ae (aj x.r) (aa x.r)))).1) (aw 1)) (fA s9 og) s11)) <| oE)) <| (W) ?_; clear h ac wo; intro ac wo h
   have c13:=bD (aa x.p) (aa x.r) 35 og s2 s4
   have s13:=ap (c13 w0)
   have s14:=ap ((eN (bG (ae (aj x.p) (aa x.r)) (aJ ((aA (ae (ae (aa x.p) (aa x.p)) (ae (aj x.r) (aa x.r)))).1) (aw 1))) (ae (aa x.p) (aa x.r)) 25 og s12 (fA s13 og)) w0)
   replace h:=h.emps 2
   refine eZ mixed [⟨.det (vI (bG (ae (aj x.p) (aa x.r)) (aJ ((aA (ae (ae (aa x.p) (aa x.p)) (ae (aj x.r) (aa x.r)))).1) (aw 1)))),[0]⟩,⟨.det (vI (aa x.p)),[4]⟩,⟨.det (vI (aa x.r)),[6]⟩,⟨.det (vI (ae (aa x.p) (aa x.r))),[]⟩,⟨.det (.tuple #[(vI ((aD (bG (ae (aj x.p) (aa x.r)) (aJ ((aA (ae (ae (aa x.p) (aa x.p)) (ae (aj x.r) (aa x.r)))).1) (aw 1))) (ae (aa x.p) (aa x.r))).1)),(vI ((aD (bG (ae (aj x.p) (aa x.r)) (aJ ((aA (ae (ae (aa x.p) (aa x.p)) (ae (aj x.r) (aa x.r)))).1) (aw 1))) (ae (aa x.p) (aa x.r))).2.1)),(.int .i64 ((aD (bG (ae (aj x.p) (aa x.r)) (aJ ((aA (ae (ae (aa x.p) (aa x.p)) (ae (aj x.r) (aa x.r)))).1) (aw 1))) (ae (aa x.p) (aa x.r))).2.2))]),[]⟩,⟨.det (.tuple #[(vI ((aD (bG (ae (aj x.p) (aa x.r)) (aJ ((aA (ae (ae (aa x.p) (aa x.p)) (ae (aj x.r) (aa x.r)))).1) (aw 1))) (ae (aa x.p) (aa x.r))).1)),(vI ((aD (bG (ae (aj x.p) (aa x.r)) (aJ ((aA (ae (ae (aa x.p) (aa x.p)) (ae (aj x.r) (aa x.r)))).1) (aw 1))) (ae (aa x.p) (aa x.r))).2.1)),(.int .i64 ((aD (bG (ae (aj x.p) (aa x.r)) (aJ ((aA (ae (ae (aa x.p) (aa x.p)) (ae (aj x.r) (aa x.r)))).1) (aw 1))) (ae (aa x.p) (aa x.r))).2.2))]),[]⟩,⟨.det (vI ((aD (bG (ae (aj x.p) (aa x.r)) (aJ ((aA (ae (ae (aa x.p) (aa x.p)) (ae (aj x.r) (aa x.r)))).1) (aw 1))) (ae (aa x.p) (aa x.r))).1)),[]⟩,⟨.det (vI ((aD (bG (ae (aj x.p) (aa x.r)) (aJ ((aA (ae (ae (aa x.p) (aa x.p)) (ae (aj x.r) (aa x.r)))).1) (aw 1))) (ae (aa x.p) (aa x.r))).2.1)),[]⟩,⟨.det (.int .i64 ((aD (bG (ae (aj x.p) (aa x.r)) (aJ ((aA (ae (ae (aa x.p) (aa x.p)) (ae (aj x.r) (aa x.r)))).1) (aw 1))) (ae (aa x.p) (aa x.r))).2.2)),[]⟩,⟨.nd (.one 9 fun v=>∃ b,v=ptr b 0),[8]⟩,⟨.nd (.one 10 fun v=>∃ b,v=ptr b 0),[9]⟩,⟨.det undef,[8]⟩,⟨.det undef,[9]⟩,⟨.det (.int .i64 ((aD (bG (ae (aj x.p) (aa x.r)) (aJ ((aA (ae (ae (aa x.p) (aa x.p)) (ae (aj x.r) (aa x.r)))).1) (aw 1))) (ae (aa x.p) (aa x.r))).2.2)),[]⟩] [⟨.blk b8 (cI (bG (ae (aj x.p) (aa x.r)) (aJ ((aA (ae (ae (aa x.p) (aa x.p)) (ae (aj x.r) (aa x.r)))).1) (aw 1)))) 27,[]⟩,⟨.blk b2 (cI (⟨false,0⟩:GI)) 27,[]⟩,⟨.blk b1 (cR x) 46,[]⟩,⟨.blk b3 (cI (aj x.p)) 27,[]⟩,⟨.blk b4 (cI (aa x.p)) 27,[]⟩,⟨.blk b5 (cI (aj x.r)) 27,[]⟩,⟨.blk b6 (cI (aa x.r)) 27,[]⟩,⟨.blk b7 (cI ((aA (ae (ae (aa x.p) (aa x.p)) (ae (aj x.r) (aa x.r)))).1)) 27,[]⟩,⟨.emp,[(9,.one 9 fun v=>.blk (bu v) (cI (⟨false,0⟩:GI)) 27),(11,.one 9 fun v=>.blk (bu v) (cI ((aD (bG (ae (aj x.p) (aa x.r)) (aJ ((aA (ae (ae (aa x.p) (aa x.p)) (ae (aj x.r) (aa x.r)))).1) (aw 1))) (ae (aa x.p) (aa x.r))).1)) 27)]⟩,⟨.emp,[(10,.one 10 fun v=>.blk (bu v) (cI (⟨false,0⟩:GI)) 27),(12,.one 10 fun v=>.blk (bu v) (cI ((aD (bG (ae (aj x.p) (aa x.r)) (aJ ((aA (ae (ae (aa x.p) (aa x.p)) (ae (aj x.r) (aa x.r)))).1) (aw 1))) (ae (aa x.p) (aa x.r))).2.1)) 27)]⟩] h rfl (by kernel_rfl) ⟨?_,?_,?_,?_,?_,?_,?_,?_,?_,?_,?_,?_,?_,?_,trivial⟩ ?_
   · intro ξ hφ; exact iy [.blk b8 (cI (bG (ae (aj x.p) (aa x.r)) (aJ ((aA (ae (ae (aa x.p) (aa x.p)) (ae (aj x.r) (aa x.r)))).1) (aw 1)))) 27] rfl rfl (js aa27 zz27 rfl rfl rfl (v:=(vI (bG (ae (aj x.p) (aa x.r)) (aJ ((aA (ae (ae (aa x.p) (aa x.p)) (ae (aj x.r) (aa x.r)))).1) (aw 1))))) rfl)
   · intro ξ hφ; exact iy [.blk b4 (cI (aa x.p)) 27] rfl rfl (js aa27 zz27 rfl rfl rfl (v:=(vI (aa x.p))) rfl)
   · intro ξ hφ; exact iy [.blk b6 (cI (aa x.r)) 27] rfl rfl (js aa27 zz27 rfl rfl rfl (v:=(vI (aa x.r))) rfl)
   · intro ξ hφ; exact fD (gk (dH cc223 rfl) (kk c13))
   · intro ξ hφ; exact fD (gk (dH Tryz.call225 rfl) (kk (eN (bG (ae (aj x.p) (aa x.r)) (aJ ((aA (ae (ae (aa x.p) (aa x.p)) (ae (aj x.r) (aa x.r)))).1) (aw 1))) (ae (aa x.p) (aa x.r)) 25 og s12 (fA s13 og))))
   · intro ξ hφ; exact aQ (ay rfl)
   · intro ξ hφ; exact aQ (dF rfl rfl)
   · intro ξ hφ; exact aQ (dF rfl rfl)
   · intro ξ hφ; exact aQ (dF rfl rfl)
   · intro ξ hφ; exact oB (ψ:=fun v=>∃ b,v=ptr b 0) (B:=fun v=>[.blk (bu v) (cI (⟨false,0⟩:GI)) 27]) [.emp] rfl (fun v _=>by simp only [dg,bA] <;> rfl) (fun v hv=>by simpa [DF.one,bA] using hv) (jX (gI vv27 rfl))
   · intro ξ hφ; exact oB (ψ:=fun v=>∃ b,v=ptr b 0) (B:=fun v=>[.blk (bu v) (cI (⟨false,0⟩:GI)) 27]) [.emp] rfl (fun v _=>by simp only [dg,bA] <;> rfl) (fun v hv=>by simpa [DF.one,bA] using hv) (jX (gI vv27 rfl))
   · intro ξ hφ; obtain ⟨b9,hb9⟩:=hφ 9 rfl; exact kb [.blk b9 (cI (⟨false,0⟩:GI)) 27] [.blk b9 (cI ((aD (bG (ae (aj x.p) (aa x.r)) (aJ ((aA (ae (ae (aa x.p) (aa x.p)) (ae (aj x.r) (aa x.r)))).1) (aw 1))) (ae (aa x.p) (aa x.r))).1)) 27] (congrArg (fun v=>[Asn.blk (bu v) (cI (⟨false,0⟩:GI)) 27]) hb9) (congrArg (fun v=>[Asn.blk (bu v) (cI ((aD (bG (ae (aj x.p) (aa x.r)) (aJ ((aA (ae (ae (aa x.p) (aa x.p)) (ae (aj x.r) (aa x.r)))).1) (aw 1))) (ae (aa x.p) (aa x.r))).1)) 27]) hb9) (oi zz27 (Eq.trans rfl (congrArg some hb9)) rfl rfl rfl rfl rfl rfl)
   · intro ξ hφ; obtain ⟨b10,hb10⟩:=hφ 10 rfl; exact kb [.blk b10 (cI (⟨false,0⟩:GI)) 27] [.blk b10 (cI ((aD (bG (ae (aj x.p) (aa x.r)) (aJ ((aA (ae (ae (aa x.p) (aa x.p)) (ae (aj x.r) (aa x.r)))).1) (aw 1))) (ae (aa x.p) (aa x.r))).2.1)) 27] (congrArg (fun v=>[Asn.blk (bu v) (cI (⟨false,0⟩:GI)) 27]) hb10) (congrArg (fun v=>[Asn.blk (bu v) (cI ((aD (bG (ae (aj x.p) (aa x.r)) (aJ ((aA (ae (ae (aa x.p) (aa x.p)) (ae (aj x.r) (aa x.r)))).1) (aw 1))) (ae (aa x.p) (aa x.r))).2.1)) 27]) hb10) (oi zz27 (Eq.trans rfl (congrArg some hb10)) rfl rfl rfl rfl rfl rfl)
   · intro ξ hφ; exact aQ (aF rfl)
   clear h ac wo; intro ξ ac wo hφ h
   replace h:St w0 59 [(2,(ptr b2 0)),(10,ξ 9)] [.blk b8 (cI (bG (ae (aj x.p) (aa x.r)) (aJ ((aA (ae (ae (aa x.p) (aa x.p)) (ae (aj x.r) (aa x.r)))).1) (aw 1)))) 27,.blk b2 (cI (⟨false,0⟩:GI)) 27,.blk b1 (cR x) 46,.blk b3 (cI (aj x.p)) 27,.blk b4 (cI (aa x.p)) 27,.blk b5 (cI (aj x.r)) 27,.blk b6 (cI (aa x.r)) 27,.blk b7 (cI ((aA (ae (ae (aa x.p) (aa x.p)) (ae (aj x.r) (aa x.r)))).1)) 27,.blk (bu (ξ 9)) (cI ((aD (bG (ae (aj x.p) (aa x.r)) (aJ ((aA (ae (ae (aa x.p) (aa x.p)) (ae (aj x.r) (aa x.r)))).1) (aw 1))) (ae (aa x.p) (aa x.r))).1)) 27,.blk (bu (ξ 10)) (cI ((aD (bG (ae (aj x.p) (aa x.r)) (aJ ((aA (ae (ae (aa x.p) (aa x.p)) (ae (aj x.r) (aa x.r)))).1) (aw 1))) (ae (aa x.p) (aa x.r))).2.1)) 27] ac wo:=(h.pick [0,1,2,3,4,5,6,7,8,9] (by decide)).sub ⟨rfl,rfl,trivial⟩
   revert h
   obtain ⟨b9,hb9⟩:∃ b,ξ 9=ptr b 0:=hφ 9
   obtain ⟨b10,hb10⟩:∃ b,ξ 10=ptr b 0:=hφ 10
   rw [hb9,hb10]; intro h
   clear hb9 hb10
   clear hφ ξ
   have hd:bc x=(aD (bG (ae (aj x.p) (aa x.r)) (aJ ((aA (ae (ae (aa x.p) (aa x.p)) (ae (aj x.r) (aa x.r)))).1) (aw 1))) (ae (aa x.p) (aa x.r))).1:=pt
   refine gz h <| (W) ?_; clear h ac wo; intro ac wo h
   exact ret h rfl (.cell (v:=(vI ((aD (bG (ae (aj x.p) (aa x.r)) (aJ ((aA (ae (ae (aa x.p) (aa x.p)) (ae (aj x.r) (aa x.r)))).1) (aw 1))) (ae (aa x.p) (aa x.r))).1))) rfl (i:=1) rfl aa27 zz27 rfl rfl rfl .nil) rfl (h.retP (by rw [hd] <;> rfl) (by rw [hd]; exact (by rw [← hd]; exact ht.2)))
 ·
   have hq1:=hc1; try simp at hq1
   have c15:=eV (ae (aj x.p) (aa x.r)) ((aA (ae (ae (aa x.p) (aa x.p)) (ae (aj x.r) (aa x.r)))).1) 28 og (fA s9 og) s8
   have s15:=ap (c15 w0)
   refine gz h <| (xk (c15)) <| (W) ?_; clear h ac wo; intro ac wo h
   have c16:=bD (aa x.p) (aa x.r) 35 og s2 s4
   have s16:=ap (c16 w0)
   have s17:=ap ((eN (aJ (ae (aj x.p) (aa x.r)) ((aA (ae (ae (aa x.p) (aa x.p)) (ae (aj x.r) (aa x.r)))).1)) (ae (aa x.p) (aa x.r)) 27 og s15 (fA s16 og)) w0)
   replace h:=h.emps 2
   refine eZ mixed [⟨.det (vI (aJ (ae (aj x.p) (aa x.r)) ((aA (ae (ae (aa x.p) (aa x.p)) (ae (aj x.r) (aa x.r)))).1))),[0]⟩,⟨.det (vI (aa x.p)),[4]⟩,⟨.det (vI (aa x.r)),[6]⟩,⟨.det (vI (ae (aa x.p) (aa x.r))),[]⟩,⟨.det (.tuple #[(vI ((aD (aJ (ae (aj x.p) (aa x.r)) ((aA (ae (ae (aa x.p) (aa x.p)) (ae (aj x.r) (aa x.r)))).1)) (ae (aa x.p) (aa x.r))).1)),(vI ((aD (aJ (ae (aj x.p) (aa x.r)) ((aA (ae (ae (aa x.p) (aa x.p)) (ae (aj x.r) (aa x.r)))).1)) (ae (aa x.p) (aa x.r))).2.1)),(.int .i64 ((aD (aJ (ae (aj x.p) (aa x.r)) ((aA (ae (ae (aa x.p) (aa x.p)) (ae (aj x.r) (aa x.r)))).1)) (ae (aa x.p) (aa x.r))).2.2))]),[]⟩,⟨.det (.tuple #[(vI ((aD (aJ (ae (aj x.p) (aa x.r)) ((aA (ae (ae (aa x.p) (aa x.p)) (ae (aj x.r) (aa x.r)))).1)) (ae (aa x.p) (aa x.r))).1)),(vI ((aD (aJ (ae (aj x.p) (aa x.r)) ((aA (ae (ae (aa x.p) (aa x.p)) (ae (aj x.r) (aa x.r)))).1)) (ae (aa x.p) (aa x.r))).2.1)),(.int .i64 ((aD (aJ (ae (aj x.p) (aa x.r)) ((aA (ae (ae (aa x.p) (aa x.p)) (ae (aj x.r) (aa x.r)))).1)) (ae (aa x.p) (aa x.r))).2.2))]),[]⟩,⟨.det (vI ((aD (aJ (ae (aj x.p) (aa x.r)) ((aA (ae (ae (aa x.p) (aa x.p)) (ae (aj x.r) (aa x.r)))).1)) (ae (aa x.p) (aa x.r))).1)),[]⟩,⟨.det (vI ((aD (aJ (ae (aj x.p) (aa x.r)) ((aA (ae (ae (aa x.p) (aa x.p)) (ae (aj x.r) (aa x.r)))).1)) (ae (aa x.p) (aa x.r))).2.1)),[]⟩,⟨.det (.int .i64 ((aD (aJ (ae (aj x.p) (aa x.r)) ((aA (ae (ae (aa x.p) (aa x.p)) (ae (aj x.r) (aa x.r)))).1)) (ae (aa x.p) (aa x.r))).2.2)),[]⟩,⟨.nd (.one 9 fun v=>∃ b,v=ptr b 0),[8]⟩,⟨.nd (.one 10 fun v=>∃ b,v=ptr b 0),[9]⟩,⟨.det undef,[8]⟩,⟨.det undef,[9]⟩,⟨.det (.int .i64 ((aD (aJ (ae (aj x.p) (aa x.r)) ((aA (ae (ae (aa x.p) (aa x.p)) (ae (aj x.r) (aa x.r)))).1)) (ae (aa x.p) (aa x.r))).2.2)),[]⟩] [⟨.blk b8 (cI (aJ (ae (aj x.p) (aa x.r)) ((aA (ae (ae (aa x.p) (aa x.p)) (ae (aj x.r) (aa x.r)))).1))) 27,[]⟩,⟨.blk b2 (cI (⟨false,0⟩:GI)) 27,[]⟩,⟨.blk b1 (cR x) 46,[]⟩,⟨.blk b3 (cI (aj x.p)) 27,[]⟩,⟨.blk b4 (cI (aa x.p)) 27,[]⟩,⟨.blk b5 (cI (aj x.r)) 27,[]⟩,⟨.blk b6 (cI (aa x.r)) 27,[]⟩,⟨.blk b7 (cI ((aA (ae (ae (aa x.p) (aa x.p)) (ae (aj x.r) (aa x.r)))).1)) 27,[]⟩,⟨.emp,[(9,.one 9 fun v=>.blk (bu v) (cI (⟨false,0⟩:GI)) 27),(11,.one 9 fun v=>.blk (bu v) (cI ((aD (aJ (ae (aj x.p) (aa x.r)) ((aA (ae (ae (aa x.p) (aa x.p)) (ae (aj x.r) (aa x.r)))).1)) (ae (aa x.p) (aa x.r))).1)) 27)]⟩,⟨.emp,[(10,.one 10 fun v=>.blk (bu v) (cI (⟨false,0⟩:GI)) 27),(12,.one 10 fun v=>.blk (bu v) (cI ((aD (aJ (ae (aj x.p) (aa x.r)) ((aA (ae (ae (aa x.p) (aa x.p)) (ae (aj x.r) (aa x.r)))).1)) (ae (aa x.p) (aa x.r))).2.1)) 27)]⟩] h rfl (by kernel_rfl) ⟨?_,?_,?_,?_,?_,?_,?_,?_,?_,?_,?_,?_,?_,?_,trivial⟩ ?_
   · intro ξ hφ; exact iy [.blk b8 (cI (aJ (ae (aj x.p) (aa x.r)) ((aA (ae (ae (aa x.p) (aa x.p)) (ae (aj x.r) (aa x.r)))).1))) 27] rfl rfl (js aa27 zz27 rfl rfl rfl (v:=(vI (aJ (ae (aj x.p) (aa x.r)) ((aA (ae (ae (aa x.p) (aa x.p)) (ae (aj x.r) (aa x.r)))).1)))) rfl)
   · intro ξ hφ; exact iy [.blk b4 (cI (aa x.p)) 27] rfl rfl (js aa27 zz27 rfl rfl rfl (v:=(vI (aa x.p))) rfl)
   · intro ξ hφ; exact iy [.blk b6 (cI (aa x.r)) 27] rfl rfl (js aa27 zz27 rfl rfl rfl (v:=(vI (aa x.r))) rfl)
   · intro ξ hφ; exact fD (gk (dH cc223 rfl) (kk c16))
   · intro ξ hφ; exact fD (gk (dH Tryz.call225 rfl) (kk (eN (aJ (ae (aj x.p) (aa x.r)) ((aA (ae (ae (aa x.p) (aa x.p)) (ae (aj x.r) (aa x.r)))).1)) (ae (aa x.p) (aa x.r)) 27 og s15 (fA s16 og))))
   · intro ξ hφ; exact aQ (ay rfl)
   · intro ξ hφ; exact aQ (dF rfl rfl)
   · intro ξ hφ; exact aQ (dF rfl rfl)
   · intro ξ hφ; exact aQ (dF rfl rfl)
   · intro ξ hφ; exact oB (ψ:=fun v=>∃ b,v=ptr b 0) (B:=fun v=>[.blk (bu v) (cI (⟨false,0⟩:GI)) 27]) [.emp] rfl (fun v _=>by simp only [dg,bA] <;> rfl) (fun v hv=>by simpa [DF.one,bA] using hv) (jX (gI vv27 rfl))
   · intro ξ hφ; exact oB (ψ:=fun v=>∃ b,v=ptr b 0) (B:=fun v=>[.blk (bu v) (cI (⟨false,0⟩:GI)) 27]) [.emp] rfl (fun v _=>by simp only [dg,bA] <;> rfl) (fun v hv=>by simpa [DF.one,bA] using hv) (jX (gI vv27 rfl))
   · intro ξ hφ; obtain ⟨b11,hb9⟩:=hφ 9 rfl; exact kb [.blk b11 (cI (⟨false,0⟩:GI)) 27] [.blk b11 (cI ((aD (aJ (ae (aj x.p) (aa x.r)) ((aA (ae (ae (aa x.p) (aa x.p)) (ae (aj x.r) (aa x.r)))).1)) (ae (aa x.p) (aa x.r))).1)) 27] (congrArg (fun v=>[Asn.blk (bu v) (cI (⟨false,0⟩:GI)) 27]) hb9) (congrArg (fun v=>[Asn.blk (bu v) (cI ((aD (aJ (ae (aj x.p) (aa x.r)) ((aA (ae (ae (aa x.p) (aa x.p)) (ae (aj x.r) (aa x.r)))).1)) (ae (aa x.p) (aa x.r))).1)) 27]) hb9) (oi zz27 (Eq.trans rfl (congrArg some hb9)) rfl rfl rfl rfl rfl rfl)
   · intro ξ hφ; obtain ⟨b12,hb10⟩:=hφ 10 rfl; exact kb [.blk b12 (cI (⟨false,0⟩:GI)) 27] [.blk b12 (cI ((aD (aJ (ae (aj x.p) (aa x.r)) ((aA (ae (ae (aa x.p) (aa x.p)) (ae (aj x.r) (aa x.r)))).1)) (ae (aa x.p) (aa x.r))).2.1)) 27] (congrArg (fun v=>[Asn.blk (bu v) (cI (⟨false,0⟩:GI)) 27]) hb10) (congrArg (fun v=>[Asn.blk (bu v) (cI ((aD (aJ (ae (aj x.p) (aa x.r)) ((aA (ae (ae (aa x.p) (aa x.p)) (ae (aj x.r) (aa x.r)))).1)) (ae (aa x.p) (aa x.r))).2.1)) 27]) hb10) (oi zz27 (Eq.trans rfl (congrArg some hb10)) rfl rfl rfl rfl rfl rfl)
   · intro ξ hφ; exact aQ (aF rfl)
   clear h ac wo; intro ξ ac wo hφ h
   replace h:St w0 59 [(2,(ptr b2 0)),(10,ξ 9)] [.blk b8 (cI (aJ (ae (aj x.p) (aa x.r)) ((aA (ae (ae (aa x.p) (aa x.p)) (ae (aj x.r) (aa x.r)))).1))) 27,.blk b2 (cI (⟨false,0⟩:GI)) 27,.blk b1 (cR x) 46,.blk b3 (cI (aj x.p)) 27,.blk b4 (cI (aa x.p)) 27,.blk b5 (cI (aj x.r)) 27,.blk b6 (cI (aa x.r)) 27,.blk b7 (cI ((aA (ae (ae (aa x.p) (aa x.p)) (ae (aj x.r) (aa x.r)))).1)) 27,.blk (bu (ξ 9)) (cI ((aD (aJ (ae (aj x.p) (aa x.r)) ((aA (ae (ae (aa x.p) (aa x.p)) (ae (aj x.r) (aa x.r)))).1)) (ae (aa x.p) (aa x.r))).1)) 27,.blk (bu (ξ 10)) (cI ((aD (aJ (ae (aj x.p) (aa x.r)) ((aA (ae (ae (aa x.p) (aa x.p)) (ae (aj x.r) (aa x.r)))).1)) (ae (aa x.p) (aa x.r))).2.1)) 27] ac wo:=(h.pick [0,1,2,3,4,5,6,7,8,9] (by decide)).sub ⟨rfl,rfl,trivial⟩
   revert h
   obtain ⟨b11,hb9⟩:∃ b,ξ 9=ptr b 0:=hφ 9
   obtain ⟨b12,hb10⟩:∃ b,ξ 10=ptr b 0:=hφ 10
   rw [hb9,hb10]; intro h
   clear hb9 hb10
   clear hφ ξ
   have hd:bc x=(aD (aJ (ae (aj x.p) (aa x.r)) ((aA (ae (ae (aa x.p) (aa x.p)) (ae (aj x.r) (aa x.r)))).1)) (ae (aa x.p) (aa x.r))).1:=pt
   refine gz h <| (W) ?_; clear h ac wo; intro ac wo h
   exact ret h rfl (.cell (v:=(vI ((aD (aJ (ae (aj x.p) (aa x.r)) ((aA (ae (ae (aa x.p) (aa x.p)) (ae (aj x.r) (aa x.r)))).1)) (ae (aa x.p) (aa x.r))).1))) rfl (i:=1) rfl aa27 zz27 rfl rfl rfl .nil) rfl (h.retP (by rw [hd] <;> rfl) (by rw [hd]; exact (by rw [← hd]; exact ht.2)))
attribute [irreducible] bc
end Go.Sx
namespace Go.Sx
open Go Go.RowKit Go.Proofs
set_option maxRecDepth 100000
set_option maxHeartbeats 40000000
attribute [local irreducible] Code.wp wpList Rd Step ObS Ent
attribute [local irreducible] ao aL ah au ax bN
attribute [local irreducible] aH aI am aq aE ak ae aa ba cw
theorem rB (num den:GI) (znum:SzI 36 num) (zden:SzI 36 den) (w0:World):Calls Tryz.prog 217 #[(vI num),(vI den)] w0 (dE w0 (.tuple #[(vQ ((cK num den).1)),(.int .i64 ((cK num den).2))]) (SzQ 35 ((cK num den).1))):=by
 refine enter (N:=13) (args:=[(vI num),(vI den)]) Tryz.func217 rfl rfl ?_; intro ac h
 have p2:=ap ((d8 den) w0)
 refine gz h <| (xb) fun b1=>(xb) fun b2=>(xa) fun b3=>(xk (d8 den)) <| (ai) ?_ ?_ <;> clear h ac <;> intro ac wo h hc1
 ·
  have hd:cK num den=(oQ,6):=by unfold cK; rw [hc1]; rfl
  rw [hd]
  refine gz h <| (xo (hs:=by exact bK nv exs rfl (v:=(vQ oQ)) rfl)) <| (W) ?_; clear h ac wo; intro ac wo h
  exact qp 0 h (h.retP (u:=.tuple #[vQ oQ,.int .i64 6]) rfl ⟨(cX 0 (by decide) og),(cX 0 (by decide) og)⟩)
 ·
  have c3:=ee num den 35 og znum zden
  have hd:cK num den=((ba num den),0):=by unfold cK; rw [hc1]; rfl
  rw [hd]
  refine gz h <| (xk (c3)) <| (W) ?_; clear h ac wo; intro ac wo h
  exact qp 0 h (h.retP (u:=.tuple #[vQ (ba num den),.int .i64 0]) rfl (ap (c3 w0)))
def bM (a b:GQ):GQ×Int:=cK (ae a.num (aa b)) (ae (aa a) b.num)
theorem pg (a b:GQ) (za:SzQ 37 a) (zb:SzQ 37 b) (w0:World):Calls Tryz.prog 278 #[vQ a,vQ b] w0 (dE w0 (.tuple #[vQ (bM a b).1,.int .i64 (bM a b).2]) (SzQ 35 (bM a b).1)):=by
 refine enter (N:=19) (args:=[vQ a,vQ b]) Tryz.func278 rfl rfl ?_; intro ac h
 have s1:=ap ((bE b 37 og zb) w0)
 have s2:=ap ((bD a.num (aa b) 36 og za.1 s1) w0)
 have s3:=ap ((bE a 37 og za) w0)
 have s4:=ap ((bD (aa a) b.num 36 og s3 zb.1) w0)
 have s5:=ap ((rB (ae a.num (aa b)) (ae (aa a) b.num) s2 s4) w0)
 refine gz h <| (xb) fun b1=>(xb) fun b2=>(xa) fun b3=>(dr1 (H:=[⟨.blk b3 (cQ oQ) 29,[(13,.con (.blk b3 (cQ (cK (ae a.num (aa b)) (ae (aa a) b.num)).1) 29))]⟩,⟨_,[]⟩,⟨_,[]⟩]) (hob:=(oK (bE b 37 og zb)) <| (oK (bD a.num (aa b) 36 og za.1 s1)) <| (oK (bE a 37 og za)) <| (oK (bD (aa a) b.num 36 og s3 zb.1)) <| (oK (rB (ae a.num (aa b)) (ae (aa a) b.num) s2 s4)) <| oE)) <| (W) ?_; clear h ac; intro ac wo h
 exact qp 0 h (h.retP (u:=.tuple #[vQ (bM a b).1,.int .i64 (bM a b).2]) rfl s5)
attribute [irreducible] bM
def cz (t v u w:GQ):Qd×Int :=
 bif (bM (ak w v) (ak u t)).2 != 0 then (⟨oQ,oQ,oQ⟩,(bM (ak w v) (ak u t)).2)
 else (aP (ak v (am (bM (ak w v) (ak u t)).1 t)) (bM (ak w v) (ak u t)).1,0)
theorem fQ (t v u w:GQ) (zt:SzQ 40 t) (zv:SzQ 40 v) (zu:SzQ 40 u) (zw:SzQ 40 w) (w0:World):Calls Tryz.prog 205 #[vQ t,vQ v,vQ u,vQ w] w0 (dE w0 (.tuple #[vD (cz t v u w).1,.int .i64 (cz t v u w).2]) (SzD 30 (cz t v u w).1)):=by
 refine enter (N:=33) (args:=[vQ t,vQ v,vQ u,vQ w]) Tryz.func205 rfl rfl ?_; intro ac h
 have c1:=cM w v 37 og zw zv
 have c2:=cM u t 37 og zu zt
 have c3:=pg (ak w v) (ak u t) (ap (c1 w0)) (ap (c2 w0))
 have s3:=ap (c3 w0)
 have c4:=bo (bM (ak w v) (ak u t)).1 t 33 og s3 (cu zt og)
 have s4:=ap (c4 w0)
 have c5:=cM v (am (bM (ak w v) (ak u t)).1 t) 30 og (cu zv og) s4
 have s5:=ap (c5 w0)
 have c6:=cO (ak v (am (bM (ak w v) (ak u t)).1 t)) (bM (ak w v) (ak u t)).1 30 og s5 (cu s3 og)
 have s6:=ap (c6 w0)
 refine gz h <| (xb) fun b1=>(xb) fun b2=>(xb) fun b3=>(xb) fun b4=>(xa) fun b5=>(W) ?_; clear h ac; intro ac wo h
 replace h:=h.emps 1
 refine eZ mixed [dw _ [1],dw _ [3],dv _,dw _ [2],dw _ [4],dv _,dv _,dv _,dv _,dv _,⟨.nd (.one 10 fun x=>∃ b,x=ptr b 0),[5]⟩,dw undef [5],dv _] [⟨_,[]⟩,⟨_,[]⟩,⟨_,[]⟩,⟨_,[]⟩,⟨_,[]⟩,⟨.emp,[(10,.one 10 fun x=>.blk (bu x) (cQ oQ) 29),(11,.one 10 fun x=>.blk (bu x) (cQ (bM (ak w v) (ak u t)).1) 29)]⟩] h rfl (by kernel_rfl) ⟨oA obA,oA obA,oA fun _=>fD (dZ Tryz.call148 rfl c1),oA obA,oA obA,oA fun _=>fD (dZ Tryz.call148 rfl c2),oA fun _=>fD (dZ Tryz.call278 rfl c3),oA obA,oA obA,oA obA,fun _ _=>i0 5 rfl (fun _=>rfl),fun ξ hφ=>iZ (u:=vQ (bM (ak w v) (ak u t)).1) 5 (hφ 10 rfl) rfl rfl rfl rfl rfl rfl rfl,oA obA,trivial⟩ ?_
 clear h ac wo; intro ξ ac wo hφ h
 obtain ⟨b6,hb6⟩:∃ b,ξ 10=ptr b 0:=hφ 10
 replace h:St w0 33 [(4,ptr b1 0),(5,ptr b2 0),(6,ptr b3 0),(7,ptr b4 0),(8,ptr b5 0),(10,ξ 10),(11,.int .i64 (bM (ak w v) (ak u t)).2)] [.blk b5 (cD ⟨oQ,oQ,oQ⟩) 72,.blk b4 (cQ w) 29,.blk b3 (cQ u) 29,.blk b2 (cQ v) 29,.blk b1 (cQ t) 29,.blk (bu (ξ 10)) (cQ (bM (ak w v) (ak u t)).1) 29] ac wo:=h.sub ⟨rfl,rfl,rfl,rfl,rfl,rfl,rfl,trivial⟩
 rw [hb6] at h
 clear hb6 hφ ξ
 refine gz h <| (ai) ?_ ?_ <;> clear h ac wo <;> intro ac wo h hc1
 ·
  have hd:cz t v u w=(⟨oQ,oQ,oQ⟩,(bM (ak w v) (ak u t)).2):=by unfold cz; rw [hc1]; rfl
  refine gz h <| (xo (hs:=by exact bK w9 exs rfl (v:=vD ⟨oQ,oQ,oQ⟩) rfl)) <| (W) ?_; clear h ac wo; intro ac wo h
  rw [hd]; exact qp 0 h (h.retP (u:=.tuple #[vD ⟨oQ,oQ,oQ⟩,.int .i64 (bM (ak w v) (ak u t)).2]) rfl ⟨⟨cX 0 (by decide) og,cX 0 (by decide) og⟩,⟨cX 0 (by decide) og,cX 0 (by decide) og⟩,⟨cX 0 (by decide) og,cX 0 (by decide) og⟩⟩)
 ·
  have hd:cz t v u w=(aP (ak v (am (bM (ak w v) (ak u t)).1 t)) (bM (ak w v) (ak u t)).1,0):=by unfold cz; rw [hc1]; rfl
  refine gz h <| (dr1 (H:=[⟨.blk b5 (cD ⟨oQ,oQ,oQ⟩) 72,[(7,.con (.blk b5 (cD (aP (ak v (am (bM (ak w v) (ak u t)).1 t)) (bM (ak w v) (ak u t)).1)) 72))]⟩,⟨_,[]⟩,⟨_,[]⟩,⟨_,[]⟩,⟨_,[]⟩,⟨_,[]⟩]) (hob:=(oK c4) <| (oK c5) <| (oK c6) <| oE)) <| (W) ?_; clear h ac wo; intro ac wo h
  rw [hd]; exact qp 0 h (h.retP (u:=.tuple #[vD (aP (ak v (am (bM (ak w v) (ak u t)).1 t)) (bM (ak w v) (ak u t)).1),.int .i64 0]) rfl s6)
attribute [irreducible] cz
def lnOf (x y:Qd):Ln:=⟨x.c0,x.c1,y.c0,y.c1⟩
def dA (a b:Smp):Ln:=lnOf (cz a.t a.p.x b.t b.p.x).1 (cz a.t a.p.y b.t b.p.y).1
def StO (a b:Smp):Prop:=xi 40 a∧xi 40 b
theorem wk (a b:Smp) (z:StO a b) (w0:World):Calls Tryz.prog 215 #[vSm a,vSm b] w0 (dE w0 (vN (dA a b)) (SzN 30 (dA a b))):=by
 refine enter (N:=46) (args:=[vSm a,vSm b]) Tryz.func215 rfl rfl ?_; intro ac h
 have c1:=fQ a.t a.p.x b.t b.p.x z.1.1 z.1.2.1 z.2.1 z.2.2.1
 have s1:=ap (c1 w0)
 have c2:=fQ a.t a.p.y b.t b.p.y z.1.1 z.1.2.2 z.2.1 z.2.2.2
 have s2:=ap (c2 w0)
 refine gz h <| (xb) fun b1=>(xb) fun b2=>(xa) fun b3=>(xk c1) <| (xa) fun b4=>(xk c2) <| (xa) fun b5=>(W) ?_; clear h ac; intro ac wo h
 exact rtc 2 h (h.retP (u:=vN (dA a b)) rfl ⟨s1.1,s1.2.1,s2.1,s2.2.1⟩)
def ij (p:Pnt):Ln:=⟨p.x,oQ,p.y,oQ⟩
theorem still_ct (p:Pnt) (k:Nat) (hk:k≤40) (z:SzPt k p) (w0:World):Calls Tryz.prog 216 #[vPt p] w0 (dE w0 (vN (ij p)) (SzN k (ij p))):=by
 refine enter (N:=8) (args:=[vPt p]) Tryz.func216 rfl rfl ?_; intro ac h
 refine gz h <| (xb) fun b1=>(xa) fun b2=>(W) ?_; clear h ac; intro ac wo h
 exact rtc 0 h (h.retP (u:=vN (ij p)) rfl ⟨z.1,⟨cX 0 (by decide) og,cX 0 (by decide) og⟩,z.2,⟨cX 0 (by decide) og,cX 0 (by decide) og⟩⟩)
def lxs (f:Ln):Qd:=aP f.x0 f.x1
def lys (f:Ln):Qd:=aP f.y0 f.y1
theorem lxs_ct (f:Ln) (k:Nat) (hk:k≤40) (z:SzN k f) (w0:World):Calls Tryz.prog 128 #[vN f] w0 (dE w0 (vD (lxs f)) (SzD k (lxs f))):=by
 refine enter (N:=8) (args:=[vN f]) Tryz.func128 rfl rfl ?_; intro ac h
 have c1:=cO f.x0 f.x1 k hk z.1 z.2.1
 refine gz h <| (xb) fun b1=>(xa) fun b2=>(xk c1) <| (W) ?_; clear h ac; intro ac wo h
 exact rtc 0 h (h.retP (u:=vD (lxs f)) rfl (ap (c1 w0)))
theorem lys_ct (f:Ln) (k:Nat) (hk:k≤40) (z:SzN k f) (w0:World):Calls Tryz.prog 129 #[vN f] w0 (dE w0 (vD (lys f)) (SzD k (lys f))):=by
 refine enter (N:=8) (args:=[vN f]) Tryz.func129 rfl rfl ?_; intro ac h
 have c1:=cO f.y0 f.y1 k hk z.2.2.1 z.2.2.2
 refine gz h <| (xb) fun b1=>(xa) fun b2=>(xk c1) <| (W) ?_; clear h ac; intro ac wo h
 exact rtc 0 h (h.retP (u:=vD (lys f)) rfl (ap (c1 w0)))
theorem vxs_ct (f:Ln) (k:Nat) (hk:k≤40) (z:SzN k f) (w0:World):Calls Tryz.prog 104 #[vN f] w0 (dE w0 (vD (lxs f)) (SzD k (lxs f))):=by
 refine enter (N:=8) (args:=[vN f]) Tryz.func104 rfl rfl ?_; intro ac h
 have c1:=cO f.x0 f.x1 k hk z.1 z.2.1
 refine gz h <| (xb) fun b1=>(xa) fun b2=>(xk c1) <| (W) ?_; clear h ac; intro ac wo h
 exact rtc 0 h (h.retP (u:=vD (lxs f)) rfl (ap (c1 w0)))
theorem vys_ct (f:Ln) (k:Nat) (hk:k≤40) (z:SzN k f) (w0:World):Calls Tryz.prog 105 #[vN f] w0 (dE w0 (vD (lys f)) (SzD k (lys f))):=by
 refine enter (N:=8) (args:=[vN f]) Tryz.func105 rfl rfl ?_; intro ac h
 have c1:=cO f.y0 f.y1 k hk z.2.2.1 z.2.2.2
 refine gz h <| (xb) fun b1=>(xa) fun b2=>(xk c1) <| (W) ?_; clear h ac; intro ac wo h
 exact rtc 0 h (h.retP (u:=vD (lys f)) rfl (ap (c1 w0)))
def eC (t x y:Int):Smp:=⟨ah t,⟨ah x,ah y⟩⟩
end Go.Sx
namespace Go.Sx
theorem vz (q:GQ):(an q).p=q∧(an q).r=zQ∧(an q).neg=false:=by unfold an; exact ⟨rfl,rfl,rfl⟩
theorem n7 {q:GQ} (h:QOk q):ROk (an q):=by
 obtain ⟨e1,e2,e3⟩:=vz q
 unfold ROk
 rw [e1,e2,e3]
 exact ⟨h,fB.1,Or.inl ⟨fB.2,rfl⟩⟩
theorem zK (q:GQ) (k:Nat):rv (an q) k=aZ q:=by
 obtain ⟨e1,e2,e3⟩:=vz q
 unfold rv
 rw [e1,e2,fB.2,q8]; grind
theorem vA {p q:GQ} (hp:QOk p) (hq:QOk q):ao (an p) (an q)=rsg (aZ p - aZ q) :=
 (jz (n7 hp) (n7 hq)).uniq ((Sg.const _).congr fun k=>by rw [zK,zK])
def inZ (n:Nat):GR:=an (ah (n:Int))
theorem inZ_ok (n:Nat):ROk (inZ n):=n7 (bV _).1
theorem inZ_lt {m n:Nat} (h:m < n):ao (inZ m) (inZ n)=-1:=by
 unfold inZ
 rw [vA (bV _).1 (bV _).1,(bV _).2,(bV _).2]
 unfold rsg
 rw [if_pos]
 have:(((m:Nat):Int):Rat) < (((n:Nat):Int):Rat):=by rw [Rat.intCast_lt_intCast]; omega
 grind
theorem zk {n d:GI} (hn:IOk n) (hd:dN d≠0):QOk (cK n d).1∧aZ (cK n d).1=(dN n:Rat) / (dN d:Rat):=by
 have h:(cw d == 0)=false:=by
  rw [kv]
  simp
  exact hd
 have e:cK n d=(ba n d,0):=by unfold cK; rw [h]; rfl
 rw [e]
 exact oF hn hd
theorem div_ok {a b:GQ} (ha:QOk a) (hb:QOk b) (h:aZ b≠0):QOk (bM a b).1∧aZ (bM a b).1=aZ a / aZ b∧(bM a b).2=0:=by
 obtain ⟨da,_⟩:=iu ha
 obtain ⟨db,_⟩:=iu hb
 have pa:=lZ ha
 have pb:=lZ hb
 have hbn:dN b.num≠0:=fun e=>h (by unfold aZ; rw [e]; grind)
 have hd:dN (ae (aa a) b.num)≠0:=by
  rw [it,da]
  refine Int.mul_ne_zero ?_ hbn
  have:=ha.pos
  omega
 have h2:(cw (ae (aa a) b.num) == 0)=false:=by
  rw [kv]; simp; exact hd
 obtain ⟨o,v⟩:=zk (qR a.num (aa b)) hd
 unfold bM
 refine ⟨o,?_,by unfold cK; rw [h2]; rfl⟩
 rw [v,it,it,da,db]
 have hb2:(dN b.num:Rat)≠0:=fun e=>hbn (by exact_mod_cast e)
 unfold aZ
 push_cast
 grind
theorem qM {t v u w:GQ} (ht:QOk t) (hv:QOk v) (hu:QOk u) (hw:QOk w) (h:aZ t≠aZ u) :
 ∃ c s,(cz t v u w).1=aP c s∧QOk c∧QOk s∧aZ s=(aZ w - aZ v) / (aZ u - aZ t)∧aZ c=aZ v - (aZ w - aZ v) / (aZ u - aZ t)*aZ t:=by
 obtain ⟨a1,a2⟩:=fT hw hv
 obtain ⟨b1,b2⟩:=fT hu ht
 obtain ⟨d1,d2,d3⟩:=div_ok a1 b1 (by rw [b2]; grind)
 obtain ⟨m1,m2⟩:=eO d1 ht
 obtain ⟨c1,c2⟩:=fT hv m1
 refine ⟨_,_,?_,c1,d1,by rw [d2,a2,b2],by rw [c2,m2,d2,a2,b2]⟩
 unfold cz
 rw [d3]; rfl
theorem m7 {a b:Smp} (ha:QOk a.t∧QOk a.p.x∧QOk a.p.y) (hb:QOk b.t∧QOk b.p.x∧QOk b.p.y) (h:aZ a.t≠aZ b.t) :
 LOk (dA a b)∧aZ (dA a b).x1=(aZ b.p.x - aZ a.p.x) / (aZ b.t - aZ a.t)∧aZ (dA a b).x0=aZ a.p.x - (aZ b.p.x - aZ a.p.x) / (aZ b.t - aZ a.t)*aZ a.t ∧
  aZ (dA a b).y1=(aZ b.p.y - aZ a.p.y) / (aZ b.t - aZ a.t)∧aZ (dA a b).y0=aZ a.p.y - (aZ b.p.y - aZ a.p.y) / (aZ b.t - aZ a.t)*aZ a.t:=by
 obtain ⟨c,s,e1,k1,k2,k3,k4⟩:=qM ha.1 ha.2.1 hb.1 hb.2.1 h
 obtain ⟨c',s',e1',k1',k2',k3',k4'⟩:=qM ha.1 ha.2.2 hb.1 hb.2.2 h
 obtain ⟨_,l1,l2,_⟩:=kf k1 k2
 obtain ⟨_,l1',l2',_⟩:=kf k1' k2'
 unfold dA lnOf LOk
 rw [e1,e1']
 simp only [l1,l2,l1',l2']
 exact ⟨⟨k1,k2,k1',k2'⟩,k3,k4,k3',k4'⟩
theorem uQ (t x y:Int):(QOk (eC t x y).t∧QOk (eC t x y).p.x∧QOk (eC t x y).p.y)∧aZ (eC t x y).t=(t:Rat)∧aZ (eC t x y).p.x=(x:Rat)∧aZ (eC t x y).p.y=(y:Rat):=by
 unfold eC
 exact ⟨⟨(bV t).1,(bV x).1,(bV y).1⟩,(bV t).2,(bV x).2,(bV y).2⟩
theorem uP {q:GQ} (hq:QOk q) {v w t u:Nat} (hv:v < 64) (hw:w < 64) (ht:t < u) (hu:u≤t+8) (e:aZ q=(((w:Int):Rat) - ((v:Int):Rat)) / (((u:Int):Rat) - ((t:Int):Rat))):Bq 16 q:=by
 refine Bq.of hq ((w:Int) - v) (u - t) (by omega) (by omega) (by omega) ?_
 rw [e]
 have:(((u - t:Nat):Nat):Rat)=((u:Int):Rat) - ((t:Int):Rat):=by
  have:((u - t:Nat):Int)=(u:Int) - t:=by omega
  have h2:(((u - t:Nat):Int):Rat)=(((u:Int) - t:Int):Rat):=by rw [this]
  push_cast at h2 ⊢
  exact h2
 rw [this]
 push_cast
 rfl
theorem aa8 {q:GQ} (hq:QOk q) {v w t u:Nat} (hv:v < 64) (hw:w < 64) (ht:t < u) (hu:u≤t+8) (ht2:t≤80) (e:aZ q=((v:Int):Rat) - (((w:Int):Rat) - ((v:Int):Rat)) / (((u:Int):Rat) - ((t:Int):Rat))*((t:Int):Rat)):Bq 16 q:=by
 obtain ⟨d,rfl⟩:∃ d,u=t+d:=⟨u - t,by omega⟩
 have h1:v*d≤63*8:=Nat.mul_le_mul (by omega) (by omega)
 have h2:v*t≤63*80:=Nat.mul_le_mul (by omega) ht2
 have h3:w*t≤63*80:=Nat.mul_le_mul (by omega) ht2
 refine Bq.of hq ((v:Int)*d - (w - v)*t) d (by omega) (by omega) ?_ ?_
 · rw [Int.sub_mul]
   have e1:((v:Int)*d)=((v*d:Nat):Int):=by push_cast; rfl
   have e2:((v:Int)*t)=((v*t:Nat):Int):=by push_cast; rfl
   have e3:((w:Int)*t)=((w*t:Nat):Int):=by push_cast; rfl
   rw [e1,e2,e3]
   generalize v*d=a at *
   generalize v*t=b at *
   generalize w*t=c at *
   omega
 · rw [e]
   have hd:(d:Rat)≠0:=fX (by omega)
   push_cast
   grind
theorem qo {t u x y x' y':Nat} (hx:x < 64) (hy:y < 64) (hx':x' < 64) (hy':y' < 64) (ht:t < u) (hu:u≤t+8) (ht2:t≤80):BL 16 (dA (eC t x y) (eC u x' y')):=by
 obtain ⟨a1,a2,a3,a4⟩:=uQ t x y
 obtain ⟨b1,b2,b3,b4⟩:=uQ u x' y'
 obtain ⟨⟨o1,o2,o3,o4⟩,h1,h2,h3,h4⟩:=m7 a1 b1 (by
  rw [a2,b2]; intro e
  have:(t:Int)=(u:Int):=by exact_mod_cast e
  omega)
 rw [a2,a3,b2,b3] at h1 h2
 rw [a2,a4,b2,b4] at h3 h4
 exact ⟨aa8 o1 hx hx' ht hu ht2 h2,uP o2 hx hx' ht hu h1,aa8 o3 hy hy' ht hu ht2 h4,uP o4 hy hy' ht hu h3⟩
theorem still_bl {x y t:Nat} (hx:x < 64) (hy:y < 64):BL 16 (ij (eC t x y).p):=by
 have h1:Bq 16 (ah (x:Int)):=Bq.int _ (by omega) (by decide)
 have h2:Bq 16 (ah (y:Int)):=Bq.int _ (by omega) (by decide)
 exact ⟨h1,Bq.zero (by decide),h2,Bq.zero (by decide)⟩
structure Stq where
 time:Nat
 x:Nat
 y:Nat
 kind:Nat
 deriving DecidableEq
instance yM5_1:Inhabited Stq:=⟨⟨0,0,0,0⟩⟩
structure Crq where
 time:Nat
 x:Nat
 y:Nat
structure TS where
 t:Nat
 x:Nat
 y:Nat
 alone:Bool
 out:List (U Ln)
def tsU (s:TS) (q:Stq):U Ln :=
 ⟨⟨inZ s.t,inZ (s.t+1+q.time % 8),decide (((s.out.length:Nat):Int)>0) && !s.alone,false⟩,
  dA (bif decide (q.kind % 8=1) then eC s.t ((q.y % 64:Nat):Int) ((q.x % 64:Nat):Int) else eC s.t s.x s.y) (eC ((s.t+1+q.time % 8:Nat):Int) ((q.x % 64:Nat):Int) ((q.y % 64:Nat):Int))⟩
def tsF (s:TS) (q:Stq):TS:=⟨s.t+1+q.time % 8,q.x % 64,q.y % 64,decide (q.kind % 8=0),bif decide (q.kind % 8=0) then s.out else s.out++[tsU s q]⟩
def ts0 (c:Crq):TS:=⟨c.time % 16,c.x % 64,c.y % 64,true,[]⟩
def tsN (c:Crq) (l:List Stq) (i:Nat):TS:=(l.take i).foldl tsF (ts0 c)
theorem uL (c:Crq) {l:List Stq} {i:Nat} (h:i < l.length):tsN c l (i+1)=tsF (tsN c l i) (gt l i):=by
 unfold tsN; rw [List.take_succ_eq_append_getElem h,List.foldl_append,gF h]; rfl
def tsE (s:TS):List (U Ln):=bif s.alone then s.out++[⟨⟨inZ s.t,inZ s.t,false,false⟩,ij (eC s.t s.x s.y).p⟩] else s.out
def trU (c:Crq) (l:List Stq):List (U Ln):=tsE (tsN c l (min l.length 6))
def fF (c:Crq) (l:List Stq):List (U Ln):=(aU (trU c l)).1
section
variable [K:Key]
class KeyZ:Prop where
 z:∀ n,n≤64→Tm (inZ n)
variable [KeyZ]
theorem tkZ {m n:Nat} (h:m < n) (hn:n≤64):tk (inZ m) < tk (inZ n):=oU (KeyZ.z _ (by omega)) (KeyZ.z _ hn) (inZ_lt h)
structure TsI (s:TS) (i:Nat):Prop where
 t:s.t≤15+8*i
 x:s.x < 64
 y:s.y < 64
 wv:∀ u∈s.out,Wv u.iv∧BL 16 u.f
 ord:s.out.Pairwise fun a b=>fg a.iv < (eW b.iv:Int)
 bef:∀ u∈s.out,∃ n,n≤s.t∧u.iv.hi=inZ n∧u.iv.openHi=false
 far:s.alone=true→∀ u∈s.out,∃ n,n < s.t∧u.iv.hi=inZ n
 len:s.out.length≤i
 one:s.alone=false→0 < s.out.length
omit [KeyZ] in
theorem xC (c:Crq):TsI (ts0 c) 0:=by
 refine ⟨by show c.time % 16≤_; omega,Nat.mod_lt _ (by decide),Nat.mod_lt _ (by decide),fun u h=>(by cases h),List.Pairwise.nil,fun u h=>(by cases h),fun _ u h=>(by cases h),Nat.le_refl _,fun h=>(by cases h)⟩
omit [KeyZ] in
theorem qA {u:U Ln} {n:Nat} (h:u.iv.hi=inZ n) (ho:u.iv.openHi=false):fg u.iv=2*(tk (inZ n):Int):=by
 unfold fg; rw [h,ho]; simp
theorem xB {s:TS} {i:Nat} (q:Stq) (hi:i < 6) (h:TsI s i):TsI (tsF s q) (i+1):=by
 have ht:=h.t
 have hm:q.time % 8 < 8:=Nat.mod_lt _ (by decide)
 have hx:q.x % 64 < 64:=Nat.mod_lt _ (by decide)
 have hy:q.y % 64 < 64:=Nat.mod_lt _ (by decide)
 by_cases hk:q.kind % 8=0
 · unfold tsF
   rw [decide_eq_true hk]
   refine ⟨by show s.t+1+_≤_; omega,hx,hy,h.wv,h.ord,fun u hu=>?_,fun _ u hu=>?_,by show s.out.length≤_; have:=h.len; omega,fun h=>(by cases h)⟩
   · obtain ⟨n,a,b,c⟩:=h.bef u hu; exact ⟨n,by show n≤s.t+1+_; omega,b,c⟩
   · obtain ⟨n,a,b,c⟩:=h.bef u hu; exact ⟨n,by show n < s.t+1+_; omega,b⟩
 · have lt:=tkZ (show s.t < s.t+1+q.time % 8 by omega) (by omega)
   have wv:Wv (tsU s q).iv:=⟨⟨KeyZ.z _ (by omega),KeyZ.z _ (by omega)⟩,Nat.le_of_lt lt,fun e=>by exfalso; change tk (inZ s.t)=tk (inZ (s.t+1+q.time % 8)) at e; omega⟩
   have bl:BL 16 (tsU s q).f:=by
    show BL 16 (dA _ _)
    cases decide (q.kind % 8=1) with
    | true=>exact qo hy hx hx hy (by omega) (by omega) (by omega)
    | false=>exact qo h.x h.y hx hy (by omega) (by omega) (by omega)
   unfold tsF
   rw [decide_eq_false hk]
   refine ⟨by show s.t+1+_≤_; omega,hx,hy,fun u hu=>?_,?_,fun u hu=>?_,fun h=>(by cases h),by show (s.out++[_]).length≤_; have:=h.len; simp; omega,fun _=>by show 0 < (s.out++[_]).length; simp⟩
   · rcases List.mem_append.1 hu with hu | hu
     · exact h.wv u hu
     · rw [List.mem_singleton.1 hu]; exact ⟨wv,bl⟩
   · refine List.pairwise_append.2 ⟨h.ord,List.pairwise_singleton _ _,fun a ha b hb=>?_⟩
     rw [List.mem_singleton.1 hb]
     obtain ⟨n,n1,n2,n3⟩:=h.bef a ha
     rw [qA n2 n3]
     have hne:0 < s.out.length:=List.length_pos_of_mem ha
     have hf:eW (tsU s q).iv=2*tk (inZ s.t)+(bif decide (((s.out.length:Nat):Int)>0) && !s.alone then 1 else 0):=rfl
     rw [hf,decide_eq_true (show ((s.out.length:Nat):Int)>0 by omega)]
     have hle:tk (inZ n)≤tk (inZ s.t):=by
      rcases Nat.lt_or_eq_of_le n1 with e | e
      · exact Nat.le_of_lt (tkZ e (by omega))
      · rw [e]; exact Nat.le_refl _
     cases hal:s.alone with
     | false=>simp; omega
     | true =>
      obtain ⟨n',m1,m2⟩:=h.far hal a ha
      have e2:inZ n=inZ n':=n2.symm.trans m2
      rw [e2]
      have:=tkZ m1 (by omega)
      simp; omega
   · rcases List.mem_append.1 hu with hu | hu
     · obtain ⟨n,a,b,c⟩:=h.bef u hu; exact ⟨n,by show n≤s.t+1+_; omega,b,c⟩
     · rw [List.mem_singleton.1 hu]; exact ⟨_,Nat.le_refl _,rfl,rfl⟩
theorem ts_all (c:Crq) (l:List Stq):∀ i,i≤l.length→i≤6→TsI (tsN c l i) i
 | 0,_,_=>xC c
 | i+1,h1,h2=>by rw [uL c (by omega)]; exact xB _ (by omega) (ts_all c l i (by omega) (by omega))
theorem uM (c:Crq) (l:List Stq):(∀ u∈trU c l,Wv u.iv∧BL 16 u.f)∧((trU c l).Pairwise fun a b=>fg a.iv < (eW b.iv:Int))∧(trU c l).length≤7∧0 < (trU c l).length:=by
 have h:=ts_all c l (min l.length 6) (by omega) (by omega)
 unfold trU tsE
 generalize tsN c l (min l.length 6)=s at *
 have ht:=h.t
 have hl:=h.len
 cases hal:s.alone with
 | false=>exact ⟨h.wv,h.ord,by show s.out.length≤7; omega,h.one hal⟩
 | true =>
  have hz:=KeyZ.z s.t (by omega)
  have wv:Wv (⟨inZ s.t,inZ s.t,false,false⟩:Iv):=⟨⟨hz,hz⟩,Nat.le_refl _,fun _=>⟨rfl,rfl⟩⟩
  rw [cond_true]
  refine ⟨fun u hu=>?_,List.pairwise_append.2 ⟨h.ord,List.pairwise_singleton _ _,fun a ha b hb=>?_⟩,by simp; omega,by simp⟩
  · rcases List.mem_append.1 hu with hu | hu
    · exact h.wv u hu
    · rw [List.mem_singleton.1 hu]; exact ⟨wv,still_bl h.x h.y⟩
  · rw [List.mem_singleton.1 hb]
    obtain ⟨n,n1,n2,n3⟩:=h.bef a ha
    obtain ⟨n',m1,m2⟩:=h.far hal a ha
    rw [qA n2 n3,n2.symm.trans m2]
    have:=tkZ m1 (by omega)
    show 2*((tk (inZ n'):Nat):Int) < ((2*tk (inZ s.t)+(bif false then 1 else 0):Nat):Int)
    simp; omega
end
end Go.Sx
