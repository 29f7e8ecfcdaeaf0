/- A part of the proof of movingnumberChecks. -/
import Derived.Test.YtpfdaoajcnophaaGreatDoorC7
import Derived.Test.YtpfdaoajcnophaaGreatDoorC2
import Derived.Test.YtpfdaoajcnophaaGreatDoorC4
set_option linter.unusedVariables false
set_option linter.unusedSimpArgs false
open Go.Proofs.Tryz renaming isAgg27 → aa27, sizeOf27 → zz27, isAgg29 → aa29, sizeOf29 → zz29, runUnderlying46 → uu46, zeroValue27 → vv27, call223 → cc223
namespace Go.Sx
open Go Go.RowKit Go.Proofs
set_option maxRecDepth 100000
set_option maxHeartbeats 40000000
attribute [local irreducible] Code.wp wpList Rd Step ObS Ent
attribute [local irreducible] ah ak aq an bN
def ag (a:GQ):GI :=
 a.num
theorem lL (a:GQ) (za:SzQ 36 a) (w0:World) :Calls Tryz.prog 220 #[(vQ a)] w0 (dh w0 (vI (ag a)) (SzI 36 (ag a))):=by
 refine enter (N:=5) (args:=[(vQ a)]) Tryz.func220 rfl rfl ?_; intro ac h
 refine gz h <| (xb) fun b1=>(xa) fun b2=>(W) ?_; clear h ac; intro ac wo h
 exact ret h rfl (.cell (v:=(vI a.num)) rfl (i:=0) rfl aa27 zz27 rfl rfl rfl .nil) rfl (h.retP (by unfold ag; rfl) (by unfold ag; exact za.1))
attribute [irreducible] ag
def bL (a:GI) (b:GI):GI :=
 (aH a (ax b))
theorem mE (a:GI) (b:GI) (za:SzI 28 a) (zb:SzI 28 b) (w0:World) :Calls Tryz.prog 224 #[(vI a),(vI b)] w0 (dh w0 (vI (bL a b)) (SzI 26 (bL a b))):=by
 refine enter (N:=9) (args:=[(vI a),(vI b)]) Tryz.func224 rfl rfl ?_; intro ac h
 refine gz h <| (xb) fun b1=>(xb) fun b2=>(xa) fun b3=>(W) ?_; clear h ac; intro ac wo h
 have c1:=fk b 28 og zb
 have s1:=ar (c1 w0)
 have s2:=ar ((fJ a (ax b) 27 og za s1) w0)
 refine gz h <| (dr1 (H:=[⟨.blk b3 (cI (⟨false,0⟩:GI)) 27,[(4,.con (.blk b3 (cI (aH a (ax b))) 27))]⟩,⟨.blk b2 (cI b) 27,[]⟩,⟨.blk b1 (cI a) 27,[]⟩]) (hob:=(oK (c1)) <| (oK (fJ a (ax b) 27 og za s1)) <| oE)) <| (W) ?_; clear h ac wo; intro ac wo h
 exact ret h rfl (.cell (v:=(vI (aH a (ax b)))) rfl (i:=0) rfl aa27 zz27 rfl rfl rfl .nil) rfl (h.retP (by unfold bL; rfl) (by unfold bL; exact (fV s2 og)))
attribute [irreducible] bL
def aC (a:GI):GI×Int :=
 bif a.neg then
  ((⟨false,0⟩:GI),2)
 else
  ((aD false (bM a.mag)),0)
theorem l7 (a:GI) (ha4:a.mag < 4) (za:SzI 30 a) (w0:World) :Calls Tryz.prog 222 #[(vI a)] w0 (dh w0 (.tuple #[(vI ((aC a).1)),(.int .i64 ((aC a).2))]) (SzI 29 ((aC a).1))):=by
 refine enter (N:=11) (args:=[(vI a)]) Tryz.func222 rfl rfl ?_; intro ac h
 refine gz h <| (xb) fun b1=>(xa) fun b2=>(ai) ?_ ?_ <;> clear h ac <;> intro ac wo h hc1
 ·
  have hq1:=hc1; try simp at hq1
  have hd:aC a=((⟨false,0⟩:GI),2):=pt
  refine gz h <| (xo (hs:=by exact bX qo exs rfl (v:=(vI (⟨false,0⟩:GI))) rfl)) <| (W) ?_; clear h ac wo; intro ac wo h
  exact ret h rfl (.cell (v:=(vI (⟨false,0⟩:GI))) rfl (i:=0) rfl aa27 zz27 rfl rfl rfl (.tmp rfl .nil)) rfl (h.retP (by rw [hd] <;> rfl) (by rw [hd]; exact (ed 0 (by decide) og)))
 ·
  have hq1:=hc1; try simp at hq1
  have c1:=root4_ct a.mag ha4 za
  have s1:=Calls.pr (c1 w0)
  have c2:=cu false (bM a.mag) 29 og s1
  have s2:=ar (c2 w0)
  have hd:aC a=((aD false (bM a.mag)),0):=pt
  refine gz h <| (xk (c1)) <| (xk (c2)) <| (W) ?_; clear h ac wo; intro ac wo h
  exact ret h rfl (.cell (v:=(vI (aD false (bM a.mag)))) rfl (i:=0) rfl aa27 zz27 rfl rfl rfl (.tmp rfl .nil)) rfl (h.retP (by rw [hd] <;> rfl) (by rw [hd]; exact s2))
attribute [irreducible] aC
def kF (x:GR):Int :=
 (eE x.p (ba x) x.r)
theorem lJ (x:GR) (zx:SzR 30 x) (w0:World) :Calls Tryz.prog 147 #[(vR x)] w0 (dh w0 (.int .i64 (kF x)) (True)):=by
 refine enter (N:=10) (args:=[(vR x)]) Tryz.func147 rfl rfl ?_; intro ac h
 refine gz h <| (xb) fun b1=>(W) ?_; clear h ac; intro ac wo h
 have c1:=iD x 30 og zx
 have s1:=ar (c1 w0)
 have p3:=ar ((iS x.p (ba x) x.r 22 og zx.1 s1 zx.2) w0)
 refine gz h <| (dr0 (hob:=(oK (c1)) <| (oK (iS x.p (ba x) x.r 22 og zx.1 s1 zx.2)) <| oE)) <| (W) ?_; clear h ac wo; intro ac wo h
 exact (rt h) (h.retP (by unfold kF; rfl) trivial)
attribute [irreducible] kF
def bD (num:GI) (den:GI):GQ×Int :=
 bif ((cM den) == 0) then
  ((⟨(⟨false,0⟩:GI),(⟨false,0⟩:GI)⟩:GQ),6)
 else
  ((aZ num den),0)
theorem ln (num:GI) (den:GI) (znum:SzI 36 num) (zden:SzI 36 den) (w0:World) :Calls Tryz.prog 217 #[(vI num),(vI den)] w0 (dh w0 (.tuple #[(vQ ((bD num den).1)),(.int .i64 ((bD num den).2))]) (SzQ 32 ((bD num den).1))):=by
 refine enter (N:=13) (args:=[(vI num),(vI den)]) Tryz.func217 rfl rfl ?_; intro ac h
 have p2:=ar ((dK den) w0)
 refine gz h <| (xb) fun b1=>(xb) fun b2=>(xa) fun b3=>(xk (dK den)) <| (ai) ?_ ?_ <;> clear h ac <;> intro ac wo h hc1
 ·
  have hd1:=eq_of_beq hc1
  have hd:bD num den=(oQ,6):=pt
  refine gz h <| (xo (hs:=by exact bX mR exs rfl (v:=(vQ oQ)) rfl)) <| (W) ?_; clear h ac wo; intro ac wo h
  exact ret h rfl (.cell (v:=(vQ oQ)) rfl (i:=0) rfl aa29 zz29 rfl rfl rfl (.tmp rfl .nil)) rfl (h.retP (by rw [hd] <;> rfl) (by rw [hd]; exact ⟨(ed 0 (by decide) og),(ed 0 (by decide) og)⟩))
 ·
  have hd1:=ne_of_beq_false hc1
  have c3:=dV num den 35 og znum zden
  have s3:=ar (c3 w0)
  have hd:bD num den=((aZ num den),0):=pt
  refine gz h <| (xk (c3)) <| (W) ?_; clear h ac wo; intro ac wo h
  exact ret h rfl (.cell (v:=(vQ (aZ num den))) rfl (i:=0) rfl aa29 zz29 rfl rfl rfl (.tmp rfl .nil)) rfl (h.retP (by rw [hd] <;> rfl) (by rw [hd]; exact (di s3 og)))
attribute [irreducible] bD
def jR (n:GI):GQ :=
 (bD n (aw 1)).1
theorem rq (n:GI) (zn:SzI 36 n) (w0:World) :Calls Tryz.prog 326 #[(vI n)] w0 (dh w0 (vQ (jR n)) (SzQ 32 (jR n))):=by
 refine enter (N:=12) (args:=[(vI n)]) Tryz.func326 rfl rfl ?_; intro ac h
 refine gz h <| (xb) fun b1=>(xa) fun b2=>(W) ?_; clear h ac; intro ac wo h
 have s1:=ar ((eR 1 40 og  og) w0)
 have s2:=Calls.pr ((fun w_ hB_ hS_=>ln n (aw 1) zn (fV s1 og) w_ ) _ h.bel h.sep)
 replace h:=h.emps 1
 refine fU mixed [⟨.det (vI n),[1]⟩,⟨.det (vI (aw 1)),[]⟩,⟨.det (.tuple #[(vQ ((bD n (aw 1)).1)),(.int .i64 ((bD n (aw 1)).2))]),[]⟩,⟨.det (.tuple #[(vQ ((bD n (aw 1)).1)),(.int .i64 ((bD n (aw 1)).2))]),[]⟩,⟨.det (vQ ((bD n (aw 1)).1)),[]⟩,⟨.det (.int .i64 ((bD n (aw 1)).2)),[]⟩,⟨.nd (.one 6 fun v=>∃ b,v=ptr b 0),[2]⟩,⟨.det undef,[2]⟩,⟨.det (.int .i64 ((bD n (aw 1)).2)),[]⟩] [⟨.blk b2 (cQ oQ) 29,[]⟩,⟨.blk b1 (cI n) 27,[]⟩,⟨.emp,[(6,.one 6 fun v=>.blk (bR v) (cQ oQ) 29),(7,.one 6 fun v=>.blk (bR v) (cQ ((bD n (aw 1)).1)) 29)]⟩] h rfl (by kernel_rfl) ⟨?_,?_,?_,?_,?_,?_,?_,?_,?_,trivial⟩ ?_
 · intro ξ hφ; exact jB [.blk b1 (cI n) 27] rfl rfl (kt aa27 zz27 rfl rfl rfl (v:=(vI n)) rfl)
 · intro ξ hφ; exact i0 (fq (vs:=[(.int .i64 1)]) (cz Tryz.call199 rfl) (fun w_ hB_ hS_=>(eR 1 40 og  og) w_))
 · intro ξ hφ; exact i0 (fq (cz Tryz.call217 rfl) (kk (ln n (aw 1) zn (fV s1 og))))
 · intro ξ hφ; exact bk (ay rfl)
 · intro ξ hφ; exact bk (cY rfl rfl)
 · intro ξ hφ; exact bk (cY rfl rfl)
 · intro ξ hφ; exact my (ψ:=fun v=>∃ b,v=ptr b 0) (B:=fun v=>[.blk (bR v) (cQ oQ) 29]) [.emp] rfl (fun v _=>by simp only [dJ,bt] <;> rfl) (fun v hv=>by simpa [DF.one,bt] using hv) (jh (gO Tryz.zeroValue29 rfl))
 · intro ξ hφ; obtain ⟨b3,hb6⟩:=hφ 6 rfl; exact lS [.blk b3 (cQ oQ) 29] [.blk b3 (cQ ((bD n (aw 1)).1)) 29] (congrArg (fun v=>[Asn.blk (bR v) (cQ oQ) 29]) hb6) (congrArg (fun v=>[Asn.blk (bR v) (cQ ((bD n (aw 1)).1)) 29]) hb6) (qK zz29 (Eq.trans rfl (congrArg some hb6)) rfl rfl rfl rfl rfl rfl)
 · intro ξ hφ; exact bk (aA rfl)
 clear h ac wo; intro ξ ac wo hφ h
 replace h:St w0 12 [(2,(ptr b2 0)),(3,ξ 6)] [.blk b2 (cQ oQ) 29,.blk b1 (cI n) 27,.blk (bR (ξ 6)) (cQ ((bD n (aw 1)).1)) 29] ac wo:=(h.pick [0,1,2] (by decide)).sub ⟨rfl,rfl,trivial⟩
 revert h
 obtain ⟨b3,hb6⟩:∃ b,ξ 6=ptr b 0:=hφ 6
 rw [hb6]; intro h
 clear hb6
 clear hφ ξ
 refine gz h <| (W) ?_; clear h ac wo; intro ac wo h
 exact ret h rfl (.cell (v:=(vQ ((bD n (aw 1)).1))) rfl (i:=0) rfl aa29 zz29 rfl rfl rfl .nil) rfl (h.retP (by unfold jR; rfl) (by unfold jR; exact s2))
attribute [irreducible] jR
def iX (x:GR) (r:GQ):Int :=
 (ah x (aQ r))
theorem nf (x:GR) (r:GQ) (zx:SzR 30 x) (zr:SzQ 30 r) (w0:World) :Calls Tryz.prog 327 #[(vR x),(vQ r)] w0 (dh w0 (.int .i64 (iX x r)) (True)):=by
 refine enter (N:=9) (args:=[(vR x),(vQ r)]) Tryz.func327 rfl rfl ?_; intro ac h
 refine gz h <| (xb) fun b1=>(xb) fun b2=>(W) ?_; clear h ac; intro ac wo h
 have c1:=g8 r 30 og zr
 have s1:=ar (c1 w0)
 have p3:=ar ((aL x (aQ r) 10 og zx s1) w0)
 refine gz h <| (dr0 (hob:=(oK (c1)) <| (oK (aL x (aQ r) 10 og zx s1)) <| oE)) <| (W) ?_; clear h ac wo; intro ac wo h
 exact (rt h) (h.retP (by unfold iX; rfl) trivial)
attribute [irreducible] iX
def eG (x:GR):GI :=
 bif x.neg then
  (aK (bL (ab (ag x.p) (aa x.r)) (aH ((aC (ab (ab (aa x.p) (aa x.p)) (ab (ag x.r) (aa x.r)))).1) (aw 1))) (ab (aa x.p) (aa x.r))).1
 else
  (aK (aH (ab (ag x.p) (aa x.r)) ((aC (ab (ab (aa x.p) (aa x.p)) (ab (ag x.r) (aa x.r)))).1)) (ab (aa x.p) (aa x.r))).1
theorem rr (x:GR) (ht:(ab (ab (aa x.p) (aa x.p)) (ab (ag x.r) (aa x.r))).mag < 4∧SzI 40 (eG x)) (zx:SzR 36 x) (w0:World) :Calls Tryz.prog 120 #[(vR x)] w0 (dh w0 (vI (eG x)) (SzI 40 (eG x))):=by
 refine enter (N:=59) (args:=[(vR x)]) Tryz.func120 rfl rfl ?_; intro ac h
 refine gz h <| (xb) fun b1=>(xa) fun b2=>(W) ?_; clear h ac; intro ac wo h
 have c1:=lL x.p zx.1
 have s1:=Calls.pr (c1 w0)
 have s2:=ar ((bJ x.p 36 og zx.1) w0)
 replace h:=h.emps 2
 refine fU mixed [⟨.det (ptr b1 0),[]⟩,⟨.det (vQ x.p),[1]⟩,⟨.det (vI (ag x.p)),[]⟩,⟨.det (ptr b1 0),[]⟩,⟨.det (vQ x.p),[1]⟩,⟨.det (vI (aa x.p)),[]⟩,⟨.nd (.one 6 fun v=>∃ b,v=ptr b 0),[2]⟩,⟨.nd (.one 7 fun v=>∃ b,v=ptr b 0),[3]⟩,⟨.det undef,[2]⟩,⟨.det undef,[3]⟩] [⟨.blk b2 (cI (⟨false,0⟩:GI)) 27,[]⟩,⟨.blk b1 (cR x) 46,[]⟩,⟨.emp,[(6,.one 6 fun v=>.blk (bR v) (cI (⟨false,0⟩:GI)) 27),(8,.one 6 fun v=>.blk (bR v) (cI (ag x.p)) 27)]⟩,⟨.emp,[(7,.one 7 fun v=>.blk (bR v) (cI (⟨false,0⟩:GI)) 27),(9,.one 7 fun v=>.blk (bR v) (cI (aa x.p)) 27)]⟩] h rfl (by kernel_rfl) ⟨?_,?_,?_,?_,?_,?_,?_,?_,?_,?_,trivial⟩ ?_
 · intro ξ hφ; exact bk (fa uu46 rfl zz29 rfl rfl rfl (k':=0))
 · intro ξ hφ; exact jB [.blk b1 (cR x) 46] rfl rfl (kt aa29 zz29 rfl rfl rfl (v:=(vQ x.p)) rfl)
 · intro ξ hφ; exact i0 (fq (cz Tryz.call220 rfl) (kk c1))
 · intro ξ hφ; exact bk (fa uu46 rfl zz29 rfl rfl rfl (k':=0))
 · intro ξ hφ; exact jB [.blk b1 (cR x) 46] rfl rfl (kt aa29 zz29 rfl rfl rfl (v:=(vQ x.p)) rfl)
 · intro ξ hφ; exact i0 (fq (cz Tryz.call221 rfl) (kk (bJ x.p 36 og zx.1)))
 · intro ξ hφ; exact my (ψ:=fun v=>∃ b,v=ptr b 0) (B:=fun v=>[.blk (bR v) (cI (⟨false,0⟩:GI)) 27]) [.emp] rfl (fun v _=>by simp only [dJ,bt] <;> rfl) (fun v hv=>by simpa [DF.one,bt] using hv) (jh (gO vv27 rfl))
 · intro ξ hφ; exact my (ψ:=fun v=>∃ b,v=ptr b 0) (B:=fun v=>[.blk (bR v) (cI (⟨false,0⟩:GI)) 27]) [.emp] rfl (fun v _=>by simp only [dJ,bt] <;> rfl) (fun v hv=>by simpa [DF.one,bt] using hv) (jh (gO vv27 rfl))
 · intro ξ hφ; obtain ⟨b3,hb6⟩:=hφ 6 rfl; exact lS [.blk b3 (cI (⟨false,0⟩:GI)) 27] [.blk b3 (cI (ag x.p)) 27] (congrArg (fun v=>[Asn.blk (bR v) (cI (⟨false,0⟩:GI)) 27]) hb6) (congrArg (fun v=>[Asn.blk (bR v) (cI (ag x.p)) 27]) hb6) (qK zz27 (Eq.trans rfl (congrArg some hb6)) rfl rfl rfl rfl rfl rfl)
 · intro ξ hφ; obtain ⟨b4,hb7⟩:=hφ 7 rfl; exact lS [.blk b4 (cI (⟨false,0⟩:GI)) 27] [.blk b4 (cI (aa x.p)) 27] (congrArg (fun v=>[Asn.blk (bR v) (cI (⟨false,0⟩:GI)) 27]) hb7) (congrArg (fun v=>[Asn.blk (bR v) (cI (aa x.p)) 27]) hb7) (qK zz27 (Eq.trans rfl (congrArg some hb7)) rfl rfl rfl rfl rfl rfl)
 clear h ac wo; intro ξ ac wo hφ h
 replace h:St w0 59 [(1,(ptr b1 0)),(2,(ptr b2 0)),(3,ξ 6),(4,ξ 7)] [.blk b2 (cI (⟨false,0⟩:GI)) 27,.blk b1 (cR x) 46,.blk (bR (ξ 6)) (cI (ag x.p)) 27,.blk (bR (ξ 7)) (cI (aa x.p)) 27] ac wo:=(h.pick [0,1,2,3] (by decide)).sub ⟨rfl,rfl,rfl,rfl,trivial⟩
 revert h
 obtain ⟨b3,hb6⟩:∃ b,ξ 6=ptr b 0:=hφ 6
 obtain ⟨b4,hb7⟩:∃ b,ξ 7=ptr b 0:=hφ 7
 rw [hb6,hb7]; intro h
 clear hb6 hb7
 clear hφ ξ
 refine gz h <| (W) ?_; clear h ac wo; intro ac wo h
 have c3:=lL x.r zx.2
 have s3:=Calls.pr (c3 w0)
 have s4:=ar ((bJ x.r 36 og zx.2) w0)
 replace h:=h.emps 2
 refine fU mixed [⟨.det (ptr b1 4),[]⟩,⟨.det (vQ x.r),[1]⟩,⟨.det (vI (ag x.r)),[]⟩,⟨.det (ptr b1 4),[]⟩,⟨.det (vQ x.r),[1]⟩,⟨.det (vI (aa x.r)),[]⟩,⟨.nd (.one 6 fun v=>∃ b,v=ptr b 0),[4]⟩,⟨.nd (.one 7 fun v=>∃ b,v=ptr b 0),[5]⟩,⟨.det undef,[4]⟩,⟨.det undef,[5]⟩] [⟨.blk b2 (cI (⟨false,0⟩:GI)) 27,[]⟩,⟨.blk b1 (cR x) 46,[]⟩,⟨.blk b3 (cI (ag x.p)) 27,[]⟩,⟨.blk b4 (cI (aa x.p)) 27,[]⟩,⟨.emp,[(6,.one 6 fun v=>.blk (bR v) (cI (⟨false,0⟩:GI)) 27),(8,.one 6 fun v=>.blk (bR v) (cI (ag x.r)) 27)]⟩,⟨.emp,[(7,.one 7 fun v=>.blk (bR v) (cI (⟨false,0⟩:GI)) 27),(9,.one 7 fun v=>.blk (bR v) (cI (aa x.r)) 27)]⟩] h rfl (by kernel_rfl) ⟨?_,?_,?_,?_,?_,?_,?_,?_,?_,?_,trivial⟩ ?_
 · intro ξ hφ; exact bk (fa uu46 rfl zz29 rfl rfl rfl (k':=4))
 · intro ξ hφ; exact jB [.blk b1 (cR x) 46] rfl rfl (kt aa29 zz29 rfl rfl rfl (v:=(vQ x.r)) rfl)
 · intro ξ hφ; exact i0 (fq (cz Tryz.call220 rfl) (kk c3))
 · intro ξ hφ; exact bk (fa uu46 rfl zz29 rfl rfl rfl (k':=4))
 · intro ξ hφ; exact jB [.blk b1 (cR x) 46] rfl rfl (kt aa29 zz29 rfl rfl rfl (v:=(vQ x.r)) rfl)
 · intro ξ hφ; exact i0 (fq (cz Tryz.call221 rfl) (kk (bJ x.r 36 og zx.2)))
 · intro ξ hφ; exact my (ψ:=fun v=>∃ b,v=ptr b 0) (B:=fun v=>[.blk (bR v) (cI (⟨false,0⟩:GI)) 27]) [.emp] rfl (fun v _=>by simp only [dJ,bt] <;> rfl) (fun v hv=>by simpa [DF.one,bt] using hv) (jh (gO vv27 rfl))
 · intro ξ hφ; exact my (ψ:=fun v=>∃ b,v=ptr b 0) (B:=fun v=>[.blk (bR v) (cI (⟨false,0⟩:GI)) 27]) [.emp] rfl (fun v _=>by simp only [dJ,bt] <;> rfl) (fun v hv=>by simpa [DF.one,bt] using hv) (jh (gO vv27 rfl))
 · intro ξ hφ; obtain ⟨b5,hb6⟩:=hφ 6 rfl; exact lS [.blk b5 (cI (⟨false,0⟩:GI)) 27] [.blk b5 (cI (ag x.r)) 27] (congrArg (fun v=>[Asn.blk (bR v) (cI (⟨false,0⟩:GI)) 27]) hb6) (congrArg (fun v=>[Asn.blk (bR v) (cI (ag x.r)) 27]) hb6) (qK zz27 (Eq.trans rfl (congrArg some hb6)) rfl rfl rfl rfl rfl rfl)
 · intro ξ hφ; obtain ⟨b6,hb7⟩:=hφ 7 rfl; exact lS [.blk b6 (cI (⟨false,0⟩:GI)) 27] [.blk b6 (cI (aa x.r)) 27] (congrArg (fun v=>[Asn.blk (bR v) (cI (⟨false,0⟩:GI)) 27]) hb7) (congrArg (fun v=>[Asn.blk (bR v) (cI (aa x.r)) 27]) hb7) (qK zz27 (Eq.trans rfl (congrArg some hb7)) rfl rfl rfl rfl rfl rfl)
 clear h ac wo; intro ξ ac wo hφ h
 replace h:St w0 59 [(1,(ptr b1 0)),(2,(ptr b2 0)),(3,(ptr b3 0)),(4,(ptr b4 0)),(5,ξ 6),(6,ξ 7)] [.blk b2 (cI (⟨false,0⟩:GI)) 27,.blk b1 (cR x) 46,.blk b3 (cI (ag x.p)) 27,.blk b4 (cI (aa x.p)) 27,.blk (bR (ξ 6)) (cI (ag x.r)) 27,.blk (bR (ξ 7)) (cI (aa x.r)) 27] ac wo:=(h.pick [0,1,2,3,4,5] (by decide)).sub ⟨rfl,rfl,rfl,rfl,rfl,rfl,trivial⟩
 revert h
 obtain ⟨b5,hb6⟩:∃ b,ξ 6=ptr b 0:=hφ 6
 obtain ⟨b6,hb7⟩:∃ b,ξ 7=ptr b 0:=hφ 7
 rw [hb6,hb7]; intro h
 clear hb6 hb7
 clear hφ ξ
 refine gz h <| (W) ?_; clear h ac wo; intro ac wo h
 have s5:=ar ((bU (aa x.p) (aa x.p) 35 og s2 s2) w0)
 have s6:=ar ((bU (ag x.r) (aa x.r) 35 og s3 s4) w0)
 have s7:=ar ((bU (ab (aa x.p) (aa x.p)) (ab (ag x.r) (aa x.r)) 34 og s5 s6) w0)
 have s8:=Calls.pr ((fun w_ hB_ hS_=>l7 (ab (ab (aa x.p) (aa x.p)) (ab (ag x.r) (aa x.r))) (ht.1) (fV s7 og) w_ ) _ h.bel h.sep)
 replace h:=h.emps 1
 refine fU mixed [⟨.det (vI (aa x.p)),[3]⟩,⟨.det (vI (aa x.p)),[3]⟩,⟨.det (vI (ab (aa x.p) (aa x.p))),[]⟩,⟨.det (vI (ag x.r)),[4]⟩,⟨.det (vI (aa x.r)),[5]⟩,⟨.det (vI (ab (ag x.r) (aa x.r))),[]⟩,⟨.det (vI (ab (ab (aa x.p) (aa x.p)) (ab (ag x.r) (aa x.r)))),[]⟩,⟨.det (.tuple #[(vI ((aC (ab (ab (aa x.p) (aa x.p)) (ab (ag x.r) (aa x.r)))).1)),(.int .i64 ((aC (ab (ab (aa x.p) (aa x.p)) (ab (ag x.r) (aa x.r)))).2))]),[]⟩,⟨.det (.tuple #[(vI ((aC (ab (ab (aa x.p) (aa x.p)) (ab (ag x.r) (aa x.r)))).1)),(.int .i64 ((aC (ab (ab (aa x.p) (aa x.p)) (ab (ag x.r) (aa x.r)))).2))]),[]⟩,⟨.det (vI ((aC (ab (ab (aa x.p) (aa x.p)) (ab (ag x.r) (aa x.r)))).1)),[]⟩,⟨.det (.int .i64 ((aC (ab (ab (aa x.p) (aa x.p)) (ab (ag x.r) (aa x.r)))).2)),[]⟩,⟨.nd (.one 11 fun v=>∃ b,v=ptr b 0),[6]⟩,⟨.det undef,[6]⟩,⟨.det (.int .i64 ((aC (ab (ab (aa x.p) (aa x.p)) (ab (ag x.r) (aa x.r)))).2)),[]⟩] [⟨.blk b2 (cI (⟨false,0⟩:GI)) 27,[]⟩,⟨.blk b1 (cR x) 46,[]⟩,⟨.blk b3 (cI (ag x.p)) 27,[]⟩,⟨.blk b4 (cI (aa x.p)) 27,[]⟩,⟨.blk b5 (cI (ag x.r)) 27,[]⟩,⟨.blk b6 (cI (aa x.r)) 27,[]⟩,⟨.emp,[(11,.one 11 fun v=>.blk (bR v) (cI (⟨false,0⟩:GI)) 27),(12,.one 11 fun v=>.blk (bR v) (cI ((aC (ab (ab (aa x.p) (aa x.p)) (ab (ag x.r) (aa x.r)))).1)) 27)]⟩] h rfl (by kernel_rfl) ⟨?_,?_,?_,?_,?_,?_,?_,?_,?_,?_,?_,?_,?_,?_,trivial⟩ ?_
 · intro ξ hφ; exact jB [.blk b4 (cI (aa x.p)) 27] rfl rfl (kt aa27 zz27 rfl rfl rfl (v:=(vI (aa x.p))) rfl)
 · intro ξ hφ; exact jB [.blk b4 (cI (aa x.p)) 27] rfl rfl (kt aa27 zz27 rfl rfl rfl (v:=(vI (aa x.p))) rfl)
 · intro ξ hφ; exact i0 (fq (vs:=[(vI (aa x.p)),(vI (aa x.p))]) (cz cc223 rfl) (fun w_ hB_ hS_=>(bU (aa x.p) (aa x.p) 35 og s2 s2) w_))
 · intro ξ hφ; exact jB [.blk b5 (cI (ag x.r)) 27] rfl rfl (kt aa27 zz27 rfl rfl rfl (v:=(vI (ag x.r))) rfl)
 · intro ξ hφ; exact jB [.blk b6 (cI (aa x.r)) 27] rfl rfl (kt aa27 zz27 rfl rfl rfl (v:=(vI (aa x.r))) rfl)
 · intro ξ hφ; exact i0 (fq (cz cc223 rfl) (kk (bU (ag x.r) (aa x.r) 35 og s3 s4)))
 · intro ξ hφ; exact i0 (fq (cz cc223 rfl) (kk (bU (ab (aa x.p) (aa x.p)) (ab (ag x.r) (aa x.r)) 34 og s5 s6)))
 · intro ξ hφ; exact i0 (fq (cz Tryz.call222 rfl) (kk (l7 (ab (ab (aa x.p) (aa x.p)) (ab (ag x.r) (aa x.r))) (ht.1) (fV s7 og))))
 · intro ξ hφ; exact bk (ay rfl)
 · intro ξ hφ; exact bk (cY rfl rfl)
 · intro ξ hφ; exact bk (cY rfl rfl)
 · intro ξ hφ; exact my (ψ:=fun v=>∃ b,v=ptr b 0) (B:=fun v=>[.blk (bR v) (cI (⟨false,0⟩:GI)) 27]) [.emp] rfl (fun v _=>by simp only [dJ,bt] <;> rfl) (fun v hv=>by simpa [DF.one,bt] using hv) (jh (gO vv27 rfl))
 · intro ξ hφ; obtain ⟨b7,hb11⟩:=hφ 11 rfl; exact lS [.blk b7 (cI (⟨false,0⟩:GI)) 27] [.blk b7 (cI ((aC (ab (ab (aa x.p) (aa x.p)) (ab (ag x.r) (aa x.r)))).1)) 27] (congrArg (fun v=>[Asn.blk (bR v) (cI (⟨false,0⟩:GI)) 27]) hb11) (congrArg (fun v=>[Asn.blk (bR v) (cI ((aC (ab (ab (aa x.p) (aa x.p)) (ab (ag x.r) (aa x.r)))).1)) 27]) hb11) (qK zz27 (Eq.trans rfl (congrArg some hb11)) rfl rfl rfl rfl rfl rfl)
 · intro ξ hφ; exact bk (aA rfl)
 clear h ac wo; intro ξ ac wo hφ h
 replace h:St w0 59 [(1,(ptr b1 0)),(2,(ptr b2 0)),(3,(ptr b3 0)),(4,(ptr b4 0)),(6,(ptr b6 0)),(7,ξ 11)] [.blk b2 (cI (⟨false,0⟩:GI)) 27,.blk b1 (cR x) 46,.blk b3 (cI (ag x.p)) 27,.blk b4 (cI (aa x.p)) 27,.blk b5 (cI (ag x.r)) 27,.blk b6 (cI (aa x.r)) 27,.blk (bR (ξ 11)) (cI ((aC (ab (ab (aa x.p) (aa x.p)) (ab (ag x.r) (aa x.r)))).1)) 27] ac wo:=(h.pick [0,1,2,3,4,5,6] (by decide)).sub ⟨rfl,rfl,rfl,rfl,rfl,rfl,trivial⟩
 revert h
 obtain ⟨b7,hb11⟩:∃ b,ξ 11=ptr b 0:=hφ 11
 rw [hb11]; intro h
 clear hb11
 clear hφ ξ
 have c9:=bU (ag x.p) (aa x.r) 35 og s1 s4
 have s9:=ar (c9 w0)
 refine gz h <| (xk (c9)) <| (xa) fun b8=>(ai) ?_ ?_ <;> clear h ac wo <;> intro ac wo h hc1
 ·
   have hq1:=hc1; try simp at hq1
   have s10:=ar ((eR 1 40 og  og) w0)
   have s11:=ar ((fJ ((aC (ab (ab (aa x.p) (aa x.p)) (ab (ag x.r) (aa x.r)))).1) (aw 1) 28 og s8 (fV s10 og)) w0)
   have s12:=Calls.pr ((fun w_ hB_ hS_=>mE (ab (ag x.p) (aa x.r)) (aH ((aC (ab (ab (aa x.p) (aa x.p)) (ab (ag x.r) (aa x.r)))).1) (aw 1)) (fV s9 og) s11 w_ ) _ h.bel h.sep)
   refine gz h <| (dr1 (H:=[⟨.blk b8 (cI (ab (ag x.p) (aa x.r))) 27,[(5,.con (.blk b8 (cI (bL (ab (ag x.p) (aa x.r)) (aH ((aC (ab (ab (aa x.p) (aa x.p)) (ab (ag x.r) (aa x.r)))).1) (aw 1)))) 27))]⟩,⟨.blk b2 (cI (⟨false,0⟩:GI)) 27,[]⟩,⟨.blk b1 (cR x) 46,[]⟩,⟨.blk b3 (cI (ag x.p)) 27,[]⟩,⟨.blk b4 (cI (aa x.p)) 27,[]⟩,⟨.blk b5 (cI (ag x.r)) 27,[]⟩,⟨.blk b6 (cI (aa x.r)) 27,[]⟩,⟨.blk b7 (cI ((aC (ab (ab (aa x.p) (aa x.p)) (ab (ag x.r) (aa x.r)))).1)) 27,[]⟩]) (hob:=(oX (h:=by exact fun _=>i0 (fq (vs:=[(.int .i64 1)]) (cz Tryz.call199 rfl) (fun w_ hB_ hS_=>(eR 1 40 og  og) w_)))) <| (oK (fJ ((aC (ab (ab (aa x.p) (aa x.p)) (ab (ag x.r) (aa x.r)))).1) (aw 1) 28 og s8 (fV s10 og))) <| (oK (mE (ab (ag x.p) (aa x.r)) (aH ((aC (ab (ab (aa x.p) (aa x.p)) (ab (ag x.r) (aa x.r)))).1) (aw 1)) (fV s9 og) s11)) <| oE)) <| (W) ?_; clear h ac wo; intro ac wo h
   have c13:=bU (aa x.p) (aa x.r) 35 og s2 s4
   have s13:=ar (c13 w0)
   have s14:=ar ((gj (bL (ab (ag x.p) (aa x.r)) (aH ((aC (ab (ab (aa x.p) (aa x.p)) (ab (ag x.r) (aa x.r)))).1) (aw 1))) (ab (aa x.p) (aa x.r)) 25 og s12 (fV s13 og)) w0)
   replace h:=h.emps 2
   refine fU mixed [⟨.det (vI (bL (ab (ag x.p) (aa x.r)) (aH ((aC (ab (ab (aa x.p) (aa x.p)) (ab (ag x.r) (aa x.r)))).1) (aw 1)))),[0]⟩,⟨.det (vI (aa x.p)),[4]⟩,⟨.det (vI (aa x.r)),[6]⟩,⟨.det (vI (ab (aa x.p) (aa x.r))),[]⟩,⟨.det (.tuple #[(vI ((aK (bL (ab (ag x.p) (aa x.r)) (aH ((aC (ab (ab (aa x.p) (aa x.p)) (ab (ag x.r) (aa x.r)))).1) (aw 1))) (ab (aa x.p) (aa x.r))).1)),(vI ((aK (bL (ab (ag x.p) (aa x.r)) (aH ((aC (ab (ab (aa x.p) (aa x.p)) (ab (ag x.r) (aa x.r)))).1) (aw 1))) (ab (aa x.p) (aa x.r))).2.1)),(.int .i64 ((aK (bL (ab (ag x.p) (aa x.r)) (aH ((aC (ab (ab (aa x.p) (aa x.p)) (ab (ag x.r) (aa x.r)))).1) (aw 1))) (ab (aa x.p) (aa x.r))).2.2))]),[]⟩,⟨.det (.tuple #[(vI ((aK (bL (ab (ag x.p) (aa x.r)) (aH ((aC (ab (ab (aa x.p) (aa x.p)) (ab (ag x.r) (aa x.r)))).1) (aw 1))) (ab (aa x.p) (aa x.r))).1)),(vI ((aK (bL (ab (ag x.p) (aa x.r)) (aH ((aC (ab (ab (aa x.p) (aa x.p)) (ab (ag x.r) (aa x.r)))).1) (aw 1))) (ab (aa x.p) (aa x.r))).2.1)),(.int .i64 ((aK (bL (ab (ag x.p) (aa x.r)) (aH ((aC (ab (ab (aa x.p) (aa x.p)) (ab (ag x.r) (aa x.r)))).1) (aw 1))) (ab (aa x.p) (aa x.r))).2.2))]),[]⟩,⟨.det (vI ((aK (bL (ab (ag x.p) (aa x.r)) (aH ((aC (ab (ab (aa x.p) (aa x.p)) (ab (ag x.r) (aa x.r)))).1) (aw 1))) (ab (aa x.p) (aa x.r))).1)),[]⟩,⟨.det (vI ((aK (bL (ab (ag x.p) (aa x.r)) (aH ((aC (ab (ab (aa x.p) (aa x.p)) (ab (ag x.r) (aa x.r)))).1) (aw 1))) (ab (aa x.p) (aa x.r))).2.1)),[]⟩,⟨.det (.int .i64 ((aK (bL (ab (ag x.p) (aa x.r)) (aH ((aC (ab (ab (aa x.p) (aa x.p)) (ab (ag x.r) (aa x.r)))).1) (aw 1))) (ab (aa x.p) (aa x.r))).2.2)),[]⟩,⟨.nd (.one 9 fun v=>∃ b,v=ptr b 0),[8]⟩,⟨.nd (.one 10 fun v=>∃ b,v=ptr b 0),[9]⟩,⟨.det undef,[8]⟩,⟨.det undef,[9]⟩,⟨.det (.int .i64 ((aK (bL (ab (ag x.p) (aa x.r)) (aH ((aC (ab (ab (aa x.p) (aa x.p)) (ab (ag x.r) (aa x.r)))).1) (aw 1))) (ab (aa x.p) (aa x.r))).2.2)),[]⟩] [⟨.blk b8 (cI (bL (ab (ag x.p) (aa x.r)) (aH ((aC (ab (ab (aa x.p) (aa x.p)) (ab (ag x.r) (aa x.r)))).1) (aw 1)))) 27,[]⟩,⟨.blk b2 (cI (⟨false,0⟩:GI)) 27,[]⟩,⟨.blk b1 (cR x) 46,[]⟩,⟨.blk b3 (cI (ag x.p)) 27,[]⟩,⟨.blk b4 (cI (aa x.p)) 27,[]⟩,⟨.blk b5 (cI (ag x.r)) 27,[]⟩,⟨.blk b6 (cI (aa x.r)) 27,[]⟩,⟨.blk b7 (cI ((aC (ab (ab (aa x.p) (aa x.p)) (ab (ag x.r) (aa x.r)))).1)) 27,[]⟩,⟨.emp,[(9,.one 9 fun v=>.blk (bR v) (cI (⟨false,0⟩:GI)) 27),(11,.one 9 fun v=>.blk (bR v) (cI ((aK (bL (ab (ag x.p) (aa x.r)) (aH ((aC (ab (ab (aa x.p) (aa x.p)) (ab (ag x.r) (aa x.r)))).1) (aw 1))) (ab (aa x.p) (aa x.r))).1)) 27)]⟩,⟨.emp,[(10,.one 10 fun v=>.blk (bR v) (cI (⟨false,0⟩:GI)) 27),(12,.one 10 fun v=>.blk (bR v) (cI ((aK (bL (ab (ag x.p) (aa x.r)) (aH ((aC (ab (ab (aa x.p) (aa x.p)) (ab (ag x.r) (aa x.r)))).1) (aw 1))) (ab (aa x.p) (aa x.r))).2.1)) 27)]⟩] h rfl (by kernel_rfl) ⟨?_,?_,?_,?_,?_,?_,?_,?_,?_,?_,?_,?_,?_,?_,trivial⟩ ?_
   · intro ξ hφ; exact jB [.blk b8 (cI (bL (ab (ag x.p) (aa x.r)) (aH ((aC (ab (ab (aa x.p) (aa x.p)) (ab (ag x.r) (aa x.r)))).1) (aw 1)))) 27] rfl rfl (kt aa27 zz27 rfl rfl rfl (v:=(vI (bL (ab (ag x.p) (aa x.r)) (aH ((aC (ab (ab (aa x.p) (aa x.p)) (ab (ag x.r) (aa x.r)))).1) (aw 1))))) rfl)
   · intro ξ hφ; exact jB [.blk b4 (cI (aa x.p)) 27] rfl rfl (kt aa27 zz27 rfl rfl rfl (v:=(vI (aa x.p))) rfl)
   · intro ξ hφ; exact jB [.blk b6 (cI (aa x.r)) 27] rfl rfl (kt aa27 zz27 rfl rfl rfl (v:=(vI (aa x.r))) rfl)
   · intro ξ hφ; exact i0 (fq (cz cc223 rfl) (kk c13))
   · intro ξ hφ; exact i0 (fq (cz Tryz.call225 rfl) (kk (gj (bL (ab (ag x.p) (aa x.r)) (aH ((aC (ab (ab (aa x.p) (aa x.p)) (ab (ag x.r) (aa x.r)))).1) (aw 1))) (ab (aa x.p) (aa x.r)) 25 og s12 (fV s13 og))))
   · intro ξ hφ; exact bk (ay rfl)
   · intro ξ hφ; exact bk (cY rfl rfl)
   · intro ξ hφ; exact bk (cY rfl rfl)
   · intro ξ hφ; exact bk (cY rfl rfl)
   · intro ξ hφ; exact my (ψ:=fun v=>∃ b,v=ptr b 0) (B:=fun v=>[.blk (bR v) (cI (⟨false,0⟩:GI)) 27]) [.emp] rfl (fun v _=>by simp only [dJ,bt] <;> rfl) (fun v hv=>by simpa [DF.one,bt] using hv) (jh (gO vv27 rfl))
   · intro ξ hφ; exact my (ψ:=fun v=>∃ b,v=ptr b 0) (B:=fun v=>[.blk (bR v) (cI (⟨false,0⟩:GI)) 27]) [.emp] rfl (fun v _=>by simp only [dJ,bt] <;> rfl) (fun v hv=>by simpa [DF.one,bt] using hv) (jh (gO vv27 rfl))
   · intro ξ hφ; obtain ⟨b9,hb9⟩:=hφ 9 rfl; exact lS [.blk b9 (cI (⟨false,0⟩:GI)) 27] [.blk b9 (cI ((aK (bL (ab (ag x.p) (aa x.r)) (aH ((aC (ab (ab (aa x.p) (aa x.p)) (ab (ag x.r) (aa x.r)))).1) (aw 1))) (ab (aa x.p) (aa x.r))).1)) 27] (congrArg (fun v=>[Asn.blk (bR v) (cI (⟨false,0⟩:GI)) 27]) hb9) (congrArg (fun v=>[Asn.blk (bR v) (cI ((aK (bL (ab (ag x.p) (aa x.r)) (aH ((aC (ab (ab (aa x.p) (aa x.p)) (ab (ag x.r) (aa x.r)))).1) (aw 1))) (ab (aa x.p) (aa x.r))).1)) 27]) hb9) (qK zz27 (Eq.trans rfl (congrArg some hb9)) rfl rfl rfl rfl rfl rfl)
   · intro ξ hφ; obtain ⟨b10,hb10⟩:=hφ 10 rfl; exact lS [.blk b10 (cI (⟨false,0⟩:GI)) 27] [.blk b10 (cI ((aK (bL (ab (ag x.p) (aa x.r)) (aH ((aC (ab (ab (aa x.p) (aa x.p)) (ab (ag x.r) (aa x.r)))).1) (aw 1))) (ab (aa x.p) (aa x.r))).2.1)) 27] (congrArg (fun v=>[Asn.blk (bR v) (cI (⟨false,0⟩:GI)) 27]) hb10) (congrArg (fun v=>[Asn.blk (bR v) (cI ((aK (bL (ab (ag x.p) (aa x.r)) (aH ((aC (ab (ab (aa x.p) (aa x.p)) (ab (ag x.r) (aa x.r)))).1) (aw 1))) (ab (aa x.p) (aa x.r))).2.1)) 27]) hb10) (qK zz27 (Eq.trans rfl (congrArg some hb10)) rfl rfl rfl rfl rfl rfl)
   · intro ξ hφ; exact bk (aA rfl)
   clear h ac wo; intro ξ ac wo hφ h
   replace h:St w0 59 [(2,(ptr b2 0)),(10,ξ 9)] [.blk b8 (cI (bL (ab (ag x.p) (aa x.r)) (aH ((aC (ab (ab (aa x.p) (aa x.p)) (ab (ag x.r) (aa x.r)))).1) (aw 1)))) 27,.blk b2 (cI (⟨false,0⟩:GI)) 27,.blk b1 (cR x) 46,.blk b3 (cI (ag x.p)) 27,.blk b4 (cI (aa x.p)) 27,.blk b5 (cI (ag x.r)) 27,.blk b6 (cI (aa x.r)) 27,.blk b7 (cI ((aC (ab (ab (aa x.p) (aa x.p)) (ab (ag x.r) (aa x.r)))).1)) 27,.blk (bR (ξ 9)) (cI ((aK (bL (ab (ag x.p) (aa x.r)) (aH ((aC (ab (ab (aa x.p) (aa x.p)) (ab (ag x.r) (aa x.r)))).1) (aw 1))) (ab (aa x.p) (aa x.r))).1)) 27,.blk (bR (ξ 10)) (cI ((aK (bL (ab (ag x.p) (aa x.r)) (aH ((aC (ab (ab (aa x.p) (aa x.p)) (ab (ag x.r) (aa x.r)))).1) (aw 1))) (ab (aa x.p) (aa x.r))).2.1)) 27] ac wo:=(h.pick [0,1,2,3,4,5,6,7,8,9] (by decide)).sub ⟨rfl,rfl,trivial⟩
   revert h
   obtain ⟨b9,hb9⟩:∃ b,ξ 9=ptr b 0:=hφ 9
   obtain ⟨b10,hb10⟩:∃ b,ξ 10=ptr b 0:=hφ 10
   rw [hb9,hb10]; intro h
   clear hb9 hb10
   clear hφ ξ
   have hd:eG x=(aK (bL (ab (ag x.p) (aa x.r)) (aH ((aC (ab (ab (aa x.p) (aa x.p)) (ab (ag x.r) (aa x.r)))).1) (aw 1))) (ab (aa x.p) (aa x.r))).1:=pt
   refine gz h <| (W) ?_; clear h ac wo; intro ac wo h
   exact ret h rfl (.cell (v:=(vI ((aK (bL (ab (ag x.p) (aa x.r)) (aH ((aC (ab (ab (aa x.p) (aa x.p)) (ab (ag x.r) (aa x.r)))).1) (aw 1))) (ab (aa x.p) (aa x.r))).1))) rfl (i:=1) rfl aa27 zz27 rfl rfl rfl .nil) rfl (h.retP (by rw [hd] <;> rfl) (by rw [hd]; exact (by rw [← hd]; exact ht.2)))
 ·
   have hq1:=hc1; try simp at hq1
   have c15:=fJ (ab (ag x.p) (aa x.r)) ((aC (ab (ab (aa x.p) (aa x.p)) (ab (ag x.r) (aa x.r)))).1) 28 og (fV s9 og) s8
   have s15:=ar (c15 w0)
   refine gz h <| (xk (c15)) <| (W) ?_; clear h ac wo; intro ac wo h
   have c16:=bU (aa x.p) (aa x.r) 35 og s2 s4
   have s16:=ar (c16 w0)
   have s17:=ar ((gj (aH (ab (ag x.p) (aa x.r)) ((aC (ab (ab (aa x.p) (aa x.p)) (ab (ag x.r) (aa x.r)))).1)) (ab (aa x.p) (aa x.r)) 27 og s15 (fV s16 og)) w0)
   replace h:=h.emps 2
   refine fU mixed [⟨.det (vI (aH (ab (ag x.p) (aa x.r)) ((aC (ab (ab (aa x.p) (aa x.p)) (ab (ag x.r) (aa x.r)))).1))),[0]⟩,⟨.det (vI (aa x.p)),[4]⟩,⟨.det (vI (aa x.r)),[6]⟩,⟨.det (vI (ab (aa x.p) (aa x.r))),[]⟩,⟨.det (.tuple #[(vI ((aK (aH (ab (ag x.p) (aa x.r)) ((aC (ab (ab (aa x.p) (aa x.p)) (ab (ag x.r) (aa x.r)))).1)) (ab (aa x.p) (aa x.r))).1)),(vI ((aK (aH (ab (ag x.p) (aa x.r)) ((aC (ab (ab (aa x.p) (aa x.p)) (ab (ag x.r) (aa x.r)))).1)) (ab (aa x.p) (aa x.r))).2.1)),(.int .i64 ((aK (aH (ab (ag x.p) (aa x.r)) ((aC (ab (ab (aa x.p) (aa x.p)) (ab (ag x.r) (aa x.r)))).1)) (ab (aa x.p) (aa x.r))).2.2))]),[]⟩,⟨.det (.tuple #[(vI ((aK (aH (ab (ag x.p) (aa x.r)) ((aC (ab (ab (aa x.p) (aa x.p)) (ab (ag x.r) (aa x.r)))).1)) (ab (aa x.p) (aa x.r))).1)),(vI ((aK (aH (ab (ag x.p) (aa x.r)) ((aC (ab (ab (aa x.p) (aa x.p)) (ab (ag x.r) (aa x.r)))).1)) (ab (aa x.p) (aa x.r))).2.1)),(.int .i64 ((aK (aH (ab (ag x.p) (aa x.r)) ((aC (ab (ab (aa x.p) (aa x.p)) (ab (ag x.r) (aa x.r)))).1)) (ab (aa x.p) (aa x.r))).2.2))]),[]⟩,⟨.det (vI ((aK (aH (ab (ag x.p) (aa x.r)) ((aC (ab (ab (aa x.p) (aa x.p)) (ab (ag x.r) (aa x.r)))).1)) (ab (aa x.p) (aa x.r))).1)),[]⟩,⟨.det (vI ((aK (aH (ab (ag x.p) (aa x.r)) ((aC (ab (ab (aa x.p) (aa x.p)) (ab (ag x.r) (aa x.r)))).1)) (ab (aa x.p) (aa x.r))).2.1)),[]⟩,⟨.det (.int .i64 ((aK (aH (ab (ag x.p) (aa x.r)) ((aC (ab (ab (aa x.p) (aa x.p)) (ab (ag x.r) (aa x.r)))).1)) (ab (aa x.p) (aa x.r))).2.2)),[]⟩,⟨.nd (.one 9 fun v=>∃ b,v=ptr b 0),[8]⟩,⟨.nd (.one 10 fun v=>∃ b,v=ptr b 0),[9]⟩,⟨.det undef,[8]⟩,⟨.det undef,[9]⟩,⟨.det (.int .i64 ((aK (aH (ab (ag x.p) (aa x.r)) ((aC (ab (ab (aa x.p) (aa x.p)) (ab (ag x.r) (aa x.r)))).1)) (ab (aa x.p) (aa x.r))).2.2)),[]⟩] [⟨.blk b8 (cI (aH (ab (ag x.p) (aa x.r)) ((aC (ab (ab (aa x.p) (aa x.p)) (ab (ag x.r) (aa x.r)))).1))) 27,[]⟩,⟨.blk b2 (cI (⟨false,0⟩:GI)) 27,[]⟩,⟨.blk b1 (cR x) 46,[]⟩,⟨.blk b3 (cI (ag x.p)) 27,[]⟩,⟨.blk b4 (cI (aa x.p)) 27,[]⟩,⟨.blk b5 (cI (ag x.r)) 27,[]⟩,⟨.blk b6 (cI (aa x.r)) 27,[]⟩,⟨.blk b7 (cI ((aC (ab (ab (aa x.p) (aa x.p)) (ab (ag x.r) (aa x.r)))).1)) 27,[]⟩,⟨.emp,[(9,.one 9 fun v=>.blk (bR v) (cI (⟨false,0⟩:GI)) 27),(11,.one 9 fun v=>.blk (bR v) (cI ((aK (aH (ab (ag x.p) (aa x.r)) ((aC (ab (ab (aa x.p) (aa x.p)) (ab (ag x.r) (aa x.r)))).1)) (ab (aa x.p) (aa x.r))).1)) 27)]⟩,⟨.emp,[(10,.one 10 fun v=>.blk (bR v) (cI (⟨false,0⟩:GI)) 27),(12,.one 10 fun v=>.blk (bR v) (cI ((aK (aH (ab (ag x.p) (aa x.r)) ((aC (ab (ab (aa x.p) (aa x.p)) (ab (ag x.r) (aa x.r)))).1)) (ab (aa x.p) (aa x.r))).2.1)) 27)]⟩] h rfl (by kernel_rfl) ⟨?_,?_,?_,?_,?_,?_,?_,?_,?_,?_,?_,?_,?_,?_,trivial⟩ ?_
   · intro ξ hφ; exact jB [.blk b8 (cI (aH (ab (ag x.p) (aa x.r)) ((aC (ab (ab (aa x.p) (aa x.p)) (ab (ag x.r) (aa x.r)))).1))) 27] rfl rfl (kt aa27 zz27 rfl rfl rfl (v:=(vI (aH (ab (ag x.p) (aa x.r)) ((aC (ab (ab (aa x.p) (aa x.p)) (ab (ag x.r) (aa x.r)))).1)))) rfl)
   · intro ξ hφ; exact jB [.blk b4 (cI (aa x.p)) 27] rfl rfl (kt aa27 zz27 rfl rfl rfl (v:=(vI (aa x.p))) rfl)
   · intro ξ hφ; exact jB [.blk b6 (cI (aa x.r)) 27] rfl rfl (kt aa27 zz27 rfl rfl rfl (v:=(vI (aa x.r))) rfl)
   · intro ξ hφ; exact i0 (fq (cz cc223 rfl) (kk c16))
   · intro ξ hφ; exact i0 (fq (cz Tryz.call225 rfl) (kk (gj (aH (ab (ag x.p) (aa x.r)) ((aC (ab (ab (aa x.p) (aa x.p)) (ab (ag x.r) (aa x.r)))).1)) (ab (aa x.p) (aa x.r)) 27 og s15 (fV s16 og))))
   · intro ξ hφ; exact bk (ay rfl)
   · intro ξ hφ; exact bk (cY rfl rfl)
   · intro ξ hφ; exact bk (cY rfl rfl)
   · intro ξ hφ; exact bk (cY rfl rfl)
   · intro ξ hφ; exact my (ψ:=fun v=>∃ b,v=ptr b 0) (B:=fun v=>[.blk (bR v) (cI (⟨false,0⟩:GI)) 27]) [.emp] rfl (fun v _=>by simp only [dJ,bt] <;> rfl) (fun v hv=>by simpa [DF.one,bt] using hv) (jh (gO vv27 rfl))
   · intro ξ hφ; exact my (ψ:=fun v=>∃ b,v=ptr b 0) (B:=fun v=>[.blk (bR v) (cI (⟨false,0⟩:GI)) 27]) [.emp] rfl (fun v _=>by simp only [dJ,bt] <;> rfl) (fun v hv=>by simpa [DF.one,bt] using hv) (jh (gO vv27 rfl))
   · intro ξ hφ; obtain ⟨b11,hb9⟩:=hφ 9 rfl; exact lS [.blk b11 (cI (⟨false,0⟩:GI)) 27] [.blk b11 (cI ((aK (aH (ab (ag x.p) (aa x.r)) ((aC (ab (ab (aa x.p) (aa x.p)) (ab (ag x.r) (aa x.r)))).1)) (ab (aa x.p) (aa x.r))).1)) 27] (congrArg (fun v=>[Asn.blk (bR v) (cI (⟨false,0⟩:GI)) 27]) hb9) (congrArg (fun v=>[Asn.blk (bR v) (cI ((aK (aH (ab (ag x.p) (aa x.r)) ((aC (ab (ab (aa x.p) (aa x.p)) (ab (ag x.r) (aa x.r)))).1)) (ab (aa x.p) (aa x.r))).1)) 27]) hb9) (qK zz27 (Eq.trans rfl (congrArg some hb9)) rfl rfl rfl rfl rfl rfl)
   · intro ξ hφ; obtain ⟨b12,hb10⟩:=hφ 10 rfl; exact lS [.blk b12 (cI (⟨false,0⟩:GI)) 27] [.blk b12 (cI ((aK (aH (ab (ag x.p) (aa x.r)) ((aC (ab (ab (aa x.p) (aa x.p)) (ab (ag x.r) (aa x.r)))).1)) (ab (aa x.p) (aa x.r))).2.1)) 27] (congrArg (fun v=>[Asn.blk (bR v) (cI (⟨false,0⟩:GI)) 27]) hb10) (congrArg (fun v=>[Asn.blk (bR v) (cI ((aK (aH (ab (ag x.p) (aa x.r)) ((aC (ab (ab (aa x.p) (aa x.p)) (ab (ag x.r) (aa x.r)))).1)) (ab (aa x.p) (aa x.r))).2.1)) 27]) hb10) (qK zz27 (Eq.trans rfl (congrArg some hb10)) rfl rfl rfl rfl rfl rfl)
   · intro ξ hφ; exact bk (aA rfl)
   clear h ac wo; intro ξ ac wo hφ h
   replace h:St w0 59 [(2,(ptr b2 0)),(10,ξ 9)] [.blk b8 (cI (aH (ab (ag x.p) (aa x.r)) ((aC (ab (ab (aa x.p) (aa x.p)) (ab (ag x.r) (aa x.r)))).1))) 27,.blk b2 (cI (⟨false,0⟩:GI)) 27,.blk b1 (cR x) 46,.blk b3 (cI (ag x.p)) 27,.blk b4 (cI (aa x.p)) 27,.blk b5 (cI (ag x.r)) 27,.blk b6 (cI (aa x.r)) 27,.blk b7 (cI ((aC (ab (ab (aa x.p) (aa x.p)) (ab (ag x.r) (aa x.r)))).1)) 27,.blk (bR (ξ 9)) (cI ((aK (aH (ab (ag x.p) (aa x.r)) ((aC (ab (ab (aa x.p) (aa x.p)) (ab (ag x.r) (aa x.r)))).1)) (ab (aa x.p) (aa x.r))).1)) 27,.blk (bR (ξ 10)) (cI ((aK (aH (ab (ag x.p) (aa x.r)) ((aC (ab (ab (aa x.p) (aa x.p)) (ab (ag x.r) (aa x.r)))).1)) (ab (aa x.p) (aa x.r))).2.1)) 27] ac wo:=(h.pick [0,1,2,3,4,5,6,7,8,9] (by decide)).sub ⟨rfl,rfl,trivial⟩
   revert h
   obtain ⟨b11,hb9⟩:∃ b,ξ 9=ptr b 0:=hφ 9
   obtain ⟨b12,hb10⟩:∃ b,ξ 10=ptr b 0:=hφ 10
   rw [hb9,hb10]; intro h
   clear hb9 hb10
   clear hφ ξ
   have hd:eG x=(aK (aH (ab (ag x.p) (aa x.r)) ((aC (ab (ab (aa x.p) (aa x.p)) (ab (ag x.r) (aa x.r)))).1)) (ab (aa x.p) (aa x.r))).1:=pt
   refine gz h <| (W) ?_; clear h ac wo; intro ac wo h
   exact ret h rfl (.cell (v:=(vI ((aK (aH (ab (ag x.p) (aa x.r)) ((aC (ab (ab (aa x.p) (aa x.p)) (ab (ag x.r) (aa x.r)))).1)) (ab (aa x.p) (aa x.r))).1))) rfl (i:=1) rfl aa27 zz27 rfl rfl rfl .nil) rfl (h.retP (by rw [hd] <;> rfl) (by rw [hd]; exact (by rw [← hd]; exact ht.2)))
attribute [irreducible] eG
end Go.Sx
namespace Go.Sx
open Go Go.RowKit Go.Proofs
set_option maxRecDepth 100000
set_option maxHeartbeats 40000000
attribute [local irreducible] Code.wp wpList Rd Step ObS Ent
attribute [local irreducible] ah ak aq an bN
attribute [local irreducible] aW aR aj aB aM ao ab aa aZ cM
def eW (a b:GQ):GQ×Int:=bD (ab a.num (aa b)) (ab (aa a) b.num)
attribute [irreducible] eW
end Go.Sx
namespace Go.Sx
theorem fr_p (q:GQ):(aQ q).p=q∧(aQ q).r=zQ∧(aQ q).neg=false:=by unfold aQ; exact ⟨rfl,rfl,rfl⟩
theorem fr_ok {q:GQ} (h:QOk q):ROk (aQ q):=by
 obtain ⟨e1,e2,e3⟩:=fr_p q
 unfold ROk
 rw [e1,e2,e3]
 exact ⟨h,jK.1,Or.inl ⟨jK.2,rfl⟩⟩
structure Stq where
 time:Nat
 x:Nat
 y:Nat
 kind:Nat
 deriving DecidableEq
instance yC8_1:Inhabited Stq:=⟨⟨0,0,0,0⟩⟩
section
variable [K:Key]
end
end Go.Sx
namespace Go.Sx
open Go Go.RowKit Go.Proofs
set_option maxRecDepth 100000
set_option maxHeartbeats 40000000
attribute [local irreducible] Code.wp wpList Rd Step ObS Ent
attribute [local irreducible] ah ak aq an bN
def pc (x:GR):GR:=⟨aM x.p,x.r,!decide (x.r=oQ) && !x.neg⟩
attribute [irreducible] pc
def sR (x:GR):GI:=ax (eG (pc x))
def Sm (_:GQ):Prop:=True
def eF (p q r:GQ):GR×Int :=
 bif decide (aq r < 0) then (⟨oQ,oQ,false⟩,2)
 else bif (bP r).2 then (⟨aB p (aj q (bP r).1),oQ,false⟩,0)
 else (⟨p,aj (aj q q) r,decide (aq q < 0)⟩,0)
theorem lK (p q r:GQ) (k:Nat) (hk:k≤10) (zp:SzQ (k+6) p) (zq:SzQ (k+6) q) (zr:SzQ (k+6) r) (hr:Sm r) (z3:SzQ 30 r) (w0:World):Calls Tryz.prog 112 #[vQ p,vQ q,vQ r] w0 (dh w0 (.tuple #[vR (eF p q r).1,.int .i64 (eF p q r).2]) (SzR k (eF p q r).1)):=by
 refine enter (N:=36) (args:=[vQ p,vQ q,vQ r]) Tryz.func112 rfl rfl ?_; intro ac h
 have c1:=cB r
 have s1:=ar (c1 w0)
 have c2:=kH r z3
 have s2:=ar (c2 w0)
 refine gz h <| (xb) fun b1=>(xb) fun b2=>(xb) fun b3=>(xa) fun b4=>(xk c1) <| (ai) ?_ ?_ <;> clear h ac <;> intro ac wo h hc1
 ·
  have hd:eF p q r=(⟨oQ,oQ,false⟩,2):=by unfold eF; rw [hc1]; rfl
  rw [hd]
  refine gz h <| (xo (hs:=by exact bX xn exs rfl (v:=vR ⟨oQ,oQ,false⟩) rfl)) <| (W) ?_; clear h ac wo; intro ac wo h
  exact xw 0 h (h.retP (u:=.tuple #[vR ⟨oQ,oQ,false⟩,.int .i64 2]) rfl ⟨⟨ed 0 (by decide) og,ed 0 (by decide) og⟩,⟨ed 0 (by decide) og,ed 0 (by decide) og⟩⟩)
 ·
  refine gz h <| (xk c2) <| (xa) fun b5=>(ai) ?_ ?_ <;> clear h ac wo <;> intro ac wo h hc2
  ·
   have hd:eF p q r=(⟨aB p (aj q (bP r).1),oQ,false⟩,0):=by unfold eF; rw [hc1,hc2]; rfl
   rw [hd]
   have c3:=bq q (bP r).1 (k+4) og zq (di s2 og)
   have s3:=ar (c3 w0)
   have c4:=cH p (aj q (bP r).1) (k+1) og (di zp og) s3
   have s4:=ar (c4 w0)
   refine gz h <| (dr1 (H:=[⟨_,[]⟩,⟨.blk b4 (cR ⟨oQ,oQ,false⟩) 46,[(6,.con (.blk b4 (cR ⟨aB p (aj q (bP r).1),oQ,false⟩) 46))]⟩,⟨_,[]⟩,⟨_,[]⟩,⟨_,[]⟩]) (hob:=(oK c3) <| (oK c4) <| (oX (h:=by exact fun _=>bk (bX xn exs rfl (v:=vR ⟨aB p (aj q (bP r).1),oQ,false⟩) rfl))) <| oE)) <| (W) ?_; clear h ac wo; intro ac wo h
   exact xw 1 h (h.retP (u:=.tuple #[vR ⟨aB p (aj q (bP r).1),oQ,false⟩,.int .i64 0]) rfl ⟨di s4 og,⟨ed 0 (by decide) og,ed 0 (by decide) og⟩⟩)
  ·
   have hd:eF p q r=(⟨p,aj (aj q q) r,decide (aq q < 0)⟩,0):=by unfold eF; rw [hc1,hc2]; rfl
   rw [hd]
   have c3:=bq q q (k+4) og zq zq
   have s3:=ar (c3 w0)
   have c4:=bq (aj q q) r (k+2) og s3 (di zr og)
   have s4:=ar (c4 w0)
   have c5:=cB q
   refine gz h <| (dr1 (H:=[⟨_,[]⟩,⟨.blk b4 (cR ⟨oQ,oQ,false⟩) 46,[(10,.con (.blk b4 (cR ⟨p,aj (aj q q) r,decide (aq q < 0)⟩) 46))]⟩,⟨_,[]⟩,⟨_,[]⟩,⟨_,[]⟩]) (hob:=(oK c3) <| (oK c4) <| (oK c5) <| (oX (h:=by exact fun _=>bk (bX xn exs rfl (v:=vR ⟨p,aj (aj q q) r,decide (aq q < 0)⟩) rfl))) <| oE)) <| (W) ?_; clear h ac wo; intro ac wo h
   exact xw 1 h (h.retP (u:=.tuple #[vR ⟨p,aj (aj q q) r,decide (aq q < 0)⟩,.int .i64 0]) rfl ⟨di zp og,di s4 og⟩)
attribute [irreducible] eF
end Go.Sx
namespace Go.Sx
open Go Go.RowKit Go.Proofs
set_option maxRecDepth 100000
set_option maxHeartbeats 40000000
attribute [local irreducible] Code.wp wpList Rd Step ObS Ent
attribute [local irreducible] ah ak aq an bN
def ch (a:Bd) (b:Bd):Iv :=
 (⟨a.at_,b.at_,a.behind,(!b.behind)⟩:Iv)
theorem kO (a:Bd) (b:Bd) (za:SzW 30 a) (zb:SzW 30 b) (w0:World) :Calls Tryz.prog 269 #[(vW a),(vW b)] w0 (dh w0 (vV (ch a b)) (SzV 30 (ch a b))):=by
 refine enter (N:=15) (args:=[(vW a),(vW b)]) Tryz.func269 rfl rfl ?_; intro ac h
 refine gz h <| (xb) fun b1=>(xb) fun b2=>(xa) fun b3=>(xo (hs:=by exact bX qE exs rfl (v:=(vV (⟨a.at_,b.at_,a.behind,(!b.behind)⟩:Iv))) rfl)) <| (W) ?_; clear h ac; intro ac wo h
 exact ret h rfl (.cell (v:=(vV (⟨a.at_,b.at_,a.behind,(!b.behind)⟩:Iv))) rfl (i:=0) rfl Tryz.isAgg74 Tryz.sizeOf74 rfl rfl rfl .nil) rfl (h.retP (by unfold ch; rfl) (by unfold ch; exact ⟨za,zb⟩))
attribute [irreducible] ch
def cg (x:Ev) (y:Ev):Int :=
 (bW x.at_ y.at_)
theorem jk (x:Ev) (y:Ev) (zx:SzE 30 x) (zy:SzE 30 y) (w0:World) :Calls Tryz.prog 268 #[(vE x),(vE y)] w0 (dh w0 (.int .i64 (cg x y)) ((-1≤(cg x y)∧(cg x y)≤1))):=by
 refine enter (N:=10) (args:=[(vE x),(vE y)]) Tryz.func268 rfl rfl ?_; intro ac h
 have c1:=im x.at_ y.at_ zx zy
 have s1:=Calls.pr (c1 w0)
 have p2:=s1
 refine gz h <| (xb) fun b1=>(xb) fun b2=>(xk (c1)) <| (W) ?_; clear h ac; intro ac wo h
 exact (rt h) (h.retP (by unfold cg; rfl) (by unfold cg; exact og))
attribute [irreducible] cg
def dD (a:Bool) (b:Bool):Bool :=
 (a && b)
theorem lR (a:Bool) (b:Bool) (w0:World) :Calls Tryz.prog 195 #[(.bool a),(.bool b)] w0 (dh w0 (.bool (dD a b)) (True)):=by
 refine enter (N:=9) (args:=[(.bool a),(.bool b)]) Tryz.func195 rfl rfl ?_; intro ac h
 refine gz h <| (W) ?_; clear h ac; intro ac wo h
 exact (rt h) (h.retP (by unfold dD; rfl) trivial)
attribute [irreducible] dD
def iB (data:List Ev) (a:Nat) (b:Nat) (i:Nat) (data1:List Ev):List Ev :=
 data1
def iA (data:List Ev) (a:Nat) (b:Nat) (i:Nat) (data1:List Ev) (j:Nat) (data2:List Ev):Nx (Nat×(List Ev)) (List Ev) :=
 .go ((i+1),data2)
def em (data:List Ev) (a:Nat) (b:Nat) (i:Nat) (data1:List Ev) (j:Nat) (data2:List Ev):Nx (Nat×(List Ev)) (List Ev) :=
 bif ((decide (((j:Nat):Int)>((a:Nat):Int))) && (decide ((cg (gt data2 j) (gt data2 (j - 1))) < 0))) then
  .go ((j - 1),((data2.set j (gt data2 (j - 1))).set (j - 1) (gt data2 j)))
 else
  .out (j,data2)
def eu (data:List Ev) (a:Nat) (b:Nat) (i:Nat) (data1:List Ev):Nx (Nat×(List Ev)) (List Ev) :=
 bif (decide (((i:Nat):Int) < ((b:Nat):Int))) then
  fin (bZ (fun s=>em data a b i data1 s.1 s.2) (i+1) (i,data1)) (fun s=>iA data a b i data1 s.1 s.2) (fun r=>.ret r)
 else
  .out (i,data1)
def bB (data:List Ev) (a:Nat) (b:Nat):List Ev :=
 fin (bZ (fun s=>eu data a b s.1 s.2) ((b+1 - (a+1))+1) ((a+1),data)) (fun s=>iB data a b s.1 s.2) (fun r=>r)
theorem iw (data:List Ev) (datav:Value) (a:Nat) (b:Nat) (hab:a≤b) (hb:b≤data.length) (hb2:b≤1000) (zdata:All (SzE 30) data) (w0 w:World) (B:Asn) (hbel:Below w0.heap.size w0 w) (hsep:∃ Z_,Sep w0.heap.size w [.row (α:=Ev) 332 datav data,B] Z_) :Calls Tryz.prog 335 #[datav,(.int .i64 ((a:Nat):Int)),(.int .i64 ((b:Nat):Int)),(.func (.func 268) #[] #[])] w (RetY w0 (fun v=>v=.tuple #[]∧(All (SzE 30) (bB data a b)∧(bB data a b).length=data.length)) (fun v=>[.row (α:=Ev) 332 datav (bB data a b),B])):=by
 refine mF (N:=53) (args:=[datav,(.int .i64 ((a:Nat):Int)),(.int .i64 ((b:Nat):Int)),(.func (.func 268) #[] #[])]) Tryz.func335 rfl rfl hbel hsep ?_; intro ac h
 have hlendata:=h.len 0 rfl
 obtain ⟨X1,hX1⟩:∃ X,bZ (fun s=>eu data a b s.1 s.2) ((b+1 - (a+1))+1) ((a+1),data)=X:=⟨_,rfl⟩
 refine gz h <| (W) ?_; clear h ac; intro ac wo h
 refine wp_loop_ghost (fun n_ a_ w_=>∃ (i:Nat) (data1:List Ev),((b+1 - i) < n_)∧(bZ (fun s=>eu data a b s.1 s.2) n_ (i,data1)=X1)∧(i≤b+1)∧(All (SzE 30) data1)∧(data1.length=data.length)∧St w0 53 [(0,datav),(1,(.int .i64 ((a:Nat):Int))),(2,(.int .i64 ((b:Nat):Int))),(3,(.func (.func 268) #[] #[])),(8,(.int .i64 ((i:Nat):Int)))] [.row (α:=Ev) 332 datav data1,B] a_ w_) ((b+1 - (a+1))+1) ⟨(a+1),data,og,hX1,og,zdata,og,h.rs⟩ ?_
 clear h ac wo; rintro n1 ac wo ⟨i,data1,hm1,hL1,hi,zdata1,hdl,h⟩
 obtain ⟨m1,rfl⟩:∃ m,n1=m+1:=⟨n1 - 1,by omega⟩
 refine gz h <| (ai) ?_ ?_ <;> clear h ac wo <;> intro ac wo h hc1
 ·
  have hd1:=of_decide_eq_true hc1
  obtain ⟨X2,hX2⟩:∃ X,bZ (fun s=>em data a b i data1 s.1 s.2) (i+1) (i,data1)=X:=⟨_,rfl⟩
  refine gz h <| (W) ?_; clear h ac wo; intro ac wo h
  refine wp_loop_ghost (fun n_ a_ w_=>∃ (j:Nat) (data2:List Ev),(j < n_)∧(bZ (fun s=>em data a b i data1 s.1 s.2) n_ (j,data2)=X2)∧(All (SzE 30) data2)∧(j≤i)∧(data2.length=data.length)∧St w0 53 [(0,datav),(1,(.int .i64 ((a:Nat):Int))),(2,(.int .i64 ((b:Nat):Int))),(3,(.func (.func 268) #[] #[])),(8,(.int .i64 ((i:Nat):Int))),(9,(.int .i64 ((j:Nat):Int)))] [.row (α:=Ev) 332 datav data2,B] a_ w_) (i+1) ⟨i,data1,og,hX2,zdata1,og,og,h.rs⟩ ?_
  clear h ac wo; rintro n2 ac wo ⟨j,data2,hm2,hL2,zdata2,hj,hdl2,h⟩
  obtain ⟨m2,rfl⟩:∃ m,n2=m+1:=⟨n2 - 1,by omega⟩
  refine gz h <| (W) ?_; clear h ac wo; intro ac wo h
  have s1:=Calls.pr ((fun w_ hB_ hS_=>jk (gt data2 j) (gt data2 (j - 1)) (All.gt zdata2 (ub _)) (All.gt zdata2 (ub _)) w_ ) _ h.bel h.sep)
  have p2:=s1
  refine gz h <| (dr0 (hob:=(oG (by exact fun hg=>jk (gt data2 j) (gt data2 (j - 1)) (All.gt zdata2 (ub _)) (All.gt zdata2 (ub _)))) <| oE)) <| (ai) ?_ ?_ <;> clear h ac wo <;> intro ac wo h hc2
  ·
   have hq2:=hc2; try simp at hq2
   refine gz h <| (dr1 (H:=[⟨.row (α:=Ev) 332 datav data2,[(15,.con (.row (α:=Ev) 332 datav (data2.set j (gt data2 (j - 1))))),(17,.con (.row (α:=Ev) 332 datav ((data2.set j (gt data2 (j - 1))).set (j - 1) (gt data2 j))))]⟩,⟨_,[]⟩]) (hob:=(oY (h:=by exact fun _=>lS (acc:=[0]) _ [.row (α:=Ev) 332 datav (data2.set j (gt data2 (j - 1)))] rfl rfl (g5 (k:=0) (u':=(gt data2 (j - 1))) Tryz.sizeOf332 (iF og) rfl (Nat.add_zero _) rfl rfl rfl rfl rfl rfl))) <| (oY (h:=by exact fun _=>lS (acc:=[0]) _ [.row (α:=Ev) 332 datav ((data2.set j (gt data2 (j - 1))).set (j - 1) (gt data2 j))] rfl rfl (g5 (k:=0) (u':=(gt data2 j)) Tryz.sizeOf332 (iF og) rfl (Nat.add_zero _) rfl rfl rfl rfl rfl rfl))) <| oE)) <| (W) ?_; clear h ac wo; intro ac wo h
   have hg:=cZ hL2 pt
   exact az ⟨m2,og,_,_,og,hg,(All.set (All.set zdata2 (All.gt zdata2 (ub _))) (All.gt zdata2 (ub _))),og,og,h.re [0,1]⟩
  ·
   have hq2:=hc2; try simp at hq2
   have hx2:=eh hL2 pt
   refine gz h <| (W) ?_; clear h ac wo; intro ac wo h
   have hg:=cZ hL1 pt
   exact az ⟨m1,og,_,_,og,hg,og,zdata2,og,h.re [0,1]⟩
 ·
  have hd1:=of_decide_eq_false hc1
  have hx1:=eh hL1 pt
  have hd:bB data a b=data1:=pt
  refine gz h <| (W) ?_; clear h ac wo; intro ac wo h
  exact nO (vs:=[]) h rfl .nil rfl ((h.pick [0,1] (by decide)).retY ⟨rfl,(by rw [hd]; exact ⟨zdata1,og⟩)⟩ (by rw [hd]; rfl))
attribute [irreducible] bB
def eM (a:Bool) (b:Bool):Bool :=
 (a || b)
theorem nZ (a:Bool) (b:Bool) (w0:World) :Calls Tryz.prog 289 #[(.bool a),(.bool b)] w0 (dh w0 (.bool (eM a b)) (True)):=by
 refine enter (N:=9) (args:=[(.bool a),(.bool b)]) Tryz.func289 rfl rfl ?_; intro ac h
 refine gz h <| (W) ?_; clear h ac; intro ac wo h
 exact (rt h) (h.retP (by unfold eM; rfl) trivial)
attribute [irreducible] eM
end Go.Sx
namespace Go.Sx
open Go Go.RowKit Go.Proofs
set_option maxRecDepth 100000
set_option maxHeartbeats 40000000
attribute [local irreducible] Code.wp wpList Rd Step ObS Ent
attribute [local irreducible] ah ak aq an bN
def cn (data:List Ev) (a:Nat) (b:Nat) (limit:Int):List Ev :=
 (bB data a b)
theorem ju (data:List Ev) (datav:Value) (a:Nat) (b:Nat) (limit:Int) (hab:a≤b) (hb:b≤data.length) (hb2:b≤1000) (h12:b≤a+12) (zdata:All (SzE 30) data) (w0 w:World) (B:Asn) (hbel:Below w0.heap.size w0 w) (hsep:∃ Z_,Sep w0.heap.size w [.row (α:=Ev) 332 datav data,B] Z_) :Calls Tryz.prog 307 #[datav,(.int .i64 ((a:Nat):Int)),(.int .i64 ((b:Nat):Int)),(.int .i64 limit),(.func (.func 268) #[] #[])] w (RetY w0 (fun v=>v=.tuple #[]∧(All (SzE 30) (cn data a b limit)∧(cn data a b limit).length=data.length)) (fun v=>[.row (α:=Ev) 332 datav (cn data a b limit),B])):=by
 refine mF (N:=148) (args:=[datav,(.int .i64 ((a:Nat):Int)),(.int .i64 ((b:Nat):Int)),(.int .i64 limit),(.func (.func 268) #[] #[])]) Tryz.func307 rfl rfl hbel hsep ?_; intro ac h
 have hlendata:=h.len 0 rfl
 refine gz h <| (W) ?_; clear h ac; intro ac wo h
 refine sA 1 ?_
 refine gz h <| (xo (hs:=by exact fv rfl rfl (r:=(((b - a):Nat):Int)) (by rw [IntKind.wrap_i64]; first | omega | grind))) <| (W) ?_; clear h ac wo; intro ac wo h
 refine c_ifT h rfl ?_ (decide_eq_true og)
 refine gz h <| (W) ?_; clear h ac wo; intro ac wo h
 refine on1 h 0 rfl (jx (vs:=[datav,(.int .i64 ((a:Nat):Int)),(.int .i64 ((b:Nat):Int)),(.func (.func 268) #[] #[])]) (A:=fun v=>[.row (α:=Ev) 332 datav (bB data a b)]) (cz Tryz.call335 rfl) (fun w_ B_ hB_ hS_=>iw data datav a b og og og zdata w0 w_ B_ hB_ hS_ )) rfl ?_; clear h ac wo; intro vc ac wo s2 h
 obtain rfl:vc=_:=s2.1
 have p3:=s2.2.2
 refine gz h <| (W) ?_; clear h ac wo; intro ac wo h
 replace h:=h.sub (F':=[]) trivial
 have hd:cn data a b limit=(bB data a b):=rfl
 refine gz h <| (W) ?_; clear h ac wo; intro ac wo h
 exact ret (vs:=[]) h rfl .nil rfl ((h.pick [0,1] (by decide)).retY ⟨rfl,(by rw [hd]; exact ⟨s2.2.1,og⟩)⟩ (by rw [hd]; rfl))
attribute [irreducible] cn
end Go.Sx
namespace Go.Sx
open Go Go.RowKit Go.Proofs
set_option maxRecDepth 100000
set_option maxHeartbeats 40000000
attribute [local irreducible] Code.wp wpList Rd Step ObS Ent
attribute [local irreducible] ah ak aq an bN
def fT (x:Nat):Int :=
 ((Lib.bitLen x:Nat):Int)
theorem oZ (x:Nat) (hx:x < 18446744073709551616) (w0:World) :Calls Tryz.prog 308 #[(.int .u64 ((x:Nat):Int))] w0 (dh w0 (.int .i64 (fT x)) (True)):=by
 refine enter (N:=8) (args:=[(.int .u64 ((x:Nat):Int))]) Tryz.func308 rfl rfl ?_; intro ac h
 refine gz h <| (W) ?_; clear h ac; intro ac wo h
 refine c_ifF h rfl ?_
 refine gz h <| (xk (wk x (by assumption))) <| (W) ?_; clear h ac wo; intro ac wo h
 exact (rt h) (h.retP (by unfold fT; rfl) trivial)
attribute [irreducible] fT
def cq (x:List Ev):List Ev :=
 (cn x 0 x.length (fT x.length))
theorem jv (x:List Ev) (xv:Value) (hl:x.length≤12) (zx:All (SzE 30) x) (w0 w:World) (B:Asn) (hbel:Below w0.heap.size w0 w) (hsep:∃ Z_,Sep w0.heap.size w [.row (α:=Ev) 332 xv x,B] Z_) :Calls Tryz.prog 267 #[xv,(.func (.func 268) #[] #[])] w (RetY w0 (fun v=>v=.tuple #[]∧(All (SzE 30) (cq x)∧(cq x).length=x.length)) (fun v=>[.row (α:=Ev) 332 xv (cq x),B])):=by
 refine mF (N:=14) (args:=[xv,(.func (.func 268) #[] #[])]) Tryz.func267 rfl rfl hbel hsep ?_; intro ac h
 have hlenx:=h.len 0 rfl
 refine gz h <| (xo (hs:=by exact a8 Tryz.runUnderlying3 Tryz.runUnderlying348 rfl (r:=((x.length:Nat):Int)) (by rw [IntKind.wrap_u64]; first | omega | grind))) <| (xk (oZ x.length og)) <| (W) ?_; clear h ac; intro ac wo h
 refine on1 h 0 rfl (jx (vs:=[xv,(.int .i64 0),(.int .i64 ((x.length:Nat):Int)),(.int .i64 (fT x.length)),(.func (.func 268) #[] #[])]) (A:=fun v=>[.row (α:=Ev) 332 xv (cn x 0 x.length (fT x.length))]) (cz Tryz.call307 rfl) (fun w_ B_ hB_ hS_=>ju x xv 0 x.length (fT x.length) og og og og zx w0 w_ B_ hB_ hS_ )) rfl ?_; clear h ac wo; intro vc ac wo s2 h
 obtain rfl:vc=_:=s2.1
 have p3:=s2.2.2
 have hd:cq x=(cn x 0 x.length (fT x.length)):=rfl
 refine gz h <| (W) ?_; clear h ac wo; intro ac wo h
 exact nO (vs:=[]) h rfl .nil rfl ((h.pick [0,1] (by decide)).retY ⟨rfl,(by rw [hd]; exact ⟨s2.2.1,og⟩)⟩ (by rw [hd]; rfl))
attribute [irreducible] cq
end Go.Sx
namespace Go.Sx
def kB [K:Key] (b:Bd):Nat:=2*tk b.at_+(bif b.behind then 1 else 0)
theorem bb (b:Bool):(bif b then 1 else 0:Nat)≤1:=by cases b <;> decide
theorem cmpB [K:Key] {a b:Bd} (ha:Tm a.at_) (hb:Tm b.at_):bW a b=sgn (kB a) (kB b):=by
 unfold bW kB
 rw [ha.cmp hb]
 have h1:=bb a.behind
 have h2:=bb b.behind
 rcases Nat.lt_trichotomy (tk a.at_) (tk b.at_) with e | e | e
 · rw [iV e,iV (by omega)]; rfl
 · rw [e,fP]
   cases a.behind <;> cases b.behind
   · rw [fP]; rfl
   · rw [iV (by simp)]; rfl
   · rw [i8 (by simp)]; rfl
   · rw [fP]; rfl
 · rw [i8 e,i8 (by omega)]; rfl
theorem kB_inj [K:Key] {a b:Bd} (ha:Tm a.at_) (hb:Tm b.at_) (h:kB a=kB b):a=b:=by
 unfold kB at h
 have h1:=bb a.behind
 have h2:=bb b.behind
 have e:tk a.at_=tk b.at_:=by omega
 have e2:=(ha.inj hb).1 e
 have e3:a.behind=b.behind:=by
  rw [e] at h
  cases ha:a.behind <;> cases hb:b.behind <;> rw [ha,hb] at h <;> simp at h <;> rfl
 obtain ⟨x,y⟩:=a
 obtain ⟨z,w⟩:=b
 simp only at e2 e3
 rw [e2,e3]
theorem pf (i:Iv):aJ i=⟨i.lo,i.openLo⟩:=by unfold aJ; rfl
theorem pl (i:Iv):aI i=⟨i.hi,!i.openHi⟩:=by unfold aI; rfl
theorem kB_first [K:Key] (i:Iv):kB (aJ i)=io i:=by rw [pf]; rfl
theorem kB_last [K:Key] (i:Iv):(kB (aI i):Int)=kj i+1:=by
 unfold kB aI kj
 simp only
 cases i.openHi <;> simp <;> omega
theorem Wv.bd [K:Key] {i:Iv} (h:Wv i):kB (aJ i) < kB (aI i):=by
 have h1:=h.le
 have h2:=kB_last i
 rw [kB_first]; omega
theorem wv_of [K:Key] {i:Iv} (h:Tv i) (hlt:kB (aJ i) < kB (aI i)):Wv i:=by
 rw [pf,pl] at hlt
 have hlt:2*tk i.lo+(bif i.openLo then 1 else 0) < 2*tk i.hi+(bif !i.openHi then 1 else 0):=hlt
 have h1:=bb i.openLo
 have h2:=bb (!i.openHi)
 refine ⟨h,by omega,fun e=>?_⟩
 rw [e] at hlt
 revert hlt
 cases i.openLo <;> cases i.openHi <;> simp
theorem sj (a b:Bd):aJ (ch a b)=a:=by
 unfold aJ ch; rfl
theorem uV (a b:Bd):aI (ch a b)=b:=by
 unfold aI ch
 simp only [Bool.not_not]
theorem iv_ext [K:Key] {i j:Iv} (hi:Tv i) (hj:Tv j) (h1:kB (aJ i)=kB (aJ j)) (h2:kB (aI i)=kB (aI j)):i=j:=by
 have e1:=kB_inj (a:=aJ i) (b:=aJ j) (by rw [pf]; exact hi.1) (by rw [pf]; exact hj.1) h1
 have e2:=kB_inj (a:=aI i) (b:=aI j) (by rw [pl]; exact hi.2) (by rw [pl]; exact hj.2) h2
 rw [pf,pf,Bd.mk.injEq] at e1
 rw [pl,pl,Bd.mk.injEq] at e2
 obtain ⟨lo,hi',ol,oh⟩:=i
 obtain ⟨lo2,hi2,ol2,oh2⟩:=j
 simp only at e1 e2
 obtain ⟨rfl,rfl⟩:=e1
 obtain ⟨rfl,e3⟩:=e2
 rw [show oh=oh2 by cases oh <;> cases oh2 <;> first | rfl | cases e3]
end Go.Sx
