import Derived.Test.YtbenbmdkhcfcfaaGreatDoorN1
import Derived.Test.YtbenbmdkhcfcfaaGreatDoorA7
set_option linter.unusedVariables false
set_option linter.unusedSimpArgs false
open Go.Proofs.Tryz renaming prog → zP, isAgg25 → aa25, sizeOf25 → zz25, isAgg27 → aa27, sizeOf27 → zz27, call93 → cc93, zeroValue27 → vv27, runUnderlying71 → uu71, zeroValue25 → vv25, call97 → cc97, isAgg53 → aa53, sizeOf53 → zz53, runUnderlying3 → uu3, runUnderlying276 → uu276, zeroValue53 → vv53, isAgg71 → aa71, sizeOf71 → zz71, runUnderlying50 → uu50, sizeOf126 → zz126, runUnderlying126 → uu126, sizeOf86 → zz86, runUnderlying86 → uu86, sizeOf4 → zz4, isAgg4 → aa4, runUnderlying66 → uu66
set_option maxRecDepth 100000
set_option maxHeartbeats 40000000
namespace Go.Sx
open Go Go.RowKit Go.Proofs
attribute [local irreducible] Code.wp wpList Rd gW ObS Ent
attribute [local irreducible] an bB ah aO az c8
def ak (a:GQ):GI :=
 a.num
theorem mf (a:GQ) (za:SzQ 36 a) (w0:World):Calls zP 250 #[(vQ a)] w0 (RetP w0 (vI (ak a)) (SzI 36 (ak a))):=by
 refine enter (N:=5) Tryz.func250 rfl rfl ?_; intro ac h
 refine gz h <| (xb) fun b1=>(xa) fun b2=>(W) ?_; clear h; intro _ _ h
 exact ret h rfl (.cell (v:=(vI a.num)) rfl (i:=0) rfl aa25 zz25 rfl rfl rfl .nil) rfl (h.retP (by unfold ak; rfl) (by unfold ak; exact za.1))
attribute [irreducible] ak
def bP (a:GI) (b:GI):GI :=
 (aH a (ax b))
theorem ng (a:GI) (b:GI) (za:SzI 28 a) (zb:SzI 28 b) (w0:World):Calls zP 252 #[(vI a),(vI b)] w0 (RetP w0 (vI (bP a b)) (SzI 26 (bP a b))):=by
 refine enter (N:=9) Tryz.func252 rfl rfl ?_; intro ac h
 refine gz h <| (xb) fun b1=>(xb) fun b2=>(xa) fun b3=>(W) ?_; clear h; intro _ _ h
 have c1:=fd b 28 og zb
 have s1:=au (c1 w0)
 have s2:=au ((fk a (ax b) 27 og za s1) w0)
 refine gz h <| (dr1 (H:=[⟨.blk b3 (cI (⟨false,0⟩:GI)) 25,[(4,.con (.blk b3 (cI (aH a (ax b))) 25))]⟩,⟨.blk b2 (cI b) 25,[]⟩,⟨.blk b1 (cI a) 25,[]⟩]) (hob:=(oK (c1)) <| (oK (fk a (ax b) 27 og za s1)) <| oE)) <| (W) ?_; clear h; intro _ _ h
 exact ret h rfl (.cell (v:=(vI (aH a (ax b)))) rfl (i:=0) rfl aa25 zz25 rfl rfl rfl .nil) rfl (h.retP (by unfold bP; rfl) (by unfold bP; exact (gm s2 og)))
attribute [irreducible] bP
def aF (a:GI):GI×Int :=
 bif a.neg then
  ((⟨false,0⟩:GI),2)
 else
  ((aQ false (dK a.mag)),0)
theorem tb {x:GR} (h:Tm x):(ab (ab (aa x.p) (aa x.p)) (ab (ak x.r) (aa x.r))).mag < 4:=by
 have:=qE (p:=fun x=>decide ((ab (ab (aa x.p) (aa x.p)) (ab (ak x.r) (aa x.r))).mag < 4)) (by decide +kernel) h
 exact of_decide_eq_true this
theorem mA (a:GI) (ha4:a.mag < 4) (za:SzI 30 a) (w0:World):Calls zP 251 #[(vI a)] w0 (RetP w0 (.tuple #[(vI ((aF a).1)),(.int .i64 ((aF a).2))]) (SzI 29 ((aF a).1))):=by
 refine enter (N:=11) Tryz.func251 rfl rfl ?_; intro ac h
 refine gz h <| (xb) fun b1=>(xa) fun b2=>(ai) ?_ ?_ <;> clear h <;> intro _ _ h hc1
 ·
  have q:=hc1; try simp at q
  have hd:aF a=((⟨false,0⟩:GI),2):=pt
  refine gz h <| (xo (hs:=by exact bN qB exs rfl (v:=(vI (⟨false,0⟩:GI))) rfl)) <| (W) ?_; clear h; intro _ _ h
  exact ret h rfl (.cell (v:=(vI (⟨false,0⟩:GI))) rfl (i:=0) rfl aa25 zz25 rfl rfl rfl (.tmp rfl .nil)) rfl (h.retP (by rw [hd] <;> rfl) (by rw [hd]; exact (bJ 0 DC og)))
 ·
  have q:=hc1; try simp at q
  have c1:=mz a.mag og za
  have s1:=Calls.pr (c1 w0)
  have c2:=cg false (dK a.mag) 29 og s1
  have s2:=au (c2 w0)
  have hd:aF a=((aQ false (dK a.mag)),0):=pt
  refine gz h <| (xk (c1)) <| (xk (c2)) <| (W) ?_; clear h; intro _ _ h
  exact ret h rfl (.cell (v:=(vI (aQ false (dK a.mag)))) rfl (i:=0) rfl aa25 zz25 rfl rfl rfl (.tmp rfl .nil)) rfl (h.retP (by rw [hd] <;> rfl) (by rw [hd]; exact s2))
attribute [irreducible] aF
def gL (x:GR):Int :=
 (eX x.p (bC x) x.r)
theorem mb (x:GR) (zx:SzR 30 x) (w0:World):Calls zP 266 #[(vR x)] w0 (RetP w0 (.int .i64 (gL x)) (True)):=by
 refine enter (N:=10) Tryz.func266 rfl rfl ?_; intro ac h
 refine gz h <| (xb) fun b1=>(W) ?_; clear h; intro _ _ h
 have c1:=iT x 30 og zx
 have s1:=au (c1 w0)
 have p3:=au ((jd x.p (bC x) x.r 22 og zx.1 s1 zx.2) w0)
 refine gz h <| (dr0 (hob:=(oK (c1)) <| (oK (jd x.p (bC x) x.r 22 og zx.1 s1 zx.2)) <| oE)) <| (W) ?_; clear h; intro _ _ h
 exact (rt h) (h.retP (by unfold gL; rfl) trivial)
attribute [irreducible] gL
def cL (num:GI) (den:GI):GQ×Int :=
 bif ((dp den) == 0) then
  ((⟨(⟨false,0⟩:GI),(⟨false,0⟩:GI)⟩:GQ),6)
 else
  ((bH num den),0)
theorem lQ (num:GI) (den:GI) (znum:SzI 36 num) (zden:SzI 36 den) (w0:World):Calls zP 92 #[(vI num),(vI den)] w0 (RetP w0 (.tuple #[(vQ ((cL num den).1)),(.int .i64 ((cL num den).2))]) (SzQ 32 ((cL num den).1))):=by
 refine enter (N:=13) Tryz.func92 rfl rfl ?_; intro ac h
 have p2:=au ((eu den) w0)
 refine gz h <| (xb) fun b1=>(xb) fun b2=>(xa) fun b3=>(xk (eu den)) <| (ai) ?_ ?_ <;> clear h <;> intro _ _ h hc1
 ·
  have hd1:=eq_of_beq hc1
  have hd:cL num den=(oQ,6):=pt
  refine gz h <| (xo (hs:=by exact bN qg exs rfl (v:=(vQ oQ)) rfl)) <| (W) ?_; clear h; intro _ _ h
  exact ret h rfl (.cell (v:=(vQ oQ)) rfl (i:=0) rfl aa27 zz27 rfl rfl rfl (.tmp rfl .nil)) rfl (h.retP (by rw [hd] <;> rfl) (by rw [hd]; exact ⟨(bJ 0 DC og),(bJ 0 DC og)⟩))
 ·
  have hd1:=ne_of_beq_false hc1
  have c3:=eC num den 35 og znum zden
  have s3:=au (c3 w0)
  have hd:cL num den=((bH num den),0):=pt
  refine gz h <| (xk (c3)) <| (W) ?_; clear h; intro _ _ h
  exact ret h rfl (.cell (v:=(vQ (bH num den))) rfl (i:=0) rfl aa27 zz27 rfl rfl rfl (.tmp rfl .nil)) rfl (h.retP (by rw [hd] <;> rfl) (by rw [hd]; exact (fW s3 og)))
attribute [irreducible] cL
def eB (n:GI):GQ :=
 (cL n (aq 1)).1
theorem nF (n:GI) (zn:SzI 36 n) (w0:World):Calls zP 267 #[(vI n)] w0 (RetP w0 (vQ (eB n)) (SzQ 32 (eB n))):=by
 refine enter (N:=12) Tryz.func267 rfl rfl ?_; intro ac h
 refine gz h <| (xb) fun b1=>(xa) fun b2=>(W) ?_; clear h ac; intro ac wo h
 have s1:=au ((ee 1 40 og  og) w0)
 have s2:=Calls.pr ((fun w_ hB_ hS_=>lQ n (aq 1) zn (gm s1 og) w_ ) _ h.bel h.sep)
 replace h:=h.emps 1
 refine im mixed [dw (vI n) [1],dv (vI (aq 1)),dv (.tuple #[(vQ ((cL n (aq 1)).1)),(.int .i64 ((cL n (aq 1)).2))]),dv (.tuple #[(vQ ((cL n (aq 1)).1)),(.int .i64 ((cL n (aq 1)).2))]),dv (vQ ((cL n (aq 1)).1)),dv (.int .i64 ((cL n (aq 1)).2)),y8 6 2,dw undef [2],dv (.int .i64 ((cL n (aq 1)).2))] [⟨.blk b2 (cQ oQ) 27,[]⟩,⟨.blk b1 (cI n) 25,[]⟩,⟨.emp,[(6,.one 6 fun v=>.blk (ch v) (cQ oQ) 27),(7,.one 6 fun v=>.blk (ch v) (cQ ((cL n (aq 1)).1)) 27)]⟩] h rfl (by kernel_rfl) ⟨?_,?_,?_,?_,?_,?_,?_,?_,?_,trivial⟩ ?_
 ·intro ξ hφ; exact js [.blk b1 (cI n) 25] rfl rfl (jr aa25 zz25 rfl rfl rfl (v:=(vI n)) rfl)
 ·intro ξ hφ; exact kD (fB (vs:=[(.int .i64 1)]) (ck cc93 rfl) (fun w_ hB_ hS_=>(ee 1 40 og  og) w_))
 ·intro ξ hφ; exact kD (fB (ck Tryz.call92 rfl) (kk (lQ n (aq 1) zn (gm s1 og))))
 ·intro ξ hφ; exact bg (ap rfl)
 ·intro ξ hφ; exact bg (cn rfl rfl)
 ·intro ξ hφ; exact bg (cn rfl rfl)
 ·intro ξ hφ; exact mo (ψ:=fun v=>∃ b,v=ptr b 0) (B:=fun v=>[.blk (ch v) (cQ oQ) 27]) [.emp] rfl (fun v _=>by simp only [dO,bA] <;> rfl) (fun v hv=>by simpa [DF.one,bA] using hv) (jX (gY vv27 rfl))
 ·intro ξ hφ; obtain ⟨b3,hb6⟩:=hφ 6 rfl; exact m0 [.blk b3 (cQ oQ) 27] [.blk b3 (cQ ((cL n (aq 1)).1)) 27] (congrArg (fun v=>[Asn.blk (ch v) (cQ oQ) 27]) hb6) (congrArg (fun v=>[Asn.blk (ch v) (cQ ((cL n (aq 1)).1)) 27]) hb6) (qp zz27 (Eq.trans rfl (congrArg some hb6)) rfl rfl rfl rfl rfl rfl)
 ·intro ξ hφ; exact bg (ay rfl)
 clear h ac wo; intro ξ ac wo hφ h
 replace h:St w0 12 [(2,(ptr b2 0)),(3,ξ 6)] [.blk b2 (cQ oQ) 27,.blk b1 (cI n) 25,.blk (ch (ξ 6)) (cQ ((cL n (aq 1)).1)) 27] ac wo:=(h.pick [0,1,2] DC).sub ⟨rfl,rfl,trivial⟩
 revert h
 obtain ⟨b3,hb6⟩:∃ b,ξ 6=ptr b 0:=hφ 6
 rw [hb6]; intro h
 clear hb6
 clear hφ ξ
 refine gz h <| (W) ?_; clear h ac wo; intro ac wo h
 exact ret h rfl (.cell (v:=(vQ ((cL n (aq 1)).1))) rfl (i:=0) rfl aa27 zz27 rfl rfl rfl .nil) rfl (h.retP (by unfold eB; rfl) (by unfold eB; exact s2))
attribute [irreducible] eB
def fp (x:GR) (r:GQ):Int :=
 (an x (dP r))
theorem nG (x:GR) (r:GQ) (zx:SzR 30 x) (zr:SzQ 30 r) (w0:World):Calls zP 268 #[(vR x),(vQ r)] w0 (RetP w0 (.int .i64 (fp x r)) (True)):=by
 refine enter (N:=9) Tryz.func268 rfl rfl ?_; intro ac h
 refine gz h <| (xb) fun b1=>(xb) fun b2=>(W) ?_; clear h; intro _ _ h
 have c1:=md r 30 og zr
 have s1:=au (c1 w0)
 have p3:=au ((aS x (dP r) 10 og zx s1) w0)
 refine gz h <| (dr0 (hob:=(oK (c1)) <| (oK (aS x (dP r) 10 og zx s1)) <| oE)) <| (W) ?_; clear h; intro _ _ h
 exact (rt h) (h.retP (by unfold fp; rfl) trivial)
attribute [irreducible] fp
def cB (x:GR):GI :=
 bif x.neg then
  (aR (bP (ab (ak x.p) (aa x.r)) (aH ((aF (ab (ab (aa x.p) (aa x.p)) (ab (ak x.r) (aa x.r)))).1) (aq 1))) (ab (aa x.p) (aa x.r))).1
 else
  (aR (aH (ab (ak x.p) (aa x.r)) ((aF (ab (ab (aa x.p) (aa x.p)) (ab (ak x.r) (aa x.r)))).1)) (ab (aa x.p) (aa x.r))).1
theorem u5 {x:GR} (h:Tm x):SzI 40 (cB x):=by
 have:=qE (p:=fun x=>smI (cB x)) (by decide +kernel) h
 exact qm (of_decide_eq_true this) DC
theorem rc (x:GR) (ht:Tm x) (zx:SzR 36 x) (w0:World):Calls zP 187 #[(vR x)] w0 (RetP w0 (vI (cB x)) (SzI 40 (cB x))):=by
 refine enter (N:=59) Tryz.func187 rfl rfl ?_; intro ac h
 refine gz h <| (xb) fun b1=>(xa) fun b2=>(W) ?_; clear h ac; intro ac wo h
 have c1:=mf x.p zx.1
 have s1:=Calls.pr (c1 w0)
 have s2:=au ((cc x.p 36 og zx.1) w0)
 replace h:=h.emps 2
 refine im mixed [dv (ptr b1 0),dw (vQ x.p) [1],dv (vI (ak x.p)),dv (ptr b1 0),dw (vQ x.p) [1],dv (vI (aa x.p)),y8 6 2,y8 7 3,dw undef [2],dw undef [3]] [⟨.blk b2 (cI (⟨false,0⟩:GI)) 25,[]⟩,⟨.blk b1 (cR x) 71,[]⟩,⟨.emp,[(6,.one 6 fun v=>.blk (ch v) (cI (⟨false,0⟩:GI)) 25),(8,.one 6 fun v=>.blk (ch v) (cI (ak x.p)) 25)]⟩,⟨.emp,[(7,.one 7 fun v=>.blk (ch v) (cI (⟨false,0⟩:GI)) 25),(9,.one 7 fun v=>.blk (ch v) (cI (aa x.p)) 25)]⟩] h rfl (by kernel_rfl) ⟨?_,?_,?_,?_,?_,?_,?_,?_,?_,?_,trivial⟩ ?_
 ·intro ξ hφ; exact bg (fa uu71 rfl zz27 rfl rfl rfl (k':=0))
 ·intro ξ hφ; exact js [.blk b1 (cR x) 71] rfl rfl (jr aa27 zz27 rfl rfl rfl (v:=(vQ x.p)) rfl)
 ·intro ξ hφ; exact kD (fB (ck Tryz.call250 rfl) (kk c1))
 ·intro ξ hφ; exact bg (fa uu71 rfl zz27 rfl rfl rfl (k':=0))
 ·intro ξ hφ; exact js [.blk b1 (cR x) 71] rfl rfl (jr aa27 zz27 rfl rfl rfl (v:=(vQ x.p)) rfl)
 ·intro ξ hφ; exact kD (fB (ck Tryz.call98 rfl) (kk (cc x.p 36 og zx.1)))
 ·intro ξ hφ; exact mo (ψ:=fun v=>∃ b,v=ptr b 0) (B:=fun v=>[.blk (ch v) (cI (⟨false,0⟩:GI)) 25]) [.emp] rfl (fun v _=>by simp only [dO,bA] <;> rfl) (fun v hv=>by simpa [DF.one,bA] using hv) (jX (gY vv25 rfl))
 ·intro ξ hφ; exact mo (ψ:=fun v=>∃ b,v=ptr b 0) (B:=fun v=>[.blk (ch v) (cI (⟨false,0⟩:GI)) 25]) [.emp] rfl (fun v _=>by simp only [dO,bA] <;> rfl) (fun v hv=>by simpa [DF.one,bA] using hv) (jX (gY vv25 rfl))
 ·intro ξ hφ; obtain ⟨b3,hb6⟩:=hφ 6 rfl; exact m0 [.blk b3 (cI (⟨false,0⟩:GI)) 25] [.blk b3 (cI (ak x.p)) 25] (congrArg (fun v=>[Asn.blk (ch v) (cI (⟨false,0⟩:GI)) 25]) hb6) (congrArg (fun v=>[Asn.blk (ch v) (cI (ak x.p)) 25]) hb6) (qp zz25 (Eq.trans rfl (congrArg some hb6)) rfl rfl rfl rfl rfl rfl)
 ·intro ξ hφ; obtain ⟨b4,hb7⟩:=hφ 7 rfl; exact m0 [.blk b4 (cI (⟨false,0⟩:GI)) 25] [.blk b4 (cI (aa x.p)) 25] (congrArg (fun v=>[Asn.blk (ch v) (cI (⟨false,0⟩:GI)) 25]) hb7) (congrArg (fun v=>[Asn.blk (ch v) (cI (aa x.p)) 25]) hb7) (qp zz25 (Eq.trans rfl (congrArg some hb7)) rfl rfl rfl rfl rfl rfl)
 clear h ac wo; intro ξ ac wo hφ h
 replace h:St w0 59 [(1,(ptr b1 0)),(2,(ptr b2 0)),(3,ξ 6),(4,ξ 7)] [.blk b2 (cI (⟨false,0⟩:GI)) 25,.blk b1 (cR x) 71,.blk (ch (ξ 6)) (cI (ak x.p)) 25,.blk (ch (ξ 7)) (cI (aa x.p)) 25] ac wo:=(h.pick [0,1,2,3] DC).sub ⟨rfl,rfl,rfl,rfl,trivial⟩
 revert h
 obtain ⟨b3,hb6⟩:∃ b,ξ 6=ptr b 0:=hφ 6
 obtain ⟨b4,hb7⟩:∃ b,ξ 7=ptr b 0:=hφ 7
 rw [hb6,hb7]; intro h
 clear hb6 hb7
 clear hφ ξ
 refine gz h <| (W) ?_; clear h ac wo; intro ac wo h
 have c3:=mf x.r zx.2
 have s3:=Calls.pr (c3 w0)
 have s4:=au ((cc x.r 36 og zx.2) w0)
 replace h:=h.emps 2
 refine im mixed [dv (ptr b1 4),dw (vQ x.r) [1],dv (vI (ak x.r)),dv (ptr b1 4),dw (vQ x.r) [1],dv (vI (aa x.r)),y8 6 4,y8 7 5,dw undef [4],dw undef [5]] [⟨.blk b2 (cI (⟨false,0⟩:GI)) 25,[]⟩,⟨.blk b1 (cR x) 71,[]⟩,⟨.blk b3 (cI (ak x.p)) 25,[]⟩,⟨.blk b4 (cI (aa x.p)) 25,[]⟩,⟨.emp,[(6,.one 6 fun v=>.blk (ch v) (cI (⟨false,0⟩:GI)) 25),(8,.one 6 fun v=>.blk (ch v) (cI (ak x.r)) 25)]⟩,⟨.emp,[(7,.one 7 fun v=>.blk (ch v) (cI (⟨false,0⟩:GI)) 25),(9,.one 7 fun v=>.blk (ch v) (cI (aa x.r)) 25)]⟩] h rfl (by kernel_rfl) ⟨?_,?_,?_,?_,?_,?_,?_,?_,?_,?_,trivial⟩ ?_
 ·intro ξ hφ; exact bg (fa uu71 rfl zz27 rfl rfl rfl (k':=4))
 ·intro ξ hφ; exact js [.blk b1 (cR x) 71] rfl rfl (jr aa27 zz27 rfl rfl rfl (v:=(vQ x.r)) rfl)
 ·intro ξ hφ; exact kD (fB (ck Tryz.call250 rfl) (kk c3))
 ·intro ξ hφ; exact bg (fa uu71 rfl zz27 rfl rfl rfl (k':=4))
 ·intro ξ hφ; exact js [.blk b1 (cR x) 71] rfl rfl (jr aa27 zz27 rfl rfl rfl (v:=(vQ x.r)) rfl)
 ·intro ξ hφ; exact kD (fB (ck Tryz.call98 rfl) (kk (cc x.r 36 og zx.2)))
 ·intro ξ hφ; exact mo (ψ:=fun v=>∃ b,v=ptr b 0) (B:=fun v=>[.blk (ch v) (cI (⟨false,0⟩:GI)) 25]) [.emp] rfl (fun v _=>by simp only [dO,bA] <;> rfl) (fun v hv=>by simpa [DF.one,bA] using hv) (jX (gY vv25 rfl))
 ·intro ξ hφ; exact mo (ψ:=fun v=>∃ b,v=ptr b 0) (B:=fun v=>[.blk (ch v) (cI (⟨false,0⟩:GI)) 25]) [.emp] rfl (fun v _=>by simp only [dO,bA] <;> rfl) (fun v hv=>by simpa [DF.one,bA] using hv) (jX (gY vv25 rfl))
 ·intro ξ hφ; obtain ⟨b5,hb6⟩:=hφ 6 rfl; exact m0 [.blk b5 (cI (⟨false,0⟩:GI)) 25] [.blk b5 (cI (ak x.r)) 25] (congrArg (fun v=>[Asn.blk (ch v) (cI (⟨false,0⟩:GI)) 25]) hb6) (congrArg (fun v=>[Asn.blk (ch v) (cI (ak x.r)) 25]) hb6) (qp zz25 (Eq.trans rfl (congrArg some hb6)) rfl rfl rfl rfl rfl rfl)
 ·intro ξ hφ; obtain ⟨b6,hb7⟩:=hφ 7 rfl; exact m0 [.blk b6 (cI (⟨false,0⟩:GI)) 25] [.blk b6 (cI (aa x.r)) 25] (congrArg (fun v=>[Asn.blk (ch v) (cI (⟨false,0⟩:GI)) 25]) hb7) (congrArg (fun v=>[Asn.blk (ch v) (cI (aa x.r)) 25]) hb7) (qp zz25 (Eq.trans rfl (congrArg some hb7)) rfl rfl rfl rfl rfl rfl)
 clear h ac wo; intro ξ ac wo hφ h
 replace h:St w0 59 [(1,(ptr b1 0)),(2,(ptr b2 0)),(3,(ptr b3 0)),(4,(ptr b4 0)),(5,ξ 6),(6,ξ 7)] [.blk b2 (cI (⟨false,0⟩:GI)) 25,.blk b1 (cR x) 71,.blk b3 (cI (ak x.p)) 25,.blk b4 (cI (aa x.p)) 25,.blk (ch (ξ 6)) (cI (ak x.r)) 25,.blk (ch (ξ 7)) (cI (aa x.r)) 25] ac wo:=(h.pick [0,1,2,3,4,5] DC).sub ⟨rfl,rfl,rfl,rfl,rfl,rfl,trivial⟩
 revert h
 obtain ⟨b5,hb6⟩:∃ b,ξ 6=ptr b 0:=hφ 6
 obtain ⟨b6,hb7⟩:∃ b,ξ 7=ptr b 0:=hφ 7
 rw [hb6,hb7]; intro h
 clear hb6 hb7
 clear hφ ξ
 refine gz h <| (W) ?_; clear h ac wo; intro ac wo h
 have s5:=au ((cz (aa x.p) (aa x.p) 35 og s2 s2) w0)
 have s6:=au ((cz (ak x.r) (aa x.r) 35 og s3 s4) w0)
 have s7:=au ((cz (ab (aa x.p) (aa x.p)) (ab (ak x.r) (aa x.r)) 34 og s5 s6) w0)
 have s8:=Calls.pr ((fun w_ hB_ hS_=>mA (ab (ab (aa x.p) (aa x.p)) (ab (ak x.r) (aa x.r))) (tb ht) (gm s7 og) w_ ) _ h.bel h.sep)
 replace h:=h.emps 1
 refine im mixed [dw (vI (aa x.p)) [3],dw (vI (aa x.p)) [3],dv (vI (ab (aa x.p) (aa x.p))),dw (vI (ak x.r)) [4],dw (vI (aa x.r)) [5],dv (vI (ab (ak x.r) (aa x.r))),dv (vI (ab (ab (aa x.p) (aa x.p)) (ab (ak x.r) (aa x.r)))),dv (.tuple #[(vI ((aF (ab (ab (aa x.p) (aa x.p)) (ab (ak x.r) (aa x.r)))).1)),(.int .i64 ((aF (ab (ab (aa x.p) (aa x.p)) (ab (ak x.r) (aa x.r)))).2))]),dv (.tuple #[(vI ((aF (ab (ab (aa x.p) (aa x.p)) (ab (ak x.r) (aa x.r)))).1)),(.int .i64 ((aF (ab (ab (aa x.p) (aa x.p)) (ab (ak x.r) (aa x.r)))).2))]),dv (vI ((aF (ab (ab (aa x.p) (aa x.p)) (ab (ak x.r) (aa x.r)))).1)),dv (.int .i64 ((aF (ab (ab (aa x.p) (aa x.p)) (ab (ak x.r) (aa x.r)))).2)),y8 11 6,dw undef [6],dv (.int .i64 ((aF (ab (ab (aa x.p) (aa x.p)) (ab (ak x.r) (aa x.r)))).2))] [⟨.blk b2 (cI (⟨false,0⟩:GI)) 25,[]⟩,⟨.blk b1 (cR x) 71,[]⟩,⟨.blk b3 (cI (ak x.p)) 25,[]⟩,⟨.blk b4 (cI (aa x.p)) 25,[]⟩,⟨.blk b5 (cI (ak x.r)) 25,[]⟩,⟨.blk b6 (cI (aa x.r)) 25,[]⟩,⟨.emp,[(11,.one 11 fun v=>.blk (ch v) (cI (⟨false,0⟩:GI)) 25),(12,.one 11 fun v=>.blk (ch v) (cI ((aF (ab (ab (aa x.p) (aa x.p)) (ab (ak x.r) (aa x.r)))).1)) 25)]⟩] h rfl (by kernel_rfl) ⟨?_,?_,?_,?_,?_,?_,?_,?_,?_,?_,?_,?_,?_,?_,trivial⟩ ?_
 ·intro ξ hφ; exact js [.blk b4 (cI (aa x.p)) 25] rfl rfl (jr aa25 zz25 rfl rfl rfl (v:=(vI (aa x.p))) rfl)
 ·intro ξ hφ; exact js [.blk b4 (cI (aa x.p)) 25] rfl rfl (jr aa25 zz25 rfl rfl rfl (v:=(vI (aa x.p))) rfl)
 ·intro ξ hφ; exact kD (fB (vs:=[(vI (aa x.p)),(vI (aa x.p))]) (ck cc97 rfl) (fun w_ hB_ hS_=>(cz (aa x.p) (aa x.p) 35 og s2 s2) w_))
 ·intro ξ hφ; exact js [.blk b5 (cI (ak x.r)) 25] rfl rfl (jr aa25 zz25 rfl rfl rfl (v:=(vI (ak x.r))) rfl)
 ·intro ξ hφ; exact js [.blk b6 (cI (aa x.r)) 25] rfl rfl (jr aa25 zz25 rfl rfl rfl (v:=(vI (aa x.r))) rfl)
 ·intro ξ hφ; exact kD (fB (ck cc97 rfl) (kk (cz (ak x.r) (aa x.r) 35 og s3 s4)))
 ·intro ξ hφ; exact kD (fB (ck cc97 rfl) (kk (cz (ab (aa x.p) (aa x.p)) (ab (ak x.r) (aa x.r)) 34 og s5 s6)))
 ·intro ξ hφ; exact kD (fB (ck Tryz.call251 rfl) (kk (mA (ab (ab (aa x.p) (aa x.p)) (ab (ak x.r) (aa x.r))) (tb ht) (gm s7 og))))
 ·intro ξ hφ; exact bg (ap rfl)
 ·intro ξ hφ; exact bg (cn rfl rfl)
 ·intro ξ hφ; exact bg (cn rfl rfl)
 ·intro ξ hφ; exact mo (ψ:=fun v=>∃ b,v=ptr b 0) (B:=fun v=>[.blk (ch v) (cI (⟨false,0⟩:GI)) 25]) [.emp] rfl (fun v _=>by simp only [dO,bA] <;> rfl) (fun v hv=>by simpa [DF.one,bA] using hv) (jX (gY vv25 rfl))
 ·intro ξ hφ; obtain ⟨b7,hb11⟩:=hφ 11 rfl; exact m0 [.blk b7 (cI (⟨false,0⟩:GI)) 25] [.blk b7 (cI ((aF (ab (ab (aa x.p) (aa x.p)) (ab (ak x.r) (aa x.r)))).1)) 25] (congrArg (fun v=>[Asn.blk (ch v) (cI (⟨false,0⟩:GI)) 25]) hb11) (congrArg (fun v=>[Asn.blk (ch v) (cI ((aF (ab (ab (aa x.p) (aa x.p)) (ab (ak x.r) (aa x.r)))).1)) 25]) hb11) (qp zz25 (Eq.trans rfl (congrArg some hb11)) rfl rfl rfl rfl rfl rfl)
 ·intro ξ hφ; exact bg (ay rfl)
 clear h ac wo; intro ξ ac wo hφ h
 replace h:St w0 59 [(1,(ptr b1 0)),(2,(ptr b2 0)),(3,(ptr b3 0)),(4,(ptr b4 0)),(6,(ptr b6 0)),(7,ξ 11)] [.blk b2 (cI (⟨false,0⟩:GI)) 25,.blk b1 (cR x) 71,.blk b3 (cI (ak x.p)) 25,.blk b4 (cI (aa x.p)) 25,.blk b5 (cI (ak x.r)) 25,.blk b6 (cI (aa x.r)) 25,.blk (ch (ξ 11)) (cI ((aF (ab (ab (aa x.p) (aa x.p)) (ab (ak x.r) (aa x.r)))).1)) 25] ac wo:=(h.pick [0,1,2,3,4,5,6] DC).sub ⟨rfl,rfl,rfl,rfl,rfl,rfl,trivial⟩
 revert h
 obtain ⟨b7,hb11⟩:∃ b,ξ 11=ptr b 0:=hφ 11
 rw [hb11]; intro h
 clear hb11
 clear hφ ξ
 have c9:=cz (ak x.p) (aa x.r) 35 og s1 s4
 have s9:=au (c9 w0)
 refine gz h <| (xk (c9)) <| (xa) fun b8=>(ai) ?_ ?_ <;> clear h ac wo <;> intro ac wo h hc1
 ·
  have q:=hc1; try simp at q
  have s10:=au ((ee 1 40 og  og) w0)
  have s11:=au ((fk ((aF (ab (ab (aa x.p) (aa x.p)) (ab (ak x.r) (aa x.r)))).1) (aq 1) 28 og s8 (gm s10 og)) w0)
  have s12:=Calls.pr ((fun w_ hB_ hS_=>ng (ab (ak x.p) (aa x.r)) (aH ((aF (ab (ab (aa x.p) (aa x.p)) (ab (ak x.r) (aa x.r)))).1) (aq 1)) (gm s9 og) s11 w_ ) _ h.bel h.sep)
  refine gz h <| (dr1 (H:=[⟨.blk b8 (cI (ab (ak x.p) (aa x.r))) 25,[(5,.con (.blk b8 (cI (bP (ab (ak x.p) (aa x.r)) (aH ((aF (ab (ab (aa x.p) (aa x.p)) (ab (ak x.r) (aa x.r)))).1) (aq 1)))) 25))]⟩,⟨.blk b2 (cI (⟨false,0⟩:GI)) 25,[]⟩,⟨.blk b1 (cR x) 71,[]⟩,⟨.blk b3 (cI (ak x.p)) 25,[]⟩,⟨.blk b4 (cI (aa x.p)) 25,[]⟩,⟨.blk b5 (cI (ak x.r)) 25,[]⟩,⟨.blk b6 (cI (aa x.r)) 25,[]⟩,⟨.blk b7 (cI ((aF (ab (ab (aa x.p) (aa x.p)) (ab (ak x.r) (aa x.r)))).1)) 25,[]⟩]) (hob:=(oX (h:=by exact fun _=>kD (fB (vs:=[(.int .i64 1)]) (ck cc93 rfl) (fun w_ hB_ hS_=>(ee 1 40 og  og) w_)))) <| (oK (fk ((aF (ab (ab (aa x.p) (aa x.p)) (ab (ak x.r) (aa x.r)))).1) (aq 1) 28 og s8 (gm s10 og))) <| (oK (ng (ab (ak x.p) (aa x.r)) (aH ((aF (ab (ab (aa x.p) (aa x.p)) (ab (ak x.r) (aa x.r)))).1) (aq 1)) (gm s9 og) s11)) <| oE)) <| (W) ?_; clear h ac wo; intro ac wo h
  have c13:=cz (aa x.p) (aa x.r) 35 og s2 s4
  have s13:=au (c13 w0)
  have s14:=au ((gU (bP (ab (ak x.p) (aa x.r)) (aH ((aF (ab (ab (aa x.p) (aa x.p)) (ab (ak x.r) (aa x.r)))).1) (aq 1))) (ab (aa x.p) (aa x.r)) 25 og s12 (gm s13 og)) w0)
  replace h:=h.emps 2
  refine im mixed [dw (vI (bP (ab (ak x.p) (aa x.r)) (aH ((aF (ab (ab (aa x.p) (aa x.p)) (ab (ak x.r) (aa x.r)))).1) (aq 1)))) [0],dw (vI (aa x.p)) [4],dw (vI (aa x.r)) [6],dv (vI (ab (aa x.p) (aa x.r))),dv (.tuple #[(vI ((aR (bP (ab (ak x.p) (aa x.r)) (aH ((aF (ab (ab (aa x.p) (aa x.p)) (ab (ak x.r) (aa x.r)))).1) (aq 1))) (ab (aa x.p) (aa x.r))).1)),(vI ((aR (bP (ab (ak x.p) (aa x.r)) (aH ((aF (ab (ab (aa x.p) (aa x.p)) (ab (ak x.r) (aa x.r)))).1) (aq 1))) (ab (aa x.p) (aa x.r))).2.1)),(.int .i64 ((aR (bP (ab (ak x.p) (aa x.r)) (aH ((aF (ab (ab (aa x.p) (aa x.p)) (ab (ak x.r) (aa x.r)))).1) (aq 1))) (ab (aa x.p) (aa x.r))).2.2))]),dv (.tuple #[(vI ((aR (bP (ab (ak x.p) (aa x.r)) (aH ((aF (ab (ab (aa x.p) (aa x.p)) (ab (ak x.r) (aa x.r)))).1) (aq 1))) (ab (aa x.p) (aa x.r))).1)),(vI ((aR (bP (ab (ak x.p) (aa x.r)) (aH ((aF (ab (ab (aa x.p) (aa x.p)) (ab (ak x.r) (aa x.r)))).1) (aq 1))) (ab (aa x.p) (aa x.r))).2.1)),(.int .i64 ((aR (bP (ab (ak x.p) (aa x.r)) (aH ((aF (ab (ab (aa x.p) (aa x.p)) (ab (ak x.r) (aa x.r)))).1) (aq 1))) (ab (aa x.p) (aa x.r))).2.2))]),dv (vI ((aR (bP (ab (ak x.p) (aa x.r)) (aH ((aF (ab (ab (aa x.p) (aa x.p)) (ab (ak x.r) (aa x.r)))).1) (aq 1))) (ab (aa x.p) (aa x.r))).1)),dv (vI ((aR (bP (ab (ak x.p) (aa x.r)) (aH ((aF (ab (ab (aa x.p) (aa x.p)) (ab (ak x.r) (aa x.r)))).1) (aq 1))) (ab (aa x.p) (aa x.r))).2.1)),dv (.int .i64 ((aR (bP (ab (ak x.p) (aa x.r)) (aH ((aF (ab (ab (aa x.p) (aa x.p)) (ab (ak x.r) (aa x.r)))).1) (aq 1))) (ab (aa x.p) (aa x.r))).2.2)),y8 9 8,y8 10 9,dw undef [8],dw undef [9],dv (.int .i64 ((aR (bP (ab (ak x.p) (aa x.r)) (aH ((aF (ab (ab (aa x.p) (aa x.p)) (ab (ak x.r) (aa x.r)))).1) (aq 1))) (ab (aa x.p) (aa x.r))).2.2))] [⟨.blk b8 (cI (bP (ab (ak x.p) (aa x.r)) (aH ((aF (ab (ab (aa x.p) (aa x.p)) (ab (ak x.r) (aa x.r)))).1) (aq 1)))) 25,[]⟩,⟨.blk b2 (cI (⟨false,0⟩:GI)) 25,[]⟩,⟨.blk b1 (cR x) 71,[]⟩,⟨.blk b3 (cI (ak x.p)) 25,[]⟩,⟨.blk b4 (cI (aa x.p)) 25,[]⟩,⟨.blk b5 (cI (ak x.r)) 25,[]⟩,⟨.blk b6 (cI (aa x.r)) 25,[]⟩,⟨.blk b7 (cI ((aF (ab (ab (aa x.p) (aa x.p)) (ab (ak x.r) (aa x.r)))).1)) 25,[]⟩,⟨.emp,[(9,.one 9 fun v=>.blk (ch v) (cI (⟨false,0⟩:GI)) 25),(11,.one 9 fun v=>.blk (ch v) (cI ((aR (bP (ab (ak x.p) (aa x.r)) (aH ((aF (ab (ab (aa x.p) (aa x.p)) (ab (ak x.r) (aa x.r)))).1) (aq 1))) (ab (aa x.p) (aa x.r))).1)) 25)]⟩,⟨.emp,[(10,.one 10 fun v=>.blk (ch v) (cI (⟨false,0⟩:GI)) 25),(12,.one 10 fun v=>.blk (ch v) (cI ((aR (bP (ab (ak x.p) (aa x.r)) (aH ((aF (ab (ab (aa x.p) (aa x.p)) (ab (ak x.r) (aa x.r)))).1) (aq 1))) (ab (aa x.p) (aa x.r))).2.1)) 25)]⟩] h rfl (by kernel_rfl) ⟨?_,?_,?_,?_,?_,?_,?_,?_,?_,?_,?_,?_,?_,?_,trivial⟩ ?_
  ·intro ξ hφ; exact js [.blk b8 (cI (bP (ab (ak x.p) (aa x.r)) (aH ((aF (ab (ab (aa x.p) (aa x.p)) (ab (ak x.r) (aa x.r)))).1) (aq 1)))) 25] rfl rfl (jr aa25 zz25 rfl rfl rfl (v:=(vI (bP (ab (ak x.p) (aa x.r)) (aH ((aF (ab (ab (aa x.p) (aa x.p)) (ab (ak x.r) (aa x.r)))).1) (aq 1))))) rfl)
  ·intro ξ hφ; exact js [.blk b4 (cI (aa x.p)) 25] rfl rfl (jr aa25 zz25 rfl rfl rfl (v:=(vI (aa x.p))) rfl)
  ·intro ξ hφ; exact js [.blk b6 (cI (aa x.r)) 25] rfl rfl (jr aa25 zz25 rfl rfl rfl (v:=(vI (aa x.r))) rfl)
  ·intro ξ hφ; exact kD (fB (ck cc97 rfl) (kk c13))
  ·intro ξ hφ; exact kD (fB (ck Tryz.call253 rfl) (kk (gU (bP (ab (ak x.p) (aa x.r)) (aH ((aF (ab (ab (aa x.p) (aa x.p)) (ab (ak x.r) (aa x.r)))).1) (aq 1))) (ab (aa x.p) (aa x.r)) 25 og s12 (gm s13 og))))
  ·intro ξ hφ; exact bg (ap rfl)
  ·intro ξ hφ; exact bg (cn rfl rfl)
  ·intro ξ hφ; exact bg (cn rfl rfl)
  ·intro ξ hφ; exact bg (cn rfl rfl)
  ·intro ξ hφ; exact mo (ψ:=fun v=>∃ b,v=ptr b 0) (B:=fun v=>[.blk (ch v) (cI (⟨false,0⟩:GI)) 25]) [.emp] rfl (fun v _=>by simp only [dO,bA] <;> rfl) (fun v hv=>by simpa [DF.one,bA] using hv) (jX (gY vv25 rfl))
  ·intro ξ hφ; exact mo (ψ:=fun v=>∃ b,v=ptr b 0) (B:=fun v=>[.blk (ch v) (cI (⟨false,0⟩:GI)) 25]) [.emp] rfl (fun v _=>by simp only [dO,bA] <;> rfl) (fun v hv=>by simpa [DF.one,bA] using hv) (jX (gY vv25 rfl))
  ·intro ξ hφ; obtain ⟨b9,hb9⟩:=hφ 9 rfl; exact m0 [.blk b9 (cI (⟨false,0⟩:GI)) 25] [.blk b9 (cI ((aR (bP (ab (ak x.p) (aa x.r)) (aH ((aF (ab (ab (aa x.p) (aa x.p)) (ab (ak x.r) (aa x.r)))).1) (aq 1))) (ab (aa x.p) (aa x.r))).1)) 25] (congrArg (fun v=>[Asn.blk (ch v) (cI (⟨false,0⟩:GI)) 25]) hb9) (congrArg (fun v=>[Asn.blk (ch v) (cI ((aR (bP (ab (ak x.p) (aa x.r)) (aH ((aF (ab (ab (aa x.p) (aa x.p)) (ab (ak x.r) (aa x.r)))).1) (aq 1))) (ab (aa x.p) (aa x.r))).1)) 25]) hb9) (qp zz25 (Eq.trans rfl (congrArg some hb9)) rfl rfl rfl rfl rfl rfl)
  ·intro ξ hφ; obtain ⟨b10,hb10⟩:=hφ 10 rfl; exact m0 [.blk b10 (cI (⟨false,0⟩:GI)) 25] [.blk b10 (cI ((aR (bP (ab (ak x.p) (aa x.r)) (aH ((aF (ab (ab (aa x.p) (aa x.p)) (ab (ak x.r) (aa x.r)))).1) (aq 1))) (ab (aa x.p) (aa x.r))).2.1)) 25] (congrArg (fun v=>[Asn.blk (ch v) (cI (⟨false,0⟩:GI)) 25]) hb10) (congrArg (fun v=>[Asn.blk (ch v) (cI ((aR (bP (ab (ak x.p) (aa x.r)) (aH ((aF (ab (ab (aa x.p) (aa x.p)) (ab (ak x.r) (aa x.r)))).1) (aq 1))) (ab (aa x.p) (aa x.r))).2.1)) 25]) hb10) (qp zz25 (Eq.trans rfl (congrArg some hb10)) rfl rfl rfl rfl rfl rfl)
  ·intro ξ hφ; exact bg (ay rfl)
  clear h ac wo; intro ξ ac wo hφ h
  replace h:St w0 59 [(2,(ptr b2 0)),(10,ξ 9)] [.blk b8 (cI (bP (ab (ak x.p) (aa x.r)) (aH ((aF (ab (ab (aa x.p) (aa x.p)) (ab (ak x.r) (aa x.r)))).1) (aq 1)))) 25,.blk b2 (cI (⟨false,0⟩:GI)) 25,.blk b1 (cR x) 71,.blk b3 (cI (ak x.p)) 25,.blk b4 (cI (aa x.p)) 25,.blk b5 (cI (ak x.r)) 25,.blk b6 (cI (aa x.r)) 25,.blk b7 (cI ((aF (ab (ab (aa x.p) (aa x.p)) (ab (ak x.r) (aa x.r)))).1)) 25,.blk (ch (ξ 9)) (cI ((aR (bP (ab (ak x.p) (aa x.r)) (aH ((aF (ab (ab (aa x.p) (aa x.p)) (ab (ak x.r) (aa x.r)))).1) (aq 1))) (ab (aa x.p) (aa x.r))).1)) 25,.blk (ch (ξ 10)) (cI ((aR (bP (ab (ak x.p) (aa x.r)) (aH ((aF (ab (ab (aa x.p) (aa x.p)) (ab (ak x.r) (aa x.r)))).1) (aq 1))) (ab (aa x.p) (aa x.r))).2.1)) 25] ac wo:=(h.pick [0,1,2,3,4,5,6,7,8,9] DC).sub ⟨rfl,rfl,trivial⟩
  revert h
  obtain ⟨b9,hb9⟩:∃ b,ξ 9=ptr b 0:=hφ 9
  obtain ⟨b10,hb10⟩:∃ b,ξ 10=ptr b 0:=hφ 10
  rw [hb9,hb10]; intro h
  clear hb9 hb10
  clear hφ ξ
  have hd:cB x=(aR (bP (ab (ak x.p) (aa x.r)) (aH ((aF (ab (ab (aa x.p) (aa x.p)) (ab (ak x.r) (aa x.r)))).1) (aq 1))) (ab (aa x.p) (aa x.r))).1:=pt
  refine gz h <| (W) ?_; clear h ac wo; intro ac wo h
  exact ret h rfl (.cell (v:=(vI ((aR (bP (ab (ak x.p) (aa x.r)) (aH ((aF (ab (ab (aa x.p) (aa x.p)) (ab (ak x.r) (aa x.r)))).1) (aq 1))) (ab (aa x.p) (aa x.r))).1))) rfl (i:=1) rfl aa25 zz25 rfl rfl rfl .nil) rfl (h.retP (by rw [hd] <;> rfl) (by rw [hd]; exact (by rw [← hd]; exact u5 ht)))
 ·
  have q:=hc1; try simp at q
  have c15:=fk (ab (ak x.p) (aa x.r)) ((aF (ab (ab (aa x.p) (aa x.p)) (ab (ak x.r) (aa x.r)))).1) 28 og (gm s9 og) s8
  have s15:=au (c15 w0)
  refine gz h <| (xk (c15)) <| (W) ?_; clear h ac wo; intro ac wo h
  have c16:=cz (aa x.p) (aa x.r) 35 og s2 s4
  have s16:=au (c16 w0)
  have s17:=au ((gU (aH (ab (ak x.p) (aa x.r)) ((aF (ab (ab (aa x.p) (aa x.p)) (ab (ak x.r) (aa x.r)))).1)) (ab (aa x.p) (aa x.r)) 27 og s15 (gm s16 og)) w0)
  replace h:=h.emps 2
  refine im mixed [dw (vI (aH (ab (ak x.p) (aa x.r)) ((aF (ab (ab (aa x.p) (aa x.p)) (ab (ak x.r) (aa x.r)))).1))) [0],dw (vI (aa x.p)) [4],dw (vI (aa x.r)) [6],dv (vI (ab (aa x.p) (aa x.r))),dv (.tuple #[(vI ((aR (aH (ab (ak x.p) (aa x.r)) ((aF (ab (ab (aa x.p) (aa x.p)) (ab (ak x.r) (aa x.r)))).1)) (ab (aa x.p) (aa x.r))).1)),(vI ((aR (aH (ab (ak x.p) (aa x.r)) ((aF (ab (ab (aa x.p) (aa x.p)) (ab (ak x.r) (aa x.r)))).1)) (ab (aa x.p) (aa x.r))).2.1)),(.int .i64 ((aR (aH (ab (ak x.p) (aa x.r)) ((aF (ab (ab (aa x.p) (aa x.p)) (ab (ak x.r) (aa x.r)))).1)) (ab (aa x.p) (aa x.r))).2.2))]),dv (.tuple #[(vI ((aR (aH (ab (ak x.p) (aa x.r)) ((aF (ab (ab (aa x.p) (aa x.p)) (ab (ak x.r) (aa x.r)))).1)) (ab (aa x.p) (aa x.r))).1)),(vI ((aR (aH (ab (ak x.p) (aa x.r)) ((aF (ab (ab (aa x.p) (aa x.p)) (ab (ak x.r) (aa x.r)))).1)) (ab (aa x.p) (aa x.r))).2.1)),(.int .i64 ((aR (aH (ab (ak x.p) (aa x.r)) ((aF (ab (ab (aa x.p) (aa x.p)) (ab (ak x.r) (aa x.r)))).1)) (ab (aa x.p) (aa x.r))).2.2))]),dv (vI ((aR (aH (ab (ak x.p) (aa x.r)) ((aF (ab (ab (aa x.p) (aa x.p)) (ab (ak x.r) (aa x.r)))).1)) (ab (aa x.p) (aa x.r))).1)),dv (vI ((aR (aH (ab (ak x.p) (aa x.r)) ((aF (ab (ab (aa x.p) (aa x.p)) (ab (ak x.r) (aa x.r)))).1)) (ab (aa x.p) (aa x.r))).2.1)),dv (.int .i64 ((aR (aH (ab (ak x.p) (aa x.r)) ((aF (ab (ab (aa x.p) (aa x.p)) (ab (ak x.r) (aa x.r)))).1)) (ab (aa x.p) (aa x.r))).2.2)),y8 9 8,y8 10 9,dw undef [8],dw undef [9],dv (.int .i64 ((aR (aH (ab (ak x.p) (aa x.r)) ((aF (ab (ab (aa x.p) (aa x.p)) (ab (ak x.r) (aa x.r)))).1)) (ab (aa x.p) (aa x.r))).2.2))] [⟨.blk b8 (cI (aH (ab (ak x.p) (aa x.r)) ((aF (ab (ab (aa x.p) (aa x.p)) (ab (ak x.r) (aa x.r)))).1))) 25,[]⟩,⟨.blk b2 (cI (⟨false,0⟩:GI)) 25,[]⟩,⟨.blk b1 (cR x) 71,[]⟩,⟨.blk b3 (cI (ak x.p)) 25,[]⟩,⟨.blk b4 (cI (aa x.p)) 25,[]⟩,⟨.blk b5 (cI (ak x.r)) 25,[]⟩,⟨.blk b6 (cI (aa x.r)) 25,[]⟩,⟨.blk b7 (cI ((aF (ab (ab (aa x.p) (aa x.p)) (ab (ak x.r) (aa x.r)))).1)) 25,[]⟩,⟨.emp,[(9,.one 9 fun v=>.blk (ch v) (cI (⟨false,0⟩:GI)) 25),(11,.one 9 fun v=>.blk (ch v) (cI ((aR (aH (ab (ak x.p) (aa x.r)) ((aF (ab (ab (aa x.p) (aa x.p)) (ab (ak x.r) (aa x.r)))).1)) (ab (aa x.p) (aa x.r))).1)) 25)]⟩,⟨.emp,[(10,.one 10 fun v=>.blk (ch v) (cI (⟨false,0⟩:GI)) 25),(12,.one 10 fun v=>.blk (ch v) (cI ((aR (aH (ab (ak x.p) (aa x.r)) ((aF (ab (ab (aa x.p) (aa x.p)) (ab (ak x.r) (aa x.r)))).1)) (ab (aa x.p) (aa x.r))).2.1)) 25)]⟩] h rfl (by kernel_rfl) ⟨?_,?_,?_,?_,?_,?_,?_,?_,?_,?_,?_,?_,?_,?_,trivial⟩ ?_
  ·intro ξ hφ; exact js [.blk b8 (cI (aH (ab (ak x.p) (aa x.r)) ((aF (ab (ab (aa x.p) (aa x.p)) (ab (ak x.r) (aa x.r)))).1))) 25] rfl rfl (jr aa25 zz25 rfl rfl rfl (v:=(vI (aH (ab (ak x.p) (aa x.r)) ((aF (ab (ab (aa x.p) (aa x.p)) (ab (ak x.r) (aa x.r)))).1)))) rfl)
  ·intro ξ hφ; exact js [.blk b4 (cI (aa x.p)) 25] rfl rfl (jr aa25 zz25 rfl rfl rfl (v:=(vI (aa x.p))) rfl)
  ·intro ξ hφ; exact js [.blk b6 (cI (aa x.r)) 25] rfl rfl (jr aa25 zz25 rfl rfl rfl (v:=(vI (aa x.r))) rfl)
  ·intro ξ hφ; exact kD (fB (ck cc97 rfl) (kk c16))
  ·intro ξ hφ; exact kD (fB (ck Tryz.call253 rfl) (kk (gU (aH (ab (ak x.p) (aa x.r)) ((aF (ab (ab (aa x.p) (aa x.p)) (ab (ak x.r) (aa x.r)))).1)) (ab (aa x.p) (aa x.r)) 27 og s15 (gm s16 og))))
  ·intro ξ hφ; exact bg (ap rfl)
  ·intro ξ hφ; exact bg (cn rfl rfl)
  ·intro ξ hφ; exact bg (cn rfl rfl)
  ·intro ξ hφ; exact bg (cn rfl rfl)
  ·intro ξ hφ; exact mo (ψ:=fun v=>∃ b,v=ptr b 0) (B:=fun v=>[.blk (ch v) (cI (⟨false,0⟩:GI)) 25]) [.emp] rfl (fun v _=>by simp only [dO,bA] <;> rfl) (fun v hv=>by simpa [DF.one,bA] using hv) (jX (gY vv25 rfl))
  ·intro ξ hφ; exact mo (ψ:=fun v=>∃ b,v=ptr b 0) (B:=fun v=>[.blk (ch v) (cI (⟨false,0⟩:GI)) 25]) [.emp] rfl (fun v _=>by simp only [dO,bA] <;> rfl) (fun v hv=>by simpa [DF.one,bA] using hv) (jX (gY vv25 rfl))
  ·intro ξ hφ; obtain ⟨b11,hb9⟩:=hφ 9 rfl; exact m0 [.blk b11 (cI (⟨false,0⟩:GI)) 25] [.blk b11 (cI ((aR (aH (ab (ak x.p) (aa x.r)) ((aF (ab (ab (aa x.p) (aa x.p)) (ab (ak x.r) (aa x.r)))).1)) (ab (aa x.p) (aa x.r))).1)) 25] (congrArg (fun v=>[Asn.blk (ch v) (cI (⟨false,0⟩:GI)) 25]) hb9) (congrArg (fun v=>[Asn.blk (ch v) (cI ((aR (aH (ab (ak x.p) (aa x.r)) ((aF (ab (ab (aa x.p) (aa x.p)) (ab (ak x.r) (aa x.r)))).1)) (ab (aa x.p) (aa x.r))).1)) 25]) hb9) (qp zz25 (Eq.trans rfl (congrArg some hb9)) rfl rfl rfl rfl rfl rfl)
  ·intro ξ hφ; obtain ⟨b12,hb10⟩:=hφ 10 rfl; exact m0 [.blk b12 (cI (⟨false,0⟩:GI)) 25] [.blk b12 (cI ((aR (aH (ab (ak x.p) (aa x.r)) ((aF (ab (ab (aa x.p) (aa x.p)) (ab (ak x.r) (aa x.r)))).1)) (ab (aa x.p) (aa x.r))).2.1)) 25] (congrArg (fun v=>[Asn.blk (ch v) (cI (⟨false,0⟩:GI)) 25]) hb10) (congrArg (fun v=>[Asn.blk (ch v) (cI ((aR (aH (ab (ak x.p) (aa x.r)) ((aF (ab (ab (aa x.p) (aa x.p)) (ab (ak x.r) (aa x.r)))).1)) (ab (aa x.p) (aa x.r))).2.1)) 25]) hb10) (qp zz25 (Eq.trans rfl (congrArg some hb10)) rfl rfl rfl rfl rfl rfl)
  ·intro ξ hφ; exact bg (ay rfl)
  clear h ac wo; intro ξ ac wo hφ h
  replace h:St w0 59 [(2,(ptr b2 0)),(10,ξ 9)] [.blk b8 (cI (aH (ab (ak x.p) (aa x.r)) ((aF (ab (ab (aa x.p) (aa x.p)) (ab (ak x.r) (aa x.r)))).1))) 25,.blk b2 (cI (⟨false,0⟩:GI)) 25,.blk b1 (cR x) 71,.blk b3 (cI (ak x.p)) 25,.blk b4 (cI (aa x.p)) 25,.blk b5 (cI (ak x.r)) 25,.blk b6 (cI (aa x.r)) 25,.blk b7 (cI ((aF (ab (ab (aa x.p) (aa x.p)) (ab (ak x.r) (aa x.r)))).1)) 25,.blk (ch (ξ 9)) (cI ((aR (aH (ab (ak x.p) (aa x.r)) ((aF (ab (ab (aa x.p) (aa x.p)) (ab (ak x.r) (aa x.r)))).1)) (ab (aa x.p) (aa x.r))).1)) 25,.blk (ch (ξ 10)) (cI ((aR (aH (ab (ak x.p) (aa x.r)) ((aF (ab (ab (aa x.p) (aa x.p)) (ab (ak x.r) (aa x.r)))).1)) (ab (aa x.p) (aa x.r))).2.1)) 25] ac wo:=(h.pick [0,1,2,3,4,5,6,7,8,9] DC).sub ⟨rfl,rfl,trivial⟩
  revert h
  obtain ⟨b11,hb9⟩:∃ b,ξ 9=ptr b 0:=hφ 9
  obtain ⟨b12,hb10⟩:∃ b,ξ 10=ptr b 0:=hφ 10
  rw [hb9,hb10]; intro h
  clear hb9 hb10
  clear hφ ξ
  have hd:cB x=(aR (aH (ab (ak x.p) (aa x.r)) ((aF (ab (ab (aa x.p) (aa x.p)) (ab (ak x.r) (aa x.r)))).1)) (ab (aa x.p) (aa x.r))).1:=pt
  refine gz h <| (W) ?_; clear h ac wo; intro ac wo h
  exact ret h rfl (.cell (v:=(vI ((aR (aH (ab (ak x.p) (aa x.r)) ((aF (ab (ab (aa x.p) (aa x.p)) (ab (ak x.r) (aa x.r)))).1)) (ab (aa x.p) (aa x.r))).1))) rfl (i:=1) rfl aa25 zz25 rfl rfl rfl .nil) rfl (h.retP (by rw [hd] <;> rfl) (by rw [hd]; exact (by rw [← hd]; exact u5 ht)))
attribute [irreducible] cB
def gf (x:GR) (y:GR):GQ :=
 (eB (aH (cB x) (aq 1)))
theorem oW (x:GR) (y:GR) (ht:Tm x) (hs1:decide ((gL x) < 0)=false) (hs2:decide ((gL y)≤0)=false) (hs3:decide ((fp y (eB (aH (cB x) (aq 1))))>0)=true) (zx:SzR 36 x) (zy:SzR 36 y) (w0:World):Calls zP 209 #[(vR x),(vR y)] w0 (RetP w0 (vQ (gf x y)) (SzQ 32 (gf x y))):=by
 refine enter (N:=81) Tryz.func209 rfl rfl ?_; intro ac h
 refine gz h <| (xb) fun b1=>(xb) fun b2=>(xa) fun b3=>(xk (mb x (cr zx og))) <| (xg (hs:=by exact fun hg=>fB enA (kk (mb y (cr zy og))))) <| (W) ?_; clear h ac; intro ac wo h
 refine tr h rfl ?_ (by rw [hs1]; rfl)
 refine gz h <| (xk (mb y (cr zy og))) <| (W) ?_; clear h ac wo; intro ac wo h
 refine tr h rfl ?_ hs2
 have c1:=rc x og zx
 have s1:=Calls.pr (c1 w0)
 refine gz h <| (xk (c1)) <| (xa) fun b4=>(W) ?_; clear h ac wo; intro ac wo h
 have s2:=au ((ee 1 40 og  og) w0)
 have s3:=au ((fk (cB x) (aq 1) 39 og s1 s2) w0)
 have s4:=Calls.pr ((fun w_ hB_ hS_=>nF (aH (cB x) (aq 1)) (gm s3 og) w_ ) _ h.bel h.sep)
 replace h:=h.emps 1
 refine im mixed [dw (vI (cB x)) [0],dv (vI (aq 1)),dv (vI (aH (cB x) (aq 1))),dv (vQ (eB (aH (cB x) (aq 1)))),y8 4 4,dw undef [4]] [⟨.blk b4 (cI (cB x)) 25,[]⟩,⟨.blk b3 (cQ oQ) 27,[]⟩,⟨.blk b2 (cR y) 71,[]⟩,⟨.blk b1 (cR x) 71,[]⟩,⟨.emp,[(4,.one 4 fun v=>.blk (ch v) (cQ oQ) 27),(5,.one 4 fun v=>.blk (ch v) (cQ (eB (aH (cB x) (aq 1)))) 27)]⟩] h rfl (by kernel_rfl) ⟨?_,?_,?_,?_,?_,?_,trivial⟩ ?_
 ·intro ξ hφ; exact js [.blk b4 (cI (cB x)) 25] rfl rfl (jr aa25 zz25 rfl rfl rfl (v:=(vI (cB x))) rfl)
 ·intro ξ hφ; exact kD (fB (vs:=[(.int .i64 1)]) (ck cc93 rfl) (fun w_ hB_ hS_=>(ee 1 40 og  og) w_))
 ·intro ξ hφ; exact kD (fB (ck Tryz.call96 rfl) (kk (fk (cB x) (aq 1) 39 og s1 s2)))
 ·intro ξ hφ; exact kD (fB (ck Tryz.call267 rfl) (kk (nF (aH (cB x) (aq 1)) (gm s3 og))))
 ·intro ξ hφ; exact mo (ψ:=fun v=>∃ b,v=ptr b 0) (B:=fun v=>[.blk (ch v) (cQ oQ) 27]) [.emp] rfl (fun v _=>by simp only [dO,bA] <;> rfl) (fun v hv=>by simpa [DF.one,bA] using hv) (jX (gY vv27 rfl))
 ·intro ξ hφ; obtain ⟨b5,hb4⟩:=hφ 4 rfl; exact m0 [.blk b5 (cQ oQ) 27] [.blk b5 (cQ (eB (aH (cB x) (aq 1)))) 27] (congrArg (fun v=>[Asn.blk (ch v) (cQ oQ) 27]) hb4) (congrArg (fun v=>[Asn.blk (ch v) (cQ (eB (aH (cB x) (aq 1)))) 27]) hb4) (qp zz27 (Eq.trans rfl (congrArg some hb4)) rfl rfl rfl rfl rfl rfl)
 clear h ac wo; intro ξ ac wo hφ h
 replace h:St w0 81 [(2,(ptr b1 0)),(3,(ptr b2 0)),(4,(ptr b3 0)),(5,(ptr b4 0)),(6,ξ 4)] [.blk b4 (cI (cB x)) 25,.blk b3 (cQ oQ) 27,.blk b2 (cR y) 71,.blk b1 (cR x) 71,.blk (ch (ξ 4)) (cQ (eB (aH (cB x) (aq 1)))) 27] ac wo:=(h.pick [0,1,2,3,4] DC).sub ⟨rfl,rfl,rfl,rfl,rfl,trivial⟩
 revert h
 obtain ⟨b5,hb4⟩:∃ b,ξ 4=ptr b 0:=hφ 4
 rw [hb4]; intro h
 clear hb4
 clear hφ ξ
 refine gz h <| (xk (nG y (eB (aH (cB x) (aq 1))) (cr zy og) (fW s4 og))) <| (W) ?_; clear h ac wo; intro ac wo h
 refine c_ifT h rfl ?_ hs3
 refine gz h <| (W) ?_; clear h ac wo; intro ac wo h
 exact ret h rfl (.cell (v:=(vQ (eB (aH (cB x) (aq 1))))) rfl (i:=1) rfl aa27 zz27 rfl rfl rfl .nil) rfl (h.retP (by unfold gf; rfl) (by unfold gf; exact s4))
attribute [irreducible] gf
def cC (x:GR) (y:GR):GQ×Int :=
 ((gf x y),0)
theorem me (x:GR) (y:GR) (ht:Tm x) (hs0:decide ((an x y)≥0)=false) (hs1:decide ((gL x) < 0)=false) (hs2:decide ((gL y)≤0)=false) (hs3:decide ((fp y (eB (aH (cB x) (aq 1))))>0)=true) (zx:SzR 36 x) (zy:SzR 36 y) (w0:World):Calls zP 123 #[(vR x),(vR y)] w0 (RetP w0 (.tuple #[(vQ ((cC x y).1)),(.int .i64 ((cC x y).2))]) (SzQ 32 ((cC x y).1))):=by
 refine enter (N:=14) Tryz.func123 rfl rfl ?_; intro ac h
 have p2:=au ((aS x y 16 og zx zy) w0)
 refine gz h <| (xb) fun b1=>(xb) fun b2=>(xa) fun b3=>(xk (aS x y 16 og zx zy)) <| (W) ?_; clear h; intro _ _ h
 refine tr h rfl ?_ hs0
 have c3:=oW x y og og og og zx zy
 have s3:=Calls.pr (c3 w0)
 refine gz h <| (xk (c3)) <| (W) ?_; clear h; intro _ _ h
 exact ret h rfl (.cell (v:=(vQ (gf x y))) rfl (i:=0) rfl aa27 zz27 rfl rfl rfl (.tmp rfl .nil)) rfl (h.retP (by unfold cC; rfl) (by unfold cC; exact s3))
attribute [irreducible] cC
end Go.Sx
namespace Go.Sx
def nxt (x:GR):GQ:=eB (aH (cB x) (aq 1))
def BtP (x y:GR):Prop:=Tm x∧decide ((an x y)≥0)=false∧decide ((gL x) < 0)=false∧decide ((gL y)≤0)=false∧decide ((fp y (eB (aH (cB x) (aq 1))))>0)=true∧Tm y
def nxB (x:GR):Bool:=bif decide (10≤tk x∧tk x < 435) then !(decide ((gL x) < 0)) && (decide (tk x=10) || !(decide ((gL x)≤0))) && (allI.any fun y=>decide (y=dP (nxt x)) && decide (tk x < tk y∧tk y≤tk x+10)) else true
theorem nxB_all:allI.all nxB=true:=by decide +kernel
theorem all_tm {x:GR} (h:x∈allI):Tm x:=by
 unfold allI at h
 rcases List.mem_append.1 h with h | h
 ·unfold insX at h
  simp only [List.mem_cons,List.not_mem_nil,or_false] at h
  rcases h with h | h | h | h
  ·exact ⟨-1,false,.inl rfl,h⟩
  ·exact ⟨-1,true,.inl rfl,h⟩
  ·exact ⟨1000,false,.inr (.inl rfl),h⟩
  ·exact ⟨1000,true,.inr (.inl rfl),h⟩
 ·unfold sW at h
  obtain ⟨i,hi,h⟩:=List.mem_flatMap.1 h
  have hi:=List.mem_range.1 hi
  rw [Nat.zero_add] at h
  rcases List.mem_cons.1 h with h | h
  ·exact ⟨i,false,.inr (.inr og),h⟩
  ·exact ⟨i,true,.inr (.inr og),List.mem_singleton.1 h⟩
theorem nx_ok {x:GR} (hx:Tm x) (h1:10≤tk x) (h2:tk x < 435):decide ((gL x) < 0)=false∧(10 < tk x→decide ((gL x)≤0)=false)∧Tm (dP (nxt x))∧tk x < tk (dP (nxt x))∧tk (dP (nxt x))≤tk x+10:=by
 have h:=Tm.of_all nxB_all hx
 unfold nxB at h
 rw [decide_eq_true ⟨h1,h2⟩,cond_true,Bool.and_eq_true,Bool.and_eq_true] at h
 obtain ⟨⟨a1,a2⟩,a3⟩:=h
 obtain ⟨y,hy,h⟩:=List.any_eq_true.1 a3
 rw [Bool.and_eq_true,decide_eq_true_eq,decide_eq_true_eq] at h
 obtain ⟨rfl,h3,h4⟩:=h
 refine ⟨by simpa using a1,fun h5=>?_,all_tm hy,h3,h4⟩
 rw [decide_eq_false (by omega:¬ tk x=10),Bool.false_or] at a2
 simpa using a2
theorem bt_of {x y:GR} (hx:Tm x) (hy:Tm y) (h1:10≤tk x) (h2:tk x < 435) (h3:tk y < 435) (h:tk x+16≤tk y):BtP x y:=by
 obtain ⟨a1,_,a3,a4,a5⟩:=nx_ok hx h1 h2
 obtain ⟨b1,b2,_⟩:=nx_ok hy og h3
 refine ⟨hx,?_,a1,b2 og,?_,hy⟩
 ·rw [hx.cmp hy,fO og]; rfl
 ·show decide (fp y (nxt x)>0)=true
  unfold fp
  rw [hy.cmp a3,gb og]; rfl
end Go.Sx
namespace Go.Sx
open Go Go.RowKit Go.Proofs
attribute [local irreducible] Code.wp wpList Rd gW ObS Ent
attribute [local irreducible] an bB ah aO az c8
theorem sh:SlT zP 103 86 20 216 (zc [2,2,2,2,1,2,2,2,2,1,1,1]):=⟨Tryz.underlying103,Tryz.t86,_,Tryz.type86,rfl,rfl,rfl,rfl,rfl,by decide,by decide⟩
def gP (l:List (U Qd)) (out:List Iv) (x8:Nat):(List Iv) :=
 out
def df (l:List (U Qd)) (out:List Iv) (x8:Nat):Nx ((List Iv)×Nat) (List Iv) :=
 bif (decide ((x8:Int) < (l.length:Int))) then
  .go ((out++[(gt l x8).iv]),(x8+1))
 else
  .out (out,x8)
def bV (l:List (U Qd)):(List Iv) :=
 fin (bt (fun s=>df l s.1 s.2) ((l.length - 0)+1) ([],0)) (fun s=>gP l s.1 s.2) (fun r=>r)
theorem je (l:List (U Qd)) (lv:Value) (hl:l.length≤1000) (zl:All (gk 30) l) (w0:World) (hlv:View w0 lv l):Calls zP 152 #[lv] w0 (RetR w0 86 (bV l) (All (SzV 30) (bV l)∧(bV l).length=l.length)):=by
 refine enter (N:=19) Tryz.func152 rfl rfl ?_; intro ac h
 have hlenl:=hlv.len
 refine gz h <| (W) ?_; clear h; intro _ _ h
 replace h:=h.nilRow (α:=Iv) 86
 obtain ⟨X1,hX1⟩:∃ X,bt (fun s=>df l s.1 s.2) ((l.length - 0)+1) ([],0)=X:=⟨_,rfl⟩
 refine wp_loop_ghost (fun n_ a_ w_=>∃ (out:List Iv) (x8:Nat) (outv:Value),((l.length - x8) < n_)∧(bt (fun s=>df l s.1 s.2) n_ (out,x8)=X1)∧(x8≤l.length)∧(All (SzV 30) out)∧(out.length=x8)∧St w0 19 [(3,outv),(6,lv),(7,(iN l.length)),(8,(iN x8))] [.row (α:=Iv) 86 outv out] a_ w_) ((l.length - 0)+1) ⟨[],0,(.slice none 0 0),og,hX1,og,All.nil,og,h.rs⟩ ?_
 clear h; rintro n1 _ _ ⟨out,x8,outv,hm1,hL1,hx8,zout,hol,h⟩
 obtain ⟨m1,rfl⟩:∃ m,n1=m+1:=⟨n1 - 1,by omega⟩
 refine gz h <| (ai) ?_ ?_ <;> clear h <;> intro _ _ h hc1
 ·
  have hd1:=of_decide_eq_true hc1
  refine gz h <| (xa) fun b1=>(W) ?_; clear h; intro _ _ h
  refine nw h (cA (α:=Iv) (xs:=[.tmp 14]) (vs:=[(vV ((gt l x8).iv))]) [(gt l x8).iv] sh rfl rfl rfl DC) rfl ?_; clear h; intro sv2 _ _ nnsv2 h
  refine on2 h 2 0 rfl rfl (fe (xs:=out) (ys:=[(gt l x8).iv]) sh (fun w hs=>(row_view hs 0 rfl)) rfl rfl og) rfl ?_; clear h; intro sv3 _ _ apsv3 h
  have hg:=bI hL1 pt
  exact (nx h) fun _ _ h=>by exact ⟨m1,og,_,_,_,og,hg,og,(All.app zout (All.cons (All.gt zl (bL _)).1 All.nil)),og,h.re [0]⟩
 ·
  have hd1:=of_decide_eq_false hc1
  have hx1:=cG hL1 pt
  have hd:bV l=out:=pt
  exact (rx h) fun _ _ h=>(by rw [hd]; exact h.retR 0 rfl ⟨zout,og⟩)
attribute [irreducible] bV
def kQ (l:List (U Qd)) (t:GR) (i:Nat) (f:Qd):Qd×Bool :=
 (f,false)
def cM (l:List (U Qd)) (t:GR) (i:Nat) (f:Qd):Nx (Nat×Qd) (Qd×Bool) :=
 bif (decide ((i:Int) < (l.length:Int))) then
  bif (aT ((gt l i).iv) t t false) then
   .ret ((gt l i).f,true)
  else
   .go ((i+1),f)
 else
  .out (i,f)
def bp (l:List (U Qd)) (t:GR):Qd×Bool :=
 fin (bt (fun s=>cM l t s.1 s.2) ((l.length - 0)+1) (0,(⟨(⟨(⟨false,0⟩:GI),(⟨false,0⟩:GI)⟩:GQ),(⟨(⟨false,0⟩:GI),(⟨false,0⟩:GI)⟩:GQ),(⟨(⟨false,0⟩:GI),(⟨false,0⟩:GI)⟩:GQ)⟩:Qd))) (fun s=>kQ l t s.1 s.2) (fun r=>r)
theorem fg (l:List (U Qd)) (lv:Value) (t:GR) (zl:All (gk 30) l) (zt:SzR 30 t) (w0:World) (hlv:View w0 lv l):Calls zP 36 #[lv,(vR t)] w0 (RetP w0 (.tuple #[(vD ((bp l t).1)),(.bool ((bp l t).2))]) (SzD 30 ((bp l t).1))):=by
 refine enter (N:=27) Tryz.func36 rfl rfl ?_; intro ac h
 have hlenl:=hlv.len
 obtain ⟨X1,hX1⟩:∃ X,bt (fun s=>cM l t s.1 s.2) ((l.length - 0)+1) (0,oD)=X:=⟨_,rfl⟩
 refine gz h <| (xb) fun b1=>(xa) fun b2=>(W) ?_; clear h; intro _ _ h
 refine wp_loop_ghost (fun n_ a_ w_=>∃ (i:Nat) (f:Qd),((l.length - i) < n_)∧(bt (fun s=>cM l t s.1 s.2) n_ (i,f)=X1)∧(i≤l.length)∧(SzD 30 f)∧St w0 27 [(0,lv),(3,(ptr b1 0)),(4,(ptr b2 0)),(6,(iN i))] [.blk b2 (cD f) 53,.blk b1 (cR t) 71] a_ w_) ((l.length - 0)+1) ⟨0,oD,og,hX1,og,⟨⟨(bJ 0 DC og),(bJ 0 DC og)⟩,⟨(bJ 0 DC og),(bJ 0 DC og)⟩,⟨(bJ 0 DC og),(bJ 0 DC og)⟩⟩,h.rs⟩ ?_
 clear h; rintro n1 _ _ ⟨i,f,hm1,hL1,hi,zf,h⟩
 obtain ⟨m1,rfl⟩:∃ m,n1=m+1:=⟨n1 - 1,by omega⟩
 refine gz h <| (ai) ?_ ?_ <;> clear h <;> intro _ _ h hc1
 ·
  have hd1:=of_decide_eq_true hc1
  refine gz h <| (dr0 (hob:=(oK (jS ((gt l i).iv) t t false (All.gt zl (bL _)).1 zt zt)) <| oE)) <| (ai) ?_ ?_ <;> clear h <;> intro _ _ h hc2
  ·
   have q:=hc2; try simp at q
   have hr1:=iH hL1 pt
   have hd:bp l t=((gt l i).f,true):=pt
   refine gz h <| (W) ?_; clear h; intro _ _ h
   exact ret h rfl (.cell (v:=(vD ((gt l i).f))) rfl (i:=0) rfl aa53 zz53 rfl rfl rfl (.tmp rfl .nil)) rfl (h.retP (by rw [hd] <;> rfl) (by rw [hd]; exact (All.gt zl (bL _)).2))
  ·
   have q:=hc2; try simp at q
   have hg:=bI hL1 pt
   exact (nx h) fun _ _ h=>by exact ⟨m1,og,_,_,og,hg,og,zf,h.re [0,1]⟩
 ·
  have hd1:=of_decide_eq_false hc1
  have hx1:=cG hL1 pt
  have hd:bp l t=(f,false):=pt
  refine gz h <| (W) ?_; clear h; intro _ _ h
  exact ret h rfl (.cell (v:=(vD f)) rfl (i:=0) rfl aa53 zz53 rfl rfl rfl (.tmp rfl .nil)) rfl (h.retP (by rw [hd] <;> rfl) (by rw [hd]; exact zf))
attribute [irreducible] bp
def eU (u:U Qd) (t:GR):Int :=
 (an u.iv.hi t)
theorem kt (u:U Qd) (t:GR) (zu:gk 30 u) (zt:SzR 30 t) (w0:World):Calls zP 129 #[(vUD u),(vR t)] w0 (RetP w0 (.int .i64 (eU u t)) (True)):=by
 refine enter (N:=10) Tryz.func129 rfl rfl ?_; intro ac h
 have p2:=au ((aS u.iv.hi t 10 og zu.1.2 zt) w0)
 refine gz h <| (xb) fun b1=>(xb) fun b2=>(xk (aS u.iv.hi t 10 og zu.1.2 zt)) <| (W) ?_; clear h; intro _ _ h
 exact (rt h) (h.retP (by unfold eU; rfl) trivial)
attribute [irreducible] eU
def fm (x:List (U Qd)) (target:GR) (i:Nat) (j:Nat):Int×Bool :=
 ((i:Int),((decide ((i:Int) < (x.length:Int))) && ((eU (gt x i) target) == 0)))
def aL (x:List (U Qd)) (target:GR) (i:Nat) (j:Nat):Nx (Nat×Nat) (Int×Bool) :=
 bif (decide ((i:Int) < (j:Int))) then
  bif (decide ((eU (gt x ((i+j) / 2)) target) < 0)) then
   .go ((((i+j) / 2)+1),j)
  else
   .go (i,((i+j) / 2))
 else
  .out (i,j)
def aE (x:List (U Qd)) (target:GR):Int×Bool :=
 fin (bt (fun s=>aL x target s.1 s.2) (x.length - 0+1) (0,x.length)) (fun s=>fm x target s.1 s.2) (fun r=>r)
theorem dH (x:List (U Qd)) (xv:Value) (target:GR) (hl:x.length≤1000) (zx:All (gk 30) x) (ztarget:SzR 30 target) (w0:World) (hxv:View w0 xv x):Calls zP 128 #[xv,(vR target),(.func (.func 129) #[] #[])] w0 (RetP w0 (.tuple #[(.int .i64 ((aE x target).1)),(.bool ((aE x target).2))]) ((0≤(aE x target).1∧(aE x target).1≤(x.length:Int)))):=by
 refine enter (N:=49) Tryz.func128 rfl rfl ?_; intro ac h
 have hlenx:=hxv.len
 obtain ⟨X1,hX1⟩:∃ X,bt (fun s=>aL x target s.1 s.2) (x.length - 0+1) (0,x.length)=X:=⟨_,rfl⟩
 refine gz h <| (xb) fun b1=>(W) ?_; clear h; intro _ _ h
 refine wp_loop_ghost (fun n_ a_ w_=>∃ (i:Nat) (j:Nat),(j - i < n_)∧(bt (fun s=>aL x target s.1 s.2) n_ (i,j)=X1)∧(i≤j)∧(j≤x.length)∧St w0 49 [(0,xv),(2,(.func (.func 129) #[] #[])),(4,(ptr b1 0)),(8,(iN x.length)),(9,(iN i)),(10,(iN j))] [.blk b1 (cR target) 71] a_ w_) (x.length - 0+1) ⟨0,x.length,og,hX1,og,og,h.rs⟩ ?_
 clear h; rintro n1 _ _ ⟨i,j,hm1,hL1,hij,hjn,h⟩
 obtain ⟨m1,rfl⟩:∃ m,n1=m+1:=⟨n1 - 1,by omega⟩
 refine gz h <| (ai) ?_ ?_ <;> clear h <;> intro _ _ h hc1
 ·
  have hd1:=of_decide_eq_true hc1
  refine gz h <| (xo (hs:=by exact be uu3 uu276 rfl (r:=((i+j:Nat):Int)) (by rw [IntKind.wrap_u64]; omega))) <| (xo (hs:=by exact ni rfl rfl (r:=((((i+j) / 2:Nat)):Int)) og (by first | decide | (simp [IntKind.bits] <;> omega)) (by rw [show ((1:Int).toNat)=1 from rfl]; omega))) <| (xo (hs:=by exact be uu276 uu3 rfl (r:=((((i+j) / 2:Nat)):Int)) (by rw [IntKind.wrap_i64]; omega))) <| (dr0 (hob:=(oK (kt (gt x ((i+j) / 2)) target (All.gt zx (bL _)) ztarget)) <| oE)) <| (ai) ?_ ?_ <;> clear h <;> intro _ _ h hc2
  ·
   have hd2:=of_decide_eq_true hc2
   have hg:=bI hL1 pt
   exact (nx h) fun _ _ h=>by exact ⟨m1,og,_,_,og,hg,og,og,h.re [0]⟩
  ·
   have hd2:=of_decide_eq_false hc2
   have hg:=bI hL1 pt
   exact (nx h) fun _ _ h=>by exact ⟨m1,og,_,_,og,hg,og,og,h.re [0]⟩
 ·
  have hd1:=of_decide_eq_false hc1
  have hx1:=cG hL1 pt
  have hd:aE x target=((i:Int),((decide ((i:Int) < (x.length:Int))) && ((eU (gt x i) target) == 0))):=pt
  refine gz h <| (dr0 (hob:=(oG (by exact fun hg=>kt (gt x i) target (All.gt zx (bL _)) ztarget)) <| oE)) <| (W) ?_; clear h; intro _ _ h
  exact (rt h) (h.retP (by rw [hd] <;> rfl) (by rw [hd]; exact og))
attribute [irreducible] aE
def oc (l:List (U Qd)) (t:GR) (i:Nat) (mb2:Qd):Qd×Bool :=
 ((⟨(⟨(⟨false,0⟩:GI),(⟨false,0⟩:GI)⟩:GQ),(⟨(⟨false,0⟩:GI),(⟨false,0⟩:GI)⟩:GQ),(⟨(⟨false,0⟩:GI),(⟨false,0⟩:GI)⟩:GQ)⟩:Qd),false)
def eF (l:List (U Qd)) (t:GR) (i:Nat) (mb2:Qd):Nx (Nat×Qd) (Qd×Bool) :=
 bif (decide ((i:Int) < (l.length:Int))) then
  bif (decide ((an (((gt l i).iv).lo) t)>0)) then
   .out (i,mb2)
  else
   bif (((decide ((an (((gt l i).iv).lo) t) < 0)) || (!((gt l i).iv).openLo)) && ((!(decide (((gt l i).iv).hi=t))) || (!((gt l i).iv).openHi))) then
    .ret ((gt l i).f,true)
   else
    .go ((i+1),mb2)
 else
  .out (i,mb2)
def dq (l:List (U Qd)) (t:GR):Qd×Bool :=
 fin (bt (fun s=>eF l t s.1 s.2) ((l.length - (((aE l t).1).toNat))+1) (((aE l t).1).toNat,(⟨(⟨(⟨false,0⟩:GI),(⟨false,0⟩:GI)⟩:GQ),(⟨(⟨false,0⟩:GI),(⟨false,0⟩:GI)⟩:GQ),(⟨(⟨false,0⟩:GI),(⟨false,0⟩:GI)⟩:GQ)⟩:Qd))) (fun s=>oc l t s.1 s.2) (fun r=>r)
theorem lj (l:List (U Qd)) (lv:Value) (t:GR) (hl:l.length≤1000) (zl:All (gk 30) l) (zt:SzR 30 t) (w0:World) (hlv:View w0 lv l):Calls zP 38 #[lv,(vR t)] w0 (RetP w0 (.tuple #[(vD ((dq l t).1)),(.bool ((dq l t).2))]) (SzD 30 ((dq l t).1))):=by
 refine enter (N:=68) Tryz.func38 rfl rfl ?_; intro ac h
 have hlenl:=hlv.len
 refine pm fun K1 hK1=>?_
 refine bx h (cR t) rfl rfl rfl fun b1=>ga (cD oD) vv53 rfl rfl fun b2=>g0 (ay rfl) rfl <| gn hK1 <| gr fun K2 hK2=>g0 (ap rfl) rfl <| g1 1 rfl (jr aa71 zz71 rfl rfl rfl (v:=(vR t)) rfl) rfl ?_; clear h ac; intro ac wo h
 have s1:=Calls.pr ((fun w_ hB_ hS_=>dH l lv t og zl zt w_ (hlv.below hB_)) _ h.bel h.sep)
 have p2:=s1
 refine wr h (ck Tryz.call128 rfl) (fun w_ hB_ hS_=>dH l lv t og zl zt w_ (hlv.below hB_)) rfl <| g0 (ap rfl) rfl <| g0 (Rd.cast (cn rfl rfl) (v:=.int .i64 (((aE l t).1).toNat:Int)) (congrArg (Value.int .i64) og)) rfl <| g0 (cn rfl rfl) rfl <| g0 (ay rfl) rfl <| g0 (ay rfl) rfl <| gn hK2 <| gq fun K3 hK3=>gB ?_; clear h ac wo; intro ac wo h
 obtain ⟨X1,hX1⟩:∃ X,bt (fun s=>eF l t s.1 s.2) ((l.length - (((aE l t).1).toNat))+1) (((aE l t).1).toNat,oD)=X:=⟨_,rfl⟩
 refine wp_loop_ghost (fun n_ a_ w_=>∃ (i:Nat) (mb2:Qd),((l.length - i) < n_)∧(bt (fun s=>eF l t s.1 s.2) n_ (i,mb2)=X1)∧(i≤l.length)∧(SzD 30 mb2)∧St w0 68 [(0,lv),(3,(ptr b1 0)),(4,(ptr b2 0)),(6,(iN i))] [.blk b2 (cD mb2) 53,.blk b1 (cR t) 71] a_ w_) ((l.length - (((aE l t).1).toNat))+1) ⟨((aE l t).1).toNat,oD,og,hX1,og,⟨⟨(bJ 0 DC og),(bJ 0 DC og)⟩,⟨(bJ 0 DC og),(bJ 0 DC og)⟩,⟨(bJ 0 DC og),(bJ 0 DC og)⟩⟩,h.rs⟩ ?_
 clear h ac wo; rintro n1 ac wo ⟨i,mb2,hm1,hL1,hi,zmb2,h⟩
 obtain ⟨m1,rfl⟩:∃ m,n1=m+1:=⟨n1 - 1,by omega⟩
 refine gz h <| gq fun K4 hK4=>gr fun K5 hK5=>g0 (ap rfl) rfl <| g0 (ap rfl) rfl <| g0 (il uu50 rfl hlv.sl) rfl <| g0 (j7 rfl rfl) rfl <| gn hK5 ?_; clear h ac wo; intro ac wo h
 refine kA h rfl (fun hc1=>?_) (fun hc1=>?_)
 ·
  have hd1:=of_decide_eq_true hc1
  refine mE ?_
  refine hK4 _ _ ?_
  refine qb fun K6 hK6=>?_
  refine qc ?_
  refine qb fun K7 hK7=>?_
  have p4:=au ((aS (((gt l i).iv).lo) t 10 og ((All.gt zl (bL _)).1).1 zt) w0)
  refine im mixed [dv _,dv _,dv _,dv _,dv _,dv _,dw _ [1],dv _,dv _] [ge _,ge _] h rfl (by kernel_rfl) ⟨fun _ _=>om rfl,fun _ _=>om rfl,fun _ _=>bg (iy (i:=i) uu50 zz126 rfl rfl (hlv.nn (i:=i) og) og),fun _ _=>bg (fs uu126 rfl zz86 rfl (hlv.nn (i:=0) og) rfl rfl (k':=i*32+0)),fun _ _=>bg (fs uu86 rfl zz71 rfl (hlv.nn (i:=0) og) rfl (by first | rfl | (simp only [Nat.add_assoc] <;> rfl)) (k':=i*32+0)),fun _ _=>bg (lE (k:=0) aa71 zz71 hlv (ff og) rfl rfl rfl rfl (v:=(vR (((gt l i).iv).lo))) rfl),fun _ _=>js _ rfl rfl (jr aa71 zz71 rfl rfl rfl (v:=(vR t)) rfl),fun _ _=>kD (fB (ck Tryz.call127 rfl) (kk (aS (((gt l i).iv).lo) t 10 og ((All.gt zl (bL _)).1).1 zt))),fun _ _=>bg (ay rfl),trivial⟩ ?_
  clear h ac wo; intro ξ ac wo hφ h
  replace h:St w0 68 [(0,lv),(3,(ptr b1 0)),(4,(ptr b2 0)),(6,(iN i)),(8,(.int .i64 (an (((gt l i).iv).lo) t)))] [.blk b2 (cD mb2) 53,.blk b1 (cR t) 71] ac wo:=(h.pick [0,1] DC).sub ⟨rfl,rfl,rfl,rfl,rfl,trivial⟩
  clear hφ ξ
  refine gz h <| gx hK7 <| gq fun K8 hK8=>gr fun K9 hK9=>g0 (ap rfl) rfl <| g0 (r_gtr rfl rfl) rfl <| gn hK9 ?_; clear h ac wo; intro ac wo h
  refine kA h rfl (fun hc2=>?_) (fun hc2=>?_)
  ·
   have hd2:=of_decide_eq_true hc2
   refine kd ?_
   have hx1:=cG hL1 pt
   refine gz h <| gx hK3 <| gr fun K10 hK10=>ga (cD oD) vv53 rfl rfl fun b3=>gn hK10 <| gr fun K11 hK11=>g1 0 rfl (jr aa53 zz53 rfl rfl rfl (v:=(vD oD)) rfl) rfl <| gs 1 (cD oD) rfl zz53 rfl rfl rfl rfl rfl rfl rfl <| g0 (ay rfl) rfl <| gn hK11 <| gT ?_; clear h ac wo; intro ac wo h
   have hd:dq l t=(oD,false):=pt
   exact ret h rfl (.cell (v:=(vD oD)) rfl (i:=1) rfl aa53 zz53 rfl rfl rfl (.tmp rfl .nil)) rfl (h.retP (by rw [hd] <;> rfl) (by rw [hd]; exact ⟨⟨(bJ 0 DC og),(bJ 0 DC og)⟩,⟨(bJ 0 DC og),(bJ 0 DC og)⟩,⟨(bJ 0 DC og),(bJ 0 DC og)⟩⟩))
  ·
   have hd2:=of_decide_eq_false hc2
   refine mE ?_
   refine hK8 _ _ ?_
   refine qb fun K12 hK12=>?_
   refine im mixed [dv _,dv _,dv _,dv _,dv _,dv _,dv _,dv _,dv _,dv _,dv _,dv _,dv _,dv _,dv _,dv _,dv _,dv _,dw _ [1],dv _,dv _,dv _,dv _,dv _,dv _,dv _,dv _,dv _,dv _,dv _] [ge _,ge _] h rfl (by kernel_rfl) ⟨fun _ _=>om rfl,fun _ _=>bg (j7 rfl rfl),fun _ _=>om rfl,fun _ _=>og2 rfl rfl rfl rfl (fun hg=>Rd.step (ap rfl)),fun _ _=>og2 rfl rfl rfl rfl (fun hg=>Rd.step (ap rfl)),fun _ _=>og2 rfl rfl rfl rfl (fun hg=>Rd.step (iy (i:=i) uu50 zz126 (db rfl hg) (db rfl hg) (hlv.nn (i:=i) og) og)),fun _ _=>og2 rfl rfl rfl rfl (fun hg=>Rd.step (fs uu126 rfl zz86 rfl (hlv.nn (i:=0) og) (db rfl hg) rfl (k':=i*32+0))),fun _ _=>og2 rfl rfl rfl rfl (fun hg=>Rd.step (fs uu86 rfl zz4 rfl (hlv.nn (i:=0) og) (db rfl hg) (by first | rfl | (simp only [Nat.add_assoc] <;> rfl)) (k':=i*32+18))),fun _ _=>og2 rfl rfl rfl rfl (fun hg=>Rd.step (lE (k:=18) aa4 zz4 hlv (ff og) (db rfl hg) rfl rfl rfl (v:=(.bool (((gt l i).iv).openLo))) rfl)),fun _ _=>og2 rfl rfl rfl rfl (fun hg=>Rd.step (r_not (db rfl hg))),fun _ _=>bg (r_or rfl (fun e=>(db rfl (notI e)))),fun _ _=>om rfl,fun _ _=>oh rfl rfl rfl rfl (fun hg=>ap rfl),fun _ _=>oh rfl rfl rfl rfl (fun hg=>ap rfl),fun _ _=>oh rfl rfl rfl rfl (fun hg=>iy (i:=i) uu50 zz126 (db rfl hg) (db rfl hg) (hlv.nn (i:=i) og) og),fun _ _=>oh rfl rfl rfl rfl (fun hg=>fs uu126 rfl zz86 rfl (hlv.nn (i:=0) og) (db rfl hg) rfl (k':=i*32+0)),fun _ _=>oh rfl rfl rfl rfl (fun hg=>fs uu86 rfl zz71 rfl (hlv.nn (i:=0) og) (db rfl hg) (by first | rfl | (simp only [Nat.add_assoc] <;> rfl)) (k':=i*32+9)),fun _ _=>oh rfl rfl rfl rfl (fun hg=>lE (k:=9) aa71 zz71 hlv (ff og) (db rfl hg) rfl rfl rfl (v:=(vR (((gt l i).iv).hi))) rfl),fun _ _=>oh rfl rfl rfl rfl (fun hg=>jr aa71 zz71 rfl rfl rfl (v:=(vR t)) rfl),fun _ _=>oh rfl rfl rfl rfl (fun hg=>xq eqp71 (db rfl hg) (db rfl hg)),fun _ _=>oh rfl rfl rfl rfl (fun hg=>ap (db rfl hg)),fun _ _=>og4 rfl rfl rfl rfl (fun hg=>Rd.step (ap rfl)),fun _ _=>og4 rfl rfl rfl rfl (fun hg=>Rd.step (ap rfl)),fun _ _=>og4 rfl rfl rfl rfl (fun hg=>Rd.step (iy (i:=i) uu50 zz126 (db rfl hg) (db rfl hg) (hlv.nn (i:=i) og) og)),fun _ _=>og4 rfl rfl rfl rfl (fun hg=>Rd.step (fs uu126 rfl zz86 rfl (hlv.nn (i:=0) og) (db rfl hg) rfl (k':=i*32+0))),fun _ _=>og4 rfl rfl rfl rfl (fun hg=>Rd.step (fs uu86 rfl zz4 rfl (hlv.nn (i:=0) og) (db rfl hg) (by first | rfl | (simp only [Nat.add_assoc] <;> rfl)) (k':=i*32+19))),fun _ _=>og4 rfl rfl rfl rfl (fun hg=>Rd.step (lE (k:=19) aa4 zz4 hlv (ff og) (db rfl hg) rfl rfl rfl (v:=(.bool (((gt l i).iv).openHi))) rfl)),fun _ _=>og4 rfl rfl rfl rfl (fun hg=>Rd.step (r_not (db rfl hg))),fun _ _=>oh rfl rfl rfl rfl (fun hg=>r_or (db rfl hg) (fun e=>(db rfl (andI hg (notI e))))),fun _ _=>bg (qr rfl (fun e=>(db rfl e))),trivial⟩ ?_
   clear h ac wo; intro ξ ac wo hφ h
   replace h:St w0 68 [(0,lv),(3,(ptr b1 0)),(4,(ptr b2 0)),(6,(iN i)),(61,(.bool (((decide ((an (((gt l i).iv).lo) t) < 0)) || (!((gt l i).iv).openLo)) && ((!(decide (((gt l i).iv).hi=t))) || (!((gt l i).iv).openHi)))))] [.blk b2 (cD mb2) 53,.blk b1 (cR t) 71] ac wo:=(h.pick [0,1] DC).sub ⟨rfl,rfl,rfl,rfl,rfl,trivial⟩
   clear hφ ξ
   refine hK12 _ _ ?_
   refine kA h rfl (fun hc3=>?_) (fun hc3=>?_)
   ·
    have q:=hc3; try simp at q
    refine gz h <| gr fun K13 hK13=>g0 (ap rfl) rfl <| g0 (ap rfl) rfl <| g0 (iy (i:=i) uu50 zz126 rfl rfl (hlv.nn (i:=i) og) og) rfl <| g0 (fs uu126 rfl zz53 rfl (hlv.nn (i:=0) og) rfl rfl (k':=i*32+20)) rfl <| g0 (lE (k:=20) aa53 zz53 hlv (ff og) rfl rfl rfl rfl (v:=(vD ((gt l i).f))) rfl) rfl <| gs 0 (cD ((gt l i).f)) rfl zz53 rfl rfl rfl rfl rfl rfl rfl <| g0 (ay rfl) rfl <| gn hK13 <| gT ?_; clear h ac wo; intro ac wo h
    have hr1:=iH hL1 pt
    have hd:dq l t=((gt l i).f,true):=pt
    exact ret h rfl (.cell (v:=(vD ((gt l i).f))) rfl (i:=0) rfl aa53 zz53 rfl rfl rfl (.tmp rfl .nil)) rfl (h.retP (by rw [hd] <;> rfl) (by rw [hd]; exact (All.gt zl (bL _)).2))
   ·
    have q:=hc3; try simp at q
    refine gz h <| gS <| gN <| gx hK6 <| gR <| g0 (ap rfl) rfl <| g0 (eH rfl rfl (r:=((i+1:Nat):Int)) (by rw [IntKind.wrap_i64]; omega)) rfl <| g0 (ay rfl) rfl <| gx (fun _ _=>fX) ?_; clear h ac wo; intro ac wo h
    have hg:=bI hL1 pt
    exact aD ⟨m1,og,_,_,og,hg,og,zmb2,h.re [0,1]⟩
 ·
  have hd1:=of_decide_eq_false hc1
  refine kd ?_
  have hx1:=cG hL1 pt
  refine gz h <| gx hK3 <| gr fun K14 hK14=>ga (cD oD) vv53 rfl rfl fun b4=>gn hK14 <| gr fun K15 hK15=>g1 0 rfl (jr aa53 zz53 rfl rfl rfl (v:=(vD oD)) rfl) rfl <| gs 1 (cD oD) rfl zz53 rfl rfl rfl rfl rfl rfl rfl <| g0 (ay rfl) rfl <| gn hK15 <| gT ?_; clear h ac wo; intro ac wo h
  have hd:dq l t=(oD,false):=pt
  exact ret h rfl (.cell (v:=(vD oD)) rfl (i:=1) rfl aa53 zz53 rfl rfl rfl (.tmp rfl .nil)) rfl (h.retP (by rw [hd] <;> rfl) (by rw [hd]; exact ⟨⟨(bJ 0 DC og),(bJ 0 DC og)⟩,⟨(bJ 0 DC og),(bJ 0 DC og)⟩,⟨(bJ 0 DC og),(bJ 0 DC og)⟩⟩))
attribute [irreducible] dq
end Go.Sx
namespace Go.Sx
theorem oT (l:List (U Qd)):bV l=l.map (·.iv):=by
 have h:=pS (R:=List Iv) (f:=fun (o:List Iv) (u:U Qd)=>o++[u.iv]) l (B:=fun s=>df l s.1 s.2) (fun o i hi=>by
  show df l o i=_
  unfold df
  rw [decide_eq_true (by omega:(i:Int) < (l.length:Int))]; rfl) (fun o=>by
  show df l o l.length=_
  unfold df
  rw [decide_eq_false (by omega:¬ (l.length:Int) < (l.length:Int))]; rfl) l [] [] (l.length - 0+1) rfl og
 unfold bV
 refine (ir h).trans ?_
 show gP l _ _=_
 unfold gP
 rw [pQ,List.nil_append]
 clear h
 show (l.flatMap fun u=>[u.iv])=_
 induction l with
 | nil=>rfl
 | cons u l ih=>rw [List.flatMap_cons,List.map_cons,ih]; rfl
theorem mw {l:List (U Qd)} (h:∀ u∈l,Wv u.iv):∀ i∈bV l,Wv i:=fun i hi=>by
 rw [oT] at hi
 obtain ⟨u,hu,rfl⟩:=List.mem_map.1 hi
 exact h u hu
end Go.Sx
namespace Go.Sx
open Go Go.RowKit Go.Proofs
attribute [local irreducible] Code.wp wpList Rd gW ObS Ent
attribute [local irreducible] an bB ah aO az c8
def iu (l:List (U Qd)) (out:List GR) (i:Nat):(List GR) :=
 out
def bF (l:List (U Qd)) (out:List GR) (i:Nat):Nx ((List GR)×Nat) (List GR) :=
 bif (decide ((i:Int) < (((am l ([])).length:Nat):Int))) then
  bif (decide ((i:Int)>0)) then
   bif (((cC (gt (am l ([])) (i - 1)) (gt (am l ([])) i)).2) == 0) then
    .go (((out++[(gt (am l ([])) i)])++[(dP ((cC (gt (am l ([])) (i - 1)) (gt (am l ([])) i)).1))]),(i+1))
   else
    .go ((out++[(gt (am l ([])) i)]),(i+1))
  else
   .go ((out++[(gt (am l ([])) i)]),(i+1))
 else
  .out (out,i)
def bk (l:List (U Qd)):(List GR) :=
 fin (bt (fun s=>bF l s.1 s.2) (((am l []).length - 0)+1) ([(bh (-1)),(bh 1000)],0)) (fun s=>iu l s.1 s.2) (fun r=>r)
theorem it (l:List (U Qd)) (lv:Value) (hl:l.length≤100) (hg:∀ i,0 < i→i < (am l []).length→BtP (gt (am l []) (i - 1)) (gt (am l []) i)) (zl:All (gk 30) l) (w0:World) (hlv:View w0 lv l):Calls zP 35 #[lv] w0 (RetR w0 71 (bk l) (All (SzR 30) (bk l)∧(bk l).length≤2+4*l.length+4*l.length)):=by
 refine enter (N:=49) Tryz.func35 rfl rfl ?_; intro ac h
 have hlenl:=hlv.len
 refine gz h <| (W) ?_; clear h ac; intro ac wo h
 replace h:=h.nilRow (α:=GR) 71
 refine on1 h 0 rfl (ji (vs:=[lv,(.slice none 0 0)]) (A:=fun v=>[.row (α:=GR) 71 v (am l ([]))]) (ck Tryz.call61 rfl) (fun w_ B_ hB_ hS_=>ja l lv ([]) (.slice none 0 0) og og zl All.nil w0 w_ B_ hB_ hS_ hlv)) rfl ?_; clear h ac wo; intro sv2 ac wo s3 h
 have p4:=s3.2
 have c5:=fl (-1) og
 have s5:=Calls.pr (c5 w0)
 have c6:=fl 1000 og
 have s6:=Calls.pr (c6 w0)
 refine gz h <| (xk (c5)) <| (xk (c6)) <| ?_; clear h ac wo; intro ac wo h
 refine nw h (cA (α:=GR) (xs:=[.tmp 10,.tmp 11]) (vs:=[(vR (bh (-1))),(vR (bh 1000))]) [(bh (-1)),(bh 1000)] n7 rfl rfl rfl DC) rfl ?_; clear h ac wo; intro sv7 ac wo nnsv7 h
 obtain ⟨X1,hX1⟩:∃ X,bt (fun s=>bF l s.1 s.2) (((am l []).length - 0)+1) ([(bh (-1)),(bh 1000)],0)=X:=⟨_,rfl⟩
 refine gz h <| (W) ?_; clear h ac wo; intro ac wo h
 refine wp_loop_ghost (fun n_ a_ w_=>∃ (out:List GR) (i:Nat) (outv:Value),(((am l []).length - i) < n_)∧(bt (fun s=>bF l s.1 s.2) n_ (out,i)=X1)∧(i≤(am l []).length)∧(All (SzR 30) out)∧(out.length≤2+2*i)∧St w0 49 [(3,sv2),(4,outv),(5,(iN i))] [.row (α:=GR) 71 outv out,.row (α:=GR) 71 sv2 (am l ([]))] a_ w_) (((am l []).length - 0)+1) ⟨[(bh (-1)),(bh 1000)],0,sv7,og,hX1,og,(All.cons (cr s5 og) (All.cons (cr s6 og) All.nil)),og,h.rs⟩ ?_
 clear h ac wo; rintro n1 ac wo ⟨out,i,outv,hm1,hL1,hi,zout,hol,h⟩
 obtain ⟨m1,rfl⟩:∃ m,n1=m+1:=⟨n1 - 1,by omega⟩
 refine gz h <| (ai) ?_ ?_ <;> clear h ac wo <;> intro ac wo h hc1
 ·
  have hd1:=of_decide_eq_true hc1
  refine gz h <| (W) ?_; clear h ac wo; intro ac wo h
  refine nw h (cA (α:=GR) (xs:=[.tmp 23]) (vs:=[(vR (gt (am l ([])) i))]) [(gt (am l ([])) i)] n7 rfl rfl rfl DC) rfl ?_; clear h ac wo; intro sv8 ac wo nnsv8 h
  refine on2 h 1 0 rfl rfl (fe (xs:=out) (ys:=[(gt (am l ([])) i)]) n7 (fun w hs=>(row_view hs 0 rfl)) rfl rfl og) rfl ?_; clear h ac wo; intro sv9 ac wo apsv9 h
  refine gz h <| (ai) ?_ ?_ <;> clear h ac wo <;> intro ac wo h hc2
  ·
   have hd2:=of_decide_eq_true hc2
   refine gz h <| (W) ?_; clear h ac wo; intro ac wo h
   have s10:=Calls.pr ((fun w_ hB_ hS_=>me (gt (am l ([])) (i - 1)) (gt (am l ([])) i) (hg i og og).1 (hg i og og).2.1 (hg i og og).2.2.1 (hg i og og).2.2.2.1 (hg i og og).2.2.2.2.1 (cr (j:=36) (k:=40) (nW (hg i og og).1) og) (cr (j:=36) (k:=40) (nW (hg i og og).2.2.2.2.2) og) w_ ) _ h.bel h.sep)
   replace h:=h.emps 1
   refine im mixed [dv _,dv _,dv _,dv _,dw _ [2],dv _,dv _,dv _,dw _ [2],dv _,dv _,dv _,dv _,y8 13 3,dw undef [3],dv _] [ge _,ge _,ge _,⟨.emp,[(13,.one 13 fun v=>.blk (ch v) (cQ oQ) 27),(14,.one 13 fun v=>.blk (ch v) (cQ ((cC (gt (am l ([])) (i - 1)) (gt (am l ([])) i)).1)) 27)]⟩] h rfl (by kernel_rfl) ⟨fun _ _=>om rfl,fun _ _=>om rfl,fun _ _=>bg (fh rfl rfl (r:=(((i - 1):Nat):Int)) (by rw [IntKind.wrap_i64]; first | omega | grind)),fun _ _=>bg (iy (i:=(i - 1)) uu66 zz71 rfl rfl (h.row_nn 2 rfl og) og),fun _ _=>js _ rfl rfl (iw (k:=0) aa71 zz71 (ff og) rfl (Nat.add_zero _) rfl rfl (v:=(vR (gt (am l ([])) (i - 1)))) rfl),fun _ _=>om rfl,fun _ _=>om rfl,fun _ _=>bg (iy (i:=i) uu66 zz71 rfl rfl (h.row_nn 2 rfl og) og),fun _ _=>js _ rfl rfl (iw (k:=0) aa71 zz71 (ff og) rfl (Nat.add_zero _) rfl rfl (v:=(vR (gt (am l ([])) i))) rfl),fun _ _=>kD (fB (ck Tryz.call123 rfl) (kk (me (gt (am l ([])) (i - 1)) (gt (am l ([])) i) (hg i og og).1 (hg i og og).2.1 (hg i og og).2.2.1 (hg i og og).2.2.2.1 (hg i og og).2.2.2.2.1 (cr (j:=36) (k:=40) (nW (hg i og og).1) og) (cr (j:=36) (k:=40) (nW (hg i og og).2.2.2.2.2) og)))),fun _ _=>om rfl,fun _ _=>bg (cn rfl rfl),fun _ _=>bg (cn rfl rfl),fun _ _=>mo (ψ:=fun v=>∃ b,v=ptr b 0) (B:=fun v=>[.blk (ch v) (cQ oQ) 27]) [.emp] rfl (fun v _=>by simp only [dO,bA] <;> rfl) (fun v hv=>by simpa [DF.one,bA] using hv) (jX (gY vv27 rfl)),(fun ξ hφ=>by obtain ⟨b1,hb13⟩:=hφ 13 rfl; exact m0 [.blk b1 (cQ oQ) 27] [.blk b1 (cQ ((cC (gt (am l ([])) (i - 1)) (gt (am l ([])) i)).1)) 27] (congrArg (fun v=>[Asn.blk (ch v) (cQ oQ) 27]) hb13) (congrArg (fun v=>[Asn.blk (ch v) (cQ ((cC (gt (am l ([])) (i - 1)) (gt (am l ([])) i)).1)) 27]) hb13) (qp zz27 (Eq.trans rfl (congrArg some hb13)) rfl rfl rfl rfl rfl rfl)),fun _ _=>bg (ay rfl),trivial⟩ ?_
   clear h ac wo; intro ξ ac wo hφ h
   replace h:St w0 49 [(3,sv2),(4,sv9),(5,(iN i)),(6,ξ 13),(7,(.int .i64 ((cC (gt (am l ([])) (i - 1)) (gt (am l ([])) i)).2)))] [.row (α:=GR) 71 sv9 (out++[(gt (am l ([])) i)]),.row (α:=GR) 71 sv8 ([(gt (am l ([])) i)]),.row (α:=GR) 71 sv2 (am l ([])),.blk (ch (ξ 13)) (cQ ((cC (gt (am l ([])) (i - 1)) (gt (am l ([])) i)).1)) 27] ac wo:=(h.pick [0,1,2,3] DC).sub ⟨rfl,rfl,rfl,rfl,rfl,trivial⟩
   revert h
   obtain ⟨b1,hb13⟩:∃ b,ξ 13=ptr b 0:=hφ 13
   rw [hb13]; intro h
   clear hb13
   clear hφ ξ
   refine gz h <| (ai) ?_ ?_ <;> clear h ac wo <;> intro ac wo h hc3
   ·
    have hd3:=eq_of_beq hc3
    have c11:=md ((cC (gt (am l ([])) (i - 1)) (gt (am l ([])) i)).1) 32 og s10
    have s11:=au (c11 w0)
    refine gz h <| (xk (c11)) <| ?_; clear h ac wo; intro ac wo h
    refine nw h (cA (α:=GR) (xs:=[.tmp 45]) (vs:=[(vR (dP ((cC (gt (am l ([])) (i - 1)) (gt (am l ([])) i)).1)))]) [(dP ((cC (gt (am l ([])) (i - 1)) (gt (am l ([])) i)).1))] n7 rfl rfl rfl DC) rfl ?_; clear h ac wo; intro sv12 ac wo nnsv12 h
    refine on2 h 1 0 rfl rfl (fe (xs:=(out++[(gt (am l ([])) i)])) (ys:=[(dP ((cC (gt (am l ([])) (i - 1)) (gt (am l ([])) i)).1))]) n7 (fun w hs=>(row_view hs 0 rfl)) rfl rfl og) rfl ?_; clear h ac wo; intro sv13 ac wo apsv13 h
    have hg:=bI hL1 pt
    exact (nx h) fun _ _ h=>by exact ⟨m1,og,_,_,_,og,hg,og,(All.app (All.app zout (All.cons (All.gt s3.1 (m8 _)) All.nil)) (All.cons (cr s11 og) All.nil)),og,h.re [0,3]⟩
   ·
    have hd3:=ne_of_beq_false hc3
    have hg:=bI hL1 pt
    exact (nx h) fun _ _ h=>by exact ⟨m1,og,_,_,_,og,hg,og,(All.app zout (All.cons (All.gt s3.1 (m8 _)) All.nil)),og,h.re [0,2]⟩
  ·
   have hd2:=of_decide_eq_false hc2
   have hg:=bI hL1 pt
   exact (nx h) fun _ _ h=>by exact ⟨m1,og,_,_,_,og,hg,og,(All.app zout (All.cons (All.gt s3.1 (m8 _)) All.nil)),og,h.re [0,2]⟩
 ·
  have hd1:=of_decide_eq_false hc1
  have hx1:=cG hL1 pt
  have hd:bk l=out:=pt
  exact (rx h) fun _ _ h=>(by rw [hd]; exact h.retR 0 rfl ⟨zout,og⟩)
attribute [irreducible] bk
end Go.Sx
