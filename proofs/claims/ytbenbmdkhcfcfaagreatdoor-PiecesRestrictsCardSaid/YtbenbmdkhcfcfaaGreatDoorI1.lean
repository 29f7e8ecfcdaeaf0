import Derived.Test.YtbenbmdkhcfcfaaGreatDoorN1
import Derived.Test.YtbenbmdkhcfcfaaGreatDoorA7
set_option linter.unusedVariables false
set_option linter.unusedSimpArgs false
open Go.Proofs.Tryz renaming prog → zP, isAgg25 → aa25, sizeOf25 → zz25, isAgg27 → aa27, sizeOf27 → zz27, call93 → cc93, zeroValue27 → vv27, runUnderlying71 → uu71, zeroValue25 → vv25, call97 → cc97, isAgg53 → aa53, sizeOf53 → zz53, runUnderlying3 → uu3, runUnderlying276 → uu276, zeroValue53 → vv53, isAgg71 → aa71, sizeOf71 → zz71, runUnderlying50 → uu50, sizeOf126 → zz126, runUnderlying126 → uu126, sizeOf86 → zz86, runUnderlying86 → uu86, sizeOf4 → zz4, isAgg4 → aa4, isAgg86 → aa86, runUnderlying103 → uu103, runUnderlying66 → uu66
set_option maxRecDepth 100000
set_option maxHeartbeats 40000000
namespace Go.Sx
open Go Go.RowKit Go.Proofs
attribute [local irreducible] Code.wp wpList Rd gX ObS Ent
attribute [local irreducible] an bD ah aN aC dg
def am (a:GQ):GI :=
 a.num
theorem mf (a:GQ) (za:SzQ 36 a) (w0:World):Calls zP 250 #[(vQ a)] w0 (RetP w0 (vI (am a)) (SzI 36 (am a))):=by
 refine enter (N:=5) Tryz.func250 rfl rfl ?_; intro ac h
 refine gz h <| (xb) fun b1=>(xa) fun b2=>(W) ?_; clear h; intro _ _ h
 exact ret h rfl (.cell (v:=(vI a.num)) rfl (i:=0) rfl aa25 zz25 rfl rfl rfl .nil) rfl (h.retP (by unfold am; rfl) (by unfold am; exact za.1))
attribute [irreducible] am
def bO (a:GI) (b:GI):GI :=
 (aJ a (aA b))
theorem na (a:GI) (b:GI) (za:SzI 28 a) (zb:SzI 28 b) (w0:World):Calls zP 252 #[(vI a),(vI b)] w0 (RetP w0 (vI (bO a b)) (SzI 26 (bO a b))):=by
 refine enter (N:=9) Tryz.func252 rfl rfl ?_; intro ac h
 refine gz h <| (xb) fun b1=>(xb) fun b2=>(xa) fun b3=>(W) ?_; clear h; intro _ _ h
 have c1:=fh b 28 og zb
 have s1:=ay (c1 w0)
 have s2:=ay ((fm a (aA b) 27 og za s1) w0)
 refine gz h <| (dr1 (H:=[⟨.blk b3 (cI (⟨false,0⟩:GI)) 25,[(4,.con (.blk b3 (cI (aJ a (aA b))) 25))]⟩,⟨.blk b2 (cI b) 25,[]⟩,⟨.blk b1 (cI a) 25,[]⟩]) (hob:=(oK (c1)) <| (oK (fm a (aA b) 27 og za s1)) <| oE)) <| (W) ?_; clear h; intro _ _ h
 exact ret h rfl (.cell (v:=(vI (aJ a (aA b)))) rfl (i:=0) rfl aa25 zz25 rfl rfl rfl .nil) rfl (h.retP (by unfold bO; rfl) (by unfold bO; exact (gu s2 og)))
attribute [irreducible] bO
def aI (a:GI):GI×Int :=
 bif a.neg then
  ((⟨false,0⟩:GI),2)
 else
  ((aP false (dK a.mag)),0)
theorem sW {x:GR} (h:Tm x):(ab (ab (aa x.p) (aa x.p)) (ab (am x.r) (aa x.r))).mag < 4:=by
 have:=qB (p:=fun x=>decide ((ab (ab (aa x.p) (aa x.p)) (ab (am x.r) (aa x.r))).mag < 4)) (by decide +kernel) h
 exact of_decide_eq_true this
theorem mB (a:GI) (ha4:a.mag < 4) (za:SzI 30 a) (w0:World):Calls zP 251 #[(vI a)] w0 (RetP w0 (.tuple #[(vI ((aI a).1)),(.int .i64 ((aI a).2))]) (SzI 29 ((aI a).1))):=by
 refine enter (N:=11) Tryz.func251 rfl rfl ?_; intro ac h
 refine gz h <| (xb) fun b1=>(xa) fun b2=>(ai) ?_ ?_ <;> clear h <;> intro _ _ h hc1
 ·
  have q:=hc1; try simp at q
  have hd:aI a=((⟨false,0⟩:GI),2):=pt
  refine gz h <| (xo (hs:=by exact bM qx exs rfl (v:=(vI (⟨false,0⟩:GI))) rfl)) <| (W) ?_; clear h; intro _ _ h
  exact ret h rfl (.cell (v:=(vI (⟨false,0⟩:GI))) rfl (i:=0) rfl aa25 zz25 rfl rfl rfl (.tmp rfl .nil)) rfl (h.retP (by rw [hd] <;> rfl) (by rw [hd]; exact (bI 0 DC og)))
 ·
  have q:=hc1; try simp at q
  have c1:=mA a.mag og za
  have s1:=Calls.pr (c1 w0)
  have c2:=ce false (dK a.mag) 29 og s1
  have s2:=ay (c2 w0)
  have hd:aI a=((aP false (dK a.mag)),0):=pt
  refine gz h <| (xk (c1)) <| (xk (c2)) <| (W) ?_; clear h; intro _ _ h
  exact ret h rfl (.cell (v:=(vI (aP false (dK a.mag)))) rfl (i:=0) rfl aa25 zz25 rfl rfl rfl (.tmp rfl .nil)) rfl (h.retP (by rw [hd] <;> rfl) (by rw [hd]; exact s2))
attribute [irreducible] aI
def gM (x:GR):Int :=
 (eZ x.p (bB x) x.r)
theorem mb (x:GR) (zx:SzR 30 x) (w0:World):Calls zP 266 #[(vR x)] w0 (RetP w0 (.int .i64 (gM x)) (True)):=by
 refine enter (N:=10) Tryz.func266 rfl rfl ?_; intro ac h
 refine gz h <| (xb) fun b1=>(W) ?_; clear h; intro _ _ h
 have c1:=iR x 30 og zx
 have s1:=ay (c1 w0)
 have p3:=ay ((ja x.p (bB x) x.r 22 og zx.1 s1 zx.2) w0)
 refine gz h <| (dr0 (hob:=(oK (c1)) <| (oK (ja x.p (bB x) x.r 22 og zx.1 s1 zx.2)) <| oE)) <| (W) ?_; clear h; intro _ _ h
 exact (rt h) (h.retP (by unfold gM; rfl) trivial)
attribute [irreducible] gM
def cN (num:GI) (den:GI):GQ×Int :=
 bif ((dx den) == 0) then
  ((⟨(⟨false,0⟩:GI),(⟨false,0⟩:GI)⟩:GQ),6)
 else
  ((bH num den),0)
theorem lP (num:GI) (den:GI) (znum:SzI 36 num) (zden:SzI 36 den) (w0:World):Calls zP 92 #[(vI num),(vI den)] w0 (RetP w0 (.tuple #[(vQ ((cN num den).1)),(.int .i64 ((cN num den).2))]) (SzQ 32 ((cN num den).1))):=by
 refine enter (N:=13) Tryz.func92 rfl rfl ?_; intro ac h
 have p2:=ay ((eA den) w0)
 refine gz h <| (xb) fun b1=>(xb) fun b2=>(xa) fun b3=>(xk (eA den)) <| (ai) ?_ ?_ <;> clear h <;> intro _ _ h hc1
 ·
  have hd1:=eq_of_beq hc1
  have hd:cN num den=(oQ,6):=pt
  refine gz h <| (xo (hs:=by exact bM qe exs rfl (v:=(vQ oQ)) rfl)) <| (W) ?_; clear h; intro _ _ h
  exact ret h rfl (.cell (v:=(vQ oQ)) rfl (i:=0) rfl aa27 zz27 rfl rfl rfl (.tmp rfl .nil)) rfl (h.retP (by rw [hd] <;> rfl) (by rw [hd]; exact ⟨(bI 0 DC og),(bI 0 DC og)⟩))
 ·
  have hd1:=ne_of_beq_false hc1
  have c3:=eF num den 35 og znum zden
  have s3:=ay (c3 w0)
  have hd:cN num den=((bH num den),0):=pt
  refine gz h <| (xk (c3)) <| (W) ?_; clear h; intro _ _ h
  exact ret h rfl (.cell (v:=(vQ (bH num den))) rfl (i:=0) rfl aa27 zz27 rfl rfl rfl (.tmp rfl .nil)) rfl (h.retP (by rw [hd] <;> rfl) (by rw [hd]; exact (f8 s3 og)))
attribute [irreducible] cN
def eE (n:GI):GQ :=
 (cN n (ar 1)).1
theorem nA (n:GI) (zn:SzI 36 n) (w0:World):Calls zP 267 #[(vI n)] w0 (RetP w0 (vQ (eE n)) (SzQ 32 (eE n))):=by
 refine enter (N:=12) Tryz.func267 rfl rfl ?_; intro ac h
 refine gz h <| (xb) fun b1=>(xa) fun b2=>(W) ?_; clear h ac; intro ac wo h
 have s1:=ay ((em 1 40 og  og) w0)
 have s2:=Calls.pr ((fun w_ hB_ hS_=>lP n (ar 1) zn (gu s1 og) w_ ) _ h.bel h.sep)
 replace h:=h.emps 1
 refine ij mixed [dw (vI n) [1],dv (vI (ar 1)),dv (.tuple #[(vQ ((cN n (ar 1)).1)),(.int .i64 ((cN n (ar 1)).2))]),dv (.tuple #[(vQ ((cN n (ar 1)).1)),(.int .i64 ((cN n (ar 1)).2))]),dv (vQ ((cN n (ar 1)).1)),dv (.int .i64 ((cN n (ar 1)).2)),yR 6 2,dw undef [2],dv (.int .i64 ((cN n (ar 1)).2))] [⟨.blk b2 (cQ oQ) 27,[]⟩,⟨.blk b1 (cI n) 25,[]⟩,⟨.emp,[(6,.one 6 fun v=>.blk (cg v) (cQ oQ) 27),(7,.one 6 fun v=>.blk (cg v) (cQ ((cN n (ar 1)).1)) 27)]⟩] h rfl (by kernel_rfl) ⟨?_,?_,?_,?_,?_,?_,?_,?_,?_,trivial⟩ ?_
 ·intro ξ hφ; exact jq [.blk b1 (cI n) 25] rfl rfl (jg aa25 zz25 rfl rfl rfl (v:=(vI n)) rfl)
 ·intro ξ hφ; exact kn (fi (vs:=[(.int .i64 1)]) (ck cc93 rfl) (fun w_ hB_ hS_=>(em 1 40 og  og) w_))
 ·intro ξ hφ; exact kn (fi (ck Tryz.call92 rfl) (kk (lP n (ar 1) zn (gu s1 og))))
 ·intro ξ hφ; exact bc (ap rfl)
 ·intro ξ hφ; exact bc (cj rfl rfl)
 ·intro ξ hφ; exact bc (cj rfl rfl)
 ·intro ξ hφ; exact mo (ψ:=fun v=>∃ b,v=ptr b 0) (B:=fun v=>[.blk (cg v) (cQ oQ) 27]) [.emp] rfl (fun v _=>by simp only [dP,bA] <;> rfl) (fun v hv=>by simpa [DF.one,bA] using hv) (jU (gZ vv27 rfl))
 ·intro ξ hφ; obtain ⟨b3,hb6⟩:=hφ 6 rfl; exact mY [.blk b3 (cQ oQ) 27] [.blk b3 (cQ ((cN n (ar 1)).1)) 27] (congrArg (fun v=>[Asn.blk (cg v) (cQ oQ) 27]) hb6) (congrArg (fun v=>[Asn.blk (cg v) (cQ ((cN n (ar 1)).1)) 27]) hb6) (qn zz27 (Eq.trans rfl (congrArg some hb6)) rfl rfl rfl rfl rfl rfl)
 ·intro ξ hφ; exact bc (az rfl)
 clear h ac wo; intro ξ ac wo hφ h
 replace h:St w0 12 [(2,(ptr b2 0)),(3,ξ 6)] [.blk b2 (cQ oQ) 27,.blk b1 (cI n) 25,.blk (cg (ξ 6)) (cQ ((cN n (ar 1)).1)) 27] ac wo:=(h.pick [0,1,2] DC).sub ⟨rfl,rfl,trivial⟩
 revert h
 obtain ⟨b3,hb6⟩:∃ b,ξ 6=ptr b 0:=hφ 6
 rw [hb6]; intro h
 clear hb6
 clear hφ ξ
 refine gz h <| (W) ?_; clear h ac wo; intro ac wo h
 exact ret h rfl (.cell (v:=(vQ ((cN n (ar 1)).1))) rfl (i:=0) rfl aa27 zz27 rfl rfl rfl .nil) rfl (h.retP (by unfold eE; rfl) (by unfold eE; exact s2))
attribute [irreducible] eE
def fu (x:GR) (r:GQ):Int :=
 (an x (dQ r))
theorem nB (x:GR) (r:GQ) (zx:SzR 30 x) (zr:SzQ 30 r) (w0:World):Calls zP 268 #[(vR x),(vQ r)] w0 (RetP w0 (.int .i64 (fu x r)) (True)):=by
 refine enter (N:=9) Tryz.func268 rfl rfl ?_; intro ac h
 refine gz h <| (xb) fun b1=>(xb) fun b2=>(W) ?_; clear h; intro _ _ h
 have c1:=md r 30 og zr
 have s1:=ay (c1 w0)
 have p3:=ay ((aR x (dQ r) 10 og zx s1) w0)
 refine gz h <| (dr0 (hob:=(oK (c1)) <| (oK (aR x (dQ r) 10 og zx s1)) <| oE)) <| (W) ?_; clear h; intro _ _ h
 exact (rt h) (h.retP (by unfold fu; rfl) trivial)
attribute [irreducible] fu
def cC (x:GR):GI :=
 bif x.neg then
  (aQ (bO (ab (am x.p) (aa x.r)) (aJ ((aI (ab (ab (aa x.p) (aa x.p)) (ab (am x.r) (aa x.r)))).1) (ar 1))) (ab (aa x.p) (aa x.r))).1
 else
  (aQ (aJ (ab (am x.p) (aa x.r)) ((aI (ab (ab (aa x.p) (aa x.p)) (ab (am x.r) (aa x.r)))).1)) (ab (aa x.p) (aa x.r))).1
theorem uT {x:GR} (h:Tm x):SzI 40 (cC x):=by
 have:=qB (p:=fun x=>smI (cC x)) (by decide +kernel) h
 exact qj (of_decide_eq_true this) DC
theorem q7 (x:GR) (ht:Tm x) (zx:SzR 36 x) (w0:World):Calls zP 187 #[(vR x)] w0 (RetP w0 (vI (cC x)) (SzI 40 (cC x))):=by
 refine enter (N:=59) Tryz.func187 rfl rfl ?_; intro ac h
 refine gz h <| (xb) fun b1=>(xa) fun b2=>(W) ?_; clear h ac; intro ac wo h
 have c1:=mf x.p zx.1
 have s1:=Calls.pr (c1 w0)
 have s2:=ay ((cd x.p 36 og zx.1) w0)
 replace h:=h.emps 2
 refine ij mixed [dv (ptr b1 0),dw (vQ x.p) [1],dv (vI (am x.p)),dv (ptr b1 0),dw (vQ x.p) [1],dv (vI (aa x.p)),yR 6 2,yR 7 3,dw undef [2],dw undef [3]] [⟨.blk b2 (cI (⟨false,0⟩:GI)) 25,[]⟩,⟨.blk b1 (cR x) 71,[]⟩,⟨.emp,[(6,.one 6 fun v=>.blk (cg v) (cI (⟨false,0⟩:GI)) 25),(8,.one 6 fun v=>.blk (cg v) (cI (am x.p)) 25)]⟩,⟨.emp,[(7,.one 7 fun v=>.blk (cg v) (cI (⟨false,0⟩:GI)) 25),(9,.one 7 fun v=>.blk (cg v) (cI (aa x.p)) 25)]⟩] h rfl (by kernel_rfl) ⟨?_,?_,?_,?_,?_,?_,?_,?_,?_,?_,trivial⟩ ?_
 ·intro ξ hφ; exact bc (fa uu71 rfl zz27 rfl rfl rfl (k':=0))
 ·intro ξ hφ; exact jq [.blk b1 (cR x) 71] rfl rfl (jg aa27 zz27 rfl rfl rfl (v:=(vQ x.p)) rfl)
 ·intro ξ hφ; exact kn (fi (ck Tryz.call250 rfl) (kk c1))
 ·intro ξ hφ; exact bc (fa uu71 rfl zz27 rfl rfl rfl (k':=0))
 ·intro ξ hφ; exact jq [.blk b1 (cR x) 71] rfl rfl (jg aa27 zz27 rfl rfl rfl (v:=(vQ x.p)) rfl)
 ·intro ξ hφ; exact kn (fi (ck Tryz.call98 rfl) (kk (cd x.p 36 og zx.1)))
 ·intro ξ hφ; exact mo (ψ:=fun v=>∃ b,v=ptr b 0) (B:=fun v=>[.blk (cg v) (cI (⟨false,0⟩:GI)) 25]) [.emp] rfl (fun v _=>by simp only [dP,bA] <;> rfl) (fun v hv=>by simpa [DF.one,bA] using hv) (jU (gZ vv25 rfl))
 ·intro ξ hφ; exact mo (ψ:=fun v=>∃ b,v=ptr b 0) (B:=fun v=>[.blk (cg v) (cI (⟨false,0⟩:GI)) 25]) [.emp] rfl (fun v _=>by simp only [dP,bA] <;> rfl) (fun v hv=>by simpa [DF.one,bA] using hv) (jU (gZ vv25 rfl))
 ·intro ξ hφ; obtain ⟨b3,hb6⟩:=hφ 6 rfl; exact mY [.blk b3 (cI (⟨false,0⟩:GI)) 25] [.blk b3 (cI (am x.p)) 25] (congrArg (fun v=>[Asn.blk (cg v) (cI (⟨false,0⟩:GI)) 25]) hb6) (congrArg (fun v=>[Asn.blk (cg v) (cI (am x.p)) 25]) hb6) (qn zz25 (Eq.trans rfl (congrArg some hb6)) rfl rfl rfl rfl rfl rfl)
 ·intro ξ hφ; obtain ⟨b4,hb7⟩:=hφ 7 rfl; exact mY [.blk b4 (cI (⟨false,0⟩:GI)) 25] [.blk b4 (cI (aa x.p)) 25] (congrArg (fun v=>[Asn.blk (cg v) (cI (⟨false,0⟩:GI)) 25]) hb7) (congrArg (fun v=>[Asn.blk (cg v) (cI (aa x.p)) 25]) hb7) (qn zz25 (Eq.trans rfl (congrArg some hb7)) rfl rfl rfl rfl rfl rfl)
 clear h ac wo; intro ξ ac wo hφ h
 replace h:St w0 59 [(1,(ptr b1 0)),(2,(ptr b2 0)),(3,ξ 6),(4,ξ 7)] [.blk b2 (cI (⟨false,0⟩:GI)) 25,.blk b1 (cR x) 71,.blk (cg (ξ 6)) (cI (am x.p)) 25,.blk (cg (ξ 7)) (cI (aa x.p)) 25] ac wo:=(h.pick [0,1,2,3] DC).sub ⟨rfl,rfl,rfl,rfl,trivial⟩
 revert h
 obtain ⟨b3,hb6⟩:∃ b,ξ 6=ptr b 0:=hφ 6
 obtain ⟨b4,hb7⟩:∃ b,ξ 7=ptr b 0:=hφ 7
 rw [hb6,hb7]; intro h
 clear hb6 hb7
 clear hφ ξ
 refine gz h <| (W) ?_; clear h ac wo; intro ac wo h
 have c3:=mf x.r zx.2
 have s3:=Calls.pr (c3 w0)
 have s4:=ay ((cd x.r 36 og zx.2) w0)
 replace h:=h.emps 2
 refine ij mixed [dv (ptr b1 4),dw (vQ x.r) [1],dv (vI (am x.r)),dv (ptr b1 4),dw (vQ x.r) [1],dv (vI (aa x.r)),yR 6 4,yR 7 5,dw undef [4],dw undef [5]] [⟨.blk b2 (cI (⟨false,0⟩:GI)) 25,[]⟩,⟨.blk b1 (cR x) 71,[]⟩,⟨.blk b3 (cI (am x.p)) 25,[]⟩,⟨.blk b4 (cI (aa x.p)) 25,[]⟩,⟨.emp,[(6,.one 6 fun v=>.blk (cg v) (cI (⟨false,0⟩:GI)) 25),(8,.one 6 fun v=>.blk (cg v) (cI (am x.r)) 25)]⟩,⟨.emp,[(7,.one 7 fun v=>.blk (cg v) (cI (⟨false,0⟩:GI)) 25),(9,.one 7 fun v=>.blk (cg v) (cI (aa x.r)) 25)]⟩] h rfl (by kernel_rfl) ⟨?_,?_,?_,?_,?_,?_,?_,?_,?_,?_,trivial⟩ ?_
 ·intro ξ hφ; exact bc (fa uu71 rfl zz27 rfl rfl rfl (k':=4))
 ·intro ξ hφ; exact jq [.blk b1 (cR x) 71] rfl rfl (jg aa27 zz27 rfl rfl rfl (v:=(vQ x.r)) rfl)
 ·intro ξ hφ; exact kn (fi (ck Tryz.call250 rfl) (kk c3))
 ·intro ξ hφ; exact bc (fa uu71 rfl zz27 rfl rfl rfl (k':=4))
 ·intro ξ hφ; exact jq [.blk b1 (cR x) 71] rfl rfl (jg aa27 zz27 rfl rfl rfl (v:=(vQ x.r)) rfl)
 ·intro ξ hφ; exact kn (fi (ck Tryz.call98 rfl) (kk (cd x.r 36 og zx.2)))
 ·intro ξ hφ; exact mo (ψ:=fun v=>∃ b,v=ptr b 0) (B:=fun v=>[.blk (cg v) (cI (⟨false,0⟩:GI)) 25]) [.emp] rfl (fun v _=>by simp only [dP,bA] <;> rfl) (fun v hv=>by simpa [DF.one,bA] using hv) (jU (gZ vv25 rfl))
 ·intro ξ hφ; exact mo (ψ:=fun v=>∃ b,v=ptr b 0) (B:=fun v=>[.blk (cg v) (cI (⟨false,0⟩:GI)) 25]) [.emp] rfl (fun v _=>by simp only [dP,bA] <;> rfl) (fun v hv=>by simpa [DF.one,bA] using hv) (jU (gZ vv25 rfl))
 ·intro ξ hφ; obtain ⟨b5,hb6⟩:=hφ 6 rfl; exact mY [.blk b5 (cI (⟨false,0⟩:GI)) 25] [.blk b5 (cI (am x.r)) 25] (congrArg (fun v=>[Asn.blk (cg v) (cI (⟨false,0⟩:GI)) 25]) hb6) (congrArg (fun v=>[Asn.blk (cg v) (cI (am x.r)) 25]) hb6) (qn zz25 (Eq.trans rfl (congrArg some hb6)) rfl rfl rfl rfl rfl rfl)
 ·intro ξ hφ; obtain ⟨b6,hb7⟩:=hφ 7 rfl; exact mY [.blk b6 (cI (⟨false,0⟩:GI)) 25] [.blk b6 (cI (aa x.r)) 25] (congrArg (fun v=>[Asn.blk (cg v) (cI (⟨false,0⟩:GI)) 25]) hb7) (congrArg (fun v=>[Asn.blk (cg v) (cI (aa x.r)) 25]) hb7) (qn zz25 (Eq.trans rfl (congrArg some hb7)) rfl rfl rfl rfl rfl rfl)
 clear h ac wo; intro ξ ac wo hφ h
 replace h:St w0 59 [(1,(ptr b1 0)),(2,(ptr b2 0)),(3,(ptr b3 0)),(4,(ptr b4 0)),(5,ξ 6),(6,ξ 7)] [.blk b2 (cI (⟨false,0⟩:GI)) 25,.blk b1 (cR x) 71,.blk b3 (cI (am x.p)) 25,.blk b4 (cI (aa x.p)) 25,.blk (cg (ξ 6)) (cI (am x.r)) 25,.blk (cg (ξ 7)) (cI (aa x.r)) 25] ac wo:=(h.pick [0,1,2,3,4,5] DC).sub ⟨rfl,rfl,rfl,rfl,rfl,rfl,trivial⟩
 revert h
 obtain ⟨b5,hb6⟩:∃ b,ξ 6=ptr b 0:=hφ 6
 obtain ⟨b6,hb7⟩:∃ b,ξ 7=ptr b 0:=hφ 7
 rw [hb6,hb7]; intro h
 clear hb6 hb7
 clear hφ ξ
 refine gz h <| (W) ?_; clear h ac wo; intro ac wo h
 have s5:=ay ((cA (aa x.p) (aa x.p) 35 og s2 s2) w0)
 have s6:=ay ((cA (am x.r) (aa x.r) 35 og s3 s4) w0)
 have s7:=ay ((cA (ab (aa x.p) (aa x.p)) (ab (am x.r) (aa x.r)) 34 og s5 s6) w0)
 have s8:=Calls.pr ((fun w_ hB_ hS_=>mB (ab (ab (aa x.p) (aa x.p)) (ab (am x.r) (aa x.r))) (sW ht) (gu s7 og) w_ ) _ h.bel h.sep)
 replace h:=h.emps 1
 refine ij mixed [dw (vI (aa x.p)) [3],dw (vI (aa x.p)) [3],dv (vI (ab (aa x.p) (aa x.p))),dw (vI (am x.r)) [4],dw (vI (aa x.r)) [5],dv (vI (ab (am x.r) (aa x.r))),dv (vI (ab (ab (aa x.p) (aa x.p)) (ab (am x.r) (aa x.r)))),dv (.tuple #[(vI ((aI (ab (ab (aa x.p) (aa x.p)) (ab (am x.r) (aa x.r)))).1)),(.int .i64 ((aI (ab (ab (aa x.p) (aa x.p)) (ab (am x.r) (aa x.r)))).2))]),dv (.tuple #[(vI ((aI (ab (ab (aa x.p) (aa x.p)) (ab (am x.r) (aa x.r)))).1)),(.int .i64 ((aI (ab (ab (aa x.p) (aa x.p)) (ab (am x.r) (aa x.r)))).2))]),dv (vI ((aI (ab (ab (aa x.p) (aa x.p)) (ab (am x.r) (aa x.r)))).1)),dv (.int .i64 ((aI (ab (ab (aa x.p) (aa x.p)) (ab (am x.r) (aa x.r)))).2)),yR 11 6,dw undef [6],dv (.int .i64 ((aI (ab (ab (aa x.p) (aa x.p)) (ab (am x.r) (aa x.r)))).2))] [⟨.blk b2 (cI (⟨false,0⟩:GI)) 25,[]⟩,⟨.blk b1 (cR x) 71,[]⟩,⟨.blk b3 (cI (am x.p)) 25,[]⟩,⟨.blk b4 (cI (aa x.p)) 25,[]⟩,⟨.blk b5 (cI (am x.r)) 25,[]⟩,⟨.blk b6 (cI (aa x.r)) 25,[]⟩,⟨.emp,[(11,.one 11 fun v=>.blk (cg v) (cI (⟨false,0⟩:GI)) 25),(12,.one 11 fun v=>.blk (cg v) (cI ((aI (ab (ab (aa x.p) (aa x.p)) (ab (am x.r) (aa x.r)))).1)) 25)]⟩] h rfl (by kernel_rfl) ⟨?_,?_,?_,?_,?_,?_,?_,?_,?_,?_,?_,?_,?_,?_,trivial⟩ ?_
 ·intro ξ hφ; exact jq [.blk b4 (cI (aa x.p)) 25] rfl rfl (jg aa25 zz25 rfl rfl rfl (v:=(vI (aa x.p))) rfl)
 ·intro ξ hφ; exact jq [.blk b4 (cI (aa x.p)) 25] rfl rfl (jg aa25 zz25 rfl rfl rfl (v:=(vI (aa x.p))) rfl)
 ·intro ξ hφ; exact kn (fi (vs:=[(vI (aa x.p)),(vI (aa x.p))]) (ck cc97 rfl) (fun w_ hB_ hS_=>(cA (aa x.p) (aa x.p) 35 og s2 s2) w_))
 ·intro ξ hφ; exact jq [.blk b5 (cI (am x.r)) 25] rfl rfl (jg aa25 zz25 rfl rfl rfl (v:=(vI (am x.r))) rfl)
 ·intro ξ hφ; exact jq [.blk b6 (cI (aa x.r)) 25] rfl rfl (jg aa25 zz25 rfl rfl rfl (v:=(vI (aa x.r))) rfl)
 ·intro ξ hφ; exact kn (fi (ck cc97 rfl) (kk (cA (am x.r) (aa x.r) 35 og s3 s4)))
 ·intro ξ hφ; exact kn (fi (ck cc97 rfl) (kk (cA (ab (aa x.p) (aa x.p)) (ab (am x.r) (aa x.r)) 34 og s5 s6)))
 ·intro ξ hφ; exact kn (fi (ck Tryz.call251 rfl) (kk (mB (ab (ab (aa x.p) (aa x.p)) (ab (am x.r) (aa x.r))) (sW ht) (gu s7 og))))
 ·intro ξ hφ; exact bc (ap rfl)
 ·intro ξ hφ; exact bc (cj rfl rfl)
 ·intro ξ hφ; exact bc (cj rfl rfl)
 ·intro ξ hφ; exact mo (ψ:=fun v=>∃ b,v=ptr b 0) (B:=fun v=>[.blk (cg v) (cI (⟨false,0⟩:GI)) 25]) [.emp] rfl (fun v _=>by simp only [dP,bA] <;> rfl) (fun v hv=>by simpa [DF.one,bA] using hv) (jU (gZ vv25 rfl))
 ·intro ξ hφ; obtain ⟨b7,hb11⟩:=hφ 11 rfl; exact mY [.blk b7 (cI (⟨false,0⟩:GI)) 25] [.blk b7 (cI ((aI (ab (ab (aa x.p) (aa x.p)) (ab (am x.r) (aa x.r)))).1)) 25] (congrArg (fun v=>[Asn.blk (cg v) (cI (⟨false,0⟩:GI)) 25]) hb11) (congrArg (fun v=>[Asn.blk (cg v) (cI ((aI (ab (ab (aa x.p) (aa x.p)) (ab (am x.r) (aa x.r)))).1)) 25]) hb11) (qn zz25 (Eq.trans rfl (congrArg some hb11)) rfl rfl rfl rfl rfl rfl)
 ·intro ξ hφ; exact bc (az rfl)
 clear h ac wo; intro ξ ac wo hφ h
 replace h:St w0 59 [(1,(ptr b1 0)),(2,(ptr b2 0)),(3,(ptr b3 0)),(4,(ptr b4 0)),(6,(ptr b6 0)),(7,ξ 11)] [.blk b2 (cI (⟨false,0⟩:GI)) 25,.blk b1 (cR x) 71,.blk b3 (cI (am x.p)) 25,.blk b4 (cI (aa x.p)) 25,.blk b5 (cI (am x.r)) 25,.blk b6 (cI (aa x.r)) 25,.blk (cg (ξ 11)) (cI ((aI (ab (ab (aa x.p) (aa x.p)) (ab (am x.r) (aa x.r)))).1)) 25] ac wo:=(h.pick [0,1,2,3,4,5,6] DC).sub ⟨rfl,rfl,rfl,rfl,rfl,rfl,trivial⟩
 revert h
 obtain ⟨b7,hb11⟩:∃ b,ξ 11=ptr b 0:=hφ 11
 rw [hb11]; intro h
 clear hb11
 clear hφ ξ
 have c9:=cA (am x.p) (aa x.r) 35 og s1 s4
 have s9:=ay (c9 w0)
 refine gz h <| (xk (c9)) <| (xa) fun b8=>(ai) ?_ ?_ <;> clear h ac wo <;> intro ac wo h hc1
 ·
  have q:=hc1; try simp at q
  have s10:=ay ((em 1 40 og  og) w0)
  have s11:=ay ((fm ((aI (ab (ab (aa x.p) (aa x.p)) (ab (am x.r) (aa x.r)))).1) (ar 1) 28 og s8 (gu s10 og)) w0)
  have s12:=Calls.pr ((fun w_ hB_ hS_=>na (ab (am x.p) (aa x.r)) (aJ ((aI (ab (ab (aa x.p) (aa x.p)) (ab (am x.r) (aa x.r)))).1) (ar 1)) (gu s9 og) s11 w_ ) _ h.bel h.sep)
  refine gz h <| (dr1 (H:=[⟨.blk b8 (cI (ab (am x.p) (aa x.r))) 25,[(5,.con (.blk b8 (cI (bO (ab (am x.p) (aa x.r)) (aJ ((aI (ab (ab (aa x.p) (aa x.p)) (ab (am x.r) (aa x.r)))).1) (ar 1)))) 25))]⟩,⟨.blk b2 (cI (⟨false,0⟩:GI)) 25,[]⟩,⟨.blk b1 (cR x) 71,[]⟩,⟨.blk b3 (cI (am x.p)) 25,[]⟩,⟨.blk b4 (cI (aa x.p)) 25,[]⟩,⟨.blk b5 (cI (am x.r)) 25,[]⟩,⟨.blk b6 (cI (aa x.r)) 25,[]⟩,⟨.blk b7 (cI ((aI (ab (ab (aa x.p) (aa x.p)) (ab (am x.r) (aa x.r)))).1)) 25,[]⟩]) (hob:=(oX (h:=by exact fun _=>kn (fi (vs:=[(.int .i64 1)]) (ck cc93 rfl) (fun w_ hB_ hS_=>(em 1 40 og  og) w_)))) <| (oK (fm ((aI (ab (ab (aa x.p) (aa x.p)) (ab (am x.r) (aa x.r)))).1) (ar 1) 28 og s8 (gu s10 og))) <| (oK (na (ab (am x.p) (aa x.r)) (aJ ((aI (ab (ab (aa x.p) (aa x.p)) (ab (am x.r) (aa x.r)))).1) (ar 1)) (gu s9 og) s11)) <| oE)) <| (W) ?_; clear h ac wo; intro ac wo h
  have c13:=cA (aa x.p) (aa x.r) 35 og s2 s4
  have s13:=ay (c13 w0)
  have s14:=ay ((gU (bO (ab (am x.p) (aa x.r)) (aJ ((aI (ab (ab (aa x.p) (aa x.p)) (ab (am x.r) (aa x.r)))).1) (ar 1))) (ab (aa x.p) (aa x.r)) 25 og s12 (gu s13 og)) w0)
  replace h:=h.emps 2
  refine ij mixed [dw (vI (bO (ab (am x.p) (aa x.r)) (aJ ((aI (ab (ab (aa x.p) (aa x.p)) (ab (am x.r) (aa x.r)))).1) (ar 1)))) [0],dw (vI (aa x.p)) [4],dw (vI (aa x.r)) [6],dv (vI (ab (aa x.p) (aa x.r))),dv (.tuple #[(vI ((aQ (bO (ab (am x.p) (aa x.r)) (aJ ((aI (ab (ab (aa x.p) (aa x.p)) (ab (am x.r) (aa x.r)))).1) (ar 1))) (ab (aa x.p) (aa x.r))).1)),(vI ((aQ (bO (ab (am x.p) (aa x.r)) (aJ ((aI (ab (ab (aa x.p) (aa x.p)) (ab (am x.r) (aa x.r)))).1) (ar 1))) (ab (aa x.p) (aa x.r))).2.1)),(.int .i64 ((aQ (bO (ab (am x.p) (aa x.r)) (aJ ((aI (ab (ab (aa x.p) (aa x.p)) (ab (am x.r) (aa x.r)))).1) (ar 1))) (ab (aa x.p) (aa x.r))).2.2))]),dv (.tuple #[(vI ((aQ (bO (ab (am x.p) (aa x.r)) (aJ ((aI (ab (ab (aa x.p) (aa x.p)) (ab (am x.r) (aa x.r)))).1) (ar 1))) (ab (aa x.p) (aa x.r))).1)),(vI ((aQ (bO (ab (am x.p) (aa x.r)) (aJ ((aI (ab (ab (aa x.p) (aa x.p)) (ab (am x.r) (aa x.r)))).1) (ar 1))) (ab (aa x.p) (aa x.r))).2.1)),(.int .i64 ((aQ (bO (ab (am x.p) (aa x.r)) (aJ ((aI (ab (ab (aa x.p) (aa x.p)) (ab (am x.r) (aa x.r)))).1) (ar 1))) (ab (aa x.p) (aa x.r))).2.2))]),dv (vI ((aQ (bO (ab (am x.p) (aa x.r)) (aJ ((aI (ab (ab (aa x.p) (aa x.p)) (ab (am x.r) (aa x.r)))).1) (ar 1))) (ab (aa x.p) (aa x.r))).1)),dv (vI ((aQ (bO (ab (am x.p) (aa x.r)) (aJ ((aI (ab (ab (aa x.p) (aa x.p)) (ab (am x.r) (aa x.r)))).1) (ar 1))) (ab (aa x.p) (aa x.r))).2.1)),dv (.int .i64 ((aQ (bO (ab (am x.p) (aa x.r)) (aJ ((aI (ab (ab (aa x.p) (aa x.p)) (ab (am x.r) (aa x.r)))).1) (ar 1))) (ab (aa x.p) (aa x.r))).2.2)),yR 9 8,yR 10 9,dw undef [8],dw undef [9],dv (.int .i64 ((aQ (bO (ab (am x.p) (aa x.r)) (aJ ((aI (ab (ab (aa x.p) (aa x.p)) (ab (am x.r) (aa x.r)))).1) (ar 1))) (ab (aa x.p) (aa x.r))).2.2))] [⟨.blk b8 (cI (bO (ab (am x.p) (aa x.r)) (aJ ((aI (ab (ab (aa x.p) (aa x.p)) (ab (am x.r) (aa x.r)))).1) (ar 1)))) 25,[]⟩,⟨.blk b2 (cI (⟨false,0⟩:GI)) 25,[]⟩,⟨.blk b1 (cR x) 71,[]⟩,⟨.blk b3 (cI (am x.p)) 25,[]⟩,⟨.blk b4 (cI (aa x.p)) 25,[]⟩,⟨.blk b5 (cI (am x.r)) 25,[]⟩,⟨.blk b6 (cI (aa x.r)) 25,[]⟩,⟨.blk b7 (cI ((aI (ab (ab (aa x.p) (aa x.p)) (ab (am x.r) (aa x.r)))).1)) 25,[]⟩,⟨.emp,[(9,.one 9 fun v=>.blk (cg v) (cI (⟨false,0⟩:GI)) 25),(11,.one 9 fun v=>.blk (cg v) (cI ((aQ (bO (ab (am x.p) (aa x.r)) (aJ ((aI (ab (ab (aa x.p) (aa x.p)) (ab (am x.r) (aa x.r)))).1) (ar 1))) (ab (aa x.p) (aa x.r))).1)) 25)]⟩,⟨.emp,[(10,.one 10 fun v=>.blk (cg v) (cI (⟨false,0⟩:GI)) 25),(12,.one 10 fun v=>.blk (cg v) (cI ((aQ (bO (ab (am x.p) (aa x.r)) (aJ ((aI (ab (ab (aa x.p) (aa x.p)) (ab (am x.r) (aa x.r)))).1) (ar 1))) (ab (aa x.p) (aa x.r))).2.1)) 25)]⟩] h rfl (by kernel_rfl) ⟨?_,?_,?_,?_,?_,?_,?_,?_,?_,?_,?_,?_,?_,?_,trivial⟩ ?_
  ·intro ξ hφ; exact jq [.blk b8 (cI (bO (ab (am x.p) (aa x.r)) (aJ ((aI (ab (ab (aa x.p) (aa x.p)) (ab (am x.r) (aa x.r)))).1) (ar 1)))) 25] rfl rfl (jg aa25 zz25 rfl rfl rfl (v:=(vI (bO (ab (am x.p) (aa x.r)) (aJ ((aI (ab (ab (aa x.p) (aa x.p)) (ab (am x.r) (aa x.r)))).1) (ar 1))))) rfl)
  ·intro ξ hφ; exact jq [.blk b4 (cI (aa x.p)) 25] rfl rfl (jg aa25 zz25 rfl rfl rfl (v:=(vI (aa x.p))) rfl)
  ·intro ξ hφ; exact jq [.blk b6 (cI (aa x.r)) 25] rfl rfl (jg aa25 zz25 rfl rfl rfl (v:=(vI (aa x.r))) rfl)
  ·intro ξ hφ; exact kn (fi (ck cc97 rfl) (kk c13))
  ·intro ξ hφ; exact kn (fi (ck Tryz.call253 rfl) (kk (gU (bO (ab (am x.p) (aa x.r)) (aJ ((aI (ab (ab (aa x.p) (aa x.p)) (ab (am x.r) (aa x.r)))).1) (ar 1))) (ab (aa x.p) (aa x.r)) 25 og s12 (gu s13 og))))
  ·intro ξ hφ; exact bc (ap rfl)
  ·intro ξ hφ; exact bc (cj rfl rfl)
  ·intro ξ hφ; exact bc (cj rfl rfl)
  ·intro ξ hφ; exact bc (cj rfl rfl)
  ·intro ξ hφ; exact mo (ψ:=fun v=>∃ b,v=ptr b 0) (B:=fun v=>[.blk (cg v) (cI (⟨false,0⟩:GI)) 25]) [.emp] rfl (fun v _=>by simp only [dP,bA] <;> rfl) (fun v hv=>by simpa [DF.one,bA] using hv) (jU (gZ vv25 rfl))
  ·intro ξ hφ; exact mo (ψ:=fun v=>∃ b,v=ptr b 0) (B:=fun v=>[.blk (cg v) (cI (⟨false,0⟩:GI)) 25]) [.emp] rfl (fun v _=>by simp only [dP,bA] <;> rfl) (fun v hv=>by simpa [DF.one,bA] using hv) (jU (gZ vv25 rfl))
  ·intro ξ hφ; obtain ⟨b9,hb9⟩:=hφ 9 rfl; exact mY [.blk b9 (cI (⟨false,0⟩:GI)) 25] [.blk b9 (cI ((aQ (bO (ab (am x.p) (aa x.r)) (aJ ((aI (ab (ab (aa x.p) (aa x.p)) (ab (am x.r) (aa x.r)))).1) (ar 1))) (ab (aa x.p) (aa x.r))).1)) 25] (congrArg (fun v=>[Asn.blk (cg v) (cI (⟨false,0⟩:GI)) 25]) hb9) (congrArg (fun v=>[Asn.blk (cg v) (cI ((aQ (bO (ab (am x.p) (aa x.r)) (aJ ((aI (ab (ab (aa x.p) (aa x.p)) (ab (am x.r) (aa x.r)))).1) (ar 1))) (ab (aa x.p) (aa x.r))).1)) 25]) hb9) (qn zz25 (Eq.trans rfl (congrArg some hb9)) rfl rfl rfl rfl rfl rfl)
  ·intro ξ hφ; obtain ⟨b10,hb10⟩:=hφ 10 rfl; exact mY [.blk b10 (cI (⟨false,0⟩:GI)) 25] [.blk b10 (cI ((aQ (bO (ab (am x.p) (aa x.r)) (aJ ((aI (ab (ab (aa x.p) (aa x.p)) (ab (am x.r) (aa x.r)))).1) (ar 1))) (ab (aa x.p) (aa x.r))).2.1)) 25] (congrArg (fun v=>[Asn.blk (cg v) (cI (⟨false,0⟩:GI)) 25]) hb10) (congrArg (fun v=>[Asn.blk (cg v) (cI ((aQ (bO (ab (am x.p) (aa x.r)) (aJ ((aI (ab (ab (aa x.p) (aa x.p)) (ab (am x.r) (aa x.r)))).1) (ar 1))) (ab (aa x.p) (aa x.r))).2.1)) 25]) hb10) (qn zz25 (Eq.trans rfl (congrArg some hb10)) rfl rfl rfl rfl rfl rfl)
  ·intro ξ hφ; exact bc (az rfl)
  clear h ac wo; intro ξ ac wo hφ h
  replace h:St w0 59 [(2,(ptr b2 0)),(10,ξ 9)] [.blk b8 (cI (bO (ab (am x.p) (aa x.r)) (aJ ((aI (ab (ab (aa x.p) (aa x.p)) (ab (am x.r) (aa x.r)))).1) (ar 1)))) 25,.blk b2 (cI (⟨false,0⟩:GI)) 25,.blk b1 (cR x) 71,.blk b3 (cI (am x.p)) 25,.blk b4 (cI (aa x.p)) 25,.blk b5 (cI (am x.r)) 25,.blk b6 (cI (aa x.r)) 25,.blk b7 (cI ((aI (ab (ab (aa x.p) (aa x.p)) (ab (am x.r) (aa x.r)))).1)) 25,.blk (cg (ξ 9)) (cI ((aQ (bO (ab (am x.p) (aa x.r)) (aJ ((aI (ab (ab (aa x.p) (aa x.p)) (ab (am x.r) (aa x.r)))).1) (ar 1))) (ab (aa x.p) (aa x.r))).1)) 25,.blk (cg (ξ 10)) (cI ((aQ (bO (ab (am x.p) (aa x.r)) (aJ ((aI (ab (ab (aa x.p) (aa x.p)) (ab (am x.r) (aa x.r)))).1) (ar 1))) (ab (aa x.p) (aa x.r))).2.1)) 25] ac wo:=(h.pick [0,1,2,3,4,5,6,7,8,9] DC).sub ⟨rfl,rfl,trivial⟩
  revert h
  obtain ⟨b9,hb9⟩:∃ b,ξ 9=ptr b 0:=hφ 9
  obtain ⟨b10,hb10⟩:∃ b,ξ 10=ptr b 0:=hφ 10
  rw [hb9,hb10]; intro h
  clear hb9 hb10
  clear hφ ξ
  have hd:cC x=(aQ (bO (ab (am x.p) (aa x.r)) (aJ ((aI (ab (ab (aa x.p) (aa x.p)) (ab (am x.r) (aa x.r)))).1) (ar 1))) (ab (aa x.p) (aa x.r))).1:=pt
  refine gz h <| (W) ?_; clear h ac wo; intro ac wo h
  exact ret h rfl (.cell (v:=(vI ((aQ (bO (ab (am x.p) (aa x.r)) (aJ ((aI (ab (ab (aa x.p) (aa x.p)) (ab (am x.r) (aa x.r)))).1) (ar 1))) (ab (aa x.p) (aa x.r))).1))) rfl (i:=1) rfl aa25 zz25 rfl rfl rfl .nil) rfl (h.retP (by rw [hd] <;> rfl) (by rw [hd]; exact (by rw [← hd]; exact uT ht)))
 ·
  have q:=hc1; try simp at q
  have c15:=fm (ab (am x.p) (aa x.r)) ((aI (ab (ab (aa x.p) (aa x.p)) (ab (am x.r) (aa x.r)))).1) 28 og (gu s9 og) s8
  have s15:=ay (c15 w0)
  refine gz h <| (xk (c15)) <| (W) ?_; clear h ac wo; intro ac wo h
  have c16:=cA (aa x.p) (aa x.r) 35 og s2 s4
  have s16:=ay (c16 w0)
  have s17:=ay ((gU (aJ (ab (am x.p) (aa x.r)) ((aI (ab (ab (aa x.p) (aa x.p)) (ab (am x.r) (aa x.r)))).1)) (ab (aa x.p) (aa x.r)) 27 og s15 (gu s16 og)) w0)
  replace h:=h.emps 2
  refine ij mixed [dw (vI (aJ (ab (am x.p) (aa x.r)) ((aI (ab (ab (aa x.p) (aa x.p)) (ab (am x.r) (aa x.r)))).1))) [0],dw (vI (aa x.p)) [4],dw (vI (aa x.r)) [6],dv (vI (ab (aa x.p) (aa x.r))),dv (.tuple #[(vI ((aQ (aJ (ab (am x.p) (aa x.r)) ((aI (ab (ab (aa x.p) (aa x.p)) (ab (am x.r) (aa x.r)))).1)) (ab (aa x.p) (aa x.r))).1)),(vI ((aQ (aJ (ab (am x.p) (aa x.r)) ((aI (ab (ab (aa x.p) (aa x.p)) (ab (am x.r) (aa x.r)))).1)) (ab (aa x.p) (aa x.r))).2.1)),(.int .i64 ((aQ (aJ (ab (am x.p) (aa x.r)) ((aI (ab (ab (aa x.p) (aa x.p)) (ab (am x.r) (aa x.r)))).1)) (ab (aa x.p) (aa x.r))).2.2))]),dv (.tuple #[(vI ((aQ (aJ (ab (am x.p) (aa x.r)) ((aI (ab (ab (aa x.p) (aa x.p)) (ab (am x.r) (aa x.r)))).1)) (ab (aa x.p) (aa x.r))).1)),(vI ((aQ (aJ (ab (am x.p) (aa x.r)) ((aI (ab (ab (aa x.p) (aa x.p)) (ab (am x.r) (aa x.r)))).1)) (ab (aa x.p) (aa x.r))).2.1)),(.int .i64 ((aQ (aJ (ab (am x.p) (aa x.r)) ((aI (ab (ab (aa x.p) (aa x.p)) (ab (am x.r) (aa x.r)))).1)) (ab (aa x.p) (aa x.r))).2.2))]),dv (vI ((aQ (aJ (ab (am x.p) (aa x.r)) ((aI (ab (ab (aa x.p) (aa x.p)) (ab (am x.r) (aa x.r)))).1)) (ab (aa x.p) (aa x.r))).1)),dv (vI ((aQ (aJ (ab (am x.p) (aa x.r)) ((aI (ab (ab (aa x.p) (aa x.p)) (ab (am x.r) (aa x.r)))).1)) (ab (aa x.p) (aa x.r))).2.1)),dv (.int .i64 ((aQ (aJ (ab (am x.p) (aa x.r)) ((aI (ab (ab (aa x.p) (aa x.p)) (ab (am x.r) (aa x.r)))).1)) (ab (aa x.p) (aa x.r))).2.2)),yR 9 8,yR 10 9,dw undef [8],dw undef [9],dv (.int .i64 ((aQ (aJ (ab (am x.p) (aa x.r)) ((aI (ab (ab (aa x.p) (aa x.p)) (ab (am x.r) (aa x.r)))).1)) (ab (aa x.p) (aa x.r))).2.2))] [⟨.blk b8 (cI (aJ (ab (am x.p) (aa x.r)) ((aI (ab (ab (aa x.p) (aa x.p)) (ab (am x.r) (aa x.r)))).1))) 25,[]⟩,⟨.blk b2 (cI (⟨false,0⟩:GI)) 25,[]⟩,⟨.blk b1 (cR x) 71,[]⟩,⟨.blk b3 (cI (am x.p)) 25,[]⟩,⟨.blk b4 (cI (aa x.p)) 25,[]⟩,⟨.blk b5 (cI (am x.r)) 25,[]⟩,⟨.blk b6 (cI (aa x.r)) 25,[]⟩,⟨.blk b7 (cI ((aI (ab (ab (aa x.p) (aa x.p)) (ab (am x.r) (aa x.r)))).1)) 25,[]⟩,⟨.emp,[(9,.one 9 fun v=>.blk (cg v) (cI (⟨false,0⟩:GI)) 25),(11,.one 9 fun v=>.blk (cg v) (cI ((aQ (aJ (ab (am x.p) (aa x.r)) ((aI (ab (ab (aa x.p) (aa x.p)) (ab (am x.r) (aa x.r)))).1)) (ab (aa x.p) (aa x.r))).1)) 25)]⟩,⟨.emp,[(10,.one 10 fun v=>.blk (cg v) (cI (⟨false,0⟩:GI)) 25),(12,.one 10 fun v=>.blk (cg v) (cI ((aQ (aJ (ab (am x.p) (aa x.r)) ((aI (ab (ab (aa x.p) (aa x.p)) (ab (am x.r) (aa x.r)))).1)) (ab (aa x.p) (aa x.r))).2.1)) 25)]⟩] h rfl (by kernel_rfl) ⟨?_,?_,?_,?_,?_,?_,?_,?_,?_,?_,?_,?_,?_,?_,trivial⟩ ?_
  ·intro ξ hφ; exact jq [.blk b8 (cI (aJ (ab (am x.p) (aa x.r)) ((aI (ab (ab (aa x.p) (aa x.p)) (ab (am x.r) (aa x.r)))).1))) 25] rfl rfl (jg aa25 zz25 rfl rfl rfl (v:=(vI (aJ (ab (am x.p) (aa x.r)) ((aI (ab (ab (aa x.p) (aa x.p)) (ab (am x.r) (aa x.r)))).1)))) rfl)
  ·intro ξ hφ; exact jq [.blk b4 (cI (aa x.p)) 25] rfl rfl (jg aa25 zz25 rfl rfl rfl (v:=(vI (aa x.p))) rfl)
  ·intro ξ hφ; exact jq [.blk b6 (cI (aa x.r)) 25] rfl rfl (jg aa25 zz25 rfl rfl rfl (v:=(vI (aa x.r))) rfl)
  ·intro ξ hφ; exact kn (fi (ck cc97 rfl) (kk c16))
  ·intro ξ hφ; exact kn (fi (ck Tryz.call253 rfl) (kk (gU (aJ (ab (am x.p) (aa x.r)) ((aI (ab (ab (aa x.p) (aa x.p)) (ab (am x.r) (aa x.r)))).1)) (ab (aa x.p) (aa x.r)) 27 og s15 (gu s16 og))))
  ·intro ξ hφ; exact bc (ap rfl)
  ·intro ξ hφ; exact bc (cj rfl rfl)
  ·intro ξ hφ; exact bc (cj rfl rfl)
  ·intro ξ hφ; exact bc (cj rfl rfl)
  ·intro ξ hφ; exact mo (ψ:=fun v=>∃ b,v=ptr b 0) (B:=fun v=>[.blk (cg v) (cI (⟨false,0⟩:GI)) 25]) [.emp] rfl (fun v _=>by simp only [dP,bA] <;> rfl) (fun v hv=>by simpa [DF.one,bA] using hv) (jU (gZ vv25 rfl))
  ·intro ξ hφ; exact mo (ψ:=fun v=>∃ b,v=ptr b 0) (B:=fun v=>[.blk (cg v) (cI (⟨false,0⟩:GI)) 25]) [.emp] rfl (fun v _=>by simp only [dP,bA] <;> rfl) (fun v hv=>by simpa [DF.one,bA] using hv) (jU (gZ vv25 rfl))
  ·intro ξ hφ; obtain ⟨b11,hb9⟩:=hφ 9 rfl; exact mY [.blk b11 (cI (⟨false,0⟩:GI)) 25] [.blk b11 (cI ((aQ (aJ (ab (am x.p) (aa x.r)) ((aI (ab (ab (aa x.p) (aa x.p)) (ab (am x.r) (aa x.r)))).1)) (ab (aa x.p) (aa x.r))).1)) 25] (congrArg (fun v=>[Asn.blk (cg v) (cI (⟨false,0⟩:GI)) 25]) hb9) (congrArg (fun v=>[Asn.blk (cg v) (cI ((aQ (aJ (ab (am x.p) (aa x.r)) ((aI (ab (ab (aa x.p) (aa x.p)) (ab (am x.r) (aa x.r)))).1)) (ab (aa x.p) (aa x.r))).1)) 25]) hb9) (qn zz25 (Eq.trans rfl (congrArg some hb9)) rfl rfl rfl rfl rfl rfl)
  ·intro ξ hφ; obtain ⟨b12,hb10⟩:=hφ 10 rfl; exact mY [.blk b12 (cI (⟨false,0⟩:GI)) 25] [.blk b12 (cI ((aQ (aJ (ab (am x.p) (aa x.r)) ((aI (ab (ab (aa x.p) (aa x.p)) (ab (am x.r) (aa x.r)))).1)) (ab (aa x.p) (aa x.r))).2.1)) 25] (congrArg (fun v=>[Asn.blk (cg v) (cI (⟨false,0⟩:GI)) 25]) hb10) (congrArg (fun v=>[Asn.blk (cg v) (cI ((aQ (aJ (ab (am x.p) (aa x.r)) ((aI (ab (ab (aa x.p) (aa x.p)) (ab (am x.r) (aa x.r)))).1)) (ab (aa x.p) (aa x.r))).2.1)) 25]) hb10) (qn zz25 (Eq.trans rfl (congrArg some hb10)) rfl rfl rfl rfl rfl rfl)
  ·intro ξ hφ; exact bc (az rfl)
  clear h ac wo; intro ξ ac wo hφ h
  replace h:St w0 59 [(2,(ptr b2 0)),(10,ξ 9)] [.blk b8 (cI (aJ (ab (am x.p) (aa x.r)) ((aI (ab (ab (aa x.p) (aa x.p)) (ab (am x.r) (aa x.r)))).1))) 25,.blk b2 (cI (⟨false,0⟩:GI)) 25,.blk b1 (cR x) 71,.blk b3 (cI (am x.p)) 25,.blk b4 (cI (aa x.p)) 25,.blk b5 (cI (am x.r)) 25,.blk b6 (cI (aa x.r)) 25,.blk b7 (cI ((aI (ab (ab (aa x.p) (aa x.p)) (ab (am x.r) (aa x.r)))).1)) 25,.blk (cg (ξ 9)) (cI ((aQ (aJ (ab (am x.p) (aa x.r)) ((aI (ab (ab (aa x.p) (aa x.p)) (ab (am x.r) (aa x.r)))).1)) (ab (aa x.p) (aa x.r))).1)) 25,.blk (cg (ξ 10)) (cI ((aQ (aJ (ab (am x.p) (aa x.r)) ((aI (ab (ab (aa x.p) (aa x.p)) (ab (am x.r) (aa x.r)))).1)) (ab (aa x.p) (aa x.r))).2.1)) 25] ac wo:=(h.pick [0,1,2,3,4,5,6,7,8,9] DC).sub ⟨rfl,rfl,trivial⟩
  revert h
  obtain ⟨b11,hb9⟩:∃ b,ξ 9=ptr b 0:=hφ 9
  obtain ⟨b12,hb10⟩:∃ b,ξ 10=ptr b 0:=hφ 10
  rw [hb9,hb10]; intro h
  clear hb9 hb10
  clear hφ ξ
  have hd:cC x=(aQ (aJ (ab (am x.p) (aa x.r)) ((aI (ab (ab (aa x.p) (aa x.p)) (ab (am x.r) (aa x.r)))).1)) (ab (aa x.p) (aa x.r))).1:=pt
  refine gz h <| (W) ?_; clear h ac wo; intro ac wo h
  exact ret h rfl (.cell (v:=(vI ((aQ (aJ (ab (am x.p) (aa x.r)) ((aI (ab (ab (aa x.p) (aa x.p)) (ab (am x.r) (aa x.r)))).1)) (ab (aa x.p) (aa x.r))).1))) rfl (i:=1) rfl aa25 zz25 rfl rfl rfl .nil) rfl (h.retP (by rw [hd] <;> rfl) (by rw [hd]; exact (by rw [← hd]; exact uT ht)))
attribute [irreducible] cC
def gi (x:GR) (y:GR):GQ :=
 (eE (aJ (cC x) (ar 1)))
theorem oS (x:GR) (y:GR) (ht:Tm x) (hs1:decide ((gM x) < 0)=false) (hs2:decide ((gM y)≤0)=false) (hs3:decide ((fu y (eE (aJ (cC x) (ar 1))))>0)=true) (zx:SzR 36 x) (zy:SzR 36 y) (w0:World):Calls zP 209 #[(vR x),(vR y)] w0 (RetP w0 (vQ (gi x y)) (SzQ 32 (gi x y))):=by
 refine enter (N:=81) Tryz.func209 rfl rfl ?_; intro ac h
 refine gz h <| (xb) fun b1=>(xb) fun b2=>(xa) fun b3=>(xk (mb x (cu zx og))) <| (xg (hs:=by exact fun hg=>fi enA (kk (mb y (cu zy og))))) <| (W) ?_; clear h ac; intro ac wo h
 refine th h rfl ?_ (by rw [hs1]; rfl)
 refine gz h <| (xk (mb y (cu zy og))) <| (W) ?_; clear h ac wo; intro ac wo h
 refine th h rfl ?_ hs2
 have c1:=q7 x og zx
 have s1:=Calls.pr (c1 w0)
 refine gz h <| (xk (c1)) <| (xa) fun b4=>(W) ?_; clear h ac wo; intro ac wo h
 have s2:=ay ((em 1 40 og  og) w0)
 have s3:=ay ((fm (cC x) (ar 1) 39 og s1 s2) w0)
 have s4:=Calls.pr ((fun w_ hB_ hS_=>nA (aJ (cC x) (ar 1)) (gu s3 og) w_ ) _ h.bel h.sep)
 replace h:=h.emps 1
 refine ij mixed [dw (vI (cC x)) [0],dv (vI (ar 1)),dv (vI (aJ (cC x) (ar 1))),dv (vQ (eE (aJ (cC x) (ar 1)))),yR 4 4,dw undef [4]] [⟨.blk b4 (cI (cC x)) 25,[]⟩,⟨.blk b3 (cQ oQ) 27,[]⟩,⟨.blk b2 (cR y) 71,[]⟩,⟨.blk b1 (cR x) 71,[]⟩,⟨.emp,[(4,.one 4 fun v=>.blk (cg v) (cQ oQ) 27),(5,.one 4 fun v=>.blk (cg v) (cQ (eE (aJ (cC x) (ar 1)))) 27)]⟩] h rfl (by kernel_rfl) ⟨?_,?_,?_,?_,?_,?_,trivial⟩ ?_
 ·intro ξ hφ; exact jq [.blk b4 (cI (cC x)) 25] rfl rfl (jg aa25 zz25 rfl rfl rfl (v:=(vI (cC x))) rfl)
 ·intro ξ hφ; exact kn (fi (vs:=[(.int .i64 1)]) (ck cc93 rfl) (fun w_ hB_ hS_=>(em 1 40 og  og) w_))
 ·intro ξ hφ; exact kn (fi (ck Tryz.call96 rfl) (kk (fm (cC x) (ar 1) 39 og s1 s2)))
 ·intro ξ hφ; exact kn (fi (ck Tryz.call267 rfl) (kk (nA (aJ (cC x) (ar 1)) (gu s3 og))))
 ·intro ξ hφ; exact mo (ψ:=fun v=>∃ b,v=ptr b 0) (B:=fun v=>[.blk (cg v) (cQ oQ) 27]) [.emp] rfl (fun v _=>by simp only [dP,bA] <;> rfl) (fun v hv=>by simpa [DF.one,bA] using hv) (jU (gZ vv27 rfl))
 ·intro ξ hφ; obtain ⟨b5,hb4⟩:=hφ 4 rfl; exact mY [.blk b5 (cQ oQ) 27] [.blk b5 (cQ (eE (aJ (cC x) (ar 1)))) 27] (congrArg (fun v=>[Asn.blk (cg v) (cQ oQ) 27]) hb4) (congrArg (fun v=>[Asn.blk (cg v) (cQ (eE (aJ (cC x) (ar 1)))) 27]) hb4) (qn zz27 (Eq.trans rfl (congrArg some hb4)) rfl rfl rfl rfl rfl rfl)
 clear h ac wo; intro ξ ac wo hφ h
 replace h:St w0 81 [(2,(ptr b1 0)),(3,(ptr b2 0)),(4,(ptr b3 0)),(5,(ptr b4 0)),(6,ξ 4)] [.blk b4 (cI (cC x)) 25,.blk b3 (cQ oQ) 27,.blk b2 (cR y) 71,.blk b1 (cR x) 71,.blk (cg (ξ 4)) (cQ (eE (aJ (cC x) (ar 1)))) 27] ac wo:=(h.pick [0,1,2,3,4] DC).sub ⟨rfl,rfl,rfl,rfl,rfl,trivial⟩
 revert h
 obtain ⟨b5,hb4⟩:∃ b,ξ 4=ptr b 0:=hφ 4
 rw [hb4]; intro h
 clear hb4
 clear hφ ξ
 refine gz h <| (xk (nB y (eE (aJ (cC x) (ar 1))) (cu zy og) (f8 s4 og))) <| (W) ?_; clear h ac wo; intro ac wo h
 refine c_ifT h rfl ?_ hs3
 refine gz h <| (W) ?_; clear h ac wo; intro ac wo h
 exact ret h rfl (.cell (v:=(vQ (eE (aJ (cC x) (ar 1))))) rfl (i:=1) rfl aa27 zz27 rfl rfl rfl .nil) rfl (h.retP (by unfold gi; rfl) (by unfold gi; exact s4))
attribute [irreducible] gi
def cH (x:GR) (y:GR):GQ×Int :=
 ((gi x y),0)
theorem me (x:GR) (y:GR) (ht:Tm x) (hs0:decide ((an x y)≥0)=false) (hs1:decide ((gM x) < 0)=false) (hs2:decide ((gM y)≤0)=false) (hs3:decide ((fu y (eE (aJ (cC x) (ar 1))))>0)=true) (zx:SzR 36 x) (zy:SzR 36 y) (w0:World):Calls zP 123 #[(vR x),(vR y)] w0 (RetP w0 (.tuple #[(vQ ((cH x y).1)),(.int .i64 ((cH x y).2))]) (SzQ 32 ((cH x y).1))):=by
 refine enter (N:=14) Tryz.func123 rfl rfl ?_; intro ac h
 have p2:=ay ((aR x y 16 og zx zy) w0)
 refine gz h <| (xb) fun b1=>(xb) fun b2=>(xa) fun b3=>(xk (aR x y 16 og zx zy)) <| (W) ?_; clear h; intro _ _ h
 refine th h rfl ?_ hs0
 have c3:=oS x y og og og og zx zy
 have s3:=Calls.pr (c3 w0)
 refine gz h <| (xk (c3)) <| (W) ?_; clear h; intro _ _ h
 exact ret h rfl (.cell (v:=(vQ (gi x y))) rfl (i:=0) rfl aa27 zz27 rfl rfl rfl (.tmp rfl .nil)) rfl (h.retP (by unfold cH; rfl) (by unfold cH; exact s3))
attribute [irreducible] cH
end Go.Sx
namespace Go.Sx
def nxt (x:GR):GQ:=eE (aJ (cC x) (ar 1))
def BtP (x y:GR):Prop:=Tm x∧decide ((an x y)≥0)=false∧decide ((gM x) < 0)=false∧decide ((gM y)≤0)=false∧decide ((fu y (eE (aJ (cC x) (ar 1))))>0)=true∧Tm y
def nxB (x:GR):Bool:=bif decide (10≤tk x∧tk x < 435) then !(decide ((gM x) < 0)) && (decide (tk x=10) || !(decide ((gM x)≤0))) && (allI.any fun y=>decide (y=dQ (nxt x)) && decide (tk x < tk y∧tk y≤tk x+10)) else true
theorem nxB_all:allI.all nxB=true:=by decide +kernel
theorem all_tm {x:GR} (h:x∈allI):Tm x:=by
 unfold allI at h
 rcases List.mem_append.1 h with h | h
 ·unfold insX at h
  simp only [List.mem_cons,List.not_mem_nil,or_false] at h
  rcases h with h | h | h | h
  ·exact ⟨-1,false,.inl rfl,h⟩
  ·exact ⟨-1,true,.inl rfl,h⟩
  ·exact ⟨1000,false,.inr (.inl rfl),h⟩
  ·exact ⟨1000,true,.inr (.inl rfl),h⟩
 ·unfold sR at h
  obtain ⟨i,hi,h⟩:=List.mem_flatMap.1 h
  have hi:=List.mem_range.1 hi
  rw [Nat.zero_add] at h
  rcases List.mem_cons.1 h with h | h
  ·exact ⟨i,false,.inr (.inr og),h⟩
  ·exact ⟨i,true,.inr (.inr og),List.mem_singleton.1 h⟩
theorem nx_ok {x:GR} (hx:Tm x) (h1:10≤tk x) (h2:tk x < 435):decide ((gM x) < 0)=false∧(10 < tk x→decide ((gM x)≤0)=false)∧Tm (dQ (nxt x))∧tk x < tk (dQ (nxt x))∧tk (dQ (nxt x))≤tk x+10:=by
 have h:=Tm.of_all nxB_all hx
 unfold nxB at h
 rw [decide_eq_true ⟨h1,h2⟩,cond_true,Bool.and_eq_true,Bool.and_eq_true] at h
 obtain ⟨⟨a1,a2⟩,a3⟩:=h
 obtain ⟨y,hy,h⟩:=List.any_eq_true.1 a3
 rw [Bool.and_eq_true,decide_eq_true_eq,decide_eq_true_eq] at h
 obtain ⟨rfl,h3,h4⟩:=h
 refine ⟨by simpa using a1,fun h5=>?_,all_tm hy,h3,h4⟩
 rw [decide_eq_false (by omega:¬ tk x=10),Bool.false_or] at a2
 simpa using a2
theorem bt_of {x y:GR} (hx:Tm x) (hy:Tm y) (h1:10≤tk x) (h2:tk x < 435) (h3:tk y < 435) (h:tk x+16≤tk y):BtP x y:=by
 obtain ⟨a1,_,a3,a4,a5⟩:=nx_ok hx h1 h2
 obtain ⟨b1,b2,_⟩:=nx_ok hy og h3
 refine ⟨hx,?_,a1,b2 og,?_,hy⟩
 ·rw [hx.cmp hy,fL og]; rfl
 ·show decide (fu y (nxt x)>0)=true
  unfold fu
  rw [hy.cmp a3,f7 og]; rfl
end Go.Sx
namespace Go.Sx
open Go Go.RowKit Go.Proofs
attribute [local irreducible] Code.wp wpList Rd gX ObS Ent
attribute [local irreducible] an bD ah aN aC dg
theorem pn:SlT zP 103 86 20 216 (zc [2,2,2,2,1,2,2,2,2,1,1,1]):=⟨Tryz.underlying103,Tryz.t86,_,Tryz.type86,rfl,rfl,rfl,rfl,rfl,by decide,by decide⟩
def gQ (l:List (U Qd)) (out:List Iv) (x8:Nat):(List Iv) :=
 out
def dl (l:List (U Qd)) (out:List Iv) (x8:Nat):Nx ((List Iv)×Nat) (List Iv) :=
 bif (decide ((x8:Int) < (l.length:Int))) then
  .go ((out++[(gt l x8).iv]),(x8+1))
 else
  .out (out,x8)
def bV (l:List (U Qd)):(List Iv) :=
 fin (br (fun s=>dl l s.1 s.2) ((l.length - 0)+1) ([],0)) (fun s=>gQ l s.1 s.2) (fun r=>r)
theorem jb (l:List (U Qd)) (lv:Value) (hl:l.length≤1000) (zl:All (gW 30) l) (w0:World) (hlv:View w0 lv l):Calls zP 152 #[lv] w0 (RetR w0 86 (bV l) (All (SzV 30) (bV l)∧(bV l).length=l.length)):=by
 refine enter (N:=19) Tryz.func152 rfl rfl ?_; intro ac h
 have hlenl:=hlv.len
 refine gz h <| (W) ?_; clear h; intro _ _ h
 replace h:=h.nilRow (α:=Iv) 86
 obtain ⟨X1,hX1⟩:∃ X,br (fun s=>dl l s.1 s.2) ((l.length - 0)+1) ([],0)=X:=⟨_,rfl⟩
 refine wp_loop_ghost (fun n_ a_ w_=>∃ (out:List Iv) (x8:Nat) (outv:Value),((l.length - x8) < n_)∧(br (fun s=>dl l s.1 s.2) n_ (out,x8)=X1)∧(x8≤l.length)∧(All (SzV 30) out)∧(out.length=x8)∧St w0 19 [(3,outv),(6,lv),(7,(iN l.length)),(8,(iN x8))] [.row (α:=Iv) 86 outv out] a_ w_) ((l.length - 0)+1) ⟨[],0,(.slice none 0 0),og,hX1,og,All.nil,og,h.rs⟩ ?_
 clear h; rintro n1 _ _ ⟨out,x8,outv,hm1,hL1,hx8,zout,hol,h⟩
 obtain ⟨m1,rfl⟩:∃ m,n1=m+1:=⟨n1 - 1,by omega⟩
 refine gz h <| (ai) ?_ ?_ <;> clear h <;> intro _ _ h hc1
 ·
  have hd1:=of_decide_eq_true hc1
  refine gz h <| (xa) fun b1=>(W) ?_; clear h; intro _ _ h
  refine nw h (cB (α:=Iv) (xs:=[.tmp 14]) (vs:=[(vV ((gt l x8).iv))]) [(gt l x8).iv] pn rfl rfl rfl DC) rfl ?_; clear h; intro sv2 _ _ nnsv2 h
  refine on2 h 2 0 rfl rfl (eY (xs:=out) (ys:=[(gt l x8).iv]) pn (fun w hs=>(row_view hs 0 rfl)) rfl rfl og) rfl ?_; clear h; intro sv3 _ _ apsv3 h
  have hg:=bF hL1 pt
  exact (nx h) fun _ _ h=>by exact ⟨m1,og,_,_,_,og,hg,og,(All.app zout (All.cons (All.gt zl (bK _)).1 All.nil)),og,h.re [0]⟩
 ·
  have hd1:=of_decide_eq_false hc1
  have hx1:=cG hL1 pt
  have hd:bV l=out:=pt
  exact (rx h) fun _ _ h=>(by rw [hd]; exact h.retR 0 rfl ⟨zout,og⟩)
attribute [irreducible] bV
def kP (l:List (U Qd)) (t:GR) (i:Nat) (f:Qd):Qd×Bool :=
 (f,false)
def cO (l:List (U Qd)) (t:GR) (i:Nat) (f:Qd):Nx (Nat×Qd) (Qd×Bool) :=
 bif (decide ((i:Int) < (l.length:Int))) then
  bif (aT ((gt l i).iv) t t false) then
   .ret ((gt l i).f,true)
  else
   .go ((i+1),f)
 else
  .out (i,f)
def bX (l:List (U Qd)) (t:GR):Qd×Bool :=
 fin (br (fun s=>cO l t s.1 s.2) ((l.length - 0)+1) (0,(⟨(⟨(⟨false,0⟩:GI),(⟨false,0⟩:GI)⟩:GQ),(⟨(⟨false,0⟩:GI),(⟨false,0⟩:GI)⟩:GQ),(⟨(⟨false,0⟩:GI),(⟨false,0⟩:GI)⟩:GQ)⟩:Qd))) (fun s=>kP l t s.1 s.2) (fun r=>r)
theorem iK (l:List (U Qd)) (lv:Value) (t:GR) (zl:All (gW 30) l) (zt:SzR 30 t) (w0:World) (hlv:View w0 lv l):Calls zP 36 #[lv,(vR t)] w0 (RetP w0 (.tuple #[(vD ((bX l t).1)),(.bool ((bX l t).2))]) (SzD 30 ((bX l t).1))):=by
 refine enter (N:=27) Tryz.func36 rfl rfl ?_; intro ac h
 have hlenl:=hlv.len
 obtain ⟨X1,hX1⟩:∃ X,br (fun s=>cO l t s.1 s.2) ((l.length - 0)+1) (0,oD)=X:=⟨_,rfl⟩
 refine gz h <| (xb) fun b1=>(xa) fun b2=>(W) ?_; clear h; intro _ _ h
 refine wp_loop_ghost (fun n_ a_ w_=>∃ (i:Nat) (f:Qd),((l.length - i) < n_)∧(br (fun s=>cO l t s.1 s.2) n_ (i,f)=X1)∧(i≤l.length)∧(SzD 30 f)∧St w0 27 [(0,lv),(3,(ptr b1 0)),(4,(ptr b2 0)),(6,(iN i))] [.blk b2 (cD f) 53,.blk b1 (cR t) 71] a_ w_) ((l.length - 0)+1) ⟨0,oD,og,hX1,og,⟨⟨(bI 0 DC og),(bI 0 DC og)⟩,⟨(bI 0 DC og),(bI 0 DC og)⟩,⟨(bI 0 DC og),(bI 0 DC og)⟩⟩,h.rs⟩ ?_
 clear h; rintro n1 _ _ ⟨i,f,hm1,hL1,hi,zf,h⟩
 obtain ⟨m1,rfl⟩:∃ m,n1=m+1:=⟨n1 - 1,by omega⟩
 refine gz h <| (ai) ?_ ?_ <;> clear h <;> intro _ _ h hc1
 ·
  have hd1:=of_decide_eq_true hc1
  refine gz h <| (dr0 (hob:=(oK (jO ((gt l i).iv) t t false (All.gt zl (bK _)).1 zt zt)) <| oE)) <| (ai) ?_ ?_ <;> clear h <;> intro _ _ h hc2
  ·
   have q:=hc2; try simp at q
   have hr1:=it hL1 pt
   have hd:bX l t=((gt l i).f,true):=pt
   refine gz h <| (W) ?_; clear h; intro _ _ h
   exact ret h rfl (.cell (v:=(vD ((gt l i).f))) rfl (i:=0) rfl aa53 zz53 rfl rfl rfl (.tmp rfl .nil)) rfl (h.retP (by rw [hd] <;> rfl) (by rw [hd]; exact (All.gt zl (bK _)).2))
  ·
   have q:=hc2; try simp at q
   have hg:=bF hL1 pt
   exact (nx h) fun _ _ h=>by exact ⟨m1,og,_,_,og,hg,og,zf,h.re [0,1]⟩
 ·
  have hd1:=of_decide_eq_false hc1
  have hx1:=cG hL1 pt
  have hd:bX l t=(f,false):=pt
  refine gz h <| (W) ?_; clear h; intro _ _ h
  exact ret h rfl (.cell (v:=(vD f)) rfl (i:=0) rfl aa53 zz53 rfl rfl rfl (.tmp rfl .nil)) rfl (h.retP (by rw [hd] <;> rfl) (by rw [hd]; exact zf))
attribute [irreducible] bX
def eU (u:U Qd) (t:GR):Int :=
 (an u.iv.hi t)
theorem kr (u:U Qd) (t:GR) (zu:gW 30 u) (zt:SzR 30 t) (w0:World):Calls zP 129 #[(vUD u),(vR t)] w0 (RetP w0 (.int .i64 (eU u t)) (True)):=by
 refine enter (N:=10) Tryz.func129 rfl rfl ?_; intro ac h
 have p2:=ay ((aR u.iv.hi t 10 og zu.1.2 zt) w0)
 refine gz h <| (xb) fun b1=>(xb) fun b2=>(xk (aR u.iv.hi t 10 og zu.1.2 zt)) <| (W) ?_; clear h; intro _ _ h
 exact (rt h) (h.retP (by unfold eU; rfl) trivial)
attribute [irreducible] eU
def fp (x:List (U Qd)) (target:GR) (i:Nat) (j:Nat):Int×Bool :=
 ((i:Int),((decide ((i:Int) < (x.length:Int))) && ((eU (gt x i) target) == 0)))
def aL (x:List (U Qd)) (target:GR) (i:Nat) (j:Nat):Nx (Nat×Nat) (Int×Bool) :=
 bif (decide ((i:Int) < (j:Int))) then
  bif (decide ((eU (gt x ((i+j) / 2)) target) < 0)) then
   .go ((((i+j) / 2)+1),j)
  else
   .go (i,((i+j) / 2))
 else
  .out (i,j)
def aG (x:List (U Qd)) (target:GR):Int×Bool :=
 fin (br (fun s=>aL x target s.1 s.2) (x.length - 0+1) (0,x.length)) (fun s=>fp x target s.1 s.2) (fun r=>r)
theorem dI (x:List (U Qd)) (xv:Value) (target:GR) (hl:x.length≤1000) (zx:All (gW 30) x) (ztarget:SzR 30 target) (w0:World) (hxv:View w0 xv x):Calls zP 128 #[xv,(vR target),(.func (.func 129) #[] #[])] w0 (RetP w0 (.tuple #[(.int .i64 ((aG x target).1)),(.bool ((aG x target).2))]) ((0≤(aG x target).1∧(aG x target).1≤(x.length:Int)))):=by
 refine enter (N:=49) Tryz.func128 rfl rfl ?_; intro ac h
 have hlenx:=hxv.len
 obtain ⟨X1,hX1⟩:∃ X,br (fun s=>aL x target s.1 s.2) (x.length - 0+1) (0,x.length)=X:=⟨_,rfl⟩
 refine gz h <| (xb) fun b1=>(W) ?_; clear h; intro _ _ h
 refine wp_loop_ghost (fun n_ a_ w_=>∃ (i:Nat) (j:Nat),(j - i < n_)∧(br (fun s=>aL x target s.1 s.2) n_ (i,j)=X1)∧(i≤j)∧(j≤x.length)∧St w0 49 [(0,xv),(2,(.func (.func 129) #[] #[])),(4,(ptr b1 0)),(8,(iN x.length)),(9,(iN i)),(10,(iN j))] [.blk b1 (cR target) 71] a_ w_) (x.length - 0+1) ⟨0,x.length,og,hX1,og,og,h.rs⟩ ?_
 clear h; rintro n1 _ _ ⟨i,j,hm1,hL1,hij,hjn,h⟩
 obtain ⟨m1,rfl⟩:∃ m,n1=m+1:=⟨n1 - 1,by omega⟩
 refine gz h <| (ai) ?_ ?_ <;> clear h <;> intro _ _ h hc1
 ·
  have hd1:=of_decide_eq_true hc1
  refine gz h <| (xo (hs:=by exact bf uu3 uu276 rfl (r:=((i+j:Nat):Int)) (by rw [IntKind.wrap_u64]; omega))) <| (xo (hs:=by exact ng rfl rfl (r:=((((i+j) / 2:Nat)):Int)) og (by first | decide | (simp [IntKind.bits] <;> omega)) (by rw [show ((1:Int).toNat)=1 from rfl]; omega))) <| (xo (hs:=by exact bf uu276 uu3 rfl (r:=((((i+j) / 2:Nat)):Int)) (by rw [IntKind.wrap_i64]; omega))) <| (dr0 (hob:=(oK (kr (gt x ((i+j) / 2)) target (All.gt zx (bK _)) ztarget)) <| oE)) <| (ai) ?_ ?_ <;> clear h <;> intro _ _ h hc2
  ·
   have hd2:=of_decide_eq_true hc2
   have hg:=bF hL1 pt
   exact (nx h) fun _ _ h=>by exact ⟨m1,og,_,_,og,hg,og,og,h.re [0]⟩
  ·
   have hd2:=of_decide_eq_false hc2
   have hg:=bF hL1 pt
   exact (nx h) fun _ _ h=>by exact ⟨m1,og,_,_,og,hg,og,og,h.re [0]⟩
 ·
  have hd1:=of_decide_eq_false hc1
  have hx1:=cG hL1 pt
  have hd:aG x target=((i:Int),((decide ((i:Int) < (x.length:Int))) && ((eU (gt x i) target) == 0))):=pt
  refine gz h <| (dr0 (hob:=(oG (by exact fun hg=>kr (gt x i) target (All.gt zx (bK _)) ztarget)) <| oE)) <| (W) ?_; clear h; intro _ _ h
  exact (rt h) (h.retP (by rw [hd] <;> rfl) (by rw [hd]; exact og))
attribute [irreducible] aG
def n9 (l:List (U Qd)) (t:GR) (i:Nat) (mb2:Qd):Qd×Bool :=
 ((⟨(⟨(⟨false,0⟩:GI),(⟨false,0⟩:GI)⟩:GQ),(⟨(⟨false,0⟩:GI),(⟨false,0⟩:GI)⟩:GQ),(⟨(⟨false,0⟩:GI),(⟨false,0⟩:GI)⟩:GQ)⟩:Qd),false)
def eG (l:List (U Qd)) (t:GR) (i:Nat) (mb2:Qd):Nx (Nat×Qd) (Qd×Bool) :=
 bif (decide ((i:Int) < (l.length:Int))) then
  bif (decide ((an (((gt l i).iv).lo) t)>0)) then
   .out (i,mb2)
  else
   bif (((decide ((an (((gt l i).iv).lo) t) < 0)) || (!((gt l i).iv).openLo)) && ((!(decide (((gt l i).iv).hi=t))) || (!((gt l i).iv).openHi))) then
    .ret ((gt l i).f,true)
   else
    .go ((i+1),mb2)
 else
  .out (i,mb2)
def dG (l:List (U Qd)) (t:GR):Qd×Bool :=
 fin (br (fun s=>eG l t s.1 s.2) ((l.length - (((aG l t).1).toNat))+1) (((aG l t).1).toNat,(⟨(⟨(⟨false,0⟩:GI),(⟨false,0⟩:GI)⟩:GQ),(⟨(⟨false,0⟩:GI),(⟨false,0⟩:GI)⟩:GQ),(⟨(⟨false,0⟩:GI),(⟨false,0⟩:GI)⟩:GQ)⟩:Qd))) (fun s=>n9 l t s.1 s.2) (fun r=>r)
theorem lm (l:List (U Qd)) (lv:Value) (t:GR) (hl:l.length≤1000) (zl:All (gW 30) l) (zt:SzR 30 t) (w0:World) (hlv:View w0 lv l):Calls zP 38 #[lv,(vR t)] w0 (RetP w0 (.tuple #[(vD ((dG l t).1)),(.bool ((dG l t).2))]) (SzD 30 ((dG l t).1))):=by
 refine enter (N:=68) Tryz.func38 rfl rfl ?_; intro ac h
 have hlenl:=hlv.len
 refine oP fun K1 hK1=>?_
 refine bx h (cR t) rfl rfl rfl fun b1=>ga (cD oD) vv53 rfl rfl fun b2=>g0 (az rfl) rfl <| gn hK1 <| gr fun K2 hK2=>g0 (ap rfl) rfl <| g1 1 rfl (jg aa71 zz71 rfl rfl rfl (v:=(vR t)) rfl) rfl ?_; clear h ac; intro ac wo h
 have s1:=Calls.pr ((fun w_ hB_ hS_=>dI l lv t og zl zt w_ (hlv.below hB_)) _ h.bel h.sep)
 have p2:=s1
 refine wb h (ck Tryz.call128 rfl) (fun w_ hB_ hS_=>dI l lv t og zl zt w_ (hlv.below hB_)) rfl <| g0 (ap rfl) rfl <| g0 (Rd.cast (cj rfl rfl) (v:=.int .i64 (((aG l t).1).toNat:Int)) (congrArg (Value.int .i64) og)) rfl <| g0 (cj rfl rfl) rfl <| g0 (az rfl) rfl <| g0 (az rfl) rfl <| gn hK2 <| gq fun K3 hK3=>gB ?_; clear h ac wo; intro ac wo h
 obtain ⟨X1,hX1⟩:∃ X,br (fun s=>eG l t s.1 s.2) ((l.length - (((aG l t).1).toNat))+1) (((aG l t).1).toNat,oD)=X:=⟨_,rfl⟩
 refine wp_loop_ghost (fun n_ a_ w_=>∃ (i:Nat) (mb2:Qd),((l.length - i) < n_)∧(br (fun s=>eG l t s.1 s.2) n_ (i,mb2)=X1)∧(i≤l.length)∧(SzD 30 mb2)∧St w0 68 [(0,lv),(3,(ptr b1 0)),(4,(ptr b2 0)),(6,(iN i))] [.blk b2 (cD mb2) 53,.blk b1 (cR t) 71] a_ w_) ((l.length - (((aG l t).1).toNat))+1) ⟨((aG l t).1).toNat,oD,og,hX1,og,⟨⟨(bI 0 DC og),(bI 0 DC og)⟩,⟨(bI 0 DC og),(bI 0 DC og)⟩,⟨(bI 0 DC og),(bI 0 DC og)⟩⟩,h.rs⟩ ?_
 clear h ac wo; rintro n1 ac wo ⟨i,mb2,hm1,hL1,hi,zmb2,h⟩
 obtain ⟨m1,rfl⟩:∃ m,n1=m+1:=⟨n1 - 1,by omega⟩
 refine gz h <| gq fun K4 hK4=>gr fun K5 hK5=>g0 (ap rfl) rfl <| g0 (ap rfl) rfl <| g0 (ic uu50 rfl hlv.sl) rfl <| g0 (jW rfl rfl) rfl <| gn hK5 ?_; clear h ac wo; intro ac wo h
 refine kj h rfl (fun hc1=>?_) (fun hc1=>?_)
 ·
  have hd1:=of_decide_eq_true hc1
  refine mG ?_
  refine hK4 _ _ ?_
  refine pY fun K6 hK6=>?_
  refine pZ ?_
  refine pY fun K7 hK7=>?_
  have p4:=ay ((aR (((gt l i).iv).lo) t 10 og ((All.gt zl (bK _)).1).1 zt) w0)
  refine ij mixed [dv _,dv _,dv _,dv _,dv _,dv _,dw _ [1],dv _,dv _] [ge _,ge _] h rfl (by kernel_rfl) ⟨fun _ _=>om rfl,fun _ _=>om rfl,fun _ _=>bc (iw (i:=i) uu50 zz126 rfl rfl (hlv.nn (i:=i) og) og),fun _ _=>bc (fs uu126 rfl zz86 rfl (hlv.nn (i:=0) og) rfl rfl (k':=i*32+0)),fun _ _=>bc (fs uu86 rfl zz71 rfl (hlv.nn (i:=0) og) rfl (by first | rfl | (simp only [Nat.add_assoc] <;> rfl)) (k':=i*32+0)),fun _ _=>bc (li (k:=0) aa71 zz71 hlv (e9 og) rfl rfl rfl rfl (v:=(vR (((gt l i).iv).lo))) rfl),fun _ _=>jq _ rfl rfl (jg aa71 zz71 rfl rfl rfl (v:=(vR t)) rfl),fun _ _=>kn (fi (ck Tryz.call127 rfl) (kk (aR (((gt l i).iv).lo) t 10 og ((All.gt zl (bK _)).1).1 zt))),fun _ _=>bc (az rfl),trivial⟩ ?_
  clear h ac wo; intro ξ ac wo hφ h
  replace h:St w0 68 [(0,lv),(3,(ptr b1 0)),(4,(ptr b2 0)),(6,(iN i)),(8,(.int .i64 (an (((gt l i).iv).lo) t)))] [.blk b2 (cD mb2) 53,.blk b1 (cR t) 71] ac wo:=(h.pick [0,1] DC).sub ⟨rfl,rfl,rfl,rfl,rfl,trivial⟩
  clear hφ ξ
  refine gz h <| gx hK7 <| gq fun K8 hK8=>gr fun K9 hK9=>g0 (ap rfl) rfl <| g0 (r_gtr rfl rfl) rfl <| gn hK9 ?_; clear h ac wo; intro ac wo h
  refine kj h rfl (fun hc2=>?_) (fun hc2=>?_)
  ·
   have hd2:=of_decide_eq_true hc2
   refine jY ?_
   have hx1:=cG hL1 pt
   refine gz h <| gx hK3 <| gr fun K10 hK10=>ga (cD oD) vv53 rfl rfl fun b3=>gn hK10 <| gr fun K11 hK11=>g1 0 rfl (jg aa53 zz53 rfl rfl rfl (v:=(vD oD)) rfl) rfl <| gs 1 (cD oD) rfl zz53 rfl rfl rfl rfl rfl rfl rfl <| g0 (az rfl) rfl <| gn hK11 <| gT ?_; clear h ac wo; intro ac wo h
   have hd:dG l t=(oD,false):=pt
   exact ret h rfl (.cell (v:=(vD oD)) rfl (i:=1) rfl aa53 zz53 rfl rfl rfl (.tmp rfl .nil)) rfl (h.retP (by rw [hd] <;> rfl) (by rw [hd]; exact ⟨⟨(bI 0 DC og),(bI 0 DC og)⟩,⟨(bI 0 DC og),(bI 0 DC og)⟩,⟨(bI 0 DC og),(bI 0 DC og)⟩⟩))
  ·
   have hd2:=of_decide_eq_false hc2
   refine mG ?_
   refine hK8 _ _ ?_
   refine pY fun K12 hK12=>?_
   refine ij mixed [dv _,dv _,dv _,dv _,dv _,dv _,dv _,dv _,dv _,dv _,dv _,dv _,dv _,dv _,dv _,dv _,dv _,dv _,dw _ [1],dv _,dv _,dv _,dv _,dv _,dv _,dv _,dv _,dv _,dv _,dv _] [ge _,ge _] h rfl (by kernel_rfl) ⟨fun _ _=>om rfl,fun _ _=>bc (jW rfl rfl),fun _ _=>om rfl,fun _ _=>og2 rfl rfl rfl rfl (fun hg=>Rd.step (ap rfl)),fun _ _=>og2 rfl rfl rfl rfl (fun hg=>Rd.step (ap rfl)),fun _ _=>og2 rfl rfl rfl rfl (fun hg=>Rd.step (iw (i:=i) uu50 zz126 (cL rfl hg) (cL rfl hg) (hlv.nn (i:=i) og) og)),fun _ _=>og2 rfl rfl rfl rfl (fun hg=>Rd.step (fs uu126 rfl zz86 rfl (hlv.nn (i:=0) og) (cL rfl hg) rfl (k':=i*32+0))),fun _ _=>og2 rfl rfl rfl rfl (fun hg=>Rd.step (fs uu86 rfl zz4 rfl (hlv.nn (i:=0) og) (cL rfl hg) (by first | rfl | (simp only [Nat.add_assoc] <;> rfl)) (k':=i*32+18))),fun _ _=>og2 rfl rfl rfl rfl (fun hg=>Rd.step (li (k:=18) aa4 zz4 hlv (e9 og) (cL rfl hg) rfl rfl rfl (v:=(.bool (((gt l i).iv).openLo))) rfl)),fun _ _=>og2 rfl rfl rfl rfl (fun hg=>Rd.step (r_not (cL rfl hg))),fun _ _=>bc (r_or rfl (fun e=>(cL rfl (notI e)))),fun _ _=>om rfl,fun _ _=>oh rfl rfl rfl rfl (fun hg=>ap rfl),fun _ _=>oh rfl rfl rfl rfl (fun hg=>ap rfl),fun _ _=>oh rfl rfl rfl rfl (fun hg=>iw (i:=i) uu50 zz126 (cL rfl hg) (cL rfl hg) (hlv.nn (i:=i) og) og),fun _ _=>oh rfl rfl rfl rfl (fun hg=>fs uu126 rfl zz86 rfl (hlv.nn (i:=0) og) (cL rfl hg) rfl (k':=i*32+0)),fun _ _=>oh rfl rfl rfl rfl (fun hg=>fs uu86 rfl zz71 rfl (hlv.nn (i:=0) og) (cL rfl hg) (by first | rfl | (simp only [Nat.add_assoc] <;> rfl)) (k':=i*32+9)),fun _ _=>oh rfl rfl rfl rfl (fun hg=>li (k:=9) aa71 zz71 hlv (e9 og) (cL rfl hg) rfl rfl rfl (v:=(vR (((gt l i).iv).hi))) rfl),fun _ _=>oh rfl rfl rfl rfl (fun hg=>jg aa71 zz71 rfl rfl rfl (v:=(vR t)) rfl),fun _ _=>oh rfl rfl rfl rfl (fun hg=>w9 eqp71 (cL rfl hg) (cL rfl hg)),fun _ _=>oh rfl rfl rfl rfl (fun hg=>ap (cL rfl hg)),fun _ _=>og4 rfl rfl rfl rfl (fun hg=>Rd.step (ap rfl)),fun _ _=>og4 rfl rfl rfl rfl (fun hg=>Rd.step (ap rfl)),fun _ _=>og4 rfl rfl rfl rfl (fun hg=>Rd.step (iw (i:=i) uu50 zz126 (cL rfl hg) (cL rfl hg) (hlv.nn (i:=i) og) og)),fun _ _=>og4 rfl rfl rfl rfl (fun hg=>Rd.step (fs uu126 rfl zz86 rfl (hlv.nn (i:=0) og) (cL rfl hg) rfl (k':=i*32+0))),fun _ _=>og4 rfl rfl rfl rfl (fun hg=>Rd.step (fs uu86 rfl zz4 rfl (hlv.nn (i:=0) og) (cL rfl hg) (by first | rfl | (simp only [Nat.add_assoc] <;> rfl)) (k':=i*32+19))),fun _ _=>og4 rfl rfl rfl rfl (fun hg=>Rd.step (li (k:=19) aa4 zz4 hlv (e9 og) (cL rfl hg) rfl rfl rfl (v:=(.bool (((gt l i).iv).openHi))) rfl)),fun _ _=>og4 rfl rfl rfl rfl (fun hg=>Rd.step (r_not (cL rfl hg))),fun _ _=>oh rfl rfl rfl rfl (fun hg=>r_or (cL rfl hg) (fun e=>(cL rfl (andI hg (notI e))))),fun _ _=>bc (pz rfl (fun e=>(cL rfl e))),trivial⟩ ?_
   clear h ac wo; intro ξ ac wo hφ h
   replace h:St w0 68 [(0,lv),(3,(ptr b1 0)),(4,(ptr b2 0)),(6,(iN i)),(61,(.bool (((decide ((an (((gt l i).iv).lo) t) < 0)) || (!((gt l i).iv).openLo)) && ((!(decide (((gt l i).iv).hi=t))) || (!((gt l i).iv).openHi)))))] [.blk b2 (cD mb2) 53,.blk b1 (cR t) 71] ac wo:=(h.pick [0,1] DC).sub ⟨rfl,rfl,rfl,rfl,rfl,trivial⟩
   clear hφ ξ
   refine hK12 _ _ ?_
   refine kj h rfl (fun hc3=>?_) (fun hc3=>?_)
   ·
    have q:=hc3; try simp at q
    refine gz h <| gr fun K13 hK13=>g0 (ap rfl) rfl <| g0 (ap rfl) rfl <| g0 (iw (i:=i) uu50 zz126 rfl rfl (hlv.nn (i:=i) og) og) rfl <| g0 (fs uu126 rfl zz53 rfl (hlv.nn (i:=0) og) rfl rfl (k':=i*32+20)) rfl <| g0 (li (k:=20) aa53 zz53 hlv (e9 og) rfl rfl rfl rfl (v:=(vD ((gt l i).f))) rfl) rfl <| gs 0 (cD ((gt l i).f)) rfl zz53 rfl rfl rfl rfl rfl rfl rfl <| g0 (az rfl) rfl <| gn hK13 <| gT ?_; clear h ac wo; intro ac wo h
    have hr1:=it hL1 pt
    have hd:dG l t=((gt l i).f,true):=pt
    exact ret h rfl (.cell (v:=(vD ((gt l i).f))) rfl (i:=0) rfl aa53 zz53 rfl rfl rfl (.tmp rfl .nil)) rfl (h.retP (by rw [hd] <;> rfl) (by rw [hd]; exact (All.gt zl (bK _)).2))
   ·
    have q:=hc3; try simp at q
    refine gz h <| gS <| gN <| gx hK6 <| gR <| g0 (ap rfl) rfl <| g0 (eJ rfl rfl (r:=((i+1:Nat):Int)) (by rw [IntKind.wrap_i64]; omega)) rfl <| g0 (az rfl) rfl <| gx (fun _ _=>f5) ?_; clear h ac wo; intro ac wo h
    have hg:=bF hL1 pt
    exact aF ⟨m1,og,_,_,og,hg,og,zmb2,h.re [0,1]⟩
 ·
  have hd1:=of_decide_eq_false hc1
  refine jY ?_
  have hx1:=cG hL1 pt
  refine gz h <| gx hK3 <| gr fun K14 hK14=>ga (cD oD) vv53 rfl rfl fun b4=>gn hK14 <| gr fun K15 hK15=>g1 0 rfl (jg aa53 zz53 rfl rfl rfl (v:=(vD oD)) rfl) rfl <| gs 1 (cD oD) rfl zz53 rfl rfl rfl rfl rfl rfl rfl <| g0 (az rfl) rfl <| gn hK15 <| gT ?_; clear h ac wo; intro ac wo h
  have hd:dG l t=(oD,false):=pt
  exact ret h rfl (.cell (v:=(vD oD)) rfl (i:=1) rfl aa53 zz53 rfl rfl rfl (.tmp rfl .nil)) rfl (h.retP (by rw [hd] <;> rfl) (by rw [hd]; exact ⟨⟨(bI 0 DC og),(bI 0 DC og)⟩,⟨(bI 0 DC og),(bI 0 DC og)⟩,⟨(bI 0 DC og),(bI 0 DC og)⟩⟩))
attribute [irreducible] dG
def fg (i:Iv) (t_:GR):Bool :=
 ((decide ((aS (aw i) (⟨t_,false⟩:Bd))≤0)) && (decide ((aS (⟨t_,true⟩:Bd) (aH i))≤0)))
theorem mX (i:Iv) (cp:Nat) (t_:GR) (zi:SzV 30 i) (zt_:SzR 30 t_) (w0:World) (hcpp:PV w0 cp (cR t_)):Calls zP 154 #[(vV i),(ptr cp 0)] w0 (RetP w0 (.bool (fg i t_)) (True)):=by
 refine enter (N:=18) Tryz.func154 rfl rfl ?_; intro ac h
 refine oP fun K1 hK1=>?_
 refine bx h (cV i) rfl rfl rfl fun b1=>g0 (az rfl) rfl <| gn hK1 <| gq fun K2 hK2=>?_; clear h ac; intro ac wo h
 have s1:=Calls.pr ((fun w_ hB_ hS_=>fy i zi w_ ) _ h.bel h.sep)
 have s2:=Calls.pr ((fun w_ hB_ hS_=>eH (aw i) (⟨t_,false⟩:Bd) s1 zt_ w_ ) _ h.bel h.sep)
 have p3:=s2
 have s4:=Calls.pr ((fun w_ hB_ hS_=>fP i zi w_ ) _ h.bel h.sep)
 have s5:=Calls.pr ((fun w_ hB_ hS_=>eH (⟨t_,true⟩:Bd) (aH i) zt_ s4 w_ ) _ h.bel h.sep)
 have p6:=s5
 refine ij mixed [dw (vV i) [0],dv (vW (aw i)),dv (vR t_),dv (vW (⟨t_,false⟩:Bd)),dv (.int .i64 (aS (aw i) (⟨t_,false⟩:Bd))),dv (.bool (decide ((aS (aw i) (⟨t_,false⟩:Bd))≤0))),dv (.bool (decide ((aS (aw i) (⟨t_,false⟩:Bd))≤0))),dv (gv (decide ((aS (aw i) (⟨t_,false⟩:Bd))≤0)) (vR t_)),dv (gv (decide ((aS (aw i) (⟨t_,false⟩:Bd))≤0)) (vW (⟨t_,true⟩:Bd))),dw (gv (decide ((aS (aw i) (⟨t_,false⟩:Bd))≤0)) (vV i)) [0],dv (gv (decide ((aS (aw i) (⟨t_,false⟩:Bd))≤0)) (vW (aH i))),dv (gv (decide ((aS (aw i) (⟨t_,false⟩:Bd))≤0)) (.int .i64 (aS (⟨t_,true⟩:Bd) (aH i)))),dv (gv (decide ((aS (aw i) (⟨t_,false⟩:Bd))≤0)) (.bool (decide ((aS (⟨t_,true⟩:Bd) (aH i))≤0)))),dv (.bool ((decide ((aS (aw i) (⟨t_,false⟩:Bd))≤0)) && (decide ((aS (⟨t_,true⟩:Bd) (aH i))≤0)))),dv (.bool ((decide ((aS (aw i) (⟨t_,false⟩:Bd))≤0)) && (decide ((aS (⟨t_,true⟩:Bd) (aH i))≤0))))] [⟨.blk b1 (cV i) 86,[]⟩] h rfl (by kernel_rfl) ⟨?_,?_,?_,?_,?_,?_,?_,?_,?_,?_,?_,?_,?_,?_,?_,trivial⟩ ?_
 ·intro ξ hφ; exact jq [.blk b1 (cV i) 86] rfl rfl (jg aa86 zz86 rfl rfl rfl (v:=(vV i)) rfl)
 ·intro ξ hφ; exact kn (fi (vs:=[(vV i)]) (ck Tryz.call136 rfl) (fun w_ hB_ hS_=>fy i zi w_ ))
 ·intro ξ hφ; exact bc (r_ldP hcpp aa71 zz71 rfl rfl rfl (v:=(vR t_)) rfl)
 ·intro ξ hφ; exact bc (bM vb rfl rfl (v:=(vW (⟨t_,false⟩:Bd))) rfl)
 ·intro ξ hφ; exact kn (fi (ck Tryz.call135 rfl) (kk (eH (aw i) (⟨t_,false⟩:Bd) s1 zt_)))
 ·intro ξ hφ; exact bc (r_leq rfl rfl)
 ·intro ξ hφ; exact bc (ap rfl)
 ·intro ξ hφ; exact kE (c:=true) (b:=(decide ((aS (aw i) (⟨t_,false⟩:Bd))≤0))) (g:=(decide ((aS (aw i) (⟨t_,false⟩:Bd))≤0))) [] rfl rfl rfl rfl g_t (fun hg=>Rd.step (r_ldP hcpp aa71 zz71 rfl rfl rfl (v:=(vR t_)) rfl))
 ·intro ξ hφ; exact kE (c:=true) (b:=(decide ((aS (aw i) (⟨t_,false⟩:Bd))≤0))) (g:=(decide ((aS (aw i) (⟨t_,false⟩:Bd))≤0))) [] rfl rfl rfl rfl g_t (fun hg=>Rd.step (bM vb (jp (cL rfl hg) (jp rfl rfl)) rfl (v:=(vW (⟨t_,true⟩:Bd))) rfl))
 ·intro ξ hφ; exact kE (c:=true) (b:=(decide ((aS (aw i) (⟨t_,false⟩:Bd))≤0))) (g:=(decide ((aS (aw i) (⟨t_,false⟩:Bd))≤0))) [.blk b1 (cV i) 86] rfl rfl rfl rfl g_t (fun hg=>Rd.step (jg aa86 zz86 rfl rfl rfl (v:=(vV i)) rfl))
 ·intro ξ hφ; exact kE (c:=true) (b:=(decide ((aS (aw i) (⟨t_,false⟩:Bd))≤0))) (g:=(decide ((aS (aw i) (⟨t_,false⟩:Bd))≤0))) [] rfl rfl rfl rfl g_t (fun hg=>fi (ck Tryz.call137 (jp (cL rfl hg) rfl)) (kk (fP i zi)))
 ·intro ξ hφ; exact kE (c:=true) (b:=(decide ((aS (aw i) (⟨t_,false⟩:Bd))≤0))) (g:=(decide ((aS (aw i) (⟨t_,false⟩:Bd))≤0))) [] rfl rfl rfl rfl g_t (fun hg=>fi (ck Tryz.call135 (jp (cL rfl hg) (jp (cL rfl hg) rfl))) (kk (eH (⟨t_,true⟩:Bd) (aH i) zt_ s4)))
 ·intro ξ hφ; exact kE (c:=true) (b:=(decide ((aS (aw i) (⟨t_,false⟩:Bd))≤0))) (g:=(decide ((aS (aw i) (⟨t_,false⟩:Bd))≤0))) [] rfl rfl rfl rfl g_t (fun hg=>Rd.step (r_leq (cL rfl hg) rfl))
 ·intro ξ hφ; exact bc (pz rfl (fun e=>(cL rfl e)))
 ·intro ξ hφ; exact bc (az rfl)
 clear h ac wo; intro ξ ac wo hφ h
 replace h:St w0 18 [(3,(.bool ((decide ((aS (aw i) (⟨t_,false⟩:Bd))≤0)) && (decide ((aS (⟨t_,true⟩:Bd) (aH i))≤0)))))] [.blk b1 (cV i) 86] ac wo:=(h.pick [0] DC).sub ⟨rfl,trivial⟩
 clear hφ ξ
 refine hK2 _ _ ?_
 refine c_ret ?_
 exact (rt h) (h.retP (by unfold fg; rfl) trivial)
attribute [irreducible] fg
def fH (ls:List Iv) (t_:GR) (x8:Nat):Int :=
 (-1)
def cm (ls:List Iv) (t_:GR) (x8:Nat):Nx Nat Int :=
 bif (decide ((x8:Int) < (ls.length:Int))) then
  bif (fg (gt ls x8) t_) then
   .ret (x8:Int)
  else
   .go (x8+1)
 else
  .out x8
def c8 (ls:List Iv) (t_:GR):Int :=
 fin (br (fun s=>cm ls t_ s) ((ls.length - 0)+1) 0) (fun s=>fH ls t_ s) (fun r=>r)
theorem iq (ls:List Iv) (lsv:Value) (cp:Nat) (t_:GR) (hl:ls.length≤1000) (zls:All (SzV 30) ls) (zt_:SzR 30 t_) (w0:World) (hlsv:View w0 lsv ls) (hcpp:PV w0 cp (cR t_)):Calls zP 230 #[lsv,(.func (.func 154) #[] #[(ptr cp 0)])] w0 (RetP w0 (.int .i64 (c8 ls t_)) ((-1≤(c8 ls t_)∧(c8 ls t_)≤1000))):=by
 refine enter (N:=19) Tryz.func230 rfl rfl ?_; intro ac h
 have hlenls:=hlsv.len
 refine oP fun K1 hK1=>?_
 refine rd0 h (az rfl) rfl <| gn hK1 <| gq fun K2 hK2=>gr fun K3 hK3=>g0 (ap rfl) rfl <| g0 (ic uu103 rfl hlsv.sl) rfl <| g0 (ap rfl) rfl <| gn hK3 <| gB ?_; clear h; intro _ _ h
 obtain ⟨X1,hX1⟩:∃ X,br (fun s=>cm ls t_ s) ((ls.length - 0)+1) 0=X:=⟨_,rfl⟩
 refine wp_loop_ghost (fun n_ a_ w_=>∃ (x8:Nat),((ls.length - x8) < n_)∧(br (fun s=>cm ls t_ s) n_ x8=X1)∧(x8≤ls.length)∧St w0 19 [(0,lsv),(1,(.func (.func 154) #[] #[(ptr cp 0)])),(7,(iN ls.length)),(8,(iN x8))] [] a_ w_) ((ls.length - 0)+1) ⟨0,og,hX1,og,h.rs⟩ ?_
 clear h; rintro n1 _ _ ⟨x8,hm1,hL1,hx8,h⟩
 obtain ⟨m1,rfl⟩:∃ m,n1=m+1:=⟨n1 - 1,by omega⟩
 refine gz h <| gr fun K4 hK4=>g0 (jW rfl rfl) rfl <| gn hK4 <| gq fun K5 hK5=>?_; clear h; intro _ _ h
 refine kj h rfl (fun hc1=>?_) (fun hc1=>?_)
 ·
  have hd1:=of_decide_eq_true hc1
  refine gz h <| gS <| gx hK5 <| gq fun K6 hK6=>gB <| gr fun K7 hK7=>g0 (ap rfl) rfl <| g0 (az rfl) rfl <| gn hK7 <| gr fun K8 hK8=>g0 (ap rfl) rfl <| g0 (ap rfl) rfl <| g0 (ap rfl) rfl <| g0 (iw (i:=x8) uu103 zz86 rfl rfl (hlsv.nn (i:=x8) og) og) rfl <| g0 (li (k:=0) aa86 zz86 hlsv (e9 og) rfl (Nat.add_zero _) rfl rfl (v:=(vV (gt ls x8))) rfl) rfl <| gc (sZ (cap:=[(ptr cp 0)]) Tryz.call154 rfl rfl) (fun w_ hB_ hS_=>mX (gt ls x8) cp t_ (All.gt zls (yL _)) zt_ w_ (hcpp.below hB_)) rfl <| gn hK8 ?_; clear h; intro _ _ h
  refine kj h rfl (fun hc2=>?_) (fun hc2=>?_)
  ·
   have q:=hc2; try simp at q
   refine gz h <| gr fun K9 hK9=>g0 (ap rfl) rfl <| g0 (az rfl) rfl <| gn hK9 <| gT ?_; clear h; intro _ _ h
   have hr1:=it hL1 pt
   have hd:c8 ls t_=(x8:Int):=pt
   exact (rt h) (h.retP (by rw [hd] <;> rfl) (by rw [hd]; exact og))
  ·
   have q:=hc2; try simp at q
   refine gz h <| gS <| gN <| gx hK6 <| gR <| g0 (eJ rfl rfl (r:=((x8+1:Nat):Int)) (by rw [IntKind.wrap_i64]; omega)) rfl <| g0 (ap rfl) rfl <| gx (fun _ _=>f5) ?_; clear h; intro _ _ h
   have hg:=bF hL1 pt
   exact aF ⟨m1,og,_,og,hg,og,h.re []⟩
 ·
  have hd1:=of_decide_eq_false hc1
  refine jY ?_
  have hx1:=cG hL1 pt
  refine gz h <| gx hK2 <| gr fun K10 hK10=>g0 (az rfl) rfl <| gn hK10 <| gT ?_; clear h; intro _ _ h
  have hd:c8 ls t_=(-1):=pt
  exact (rt h) (h.retP (by rw [hd] <;> rfl) (by rw [hd]; exact og))
attribute [irreducible] c8
def dZ (ls:List Iv) (t_:GR):Bool :=
 (decide ((c8 ls t_)≥0))
theorem jD (ls:List Iv) (lsv:Value) (cp:Nat) (t_:GR) (hl:ls.length≤1000) (zls:All (SzV 30) ls) (zt_:SzR 30 t_) (w0:World) (hlsv:View w0 lsv ls) (hcpp:PV w0 cp (cR t_)):Calls zP 153 #[lsv,(.func (.func 154) #[] #[(ptr cp 0)])] w0 (RetP w0 (.bool (dZ ls t_)) (True)):=by
 refine enter (N:=9) Tryz.func153 rfl rfl ?_; intro ac h
 have hlenls:=hlsv.len
 refine gz h <| (W) ?_; clear h; intro _ _ h
 have s1:=Calls.pr ((fun w_ hB_ hS_=>iq ls lsv cp t_ og zls zt_ w_ (hlsv.below hB_) (hcpp.below hB_)) _ h.bel h.sep)
 have p2:=s1
 refine gz h <| (xc (ct:=by exact fun w_ hB_ hS_=>iq ls lsv cp t_ og zls zt_ w_ (hlsv.below hB_) (hcpp.below hB_))) <| (W) ?_; clear h; intro _ _ h
 exact (rt h) (h.retP (by unfold dZ; rfl) trivial)
attribute [irreducible] dZ
def fT (p:List Iv) (t:GR):Bool :=
 (dZ p t)
theorem nG (p:List Iv) (pv:Value) (t:GR) (hl:p.length≤1000) (zp:All (SzV 30) p) (zt:SzR 30 t) (w0:World) (hpv:View w0 pv p):Calls zP 59 #[pv,(vR t)] w0 (RetP w0 (.bool (fT p t)) (True)):=by
 refine enter (N:=8) Tryz.func59 rfl rfl ?_; intro ac h
 have hlenp:=hpv.len
 refine gz h <| (xb) fun b1=>(xo (hs:=by exact nZ rfl)) <| (xc (ct:=by exact fun w_ hB_ hS_=>jD p pv b1 t og zp zt w_ (hpv.below hB_) (blk_pv hS_ 0 rfl))) <| (W) ?_; clear h; intro _ _ h
 exact (rt h) (h.retP (by unfold fT; rfl) trivial)
attribute [irreducible] fT
end Go.Sx
namespace Go.Sx
theorem oN (l:List (U Qd)):bV l=l.map (·.iv):=by
 have h:=pN (R:=List Iv) (f:=fun (o:List Iv) (u:U Qd)=>o++[u.iv]) l (B:=fun s=>dl l s.1 s.2) (fun o i hi=>by
  show dl l o i=_
  unfold dl
  rw [decide_eq_true (by omega:(i:Int) < (l.length:Int))]; rfl) (fun o=>by
  show dl l o l.length=_
  unfold dl
  rw [decide_eq_false (by omega:¬ (l.length:Int) < (l.length:Int))]; rfl) l [] [] (l.length - 0+1) rfl og
 unfold bV
 refine (io h).trans ?_
 show gQ l _ _=_
 unfold gQ
 rw [pM,List.nil_append]
 clear h
 show (l.flatMap fun u=>[u.iv])=_
 induction l with
 | nil=>rfl
 | cons u l ih=>rw [List.flatMap_cons,List.map_cons,ih]; rfl
theorem my {l:List (U Qd)} (h:∀ u∈l,Wv u.iv):∀ i∈bV l,Wv i:=fun i hi=>by
 rw [oN] at hi
 obtain ⟨u,hu,rfl⟩:=List.mem_map.1 hi
 exact h u hu
end Go.Sx
namespace Go.Sx
open Go Go.RowKit Go.Proofs
attribute [local irreducible] Code.wp wpList Rd gX ObS Ent
attribute [local irreducible] an bD ah aN aC dg
def iz (l:List (U Qd)) (out:List GR) (i:Nat):(List GR) :=
 out
def bE (l:List (U Qd)) (out:List GR) (i:Nat):Nx ((List GR)×Nat) (List GR) :=
 bif (decide ((i:Int) < (((aj l ([])).length:Nat):Int))) then
  bif (decide ((i:Int)>0)) then
   bif (((cH (gt (aj l ([])) (i - 1)) (gt (aj l ([])) i)).2) == 0) then
    .go (((out++[(gt (aj l ([])) i)])++[(dQ ((cH (gt (aj l ([])) (i - 1)) (gt (aj l ([])) i)).1))]),(i+1))
   else
    .go ((out++[(gt (aj l ([])) i)]),(i+1))
  else
   .go ((out++[(gt (aj l ([])) i)]),(i+1))
 else
  .out (out,i)
def bm (l:List (U Qd)):(List GR) :=
 fin (br (fun s=>bE l s.1 s.2) (((aj l []).length - 0)+1) ([(bk (-1)),(bk 1000)],0)) (fun s=>iz l s.1 s.2) (fun r=>r)
theorem iy (l:List (U Qd)) (lv:Value) (hl:l.length≤100) (hg:∀ i,0 < i→i < (aj l []).length→BtP (gt (aj l []) (i - 1)) (gt (aj l []) i)) (zl:All (gW 30) l) (w0:World) (hlv:View w0 lv l):Calls zP 35 #[lv] w0 (RetR w0 71 (bm l) (All (SzR 30) (bm l)∧(bm l).length≤2+4*l.length+4*l.length)):=by
 refine enter (N:=49) Tryz.func35 rfl rfl ?_; intro ac h
 have hlenl:=hlv.len
 refine gz h <| (W) ?_; clear h ac; intro ac wo h
 replace h:=h.nilRow (α:=GR) 71
 refine on1 h 0 rfl (jf (vs:=[lv,(.slice none 0 0)]) (A:=fun v=>[.row (α:=GR) 71 v (aj l ([]))]) (ck Tryz.call61 rfl) (fun w_ B_ hB_ hS_=>i6 l lv ([]) (.slice none 0 0) og og zl All.nil w0 w_ B_ hB_ hS_ hlv)) rfl ?_; clear h ac wo; intro sv2 ac wo s3 h
 have p4:=s3.2
 have c5:=fo (-1) og
 have s5:=Calls.pr (c5 w0)
 have c6:=fo 1000 og
 have s6:=Calls.pr (c6 w0)
 refine gz h <| (xk (c5)) <| (xk (c6)) <| ?_; clear h ac wo; intro ac wo h
 refine nw h (cB (α:=GR) (xs:=[.tmp 10,.tmp 11]) (vs:=[(vR (bk (-1))),(vR (bk 1000))]) [(bk (-1)),(bk 1000)] nW rfl rfl rfl DC) rfl ?_; clear h ac wo; intro sv7 ac wo nnsv7 h
 obtain ⟨X1,hX1⟩:∃ X,br (fun s=>bE l s.1 s.2) (((aj l []).length - 0)+1) ([(bk (-1)),(bk 1000)],0)=X:=⟨_,rfl⟩
 refine gz h <| (W) ?_; clear h ac wo; intro ac wo h
 refine wp_loop_ghost (fun n_ a_ w_=>∃ (out:List GR) (i:Nat) (outv:Value),(((aj l []).length - i) < n_)∧(br (fun s=>bE l s.1 s.2) n_ (out,i)=X1)∧(i≤(aj l []).length)∧(All (SzR 30) out)∧(out.length≤2+2*i)∧St w0 49 [(3,sv2),(4,outv),(5,(iN i))] [.row (α:=GR) 71 outv out,.row (α:=GR) 71 sv2 (aj l ([]))] a_ w_) (((aj l []).length - 0)+1) ⟨[(bk (-1)),(bk 1000)],0,sv7,og,hX1,og,(All.cons (cu s5 og) (All.cons (cu s6 og) All.nil)),og,h.rs⟩ ?_
 clear h ac wo; rintro n1 ac wo ⟨out,i,outv,hm1,hL1,hi,zout,hol,h⟩
 obtain ⟨m1,rfl⟩:∃ m,n1=m+1:=⟨n1 - 1,by omega⟩
 refine gz h <| (ai) ?_ ?_ <;> clear h ac wo <;> intro ac wo h hc1
 ·
  have hd1:=of_decide_eq_true hc1
  refine gz h <| (W) ?_; clear h ac wo; intro ac wo h
  refine nw h (cB (α:=GR) (xs:=[.tmp 23]) (vs:=[(vR (gt (aj l ([])) i))]) [(gt (aj l ([])) i)] nW rfl rfl rfl DC) rfl ?_; clear h ac wo; intro sv8 ac wo nnsv8 h
  refine on2 h 1 0 rfl rfl (eY (xs:=out) (ys:=[(gt (aj l ([])) i)]) nW (fun w hs=>(row_view hs 0 rfl)) rfl rfl og) rfl ?_; clear h ac wo; intro sv9 ac wo apsv9 h
  refine gz h <| (ai) ?_ ?_ <;> clear h ac wo <;> intro ac wo h hc2
  ·
   have hd2:=of_decide_eq_true hc2
   refine gz h <| (W) ?_; clear h ac wo; intro ac wo h
   have s10:=Calls.pr ((fun w_ hB_ hS_=>me (gt (aj l ([])) (i - 1)) (gt (aj l ([])) i) (hg i og og).1 (hg i og og).2.1 (hg i og og).2.2.1 (hg i og og).2.2.2.1 (hg i og og).2.2.2.2.1 (cu (j:=36) (k:=40) (nT (hg i og og).1) og) (cu (j:=36) (k:=40) (nT (hg i og og).2.2.2.2.2) og) w_ ) _ h.bel h.sep)
   replace h:=h.emps 1
   refine ij mixed [dv _,dv _,dv _,dv _,dw _ [2],dv _,dv _,dv _,dw _ [2],dv _,dv _,dv _,dv _,yR 13 3,dw undef [3],dv _] [ge _,ge _,ge _,⟨.emp,[(13,.one 13 fun v=>.blk (cg v) (cQ oQ) 27),(14,.one 13 fun v=>.blk (cg v) (cQ ((cH (gt (aj l ([])) (i - 1)) (gt (aj l ([])) i)).1)) 27)]⟩] h rfl (by kernel_rfl) ⟨fun _ _=>om rfl,fun _ _=>om rfl,fun _ _=>bc (fj rfl rfl (r:=(((i - 1):Nat):Int)) (by rw [IntKind.wrap_i64]; first | omega | grind)),fun _ _=>bc (iw (i:=(i - 1)) uu66 zz71 rfl rfl (h.row_nn 2 rfl og) og),fun _ _=>jq _ rfl rfl (iA (k:=0) aa71 zz71 (e9 og) rfl (Nat.add_zero _) rfl rfl (v:=(vR (gt (aj l ([])) (i - 1)))) rfl),fun _ _=>om rfl,fun _ _=>om rfl,fun _ _=>bc (iw (i:=i) uu66 zz71 rfl rfl (h.row_nn 2 rfl og) og),fun _ _=>jq _ rfl rfl (iA (k:=0) aa71 zz71 (e9 og) rfl (Nat.add_zero _) rfl rfl (v:=(vR (gt (aj l ([])) i))) rfl),fun _ _=>kn (fi (ck Tryz.call123 rfl) (kk (me (gt (aj l ([])) (i - 1)) (gt (aj l ([])) i) (hg i og og).1 (hg i og og).2.1 (hg i og og).2.2.1 (hg i og og).2.2.2.1 (hg i og og).2.2.2.2.1 (cu (j:=36) (k:=40) (nT (hg i og og).1) og) (cu (j:=36) (k:=40) (nT (hg i og og).2.2.2.2.2) og)))),fun _ _=>om rfl,fun _ _=>bc (cj rfl rfl),fun _ _=>bc (cj rfl rfl),fun _ _=>mo (ψ:=fun v=>∃ b,v=ptr b 0) (B:=fun v=>[.blk (cg v) (cQ oQ) 27]) [.emp] rfl (fun v _=>by simp only [dP,bA] <;> rfl) (fun v hv=>by simpa [DF.one,bA] using hv) (jU (gZ vv27 rfl)),(fun ξ hφ=>by obtain ⟨b1,hb13⟩:=hφ 13 rfl; exact mY [.blk b1 (cQ oQ) 27] [.blk b1 (cQ ((cH (gt (aj l ([])) (i - 1)) (gt (aj l ([])) i)).1)) 27] (congrArg (fun v=>[Asn.blk (cg v) (cQ oQ) 27]) hb13) (congrArg (fun v=>[Asn.blk (cg v) (cQ ((cH (gt (aj l ([])) (i - 1)) (gt (aj l ([])) i)).1)) 27]) hb13) (qn zz27 (Eq.trans rfl (congrArg some hb13)) rfl rfl rfl rfl rfl rfl)),fun _ _=>bc (az rfl),trivial⟩ ?_
   clear h ac wo; intro ξ ac wo hφ h
   replace h:St w0 49 [(3,sv2),(4,sv9),(5,(iN i)),(6,ξ 13),(7,(.int .i64 ((cH (gt (aj l ([])) (i - 1)) (gt (aj l ([])) i)).2)))] [.row (α:=GR) 71 sv9 (out++[(gt (aj l ([])) i)]),.row (α:=GR) 71 sv8 ([(gt (aj l ([])) i)]),.row (α:=GR) 71 sv2 (aj l ([])),.blk (cg (ξ 13)) (cQ ((cH (gt (aj l ([])) (i - 1)) (gt (aj l ([])) i)).1)) 27] ac wo:=(h.pick [0,1,2,3] DC).sub ⟨rfl,rfl,rfl,rfl,rfl,trivial⟩
   revert h
   obtain ⟨b1,hb13⟩:∃ b,ξ 13=ptr b 0:=hφ 13
   rw [hb13]; intro h
   clear hb13
   clear hφ ξ
   refine gz h <| (ai) ?_ ?_ <;> clear h ac wo <;> intro ac wo h hc3
   ·
    have hd3:=eq_of_beq hc3
    have c11:=md ((cH (gt (aj l ([])) (i - 1)) (gt (aj l ([])) i)).1) 32 og s10
    have s11:=ay (c11 w0)
    refine gz h <| (xk (c11)) <| ?_; clear h ac wo; intro ac wo h
    refine nw h (cB (α:=GR) (xs:=[.tmp 45]) (vs:=[(vR (dQ ((cH (gt (aj l ([])) (i - 1)) (gt (aj l ([])) i)).1)))]) [(dQ ((cH (gt (aj l ([])) (i - 1)) (gt (aj l ([])) i)).1))] nW rfl rfl rfl DC) rfl ?_; clear h ac wo; intro sv12 ac wo nnsv12 h
    refine on2 h 1 0 rfl rfl (eY (xs:=(out++[(gt (aj l ([])) i)])) (ys:=[(dQ ((cH (gt (aj l ([])) (i - 1)) (gt (aj l ([])) i)).1))]) nW (fun w hs=>(row_view hs 0 rfl)) rfl rfl og) rfl ?_; clear h ac wo; intro sv13 ac wo apsv13 h
    have hg:=bF hL1 pt
    exact (nx h) fun _ _ h=>by exact ⟨m1,og,_,_,_,og,hg,og,(All.app (All.app zout (All.cons (All.gt s3.1 (m6 _)) All.nil)) (All.cons (cu s11 og) All.nil)),og,h.re [0,3]⟩
   ·
    have hd3:=ne_of_beq_false hc3
    have hg:=bF hL1 pt
    exact (nx h) fun _ _ h=>by exact ⟨m1,og,_,_,_,og,hg,og,(All.app zout (All.cons (All.gt s3.1 (m6 _)) All.nil)),og,h.re [0,2]⟩
  ·
   have hd2:=of_decide_eq_false hc2
   have hg:=bF hL1 pt
   exact (nx h) fun _ _ h=>by exact ⟨m1,og,_,_,_,og,hg,og,(All.app zout (All.cons (All.gt s3.1 (m6 _)) All.nil)),og,h.re [0,2]⟩
 ·
  have hd1:=of_decide_eq_false hc1
  have hx1:=cG hL1 pt
  have hd:bm l=out:=pt
  exact (rx h) fun _ _ h=>(by rw [hd]; exact h.retR 0 rfl ⟨zout,og⟩)
attribute [irreducible] bm
end Go.Sx
