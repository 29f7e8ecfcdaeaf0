import Derived.Test.YtbenbmdkhcfcfaaGreatDoorProg
import Derived.Test.YtbenbmdkhcfcfaaGreatDoorGara
set_option linter.unusedVariables false
set_option linter.unusedSimpArgs false
open Go.Proofs.Tryz renaming prog → zP, isAgg27 → aa27, sizeOf27 → zz27, runUnderlying71 → uu71, call22 → cc22, isAgg71 → aa71, sizeOf71 → zz71, zeroValue27 → vv27, isAgg53 → aa53, sizeOf53 → zz53, isAgg86 → aa86, sizeOf86 → zz86
namespace Go.Sx
open Go Go.RowKit Go.Proofs
set_option maxRecDepth 100000
set_option maxHeartbeats 40000000
attribute [local irreducible] Code.wp wpList Rd gX ObS Ent
def bB (x:GR):GQ :=
 bif x.neg then
  (ah (-1))
 else
  (ah 1)
theorem iR (x:GR) (k:Nat) (hk:k≤40) (zx:SzR k x) (w0:World):Calls zP 210 #[(vR x)] w0 (RetP w0 (vQ (bB x)) (SzQ k (bB x))):=by
 refine enter (N:=7) Tryz.func210 rfl rfl ?_; intro ac h
 refine gz h <| (xb) fun b1=>(xa) fun b2=>(ai) ?_ ?_ <;> clear h <;> intro _ _ h hc1
 ·
  have c1:=bQ (-1) k og  og
  have s1:=ay (c1 w0)
  have hd:bB x=(ah (-1)):=pt
  refine gz h <| (xk c1) <| (W) ?_; clear h; intro _ _ h
  exact ret h rfl (.cell (v:=(vQ (ah (-1)))) rfl (i:=0) rfl aa27 zz27 rfl rfl rfl .nil) rfl (h.retP (by rw [hd] <;> rfl) (by rw [hd]; exact s1))
 ·
  have c2:=bQ 1 k og  og
  have s2:=ay (c2 w0)
  have hd:bB x=(ah 1):=pt
  refine gz h <| (xk c2) <| (W) ?_; clear h; intro _ _ h
  exact ret h rfl (.cell (v:=(vQ (ah 1))) rfl (i:=0) rfl aa27 zz27 rfl rfl rfl .nil) rfl (h.retP (by rw [hd] <;> rfl) (by rw [hd]; exact s2))
def eZ (a:GQ) (b:GQ) (r:GQ):Int :=
 bif ((((aN b)*(aN r)) == 0) || ((aN a) == ((aN b)*(aN r)))) then
  (aN a)
 else
  bif ((aN a) == 0) then
   ((aN b)*(aN r))
  else
   ((aN a)*(eS (aD a a) (aD (aD b b) r)))
theorem ja (a:GQ) (b:GQ) (r:GQ) (k:Nat) (hk:(k+8)≤40) (za:SzQ (k+8) a) (zb:SzQ (k+8) b) (zr:SzQ (k+8) r) (w0:World):Calls zP 211 #[(vQ a),(vQ b),(vQ r)] w0 (RetP w0 (.int .i64 (eZ a b r)) ((-1≤(eZ a b r)∧(eZ a b r)≤1))):=by
 refine enter (N:=40) Tryz.func211 rfl rfl ?_; intro ac h
 have p2:=ay ((dC a) w0)
 have p4:=ay ((dC b) w0)
 have p6:=ay ((dC r) w0)
 refine gz h <| (xb) fun b1=>(xb) fun b2=>(xb) fun b3=>(dr0 (hob:=(oK (dC a)) <| (oK (dC b)) <| (oK (dC r)) <| (oX (h:=by exact fun _=>bc (mg rfl rfl (r:=((aN b)*(aN r))) (by first | (rw [IntKind.wrap_i64]; omega) | exact iU og og)))) <| oE)) <| (ai) ?_ ?_ <;> clear h <;> intro _ _ h hc1
 ·
  have hd:eZ a b r=(aN a):=pt
  exact (rx h) fun _ _ h=>(h.retP (by rw [hd] <;> rfl) (by rw [hd]; exact by first | omega | exact f9 og og))
 ·
  refine gz h <| (ai) ?_ ?_ <;> clear h <;> intro _ _ h hc2
  ·
   have hd2:=eq_of_beq hc2
   have hd:eZ a b r=((aN b)*(aN r)):=pt
   exact (rx h) fun _ _ h=>(h.retP (by rw [hd] <;> rfl) (by rw [hd]; exact by first | omega | exact f9 og og))
  ·
   have hd2:=ne_of_beq_false hc2
   refine gz h <| (W) ?_; clear h; intro _ _ h
   have s7:=ay ((bP a a (k+6) og za za) w0)
   have s8:=ay ((bP b b (k+6) og zb zb) w0)
   have s9:=ay ((bP (aD b b) r (k+4) og s8 (f8 zr og)) w0)
   have p11:=ay ((ko (aD a a) (aD (aD b b) r) (k+3) og (f8 s7 og) s9) w0)
   have hd:eZ a b r=((aN a)*(eS (aD a a) (aD (aD b b) r))):=pt
   refine gz h <| (dr0 (hob:=(oK (bP a a (k+6) og za za)) <| (oK (bP b b (k+6) og zb zb)) <| (oK (bP (aD b b) r (k+4) og s8 (f8 zr og))) <| (oK (ko (aD a a) (aD (aD b b) r) (k+3) og (f8 s7 og) s9)) <| (oX (h:=by exact fun _=>bc (mg rfl rfl (r:=((aN a)*(eS (aD a a) (aD (aD b b) r)))) (by first | (rw [IntKind.wrap_i64]; omega) | exact iU og og)))) <| oE)) <| (W) ?_; clear h; intro _ _ h
   exact (rt h) (h.retP (by rw [hd] <;> rfl) (by rw [hd]; exact by first | omega | exact f9 og og))
def an (x:GR) (y:GR):Int :=
 bif ((((aN (cq (bB y)))*(aN y.r)) == 0) || ((eZ (aB x.p y.p) (bB x) x.r) == ((aN (cq (bB y)))*(aN y.r)))) then
  (eZ (aB x.p y.p) (bB x) x.r)
 else
  bif ((eZ (aB x.p y.p) (bB x) x.r) == 0) then
   ((aN (cq (bB y)))*(aN y.r))
  else
   ((eZ (aB x.p y.p) (bB x) x.r)*(eZ (aB (be (aD (aB x.p y.p) (aB x.p y.p)) x.r) y.r) (aD (ah 2) (aD (aB x.p y.p) (bB x))) x.r))
theorem aR (x:GR) (y:GR) (k:Nat) (hk:(k+20)≤40) (zx:SzR (k+20) x) (zy:SzR (k+20) y) (w0:World):Calls zP 127 #[(vR x),(vR y)] w0 (RetP w0 (.int .i64 (an x y)) ((-1≤(an x y)∧(an x y)≤1))):=by
 refine enter (N:=65) Tryz.func127 rfl rfl ?_; intro ac h
 have s1:=ay ((dM x.p y.p (k+17) og zx.1 zy.1) w0)
 have s2:=ay ((iR x (k+20) og zx) w0)
 have s3:=ay ((iR y (k+20) og zy) w0)
 have s4:=ay ((ji (bB y) (k+20) og s3) w0)
 refine gz h <| (xb) fun b1=>(xb) fun b2=>(W) ?_; clear h ac; intro ac wo h
 replace h:=h.emps 3
 refine ij mixed [dv _,dw _ [1],dv _,dw _ [0],dv _,dw _ [1],dv _,dw _ [0],dv _,dv _,yR 10 2,yR 11 3,yR 12 4,dw undef [2],dw undef [3],dw undef [4]] [ge _,ge _,⟨.emp,[(10,.one 10 fun v=>.blk (cg v) (cQ oQ) 27),(13,.one 10 fun v=>.blk (cg v) (cQ (aB x.p y.p)) 27)]⟩,⟨.emp,[(11,.one 11 fun v=>.blk (cg v) (cQ oQ) 27),(14,.one 11 fun v=>.blk (cg v) (cQ (bB x)) 27)]⟩,⟨.emp,[(12,.one 12 fun v=>.blk (cg v) (cQ oQ) 27),(15,.one 12 fun v=>.blk (cg v) (cQ (cq (bB y))) 27)]⟩] h rfl (by kernel_rfl) ⟨fun _ _=>bc (fa uu71 rfl zz27 rfl rfl rfl (k':=0)),fun _ _=>jq _ rfl rfl (jg aa27 zz27 rfl rfl rfl (v:=(vQ x.p)) rfl),fun _ _=>bc (fa uu71 rfl zz27 rfl rfl rfl (k':=0)),fun _ _=>jq _ rfl rfl (jg aa27 zz27 rfl rfl rfl (v:=(vQ y.p)) rfl),fun _ _=>kn (pp cc22 rfl (dM x.p y.p (k+17) og zx.1 zy.1)),fun _ _=>jq _ rfl rfl (jg aa71 zz71 rfl rfl rfl (v:=(vR x)) rfl),fun _ _=>kn (pp Tryz.call210 rfl (iR x (k+20) og zx)),fun _ _=>jq _ rfl rfl (jg aa71 zz71 rfl rfl rfl (v:=(vR y)) rfl),fun _ _=>kn (pp Tryz.call210 rfl (iR y (k+20) og zy)),fun _ _=>kn (pp Tryz.call63 rfl (ji (bB y) (k+20) og s3)),fun _ _=>mo (ψ:=fun v=>∃ b,v=ptr b 0) (B:=fun v=>[.blk (cg v) (cQ oQ) 27]) [.emp] rfl (fun v _=>by simp only [dP,bA] <;> rfl) (fun v hv=>by simpa [DF.one,bA] using hv) (jU (gZ vv27 rfl)),fun _ _=>mo (ψ:=fun v=>∃ b,v=ptr b 0) (B:=fun v=>[.blk (cg v) (cQ oQ) 27]) [.emp] rfl (fun v _=>by simp only [dP,bA] <;> rfl) (fun v hv=>by simpa [DF.one,bA] using hv) (jU (gZ vv27 rfl)),fun _ _=>mo (ψ:=fun v=>∃ b,v=ptr b 0) (B:=fun v=>[.blk (cg v) (cQ oQ) 27]) [.emp] rfl (fun v _=>by simp only [dP,bA] <;> rfl) (fun v hv=>by simpa [DF.one,bA] using hv) (jU (gZ vv27 rfl)),(fun ξ hφ=>by obtain ⟨b3,hb10⟩:=hφ 10 rfl; exact mY [.blk b3 (cQ oQ) 27] [.blk b3 (cQ (aB x.p y.p)) 27] (congrArg (fun v=>[Asn.blk (cg v) (cQ oQ) 27]) hb10) (congrArg (fun v=>[Asn.blk (cg v) (cQ (aB x.p y.p)) 27]) hb10) (qn zz27 (Eq.trans rfl (congrArg some hb10)) rfl rfl rfl rfl rfl rfl)),(fun ξ hφ=>by obtain ⟨b4,hb11⟩:=hφ 11 rfl; exact mY [.blk b4 (cQ oQ) 27] [.blk b4 (cQ (bB x)) 27] (congrArg (fun v=>[Asn.blk (cg v) (cQ oQ) 27]) hb11) (congrArg (fun v=>[Asn.blk (cg v) (cQ (bB x)) 27]) hb11) (qn zz27 (Eq.trans rfl (congrArg some hb11)) rfl rfl rfl rfl rfl rfl)),(fun ξ hφ=>by obtain ⟨b5,hb12⟩:=hφ 12 rfl; exact mY [.blk b5 (cQ oQ) 27] [.blk b5 (cQ (cq (bB y))) 27] (congrArg (fun v=>[Asn.blk (cg v) (cQ oQ) 27]) hb12) (congrArg (fun v=>[Asn.blk (cg v) (cQ (cq (bB y))) 27]) hb12) (qn zz27 (Eq.trans rfl (congrArg some hb12)) rfl rfl rfl rfl rfl rfl)),trivial⟩ ?_
 clear h ac wo; intro ξ ac wo hφ h
 replace h:St w0 65 [(2,(ptr b1 0)),(3,(ptr b2 0)),(5,ξ 10),(6,ξ 11),(7,ξ 12)] [.blk b2 (cR y) 71,.blk b1 (cR x) 71,.blk (cg (ξ 10)) (cQ (aB x.p y.p)) 27,.blk (cg (ξ 11)) (cQ (bB x)) 27,.blk (cg (ξ 12)) (cQ (cq (bB y))) 27] ac wo:=h.sub ⟨rfl,rfl,rfl,rfl,rfl,trivial⟩
 revert h
 obtain ⟨b3,hb10⟩:∃ b,ξ 10=ptr b 0:=hφ 10
 obtain ⟨b4,hb11⟩:∃ b,ξ 11=ptr b 0:=hφ 11
 obtain ⟨b5,hb12⟩:∃ b,ξ 12=ptr b 0:=hφ 12
 rw [hb10,hb11,hb12]; intro h
 clear hb10 hb11 hb12 hφ ξ
 refine gz h <| (W) ?_; clear h ac wo; intro ac wo h
 have p6:=ay ((ja (aB x.p y.p) (bB x) x.r (k+9) og s1 (f8 s2 og) (cu zx og).2) w0)
 have p8:=ay ((dC (cq (bB y))) w0)
 have p10:=ay ((dC y.r) w0)
 refine gz h <| (dr0 (hob:=(oK (ja (aB x.p y.p) (bB x) x.r (k+9) og s1 (f8 s2 og) (cu zx og).2)) <| (oK (dC (cq (bB y)))) <| (oK (dC y.r)) <| (oX (h:=by exact fun _=>bc (mg rfl rfl (r:=((aN (cq (bB y)))*(aN y.r))) (by first | (rw [IntKind.wrap_i64]; omega) | exact iU og og)))) <| oE)) <| (ai) ?_ ?_ <;> clear h ac wo <;> intro ac wo h hc1
 ·
  have hd:an x y=(eZ (aB x.p y.p) (bB x) x.r):=pt
  exact (rx h) fun _ _ h=>(h.retP (by rw [hd] <;> rfl) (by rw [hd]; exact by first | omega | exact f9 og og))
 ·
  refine gz h <| (ai) ?_ ?_ <;> clear h ac wo <;> intro ac wo h hc2
  ·
   have hd2:=eq_of_beq hc2
   have hd:an x y=((aN (cq (bB y)))*(aN y.r)):=pt
   exact (rx h) fun _ _ h=>(h.retP (by rw [hd] <;> rfl) (by rw [hd]; exact by first | omega | exact f9 og og))
  ·
   have hd2:=ne_of_beq_false hc2
   refine gz h <| (W) ?_; clear h ac wo; intro ac wo h
   have s11:=ay ((bP (aB x.p y.p) (aB x.p y.p) (k+15) og s1 s1) w0)
   have s12:=ay ((dq (aD (aB x.p y.p) (aB x.p y.p)) x.r (k+12) og s11 (cu zx og).2) w0)
   have s13:=ay ((dM (be (aD (aB x.p y.p) (aB x.p y.p)) x.r) y.r (k+9) og s12 (cu zy og).2) w0)
   replace h:=h.emps 1
   refine ij mixed [dw _ [2],dw _ [2],dv _,dv _,dw _ [1],dv _,dv _,dw _ [0],dv _,yR 9 5,dw undef [5]] [ge _,ge _,ge _,ge _,ge _,⟨.emp,[(9,.one 9 fun v=>.blk (cg v) (cQ oQ) 27),(10,.one 9 fun v=>.blk (cg v) (cQ (aB (be (aD (aB x.p y.p) (aB x.p y.p)) x.r) y.r)) 27)]⟩] h rfl (by kernel_rfl) ⟨fun _ _=>jq _ rfl rfl (jg aa27 zz27 rfl rfl rfl (v:=(vQ (aB x.p y.p))) rfl),fun _ _=>jq _ rfl rfl (jg aa27 zz27 rfl rfl rfl (v:=(vQ (aB x.p y.p))) rfl),fun _ _=>kn (pp Tryz.call21 rfl (bP (aB x.p y.p) (aB x.p y.p) (k+15) og s1 s1)),fun _ _=>bc (fa uu71 rfl zz27 rfl rfl rfl (k':=4)),fun _ _=>jq _ rfl rfl (jg aa27 zz27 rfl rfl rfl (v:=(vQ x.r)) rfl),fun _ _=>kn (pp Tryz.call20 rfl (dq (aD (aB x.p y.p) (aB x.p y.p)) x.r (k+12) og s11 (cu zx og).2)),fun _ _=>bc (fa uu71 rfl zz27 rfl rfl rfl (k':=4)),fun _ _=>jq _ rfl rfl (jg aa27 zz27 rfl rfl rfl (v:=(vQ y.r)) rfl),fun _ _=>kn (pp cc22 rfl (dM (be (aD (aB x.p y.p) (aB x.p y.p)) x.r) y.r (k+9) og s12 (cu zy og).2)),fun _ _=>mo (ψ:=fun v=>∃ b,v=ptr b 0) (B:=fun v=>[.blk (cg v) (cQ oQ) 27]) [.emp] rfl (fun v _=>by simp only [dP,bA] <;> rfl) (fun v hv=>by simpa [DF.one,bA] using hv) (jU (gZ vv27 rfl)),(fun ξ hφ=>by obtain ⟨b6,hb9⟩:=hφ 9 rfl; exact mY [.blk b6 (cQ oQ) 27] [.blk b6 (cQ (aB (be (aD (aB x.p y.p) (aB x.p y.p)) x.r) y.r)) 27] (congrArg (fun v=>[Asn.blk (cg v) (cQ oQ) 27]) hb9) (congrArg (fun v=>[Asn.blk (cg v) (cQ (aB (be (aD (aB x.p y.p) (aB x.p y.p)) x.r) y.r)) 27]) hb9) (qn zz27 (Eq.trans rfl (congrArg some hb9)) rfl rfl rfl rfl rfl rfl)),trivial⟩ ?_
   clear h ac wo; intro ξ ac wo hφ h
   replace h:St w0 65 [(2,(ptr b1 0)),(5,(ptr b3 0)),(6,(ptr b4 0)),(8,(.int .i64 (eZ (aB x.p y.p) (bB x) x.r))),(10,ξ 9)] [.blk b2 (cR y) 71,.blk b1 (cR x) 71,.blk b3 (cQ (aB x.p y.p)) 27,.blk b4 (cQ (bB x)) 27,.blk b5 (cQ (cq (bB y))) 27,.blk (cg (ξ 9)) (cQ (aB (be (aD (aB x.p y.p) (aB x.p y.p)) x.r) y.r)) 27] ac wo:=h.sub ⟨rfl,rfl,rfl,rfl,rfl,trivial⟩
   revert h
   obtain ⟨b6,hb9⟩:∃ b,ξ 9=ptr b 0:=hφ 9
   rw [hb9]; intro h
   clear hb9 hφ ξ
   refine gz h <| (W) ?_; clear h ac wo; intro ac wo h
   have s14:=ay ((bQ 2 (k+20) og  og) w0)
   have s15:=ay ((bP (aB x.p y.p) (bB x) (k+15) og s1 (f8 s2 og)) w0)
   have s16:=ay ((bP (ah 2) (aD (aB x.p y.p) (bB x)) (k+13) og (f8 s14 og) s15) w0)
   have p18:=ay ((ja (aB (be (aD (aB x.p y.p) (aB x.p y.p)) x.r) y.r) (aD (ah 2) (aD (aB x.p y.p) (bB x))) x.r (k+1) og s13 (f8 s16 og) (cu zx og).2) w0)
   have hd:an x y=((eZ (aB x.p y.p) (bB x) x.r)*(eZ (aB (be (aD (aB x.p y.p) (aB x.p y.p)) x.r) y.r) (aD (ah 2) (aD (aB x.p y.p) (bB x))) x.r)):=pt
   refine gz h <| (dr0 (hob:=(oK (bQ 2 (k+20) og  og)) <| (oK (bP (aB x.p y.p) (bB x) (k+15) og s1 (f8 s2 og))) <| (oK (bP (ah 2) (aD (aB x.p y.p) (bB x)) (k+13) og (f8 s14 og) s15)) <| (oK (ja (aB (be (aD (aB x.p y.p) (aB x.p y.p)) x.r) y.r) (aD (ah 2) (aD (aB x.p y.p) (bB x))) x.r (k+1) og s13 (f8 s16 og) (cu zx og).2)) <| (oX (h:=by exact fun _=>bc (mg rfl rfl (r:=((eZ (aB x.p y.p) (bB x) x.r)*(eZ (aB (be (aD (aB x.p y.p) (aB x.p y.p)) x.r) y.r) (aD (ah 2) (aD (aB x.p y.p) (bB x))) x.r))) (by first | (rw [IntKind.wrap_i64]; omega) | exact iU og og)))) <| oE)) <| (W) ?_; clear h ac wo; intro ac wo h
   exact (rt h) (h.retP (by rw [hd] <;> rfl) (by rw [hd]; exact by first | omega | exact f9 og og))
def bD (n:Int):GR :=
 (⟨(ah n),(⟨(⟨false,0⟩:GI),(⟨false,0⟩:GI)⟩:GQ),false⟩:GR)
theorem px (n:Int) (k:Nat) (hk:k≤40) (hn:-9223372036854775808≤n∧n≤9223372036854775807) (w0:World):Calls zP 86 #[(.int .i64 n)] w0 (RetP w0 (vR (bD n)) (SzR k (bD n))):=by
 refine enter (N:=6) Tryz.func86 rfl rfl ?_; intro ac h
 have c1:=bQ n k og  og
 have s1:=ay (c1 w0)
 refine gz h <| (xa) fun b1=>(xk c1) <| (xo (hs:=by exact bM bld71 exs rfl (v:=(vR (⟨(ah n),oQ,false⟩:GR))) rfl)) <| (W) ?_; clear h; intro _ _ h
 exact ret h rfl (.cell (v:=(vR (⟨(ah n),oQ,false⟩:GR))) rfl (i:=0) rfl aa71 zz71 rfl rfl rfl .nil) rfl (h.retP (by unfold bD; rfl) (by unfold bD; exact ⟨s1,⟨(bI 0 DC og),(bI 0 DC og)⟩⟩))
def dQ (r:GQ):GR :=
 (⟨r,(⟨(⟨false,0⟩:GI),(⟨false,0⟩:GI)⟩:GQ),false⟩:GR)
theorem md (r:GQ) (k:Nat) (hk:k≤40) (zr:SzQ k r) (w0:World):Calls zP 88 #[(vQ r)] w0 (RetP w0 (vR (dQ r)) (SzR k (dQ r))):=by
 refine enter (N:=5) Tryz.func88 rfl rfl ?_; intro ac h
 refine gz h <| (xb) fun b1=>(xa) fun b2=>(xo (hs:=by exact bM bld71 exs rfl (v:=(vR (⟨r,oQ,false⟩:GR))) rfl)) <| (W) ?_; clear h; intro _ _ h
 exact ret h rfl (.cell (v:=(vR (⟨r,oQ,false⟩:GR))) rfl (i:=0) rfl aa71 zz71 rfl rfl rfl .nil) rfl (h.retP (by unfold dQ; rfl) (by unfold dQ; exact ⟨zr,⟨(bI 0 DC og),(bI 0 DC og)⟩⟩))
def bn (c0:GQ) (c1:GQ):Qd :=
 (⟨c0,c1,(⟨(⟨false,0⟩:GI),(⟨false,0⟩:GI)⟩:GQ)⟩:Qd)
theorem g8 (c0:GQ) (c1:GQ) (k:Nat) (hk:k≤40) (zc0:SzQ k c0) (zc1:SzQ k c1) (w0:World):Calls zP 107 #[(vQ c0),(vQ c1)] w0 (RetP w0 (vD (bn c0 c1)) (SzD k (bn c0 c1))):=by
 refine enter (N:=8) Tryz.func107 rfl rfl ?_; intro ac h
 refine gz h <| (xb) fun b1=>(xb) fun b2=>(xa) fun b3=>(xo (hs:=by exact bM yF exs rfl (v:=(vD (⟨c0,c1,oQ⟩:Qd))) rfl)) <| (W) ?_; clear h; intro _ _ h
 exact ret h rfl (.cell (v:=(vD (⟨c0,c1,oQ⟩:Qd))) rfl (i:=0) rfl aa53 zz53 rfl rfl rfl .nil) rfl (h.retP (by unfold bn; rfl) (by unfold bn; exact ⟨zc0,zc1,⟨(bI 0 DC og),(bI 0 DC og)⟩⟩))
def ew (q:Qd) (t:GQ):GQ :=
 (be q.c0 (aD t (be q.c1 (aD t q.c2))))
theorem n8 (q:Qd) (t:GQ) (k:Nat) (hk:(k+10)≤40) (zq:SzD (k+10) q) (zt:SzQ (k+10) t) (w0:World):Calls zP 101 #[(vD q),(vQ t)] w0 (RetP w0 (vQ (ew q t)) (SzQ k (ew q t))):=by
 refine enter (N:=17) Tryz.func101 rfl rfl ?_; intro ac h
 have s1:=ay ((bP t q.c2 (k+8) og zt zq.2.2) w0)
 have s2:=ay ((dq q.c1 (aD t q.c2) (k+5) og (dm zq og).2.1 s1) w0)
 have s3:=ay ((bP t (be q.c1 (aD t q.c2)) (k+3) og (f8 zt og) s2) w0)
 have s4:=ay ((dq q.c0 (aD t (be q.c1 (aD t q.c2))) k og (dm zq og).1 s3) w0)
 refine gz h <| (xb) fun b1=>(xb) fun b2=>(xa) fun b3=>(dr1 (H:=[⟨.blk b3 (cQ oQ) 27,[(12,.con (.blk b3 (cQ (be q.c0 (aD t (be q.c1 (aD t q.c2))))) 27))]⟩,ge _,ge _]) (hob:=(oK (bP t q.c2 (k+8) og zt zq.2.2)) <| (oK (dq q.c1 (aD t q.c2) (k+5) og (dm zq og).2.1 s1)) <| (oK (bP t (be q.c1 (aD t q.c2)) (k+3) og (f8 zt og) s2)) <| (oK (dq q.c0 (aD t (be q.c1 (aD t q.c2))) k og (dm zq og).1 s3)) <| oE)) <| (W) ?_; clear h; intro _ _ h
 exact ret h rfl (.cell (v:=(vQ (be q.c0 (aD t (be q.c1 (aD t q.c2)))))) rfl (i:=0) rfl aa27 zz27 rfl rfl rfl .nil) rfl (h.retP (by unfold ew; rfl) (by unfold ew; exact s4))
def dD (q:Qd) (t:GQ):GQ :=
 (be q.c1 (aD (be q.c2 q.c2) t))
theorem kJ (q:Qd) (t:GQ) (k:Nat) (hk:(k+8)≤40) (zq:SzD (k+8) q) (zt:SzQ (k+8) t) (w0:World):Calls zP 213 #[(vD q),(vQ t)] w0 (RetP w0 (vQ (dD q t)) (SzQ k (dD q t))):=by
 refine enter (N:=15) Tryz.func213 rfl rfl ?_; intro ac h
 have s1:=ay ((dq q.c2 q.c2 (k+5) og zq.2.2 zq.2.2) w0)
 have s2:=ay ((bP (be q.c2 q.c2) t (k+3) og s1 (f8 zt og)) w0)
 have s3:=ay ((dq q.c1 (aD (be q.c2 q.c2) t) k og (dm zq og).2.1 s2) w0)
 refine gz h <| (xb) fun b1=>(xb) fun b2=>(xa) fun b3=>(dr1 (H:=[⟨.blk b3 (cQ oQ) 27,[(10,.con (.blk b3 (cQ (be q.c1 (aD (be q.c2 q.c2) t))) 27))]⟩,ge _,ge _]) (hob:=(oK (dq q.c2 q.c2 (k+5) og zq.2.2 zq.2.2)) <| (oK (bP (be q.c2 q.c2) t (k+3) og s1 (f8 zt og))) <| (oK (dq q.c1 (aD (be q.c2 q.c2) t) k og (dm zq og).2.1 s2)) <| oE)) <| (W) ?_; clear h; intro _ _ h
 exact ret h rfl (.cell (v:=(vQ (be q.c1 (aD (be q.c2 q.c2) t)))) rfl (i:=0) rfl aa27 zz27 rfl rfl rfl .nil) rfl (h.retP (by unfold dD; rfl) (by unfold dD; exact s3))
def d9 (p:Qd) (q:Qd):Qd :=
 (⟨(aB p.c0 q.c0),(aB p.c1 q.c1),(aB p.c2 q.c2)⟩:Qd)
theorem lQ (p:Qd) (q:Qd) (k:Nat) (hk:(k+3)≤40) (zp:SzD (k+3) p) (zq:SzD (k+3) q) (w0:World):Calls zP 131 #[(vD p),(vD q)] w0 (RetP w0 (vD (d9 p q)) (SzD k (d9 p q))):=by
 refine enter (N:=21) Tryz.func131 rfl rfl ?_; intro ac h
 have s1:=ay ((dM p.c0 q.c0 k og zp.1 zq.1) w0)
 have s2:=ay ((dM p.c1 q.c1 k og zp.2.1 zq.2.1) w0)
 have s3:=ay ((dM p.c2 q.c2 k og zp.2.2 zq.2.2) w0)
 refine gz h <| (xb) fun b1=>(xb) fun b2=>(xa) fun b3=>(dr1 (H:=[⟨.blk b3 (cD oD) 53,[(16,.con (.blk b3 (cD (⟨(aB p.c0 q.c0),(aB p.c1 q.c1),(aB p.c2 q.c2)⟩:Qd)) 53))]⟩,ge _,ge _]) (hob:=(oK (dM p.c0 q.c0 k og zp.1 zq.1)) <| (oK (dM p.c1 q.c1 k og zp.2.1 zq.2.1)) <| (oK (dM p.c2 q.c2 k og zp.2.2 zq.2.2)) <| (oX (h:=by exact fun _=>bc (bM yF exs rfl (v:=(vD (⟨(aB p.c0 q.c0),(aB p.c1 q.c1),(aB p.c2 q.c2)⟩:Qd))) rfl))) <| oE)) <| (W) ?_; clear h; intro _ _ h
 exact ret h rfl (.cell (v:=(vD (⟨(aB p.c0 q.c0),(aB p.c1 q.c1),(aB p.c2 q.c2)⟩:Qd))) rfl (i:=0) rfl aa53 zz53 rfl rfl rfl .nil) rfl (h.retP (by unfold d9; rfl) (by unfold d9; exact ⟨s1,s2,s3⟩))
def d8 (x:GR):GQ×Bool :=
 bif (!(decide (x.r=(⟨(⟨false,0⟩:GI),(⟨false,0⟩:GI)⟩:GQ)))) then
  ((⟨(⟨false,0⟩:GI),(⟨false,0⟩:GI)⟩:GQ),false)
 else
  (x.p,true)
theorem oT (x:GR) (k:Nat) (hk:k≤40) (zx:SzR k x) (w0:World):Calls zP 212 #[(vR x)] w0 (RetP w0 (.tuple #[(vQ ((d8 x).1)),(.bool ((d8 x).2))]) (SzQ k ((d8 x).1))):=by
 refine enter (N:=11) Tryz.func212 rfl rfl ?_; intro ac h
 refine gz h <| (xb) fun b1=>(xa) fun b2=>(xo (hs:=by exact bM qe exs rfl (v:=(vQ oQ)) rfl)) <| (ai) ?_ ?_ <;> clear h <;> intro _ _ h hc1
 ·
  have hd:d8 x=(oQ,false):=pt
  refine gz h <| (xo (hs:=by exact bM qe exs rfl (v:=(vQ oQ)) rfl)) <| (W) ?_; clear h; intro _ _ h
  exact ret h rfl (.cell (v:=(vQ oQ)) rfl (i:=0) rfl aa27 zz27 rfl rfl rfl (.tmp rfl .nil)) rfl (h.retP (by rw [hd] <;> rfl) (by rw [hd]; exact ⟨(bI 0 DC og),(bI 0 DC og)⟩))
 ·
  have hd:d8 x=(x.p,true):=pt
  refine gz h <| (W) ?_; clear h; intro _ _ h
  exact ret h rfl (.cell (v:=(vQ x.p)) rfl (i:=0) rfl aa27 zz27 rfl rfl rfl (.tmp rfl .nil)) rfl (h.retP (by rw [hd] <;> rfl) (by rw [hd]; exact zx.1))
def bY (q:Qd) (t:GR):Qd :=
 bif (d8 t).2 then
  (aC (ew q ((d8 t).1)))
 else
  (bn (be q.c0 (aD q.c2 (aB t.r (aD t.p t.p)))) (dD q t.p))
theorem i0 (q:Qd) (t:GR) (k:Nat) (hk:(k+10)≤40) (zq:SzD (k+10) q) (zt:SzR (k+10) t) (w0:World):Calls zP 130 #[(vD q),(vR t)] w0 (RetP w0 (vD (bY q t)) (SzD k (bY q t))):=by
 refine enter (N:=38) Tryz.func130 rfl rfl ?_; intro ac h
 have c1:=oT t (k+10) og zt
 have s1:=ay (c1 w0)
 refine gz h <| (xb) fun b1=>(xb) fun b2=>(xa) fun b3=>(xk c1) <| (xa) fun b4=>(ai) ?_ ?_ <;> clear h ac <;> intro ac wo h hc1
 ·
  have c2:=n8 q ((d8 t).1) k og zq s1
  have s2:=ay (c2 w0)
  have c3:=iB (ew q ((d8 t).1)) k og s2
  have s3:=ay (c3 w0)
  have hd:bY q t=(aC (ew q ((d8 t).1))):=pt
  refine gz h <| (xk c2) <| (xk c3) <| (W) ?_; clear h ac wo; intro ac wo h
  exact ret h rfl (.cell (v:=(vD (aC (ew q ((d8 t).1))))) rfl (i:=1) rfl aa53 zz53 rfl rfl rfl .nil) rfl (h.retP (by rw [hd] <;> rfl) (by rw [hd]; exact s3))
 ·
  refine gz h <| (W) ?_; clear h ac wo; intro ac wo h
  have s4:=ay ((bP t.p t.p (k+8) og zt.1 zt.1) w0)
  have s5:=ay ((dM t.r (aD t.p t.p) (k+5) og (cu zt og).2 s4) w0)
  replace h:=h.emps 1
  refine ij mixed [dv _,dw _ [2],dv _,dw _ [2],dv _,dw _ [2],dv _,dv _,yR 8 4,dw undef [4]] [ge _,ge _,ge _,ge _,⟨.emp,[(8,.one 8 fun v=>.blk (cg v) (cQ oQ) 27),(9,.one 8 fun v=>.blk (cg v) (cQ (aB t.r (aD t.p t.p))) 27)]⟩] h rfl (by kernel_rfl) ⟨fun _ _=>bc (fa uu71 rfl zz27 rfl rfl rfl (k':=4)),fun _ _=>jq _ rfl rfl (jg aa27 zz27 rfl rfl rfl (v:=(vQ t.r)) rfl),fun _ _=>bc (fa uu71 rfl zz27 rfl rfl rfl (k':=0)),fun _ _=>jq _ rfl rfl (jg aa27 zz27 rfl rfl rfl (v:=(vQ t.p)) rfl),fun _ _=>bc (fa uu71 rfl zz27 rfl rfl rfl (k':=0)),fun _ _=>jq _ rfl rfl (jg aa27 zz27 rfl rfl rfl (v:=(vQ t.p)) rfl),fun _ _=>kn (pp Tryz.call21 rfl (bP t.p t.p (k+8) og zt.1 zt.1)),fun _ _=>kn (pp cc22 rfl (dM t.r (aD t.p t.p) (k+5) og (cu zt og).2 s4)),fun _ _=>mo (ψ:=fun v=>∃ b,v=ptr b 0) (B:=fun v=>[.blk (cg v) (cQ oQ) 27]) [.emp] rfl (fun v _=>by simp only [dP,bA] <;> rfl) (fun v hv=>by simpa [DF.one,bA] using hv) (jU (gZ vv27 rfl)),(fun ξ hφ=>by obtain ⟨b5,hb8⟩:=hφ 8 rfl; exact mY [.blk b5 (cQ oQ) 27] [.blk b5 (cQ (aB t.r (aD t.p t.p))) 27] (congrArg (fun v=>[Asn.blk (cg v) (cQ oQ) 27]) hb8) (congrArg (fun v=>[Asn.blk (cg v) (cQ (aB t.r (aD t.p t.p))) 27]) hb8) (qn zz27 (Eq.trans rfl (congrArg some hb8)) rfl rfl rfl rfl rfl rfl)),trivial⟩ ?_
  clear h ac wo; intro ξ ac wo hφ h
  replace h:St w0 38 [(2,(ptr b1 0)),(3,(ptr b2 0)),(4,(ptr b3 0)),(7,ξ 8)] [.blk b4 (cQ ((d8 t).1)) 27,.blk b3 (cD oD) 53,.blk b2 (cR t) 71,.blk b1 (cD q) 53,.blk (cg (ξ 8)) (cQ (aB t.r (aD t.p t.p))) 27] ac wo:=h.sub ⟨rfl,rfl,rfl,rfl,trivial⟩
  revert h
  obtain ⟨b5,hb8⟩:∃ b,ξ 8=ptr b 0:=hφ 8
  rw [hb8]; intro h
  clear hb8 hφ ξ
  refine gz h <| (W) ?_; clear h ac wo; intro ac wo h
  have s6:=ay ((bP q.c2 (aB t.r (aD t.p t.p)) (k+3) og (dm zq og).2.2 s5) w0)
  have s7:=ay ((dq q.c0 (aD q.c2 (aB t.r (aD t.p t.p))) k og (dm zq og).1 s6) w0)
  have s8:=ay ((kJ q t.p (k+2) og zq zt.1) w0)
  have s9:=ay ((g8 (be q.c0 (aD q.c2 (aB t.r (aD t.p t.p)))) (dD q t.p) k og s7 (f8 s8 og)) w0)
  have hd:bY q t=(bn (be q.c0 (aD q.c2 (aB t.r (aD t.p t.p)))) (dD q t.p)):=pt
  refine gz h <| (dr1 (H:=[ge _,⟨.blk b3 (cD oD) 53,[(12,.con (.blk b3 (cD (bn (be q.c0 (aD q.c2 (aB t.r (aD t.p t.p)))) (dD q t.p))) 53))]⟩,ge _,ge _,ge _]) (hob:=(oK (bP q.c2 (aB t.r (aD t.p t.p)) (k+3) og (dm zq og).2.2 s5)) <| (oK (dq q.c0 (aD q.c2 (aB t.r (aD t.p t.p))) k og (dm zq og).1 s6)) <| (oK (kJ q t.p (k+2) og zq zt.1)) <| (oK (g8 (be q.c0 (aD q.c2 (aB t.r (aD t.p t.p)))) (dD q t.p) k og s7 (f8 s8 og))) <| oE)) <| (W) ?_; clear h ac wo; intro ac wo h
  exact ret h rfl (.cell (v:=(vD (bn (be q.c0 (aD q.c2 (aB t.r (aD t.p t.p)))) (dD q t.p)))) rfl (i:=1) rfl aa53 zz53 rfl rfl rfl .nil) rfl (h.retP (by rw [hd] <;> rfl) (by rw [hd]; exact s9))
def fM (p:Qd) (q:Qd) (t:GR):Bool :=
 (decide ((bY (d9 p q) t)=(⟨(⟨(⟨false,0⟩:GI),(⟨false,0⟩:GI)⟩:GQ),(⟨(⟨false,0⟩:GI),(⟨false,0⟩:GI)⟩:GQ),(⟨(⟨false,0⟩:GI),(⟨false,0⟩:GI)⟩:GQ)⟩:Qd)))
theorem lj (p:Qd) (q:Qd) (t:GR) (k:Nat) (hk:(k+14)≤40) (zp:SzD (k+14) p) (zq:SzD (k+14) q) (zt:SzR (k+14) t) (w0:World):Calls zP 39 #[(vD p),(vD q),(vR t)] w0 (RetP w0 (.bool (fM p q t)) (True)):=by
 refine enter (N:=14) Tryz.func39 rfl rfl ?_; intro ac h
 have s1:=ay ((lQ p q (k+11) og zp zq) w0)
 have s2:=ay ((i0 (d9 p q) t (k+1) og s1 (cu zt og)) w0)
 refine gz h <| (xb) fun b1=>(xb) fun b2=>(xb) fun b3=>(dr0 (hob:=(oK (lQ p q (k+11) og zp zq)) <| (oK (i0 (d9 p q) t (k+1) og s1 (cu zt og))) <| (oX (h:=by exact fun _=>bc (bM yF exs rfl (v:=(vD oD)) rfl))) <| oE)) <| (W) ?_; clear h; intro _ _ h
 exact (rt h) (h.retP (by unfold fM; rfl) trivial)
def ef (a:Iv) (b:Iv):Bool :=
 ((decide ((an a.hi b.lo) < 0)) || (((an a.hi b.lo) == 0) && (a.openHi || b.openLo)))
theorem mh (a:Iv) (b:Iv) (k:Nat) (hk:(k+20)≤40) (za:SzV (k+20) a) (zb:SzV (k+20) b) (w0:World):Calls zP 118 #[(vV a),(vV b)] w0 (RetP w0 (.bool (ef a b)) (True)):=by
 refine enter (N:=25) Tryz.func118 rfl rfl ?_; intro ac h
 have p2:=ay ((aR a.hi b.lo k og za.2 zb.1) w0)
 refine gz h <| (xb) fun b1=>(xb) fun b2=>(xk (aR a.hi b.lo k og za.2 zb.1)) <| (W) ?_; clear h; intro _ _ h
 exact (rt h) (h.retP (by unfold ef; rfl) trivial)
def aM (i:Iv):Bool :=
 (decide (i.lo=i.hi))
theorem fe (i:Iv) (w0:World):Calls zP 150 #[(vV i)] w0 (RetP w0 (.bool (aM i)) (True)):=by
 refine enter (N:=8) Tryz.func150 rfl rfl ?_; intro ac h
 refine gz h <| (xb) fun b1=>(W) ?_; clear h; intro _ _ h
 exact (rt h) (h.retP (by unfold aM; rfl) trivial)
def fB (a:Iv) (b:Iv):Bool :=
 ((decide ((an a.hi b.hi) < 0)) || (((an a.hi b.hi) == 0) && (a.openHi || (!b.openHi))))
def bg (a:Iv) (b:Iv):Iv×Bool :=
 bif (decide ((an a.lo b.lo) < 0)) then
  bif (decide ((an a.hi b.hi)>0)) then
   ((⟨b.lo,b.hi,b.openLo,b.openHi⟩:Iv),((decide ((an b.lo b.hi) < 0)) || ((((an b.lo b.hi) == 0) && (!b.openLo)) && (!b.openHi))))
  else
   bif ((an a.hi b.hi) == 0) then
    ((⟨b.lo,a.hi,b.openLo,(a.openHi || b.openHi)⟩:Iv),((decide ((an b.lo a.hi) < 0)) || ((((an b.lo a.hi) == 0) && (!b.openLo)) && (!(a.openHi || b.openHi)))))
   else
    ((⟨b.lo,a.hi,b.openLo,a.openHi⟩:Iv),((decide ((an b.lo a.hi) < 0)) || ((((an b.lo a.hi) == 0) && (!b.openLo)) && (!a.openHi))))
 else
  bif ((an a.lo b.lo) == 0) then
   bif (decide ((an a.hi b.hi)>0)) then
    ((⟨a.lo,b.hi,(a.openLo || b.openLo),b.openHi⟩:Iv),((decide ((an a.lo b.hi) < 0)) || ((((an a.lo b.hi) == 0) && (!(a.openLo || b.openLo))) && (!b.openHi))))
   else
    bif ((an a.hi b.hi) == 0) then
     ((⟨a.lo,a.hi,(a.openLo || b.openLo),(a.openHi || b.openHi)⟩:Iv),((decide ((an a.lo a.hi) < 0)) || ((((an a.lo a.hi) == 0) && (!(a.openLo || b.openLo))) && (!(a.openHi || b.openHi)))))
    else
     ((⟨a.lo,a.hi,(a.openLo || b.openLo),a.openHi⟩:Iv),((decide ((an a.lo a.hi) < 0)) || ((((an a.lo a.hi) == 0) && (!(a.openLo || b.openLo))) && (!a.openHi))))
  else
   bif (decide ((an a.hi b.hi)>0)) then
    ((⟨a.lo,b.hi,a.openLo,b.openHi⟩:Iv),((decide ((an a.lo b.hi) < 0)) || ((((an a.lo b.hi) == 0) && (!a.openLo)) && (!b.openHi))))
   else
    bif ((an a.hi b.hi) == 0) then
     ((⟨a.lo,a.hi,a.openLo,(a.openHi || b.openHi)⟩:Iv),((decide ((an a.lo a.hi) < 0)) || ((((an a.lo a.hi) == 0) && (!a.openLo)) && (!(a.openHi || b.openHi)))))
    else
     (a,((decide ((an a.lo a.hi) < 0)) || ((((an a.lo a.hi) == 0) && (!a.openLo)) && (!a.openHi))))
theorem qp (a:Iv) (b:Iv) (k:Nat) (hk:(k+20)≤40) (za:SzV (k+20) a) (zb:SzV (k+20) b) (w0:World):Calls zP 179 #[(vV a),(vV b)] w0 (RetP w0 (.tuple #[(vV ((bg a b).1)),(.bool ((bg a b).2))]) (SzV k ((bg a b).1))):=by
 refine enter (N:=81) Tryz.func179 rfl rfl ?_; intro ac h
 have p2:=ay ((aR a.lo b.lo k og za.1 zb.1) w0)
 refine gz h <| (xb) fun b1=>(xb) fun b2=>(xa) fun b3=>(xa) fun b4=>(xk (aR a.lo b.lo k og za.1 zb.1)) <| (ai) ?_ ?_ <;> clear h <;> intro _ _ h hc1
 ·
  have hd1:=of_decide_eq_true hc1
  refine gz h <| (dr1 (H:=[⟨.blk b4 (cV a) 86,[(5,.con (.blk b4 (cV (⟨b.lo,a.hi,a.openLo,a.openHi⟩:Iv)) 86)),(7,.con (.blk b4 (cV (⟨b.lo,a.hi,b.openLo,a.openHi⟩:Iv)) 86))]⟩,ge _,ge _,ge _]) (hob:=oE)) <| (W) ?_; clear h; intro _ _ h
  have p4:=ay ((aR a.hi b.hi k og za.2 zb.2) w0)
  refine gz h <| (xk (aR a.hi b.hi k og za.2 zb.2)) <| (ai) ?_ ?_ <;> clear h <;> intro _ _ h hc2
  ·
   have hd2:=of_decide_eq_true hc2
   refine gz h <| (dr1 (H:=[⟨.blk b4 (cV (⟨b.lo,a.hi,b.openLo,a.openHi⟩:Iv)) 86,[(5,.con (.blk b4 (cV (⟨b.lo,b.hi,b.openLo,a.openHi⟩:Iv)) 86)),(7,.con (.blk b4 (cV (⟨b.lo,b.hi,b.openLo,b.openHi⟩:Iv)) 86))]⟩,ge _,ge _,ge _]) (hob:=oE)) <| (W) ?_; clear h; intro _ _ h
   have p6:=ay ((aR b.lo b.hi k og zb.1 zb.2) w0)
   have hd:bg a b=((⟨b.lo,b.hi,b.openLo,b.openHi⟩:Iv),((decide ((an b.lo b.hi) < 0)) || ((((an b.lo b.hi) == 0) && (!b.openLo)) && (!b.openHi)))):=pt
   refine gz h <| (xk (aR b.lo b.hi k og zb.1 zb.2)) <| (dr1 (H:=[ge _,⟨.blk b3 (cV (⟨(⟨oQ,oQ,false⟩:GR),(⟨oQ,oQ,false⟩:GR),false,false⟩:Iv)) 86,[(17,.con (.blk b3 (cV (⟨b.lo,b.hi,b.openLo,b.openHi⟩:Iv)) 86))]⟩,ge _,ge _]) (hob:=oE)) <| (W) ?_; clear h; intro _ _ h
   exact ret h rfl (.cell (v:=(vV (⟨b.lo,b.hi,b.openLo,b.openHi⟩:Iv))) rfl (i:=1) rfl aa86 zz86 rfl rfl rfl (.tmp rfl .nil)) rfl (h.retP (by rw [hd] <;> rfl) (by rw [hd]; exact ⟨(iI zb og).1,(iI zb og).2⟩))
  ·
   have hd2:=of_decide_eq_false hc2
   refine gz h <| (ai) ?_ ?_ <;> clear h <;> intro _ _ h hc3
   ·
    have hd3:=eq_of_beq hc3
    have p8:=ay ((aR b.lo a.hi k og zb.1 za.2) w0)
    have hd:bg a b=((⟨b.lo,a.hi,b.openLo,(a.openHi || b.openHi)⟩:Iv),((decide ((an b.lo a.hi) < 0)) || ((((an b.lo a.hi) == 0) && (!b.openLo)) && (!(a.openHi || b.openHi))))):=pt
    refine gz h <| (xs 0 (cV (⟨b.lo,a.hi,b.openLo,(a.openHi || b.openHi)⟩:Iv))) <| (xk (aR b.lo a.hi k og zb.1 za.2)) <| (dr1 (H:=[ge _,⟨.blk b3 (cV (⟨(⟨oQ,oQ,false⟩:GR),(⟨oQ,oQ,false⟩:GR),false,false⟩:Iv)) 86,[(17,.con (.blk b3 (cV (⟨b.lo,a.hi,b.openLo,(a.openHi || b.openHi)⟩:Iv)) 86))]⟩,ge _,ge _]) (hob:=oE)) <| (W) ?_; clear h; intro _ _ h
    exact ret h rfl (.cell (v:=(vV (⟨b.lo,a.hi,b.openLo,(a.openHi || b.openHi)⟩:Iv))) rfl (i:=1) rfl aa86 zz86 rfl rfl rfl (.tmp rfl .nil)) rfl (h.retP (by rw [hd] <;> rfl) (by rw [hd]; exact ⟨(iI zb og).1,(iI za og).2⟩))
   ·
    have hd3:=ne_of_beq_false hc3
    have p10:=ay ((aR b.lo a.hi k og zb.1 za.2) w0)
    have hd:bg a b=((⟨b.lo,a.hi,b.openLo,a.openHi⟩:Iv),((decide ((an b.lo a.hi) < 0)) || ((((an b.lo a.hi) == 0) && (!b.openLo)) && (!a.openHi)))):=pt
    refine gz h <| (xk (aR b.lo a.hi k og zb.1 za.2)) <| (dr1 (H:=[ge _,⟨.blk b3 (cV (⟨(⟨oQ,oQ,false⟩:GR),(⟨oQ,oQ,false⟩:GR),false,false⟩:Iv)) 86,[(17,.con (.blk b3 (cV (⟨b.lo,a.hi,b.openLo,a.openHi⟩:Iv)) 86))]⟩,ge _,ge _]) (hob:=oE)) <| (W) ?_; clear h; intro _ _ h
    exact ret h rfl (.cell (v:=(vV (⟨b.lo,a.hi,b.openLo,a.openHi⟩:Iv))) rfl (i:=1) rfl aa86 zz86 rfl rfl rfl (.tmp rfl .nil)) rfl (h.retP (by rw [hd] <;> rfl) (by rw [hd]; exact ⟨(iI zb og).1,(iI za og).2⟩))
 ·
  have hd1:=of_decide_eq_false hc1
  refine gz h <| (ai) ?_ ?_ <;> clear h <;> intro _ _ h hc4
  ·
   have hd4:=eq_of_beq hc4
   have p12:=ay ((aR a.hi b.hi k og za.2 zb.2) w0)
   refine gz h <| (xs 0 (cV (⟨a.lo,a.hi,(a.openLo || b.openLo),a.openHi⟩:Iv))) <| (xk (aR a.hi b.hi k og za.2 zb.2)) <| (ai) ?_ ?_ <;> clear h <;> intro _ _ h hc5
   ·
    have hd5:=of_decide_eq_true hc5
    refine gz h <| (dr1 (H:=[⟨.blk b4 (cV (⟨a.lo,a.hi,(a.openLo || b.openLo),a.openHi⟩:Iv)) 86,[(5,.con (.blk b4 (cV (⟨a.lo,b.hi,(a.openLo || b.openLo),a.openHi⟩:Iv)) 86)),(7,.con (.blk b4 (cV (⟨a.lo,b.hi,(a.openLo || b.openLo),b.openHi⟩:Iv)) 86))]⟩,ge _,ge _,ge _]) (hob:=oE)) <| (W) ?_; clear h; intro _ _ h
    have p14:=ay ((aR a.lo b.hi k og za.1 zb.2) w0)
    have hd:bg a b=((⟨a.lo,b.hi,(a.openLo || b.openLo),b.openHi⟩:Iv),((decide ((an a.lo b.hi) < 0)) || ((((an a.lo b.hi) == 0) && (!(a.openLo || b.openLo))) && (!b.openHi)))):=pt
    refine gz h <| (xk (aR a.lo b.hi k og za.1 zb.2)) <| (dr1 (H:=[ge _,⟨.blk b3 (cV (⟨(⟨oQ,oQ,false⟩:GR),(⟨oQ,oQ,false⟩:GR),false,false⟩:Iv)) 86,[(17,.con (.blk b3 (cV (⟨a.lo,b.hi,(a.openLo || b.openLo),b.openHi⟩:Iv)) 86))]⟩,ge _,ge _]) (hob:=oE)) <| (W) ?_; clear h; intro _ _ h
    exact ret h rfl (.cell (v:=(vV (⟨a.lo,b.hi,(a.openLo || b.openLo),b.openHi⟩:Iv))) rfl (i:=1) rfl aa86 zz86 rfl rfl rfl (.tmp rfl .nil)) rfl (h.retP (by rw [hd] <;> rfl) (by rw [hd]; exact ⟨(iI za og).1,(iI zb og).2⟩))
   ·
    have hd5:=of_decide_eq_false hc5
    refine gz h <| (ai) ?_ ?_ <;> clear h <;> intro _ _ h hc6
    ·
     have hd6:=eq_of_beq hc6
     have p16:=ay ((aR a.lo a.hi k og za.1 za.2) w0)
     have hd:bg a b=((⟨a.lo,a.hi,(a.openLo || b.openLo),(a.openHi || b.openHi)⟩:Iv),((decide ((an a.lo a.hi) < 0)) || ((((an a.lo a.hi) == 0) && (!(a.openLo || b.openLo))) && (!(a.openHi || b.openHi))))):=pt
     refine gz h <| (xs 0 (cV (⟨a.lo,a.hi,(a.openLo || b.openLo),(a.openHi || b.openHi)⟩:Iv))) <| (xk (aR a.lo a.hi k og za.1 za.2)) <| (dr1 (H:=[ge _,⟨.blk b3 (cV (⟨(⟨oQ,oQ,false⟩:GR),(⟨oQ,oQ,false⟩:GR),false,false⟩:Iv)) 86,[(17,.con (.blk b3 (cV (⟨a.lo,a.hi,(a.openLo || b.openLo),(a.openHi || b.openHi)⟩:Iv)) 86))]⟩,ge _,ge _]) (hob:=oE)) <| (W) ?_; clear h; intro _ _ h
     exact ret h rfl (.cell (v:=(vV (⟨a.lo,a.hi,(a.openLo || b.openLo),(a.openHi || b.openHi)⟩:Iv))) rfl (i:=1) rfl aa86 zz86 rfl rfl rfl (.tmp rfl .nil)) rfl (h.retP (by rw [hd] <;> rfl) (by rw [hd]; exact ⟨(iI za og).1,(iI za og).2⟩))
    ·
     have hd6:=ne_of_beq_false hc6
     have p18:=ay ((aR a.lo a.hi k og za.1 za.2) w0)
     have hd:bg a b=((⟨a.lo,a.hi,(a.openLo || b.openLo),a.openHi⟩:Iv),((decide ((an a.lo a.hi) < 0)) || ((((an a.lo a.hi) == 0) && (!(a.openLo || b.openLo))) && (!a.openHi)))):=pt
     refine gz h <| (xk (aR a.lo a.hi k og za.1 za.2)) <| (dr1 (H:=[ge _,⟨.blk b3 (cV (⟨(⟨oQ,oQ,false⟩:GR),(⟨oQ,oQ,false⟩:GR),false,false⟩:Iv)) 86,[(17,.con (.blk b3 (cV (⟨a.lo,a.hi,(a.openLo || b.openLo),a.openHi⟩:Iv)) 86))]⟩,ge _,ge _]) (hob:=oE)) <| (W) ?_; clear h; intro _ _ h
     exact ret h rfl (.cell (v:=(vV (⟨a.lo,a.hi,(a.openLo || b.openLo),a.openHi⟩:Iv))) rfl (i:=1) rfl aa86 zz86 rfl rfl rfl (.tmp rfl .nil)) rfl (h.retP (by rw [hd] <;> rfl) (by rw [hd]; exact ⟨(iI za og).1,(iI za og).2⟩))
  ·
   have hd4:=ne_of_beq_false hc4
   have p20:=ay ((aR a.hi b.hi k og za.2 zb.2) w0)
   refine gz h <| (xk (aR a.hi b.hi k og za.2 zb.2)) <| (ai) ?_ ?_ <;> clear h <;> intro _ _ h hc7
   ·
    have hd7:=of_decide_eq_true hc7
    refine gz h <| (dr1 (H:=[⟨.blk b4 (cV a) 86,[(5,.con (.blk b4 (cV (⟨a.lo,b.hi,a.openLo,a.openHi⟩:Iv)) 86)),(7,.con (.blk b4 (cV (⟨a.lo,b.hi,a.openLo,b.openHi⟩:Iv)) 86))]⟩,ge _,ge _,ge _]) (hob:=oE)) <| (W) ?_; clear h; intro _ _ h
    have p22:=ay ((aR a.lo b.hi k og za.1 zb.2) w0)
    have hd:bg a b=((⟨a.lo,b.hi,a.openLo,b.openHi⟩:Iv),((decide ((an a.lo b.hi) < 0)) || ((((an a.lo b.hi) == 0) && (!a.openLo)) && (!b.openHi)))):=pt
    refine gz h <| (xk (aR a.lo b.hi k og za.1 zb.2)) <| (dr1 (H:=[ge _,⟨.blk b3 (cV (⟨(⟨oQ,oQ,false⟩:GR),(⟨oQ,oQ,false⟩:GR),false,false⟩:Iv)) 86,[(17,.con (.blk b3 (cV (⟨a.lo,b.hi,a.openLo,b.openHi⟩:Iv)) 86))]⟩,ge _,ge _]) (hob:=oE)) <| (W) ?_; clear h; intro _ _ h
    exact ret h rfl (.cell (v:=(vV (⟨a.lo,b.hi,a.openLo,b.openHi⟩:Iv))) rfl (i:=1) rfl aa86 zz86 rfl rfl rfl (.tmp rfl .nil)) rfl (h.retP (by rw [hd] <;> rfl) (by rw [hd]; exact ⟨(iI za og).1,(iI zb og).2⟩))
   ·
    have hd7:=of_decide_eq_false hc7
    refine gz h <| (ai) ?_ ?_ <;> clear h <;> intro _ _ h hc8
    ·
     have hd8:=eq_of_beq hc8
     have p24:=ay ((aR a.lo a.hi k og za.1 za.2) w0)
     have hd:bg a b=((⟨a.lo,a.hi,a.openLo,(a.openHi || b.openHi)⟩:Iv),((decide ((an a.lo a.hi) < 0)) || ((((an a.lo a.hi) == 0) && (!a.openLo)) && (!(a.openHi || b.openHi))))):=pt
     refine gz h <| (xs 0 (cV (⟨a.lo,a.hi,a.openLo,(a.openHi || b.openHi)⟩:Iv))) <| (xk (aR a.lo a.hi k og za.1 za.2)) <| (dr1 (H:=[ge _,⟨.blk b3 (cV (⟨(⟨oQ,oQ,false⟩:GR),(⟨oQ,oQ,false⟩:GR),false,false⟩:Iv)) 86,[(17,.con (.blk b3 (cV (⟨a.lo,a.hi,a.openLo,(a.openHi || b.openHi)⟩:Iv)) 86))]⟩,ge _,ge _]) (hob:=oE)) <| (W) ?_; clear h; intro _ _ h
     exact ret h rfl (.cell (v:=(vV (⟨a.lo,a.hi,a.openLo,(a.openHi || b.openHi)⟩:Iv))) rfl (i:=1) rfl aa86 zz86 rfl rfl rfl (.tmp rfl .nil)) rfl (h.retP (by rw [hd] <;> rfl) (by rw [hd]; exact ⟨(iI za og).1,(iI za og).2⟩))
    ·
     have hd8:=ne_of_beq_false hc8
     have p26:=ay ((aR a.lo a.hi k og za.1 za.2) w0)
     have hd:bg a b=(a,((decide ((an a.lo a.hi) < 0)) || ((((an a.lo a.hi) == 0) && (!a.openLo)) && (!a.openHi)))):=pt
     refine gz h <| (xk (aR a.lo a.hi k og za.1 za.2)) <| (dr1 (H:=[ge _,⟨.blk b3 (cV (⟨(⟨oQ,oQ,false⟩:GR),(⟨oQ,oQ,false⟩:GR),false,false⟩:Iv)) 86,[(17,.con (.blk b3 (cV a) 86))]⟩,ge _,ge _]) (hob:=oE)) <| (W) ?_; clear h; intro _ _ h
     exact ret h rfl (.cell (v:=(vV a)) rfl (i:=1) rfl aa86 zz86 rfl rfl rfl (.tmp rfl .nil)) rfl (h.retP (by rw [hd] <;> rfl) (by rw [hd]; exact (iI za og)))
end Go.Sx
