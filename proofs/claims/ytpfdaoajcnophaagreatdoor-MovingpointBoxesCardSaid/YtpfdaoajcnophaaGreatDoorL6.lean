/- A part of the proof of movingpointBoxes. -/
import Derived.Test.YtpfdaoajcnophaaGreatDoorProg
import Derived.Test.YtpfdaoajcnophaaGreatDoorL5
set_option linter.unusedVariables false
set_option linter.unusedSimpArgs false
open Go.Proofs.Tryz renaming isAgg29 → aa29, sizeOf29 → zz29, runUnderlying46 → uu46, call148 → cc148, isAgg46 → aa46, sizeOf46 → zz46, zeroValue29 → vv29, isAgg72 → aa72, sizeOf72 → zz72
namespace Go.Sx
open Go Go.RowKit Go.Proofs
set_option maxRecDepth 100000
set_option maxHeartbeats 40000000
attribute [local irreducible] Code.wp wpList Rd Step ObS Ent
def a8 (x:GR):GQ :=
 bif x.neg then
  (ah (-1))
 else
  (ah 1)
theorem iR (x:GR) (k:Nat) (hk:k≤40) (zx:SzR k x) (w0:World):Calls Tryz.prog 169 #[(vR x)] w0 (dE w0 (vQ (a8 x)) (SzQ k (a8 x))):=by
 refine enter (N:=7) (args:=[(vR x)]) Tryz.func169 rfl rfl ?_; intro ac h
 refine gz h <| (xb) fun b1=>(xa) fun b2=>(ai) ?_ ?_ <;> clear h ac <;> intro ac wo h hc1
 ·
  have c1:=cq (-1) k og  og
  have s1:=ap (c1 w0)
  have hd:a8 x=(ah (-1)):=pt
  refine gz h <| (xk c1) <| (W) ?_; clear h ac wo; intro ac wo h
  exact ret h rfl (.cell (v:=(vQ (ah (-1)))) rfl (i:=0) rfl aa29 zz29 rfl rfl rfl .nil) rfl (h.retP (by rw [hd] <;> rfl) (by rw [hd]; exact s1))
 ·
  have c2:=cq 1 k og  og
  have s2:=ap (c2 w0)
  have hd:a8 x=(ah 1):=pt
  refine gz h <| (xk c2) <| (W) ?_; clear h ac wo; intro ac wo h
  exact ret h rfl (.cell (v:=(vQ (ah 1))) rfl (i:=0) rfl aa29 zz29 rfl rfl rfl .nil) rfl (h.retP (by rw [hd] <;> rfl) (by rw [hd]; exact s2))
def eD (a:GQ) (b:GQ) (r:GQ):Int :=
 bif ((((au b)*(au r)) == 0) || ((au a) == ((au b)*(au r)))) then
  (au a)
 else
  bif ((au a) == 0) then
   ((au b)*(au r))
  else
   ((au a)*(aS (am a a) (am (am b b) r)))
theorem jJ (a:GQ) (b:GQ) (r:GQ) (k:Nat) (hk:(k+8)≤40) (za:SzQ (k+8) a) (zb:SzQ (k+8) b) (zr:SzQ (k+8) r) (w0:World):Calls Tryz.prog 171 #[(vQ a),(vQ b),(vQ r)] w0 (dE w0 (.int .i64 (eD a b r)) ((-1≤(eD a b r)∧(eD a b r)≤1))):=by
 refine enter (N:=40) (args:=[(vQ a),(vQ b),(vQ r)]) Tryz.func171 rfl rfl ?_; intro ac h
 have p2:=ap ((dl a) w0)
 have p4:=ap ((dl b) w0)
 have p6:=ap ((dl r) w0)
 refine gz h <| (xb) fun b1=>(xb) fun b2=>(xb) fun b3=>(dr0 (hob:=(oK (dl a)) <| (oK (dl b)) <| (oK (dl r)) <| (oX (h:=by exact fun _=>aQ (ng rfl rfl (r:=((au b)*(au r))) (by first | (rw [IntKind.wrap_i64]; omega) | exact jG og og)))) <| oE)) <| (ai) ?_ ?_ <;> clear h ac <;> intro ac wo h hc1
 ·
  have hd:eD a b r=(au a):=pt
  refine gz h <| (W) ?_; clear h ac wo; intro ac wo h
  exact (rt h) (h.retP (by rw [hd] <;> rfl) (by rw [hd]; exact by first | omega | exact fC og og))
 ·
  refine gz h <| (ai) ?_ ?_ <;> clear h ac wo <;> intro ac wo h hc2
  ·
   have hd2:=eq_of_beq hc2
   have hd:eD a b r=((au b)*(au r)):=pt
   refine gz h <| (W) ?_; clear h ac wo; intro ac wo h
   exact (rt h) (h.retP (by rw [hd] <;> rfl) (by rw [hd]; exact by first | omega | exact fC og og))
  ·
   have hd2:=ne_of_beq_false hc2
   refine gz h <| (W) ?_; clear h ac wo; intro ac wo h
   have s7:=ap ((bo a a (k+6) og za za) w0)
   have s8:=ap ((bo b b (k+6) og zb zb) w0)
   have s9:=ap ((bo (am b b) r (k+4) og s8 (cu zr og)) w0)
   have p11:=ap ((g9 (am a a) (am (am b b) r) (k+3) og (cu s7 og) s9) w0)
   have hd:eD a b r=((au a)*(aS (am a a) (am (am b b) r))):=pt
   refine gz h <| (dr0 (hob:=(oK (bo a a (k+6) og za za)) <| (oK (bo b b (k+6) og zb zb)) <| (oK (bo (am b b) r (k+4) og s8 (cu zr og))) <| (oK (g9 (am a a) (am (am b b) r) (k+3) og (cu s7 og) s9)) <| (oX (h:=by exact fun _=>aQ (ng rfl rfl (r:=((au a)*(aS (am a a) (am (am b b) r)))) (by first | (rw [IntKind.wrap_i64]; omega) | exact jG og og)))) <| oE)) <| (W) ?_; clear h ac wo; intro ac wo h
   exact (rt h) (h.retP (by rw [hd] <;> rfl) (by rw [hd]; exact by first | omega | exact fC og og))
def ao (x:GR) (y:GR):Int :=
 bif ((((au (aE (a8 y)))*(au y.r)) == 0) || ((eD (ak x.p y.p) (a8 x) x.r) == ((au (aE (a8 y)))*(au y.r)))) then
  (eD (ak x.p y.p) (a8 x) x.r)
 else
  bif ((eD (ak x.p y.p) (a8 x) x.r) == 0) then
   ((au (aE (a8 y)))*(au y.r))
  else
   ((eD (ak x.p y.p) (a8 x) x.r)*(eD (ak (aq (am (ak x.p y.p) (ak x.p y.p)) x.r) y.r) (am (ah 2) (am (ak x.p y.p) (a8 x))) x.r))
theorem dO (x:GR) (y:GR) (k:Nat) (hk:(k+20)≤40) (zx:SzR (k+20) x) (zy:SzR (k+20) y) (w0:World):Calls Tryz.prog 59 #[(vR x),(vR y)] w0 (dE w0 (.int .i64 (ao x y)) ((-1≤(ao x y)∧(ao x y)≤1))):=by
 refine enter (N:=65) (args:=[(vR x),(vR y)]) Tryz.func59 rfl rfl ?_; intro ac h
 have s1:=ap ((cM x.p y.p (k+17) og zx.1 zy.1) w0)
 have s2:=ap ((iR x (k+20) og zx) w0)
 have s3:=ap ((iR y (k+20) og zy) w0)
 have s4:=ap ((fc (a8 y) (k+20) og s3) w0)
 refine gz h <| (xb) fun b1=>(xb) fun b2=>(W) ?_; clear h ac; intro ac wo h
 replace h:=h.emps 3
 refine eZ mixed [dv _,dw _ [1],dv _,dw _ [0],dv _,dw _ [1],dv _,dw _ [0],dv _,dv _,⟨.nd (.one 10 fun v=>∃ b,v=ptr b 0),[2]⟩,⟨.nd (.one 11 fun v=>∃ b,v=ptr b 0),[3]⟩,⟨.nd (.one 12 fun v=>∃ b,v=ptr b 0),[4]⟩,⟨.det undef,[2]⟩,⟨.det undef,[3]⟩,⟨.det undef,[4]⟩] [⟨_,[]⟩,⟨_,[]⟩,⟨.emp,[(10,.one 10 fun v=>.blk (bu v) (cQ oQ) 29),(13,.one 10 fun v=>.blk (bu v) (cQ (ak x.p y.p)) 29)]⟩,⟨.emp,[(11,.one 11 fun v=>.blk (bu v) (cQ oQ) 29),(14,.one 11 fun v=>.blk (bu v) (cQ (a8 x)) 29)]⟩,⟨.emp,[(12,.one 12 fun v=>.blk (bu v) (cQ oQ) 29),(15,.one 12 fun v=>.blk (bu v) (cQ (aE (a8 y))) 29)]⟩] h rfl (by kernel_rfl) ⟨fun _ _=>aQ (fa uu46 rfl zz29 rfl rfl rfl (k':=0)),fun _ _=>iy _ rfl rfl (js aa29 zz29 rfl rfl rfl (v:=(vQ x.p)) rfl),fun _ _=>aQ (fa uu46 rfl zz29 rfl rfl rfl (k':=0)),fun _ _=>iy _ rfl rfl (js aa29 zz29 rfl rfl rfl (v:=(vQ y.p)) rfl),fun _ _=>fD (dZ cc148 rfl (cM x.p y.p (k+17) og zx.1 zy.1)),fun _ _=>iy _ rfl rfl (js aa46 zz46 rfl rfl rfl (v:=(vR x)) rfl),fun _ _=>fD (dZ Tryz.call169 rfl (iR x (k+20) og zx)),fun _ _=>iy _ rfl rfl (js aa46 zz46 rfl rfl rfl (v:=(vR y)) rfl),fun _ _=>fD (dZ Tryz.call169 rfl (iR y (k+20) og zy)),fun _ _=>fD (dZ Tryz.call170 rfl (fc (a8 y) (k+20) og s3)),fun _ _=>oB (ψ:=fun v=>∃ b,v=ptr b 0) (B:=fun v=>[.blk (bu v) (cQ oQ) 29]) [.emp] rfl (fun v _=>by simp only [dg,bA] <;> rfl) (fun v hv=>by simpa [DF.one,bA] using hv) (jX (gI vv29 rfl)),fun _ _=>oB (ψ:=fun v=>∃ b,v=ptr b 0) (B:=fun v=>[.blk (bu v) (cQ oQ) 29]) [.emp] rfl (fun v _=>by simp only [dg,bA] <;> rfl) (fun v hv=>by simpa [DF.one,bA] using hv) (jX (gI vv29 rfl)),fun _ _=>oB (ψ:=fun v=>∃ b,v=ptr b 0) (B:=fun v=>[.blk (bu v) (cQ oQ) 29]) [.emp] rfl (fun v _=>by simp only [dg,bA] <;> rfl) (fun v hv=>by simpa [DF.one,bA] using hv) (jX (gI vv29 rfl)),(fun ξ hφ=>by obtain ⟨b3,hb10⟩:=hφ 10 rfl; exact kb [.blk b3 (cQ oQ) 29] [.blk b3 (cQ (ak x.p y.p)) 29] (congrArg (fun v=>[Asn.blk (bu v) (cQ oQ) 29]) hb10) (congrArg (fun v=>[Asn.blk (bu v) (cQ (ak x.p y.p)) 29]) hb10) (oi zz29 (Eq.trans rfl (congrArg some hb10)) rfl rfl rfl rfl rfl rfl)),(fun ξ hφ=>by obtain ⟨b4,hb11⟩:=hφ 11 rfl; exact kb [.blk b4 (cQ oQ) 29] [.blk b4 (cQ (a8 x)) 29] (congrArg (fun v=>[Asn.blk (bu v) (cQ oQ) 29]) hb11) (congrArg (fun v=>[Asn.blk (bu v) (cQ (a8 x)) 29]) hb11) (oi zz29 (Eq.trans rfl (congrArg some hb11)) rfl rfl rfl rfl rfl rfl)),(fun ξ hφ=>by obtain ⟨b5,hb12⟩:=hφ 12 rfl; exact kb [.blk b5 (cQ oQ) 29] [.blk b5 (cQ (aE (a8 y))) 29] (congrArg (fun v=>[Asn.blk (bu v) (cQ oQ) 29]) hb12) (congrArg (fun v=>[Asn.blk (bu v) (cQ (aE (a8 y))) 29]) hb12) (oi zz29 (Eq.trans rfl (congrArg some hb12)) rfl rfl rfl rfl rfl rfl)),trivial⟩ ?_
 clear h ac wo; intro ξ ac wo hφ h
 replace h:St w0 65 [(2,(ptr b1 0)),(3,(ptr b2 0)),(5,ξ 10),(6,ξ 11),(7,ξ 12)] [.blk b2 (cR y) 46,.blk b1 (cR x) 46,.blk (bu (ξ 10)) (cQ (ak x.p y.p)) 29,.blk (bu (ξ 11)) (cQ (a8 x)) 29,.blk (bu (ξ 12)) (cQ (aE (a8 y))) 29] ac wo:=h.sub ⟨rfl,rfl,rfl,rfl,rfl,trivial⟩
 revert h
 obtain ⟨b3,hb10⟩:∃ b,ξ 10=ptr b 0:=hφ 10
 obtain ⟨b4,hb11⟩:∃ b,ξ 11=ptr b 0:=hφ 11
 obtain ⟨b5,hb12⟩:∃ b,ξ 12=ptr b 0:=hφ 12
 rw [hb10,hb11,hb12]; intro h
 clear hb10 hb11 hb12 hφ ξ
 refine gz h <| (W) ?_; clear h ac wo; intro ac wo h
 have p6:=ap ((jJ (ak x.p y.p) (a8 x) x.r (k+9) og s1 (cu s2 og) (fh zx og).2) w0)
 have p8:=ap ((dl (aE (a8 y))) w0)
 have p10:=ap ((dl y.r) w0)
 refine gz h <| (dr0 (hob:=(oK (jJ (ak x.p y.p) (a8 x) x.r (k+9) og s1 (cu s2 og) (fh zx og).2)) <| (oK (dl (aE (a8 y)))) <| (oK (dl y.r)) <| (oX (h:=by exact fun _=>aQ (ng rfl rfl (r:=((au (aE (a8 y)))*(au y.r))) (by first | (rw [IntKind.wrap_i64]; omega) | exact jG og og)))) <| oE)) <| (ai) ?_ ?_ <;> clear h ac wo <;> intro ac wo h hc1
 ·
  have hd:ao x y=(eD (ak x.p y.p) (a8 x) x.r):=pt
  refine gz h <| (W) ?_; clear h ac wo; intro ac wo h
  exact (rt h) (h.retP (by rw [hd] <;> rfl) (by rw [hd]; exact by first | omega | exact fC og og))
 ·
  refine gz h <| (ai) ?_ ?_ <;> clear h ac wo <;> intro ac wo h hc2
  ·
   have hd2:=eq_of_beq hc2
   have hd:ao x y=((au (aE (a8 y)))*(au y.r)):=pt
   refine gz h <| (W) ?_; clear h ac wo; intro ac wo h
   exact (rt h) (h.retP (by rw [hd] <;> rfl) (by rw [hd]; exact by first | omega | exact fC og og))
  ·
   have hd2:=ne_of_beq_false hc2
   refine gz h <| (W) ?_; clear h ac wo; intro ac wo h
   have s11:=ap ((bo (ak x.p y.p) (ak x.p y.p) (k+15) og s1 s1) w0)
   have s12:=ap ((bQ (am (ak x.p y.p) (ak x.p y.p)) x.r (k+12) og s11 (fh zx og).2) w0)
   have s13:=ap ((cM (aq (am (ak x.p y.p) (ak x.p y.p)) x.r) y.r (k+9) og s12 (fh zy og).2) w0)
   replace h:=h.emps 1
   refine eZ mixed [dw _ [2],dw _ [2],dv _,dv _,dw _ [1],dv _,dv _,dw _ [0],dv _,⟨.nd (.one 9 fun v=>∃ b,v=ptr b 0),[5]⟩,⟨.det undef,[5]⟩] [⟨_,[]⟩,⟨_,[]⟩,⟨_,[]⟩,⟨_,[]⟩,⟨_,[]⟩,⟨.emp,[(9,.one 9 fun v=>.blk (bu v) (cQ oQ) 29),(10,.one 9 fun v=>.blk (bu v) (cQ (ak (aq (am (ak x.p y.p) (ak x.p y.p)) x.r) y.r)) 29)]⟩] h rfl (by kernel_rfl) ⟨fun _ _=>iy _ rfl rfl (js aa29 zz29 rfl rfl rfl (v:=(vQ (ak x.p y.p))) rfl),fun _ _=>iy _ rfl rfl (js aa29 zz29 rfl rfl rfl (v:=(vQ (ak x.p y.p))) rfl),fun _ _=>fD (dZ Tryz.call172 rfl (bo (ak x.p y.p) (ak x.p y.p) (k+15) og s1 s1)),fun _ _=>aQ (fa uu46 rfl zz29 rfl rfl rfl (k':=4)),fun _ _=>iy _ rfl rfl (js aa29 zz29 rfl rfl rfl (v:=(vQ x.r)) rfl),fun _ _=>fD (dZ Tryz.call106 rfl (bQ (am (ak x.p y.p) (ak x.p y.p)) x.r (k+12) og s11 (fh zx og).2)),fun _ _=>aQ (fa uu46 rfl zz29 rfl rfl rfl (k':=4)),fun _ _=>iy _ rfl rfl (js aa29 zz29 rfl rfl rfl (v:=(vQ y.r)) rfl),fun _ _=>fD (dZ cc148 rfl (cM (aq (am (ak x.p y.p) (ak x.p y.p)) x.r) y.r (k+9) og s12 (fh zy og).2)),fun _ _=>oB (ψ:=fun v=>∃ b,v=ptr b 0) (B:=fun v=>[.blk (bu v) (cQ oQ) 29]) [.emp] rfl (fun v _=>by simp only [dg,bA] <;> rfl) (fun v hv=>by simpa [DF.one,bA] using hv) (jX (gI vv29 rfl)),(fun ξ hφ=>by obtain ⟨b6,hb9⟩:=hφ 9 rfl; exact kb [.blk b6 (cQ oQ) 29] [.blk b6 (cQ (ak (aq (am (ak x.p y.p) (ak x.p y.p)) x.r) y.r)) 29] (congrArg (fun v=>[Asn.blk (bu v) (cQ oQ) 29]) hb9) (congrArg (fun v=>[Asn.blk (bu v) (cQ (ak (aq (am (ak x.p y.p) (ak x.p y.p)) x.r) y.r)) 29]) hb9) (oi zz29 (Eq.trans rfl (congrArg some hb9)) rfl rfl rfl rfl rfl rfl)),trivial⟩ ?_
   clear h ac wo; intro ξ ac wo hφ h
   replace h:St w0 65 [(2,(ptr b1 0)),(5,(ptr b3 0)),(6,(ptr b4 0)),(8,(.int .i64 (eD (ak x.p y.p) (a8 x) x.r))),(10,ξ 9)] [.blk b2 (cR y) 46,.blk b1 (cR x) 46,.blk b3 (cQ (ak x.p y.p)) 29,.blk b4 (cQ (a8 x)) 29,.blk b5 (cQ (aE (a8 y))) 29,.blk (bu (ξ 9)) (cQ (ak (aq (am (ak x.p y.p) (ak x.p y.p)) x.r) y.r)) 29] ac wo:=h.sub ⟨rfl,rfl,rfl,rfl,rfl,trivial⟩
   revert h
   obtain ⟨b6,hb9⟩:∃ b,ξ 9=ptr b 0:=hφ 9
   rw [hb9]; intro h
   clear hb9 hφ ξ
   refine gz h <| (W) ?_; clear h ac wo; intro ac wo h
   have s14:=ap ((cq 2 (k+20) og  og) w0)
   have s15:=ap ((bo (ak x.p y.p) (a8 x) (k+15) og s1 (cu s2 og)) w0)
   have s16:=ap ((bo (ah 2) (am (ak x.p y.p) (a8 x)) (k+13) og (cu s14 og) s15) w0)
   have p18:=ap ((jJ (ak (aq (am (ak x.p y.p) (ak x.p y.p)) x.r) y.r) (am (ah 2) (am (ak x.p y.p) (a8 x))) x.r (k+1) og s13 (cu s16 og) (fh zx og).2) w0)
   have hd:ao x y=((eD (ak x.p y.p) (a8 x) x.r)*(eD (ak (aq (am (ak x.p y.p) (ak x.p y.p)) x.r) y.r) (am (ah 2) (am (ak x.p y.p) (a8 x))) x.r)):=pt
   refine gz h <| (dr0 (hob:=(oK (cq 2 (k+20) og  og)) <| (oK (bo (ak x.p y.p) (a8 x) (k+15) og s1 (cu s2 og))) <| (oK (bo (ah 2) (am (ak x.p y.p) (a8 x)) (k+13) og (cu s14 og) s15)) <| (oK (jJ (ak (aq (am (ak x.p y.p) (ak x.p y.p)) x.r) y.r) (am (ah 2) (am (ak x.p y.p) (a8 x))) x.r (k+1) og s13 (cu s16 og) (fh zx og).2)) <| (oX (h:=by exact fun _=>aQ (ng rfl rfl (r:=((eD (ak x.p y.p) (a8 x) x.r)*(eD (ak (aq (am (ak x.p y.p) (ak x.p y.p)) x.r) y.r) (am (ah 2) (am (ak x.p y.p) (a8 x))) x.r))) (by first | (rw [IntKind.wrap_i64]; omega) | exact jG og og)))) <| oE)) <| (W) ?_; clear h ac wo; intro ac wo h
   exact (rt h) (h.retP (by rw [hd] <;> rfl) (by rw [hd]; exact by first | omega | exact fC og og))
def aL (n:Int):GR :=
 (⟨(ah n),(⟨(⟨false,0⟩:GI),(⟨false,0⟩:GI)⟩:GQ),false⟩:GR)
theorem pe (n:Int) (k:Nat) (hk:k≤40) (hn:-9223372036854775808≤n∧n≤9223372036854775807) (w0:World):Calls Tryz.prog 102 #[(.int .i64 n)] w0 (dE w0 (vR (aL n)) (SzR k (aL n))):=by
 refine enter (N:=6) (args:=[(.int .i64 n)]) Tryz.func102 rfl rfl ?_; intro ac h
 have c1:=cq n k og  og
 have s1:=ap (c1 w0)
 refine gz h <| (xa) fun b1=>(xk c1) <| (xo (hs:=by exact bK w8 exs rfl (v:=(vR (⟨(ah n),oQ,false⟩:GR))) rfl)) <| (W) ?_; clear h ac; intro ac wo h
 exact ret h rfl (.cell (v:=(vR (⟨(ah n),oQ,false⟩:GR))) rfl (i:=0) rfl aa46 zz46 rfl rfl rfl .nil) rfl (h.retP (by unfold aL; rfl) (by unfold aL; exact ⟨s1,⟨(cX 0 (by decide) og),(cX 0 (by decide) og)⟩⟩))
def an (r:GQ):GR :=
 (⟨r,(⟨(⟨false,0⟩:GI),(⟨false,0⟩:GI)⟩:GQ),false⟩:GR)
theorem d6 (r:GQ) (k:Nat) (hk:k≤40) (zr:SzQ k r) (w0:World):Calls Tryz.prog 26 #[(vQ r)] w0 (dE w0 (vR (an r)) (SzR k (an r))):=by
 refine enter (N:=5) (args:=[(vQ r)]) Tryz.func26 rfl rfl ?_; intro ac h
 refine gz h <| (xb) fun b1=>(xa) fun b2=>(xo (hs:=by exact bK w8 exs rfl (v:=(vR (⟨r,oQ,false⟩:GR))) rfl)) <| (W) ?_; clear h ac; intro ac wo h
 exact ret h rfl (.cell (v:=(vR (⟨r,oQ,false⟩:GR))) rfl (i:=0) rfl aa46 zz46 rfl rfl rfl .nil) rfl (h.retP (by unfold an; rfl) (by unfold an; exact ⟨zr,⟨(cX 0 (by decide) og),(cX 0 (by decide) og)⟩⟩))
def aP (c0:GQ) (c1:GQ):Qd :=
 (⟨c0,c1,(⟨(⟨false,0⟩:GI),(⟨false,0⟩:GI)⟩:GQ)⟩:Qd)
theorem cO (c0:GQ) (c1:GQ) (k:Nat) (hk:k≤40) (zc0:SzQ k c0) (zc1:SzQ k c1) (w0:World):Calls Tryz.prog 150 #[(vQ c0),(vQ c1)] w0 (dE w0 (vD (aP c0 c1)) (SzD k (aP c0 c1))):=by
 refine enter (N:=8) (args:=[(vQ c0),(vQ c1)]) Tryz.func150 rfl rfl ?_; intro ac h
 refine gz h <| (xb) fun b1=>(xb) fun b2=>(xa) fun b3=>(xo (hs:=by exact bK w9 exs rfl (v:=(vD (⟨c0,c1,oQ⟩:Qd))) rfl)) <| (W) ?_; clear h ac; intro ac wo h
 exact ret h rfl (.cell (v:=(vD (⟨c0,c1,oQ⟩:Qd))) rfl (i:=0) rfl aa72 zz72 rfl rfl rfl .nil) rfl (h.retP (by unfold aP; rfl) (by unfold aP; exact ⟨zc0,zc1,⟨(cX 0 (by decide) og),(cX 0 (by decide) og)⟩⟩))
def aH (q:Qd) (t:GQ):GQ :=
 (aq q.c0 (am t (aq q.c1 (am t q.c2))))
theorem iG (q:Qd) (t:GQ) (k:Nat) (hk:(k+10)≤40) (zq:SzD (k+10) q) (zt:SzQ (k+10) t) (w0:World):Calls Tryz.prog 81 #[(vD q),(vQ t)] w0 (dE w0 (vQ (aH q t)) (SzQ k (aH q t))):=by
 refine enter (N:=17) (args:=[(vD q),(vQ t)]) Tryz.func81 rfl rfl ?_; intro ac h
 have s1:=ap ((bo t q.c2 (k+8) og zt zq.2.2) w0)
 have s2:=ap ((bQ q.c1 (am t q.c2) (k+5) og (lm zq og).2.1 s1) w0)
 have s3:=ap ((bo t (aq q.c1 (am t q.c2)) (k+3) og (cu zt og) s2) w0)
 have s4:=ap ((bQ q.c0 (am t (aq q.c1 (am t q.c2))) k og (lm zq og).1 s3) w0)
 refine gz h <| (xb) fun b1=>(xb) fun b2=>(xa) fun b3=>(dr1 (H:=[⟨.blk b3 (cQ oQ) 29,[(12,.con (.blk b3 (cQ (aq q.c0 (am t (aq q.c1 (am t q.c2))))) 29))]⟩,⟨_,[]⟩,⟨_,[]⟩]) (hob:=(oK (bo t q.c2 (k+8) og zt zq.2.2)) <| (oK (bQ q.c1 (am t q.c2) (k+5) og (lm zq og).2.1 s1)) <| (oK (bo t (aq q.c1 (am t q.c2)) (k+3) og (cu zt og) s2)) <| (oK (bQ q.c0 (am t (aq q.c1 (am t q.c2))) k og (lm zq og).1 s3)) <| oE)) <| (W) ?_; clear h ac; intro ac wo h
 exact ret h rfl (.cell (v:=(vQ (aq q.c0 (am t (aq q.c1 (am t q.c2)))))) rfl (i:=0) rfl aa29 zz29 rfl rfl rfl .nil) rfl (h.retP (by unfold aH; rfl) (by unfold aH; exact s4))
def aI (q:Qd) (t:GQ):GQ :=
 (aq q.c1 (am (aq q.c2 q.c2) t))
theorem io (q:Qd) (t:GQ) (k:Nat) (hk:(k+8)≤40) (zq:SzD (k+8) q) (zt:SzQ (k+8) t) (w0:World):Calls Tryz.prog 178 #[(vD q),(vQ t)] w0 (dE w0 (vQ (aI q t)) (SzQ k (aI q t))):=by
 refine enter (N:=15) (args:=[(vD q),(vQ t)]) Tryz.func178 rfl rfl ?_; intro ac h
 have s1:=ap ((bQ q.c2 q.c2 (k+5) og zq.2.2 zq.2.2) w0)
 have s2:=ap ((bo (aq q.c2 q.c2) t (k+3) og s1 (cu zt og)) w0)
 have s3:=ap ((bQ q.c1 (am (aq q.c2 q.c2) t) k og (lm zq og).2.1 s2) w0)
 refine gz h <| (xb) fun b1=>(xb) fun b2=>(xa) fun b3=>(dr1 (H:=[⟨.blk b3 (cQ oQ) 29,[(10,.con (.blk b3 (cQ (aq q.c1 (am (aq q.c2 q.c2) t))) 29))]⟩,⟨_,[]⟩,⟨_,[]⟩]) (hob:=(oK (bQ q.c2 q.c2 (k+5) og zq.2.2 zq.2.2)) <| (oK (bo (aq q.c2 q.c2) t (k+3) og s1 (cu zt og))) <| (oK (bQ q.c1 (am (aq q.c2 q.c2) t) k og (lm zq og).2.1 s2)) <| oE)) <| (W) ?_; clear h ac; intro ac wo h
 exact ret h rfl (.cell (v:=(vQ (aq q.c1 (am (aq q.c2 q.c2) t)))) rfl (i:=0) rfl aa29 zz29 rfl rfl rfl .nil) rfl (h.retP (by unfold aI; rfl) (by unfold aI; exact s3))
def dR (p:Qd) (q:Qd):Qd :=
 (⟨(ak p.c0 q.c0),(ak p.c1 q.c1),(ak p.c2 q.c2)⟩:Qd)
theorem kw (p:Qd) (q:Qd) (k:Nat) (hk:(k+3)≤40) (zp:SzD (k+3) p) (zq:SzD (k+3) q) (w0:World):Calls Tryz.prog 41 #[(vD p),(vD q)] w0 (dE w0 (vD (dR p q)) (SzD k (dR p q))):=by
 refine enter (N:=21) (args:=[(vD p),(vD q)]) Tryz.func41 rfl rfl ?_; intro ac h
 have s1:=ap ((cM p.c0 q.c0 k og zp.1 zq.1) w0)
 have s2:=ap ((cM p.c1 q.c1 k og zp.2.1 zq.2.1) w0)
 have s3:=ap ((cM p.c2 q.c2 k og zp.2.2 zq.2.2) w0)
 refine gz h <| (xb) fun b1=>(xb) fun b2=>(xa) fun b3=>(dr1 (H:=[⟨.blk b3 (cD oD) 72,[(16,.con (.blk b3 (cD (⟨(ak p.c0 q.c0),(ak p.c1 q.c1),(ak p.c2 q.c2)⟩:Qd)) 72))]⟩,⟨_,[]⟩,⟨_,[]⟩]) (hob:=(oK (cM p.c0 q.c0 k og zp.1 zq.1)) <| (oK (cM p.c1 q.c1 k og zp.2.1 zq.2.1)) <| (oK (cM p.c2 q.c2 k og zp.2.2 zq.2.2)) <| (oX (h:=by exact fun _=>aQ (bK w9 exs rfl (v:=(vD (⟨(ak p.c0 q.c0),(ak p.c1 q.c1),(ak p.c2 q.c2)⟩:Qd))) rfl))) <| oE)) <| (W) ?_; clear h ac; intro ac wo h
 exact ret h rfl (.cell (v:=(vD (⟨(ak p.c0 q.c0),(ak p.c1 q.c1),(ak p.c2 q.c2)⟩:Qd))) rfl (i:=0) rfl aa72 zz72 rfl rfl rfl .nil) rfl (h.retP (by unfold dR; rfl) (by unfold dR; exact ⟨s1,s2,s3⟩))
def dQ (x:GR):GQ×Bool :=
 bif (!(decide (x.r=(⟨(⟨false,0⟩:GI),(⟨false,0⟩:GI)⟩:GQ)))) then
  ((⟨(⟨false,0⟩:GI),(⟨false,0⟩:GI)⟩:GQ),false)
 else
  (x.p,true)
theorem nV (x:GR) (k:Nat) (hk:k≤40) (zx:SzR k x) (w0:World):Calls Tryz.prog 80 #[(vR x)] w0 (dE w0 (.tuple #[(vQ ((dQ x).1)),(.bool ((dQ x).2))]) (SzQ k ((dQ x).1))):=by
 refine enter (N:=11) (args:=[(vR x)]) Tryz.func80 rfl rfl ?_; intro ac h
 refine gz h <| (xb) fun b1=>(xa) fun b2=>(xo (hs:=by exact bK nv exs rfl (v:=(vQ oQ)) rfl)) <| (ai) ?_ ?_ <;> clear h ac <;> intro ac wo h hc1
 ·
  have hd:dQ x=(oQ,false):=pt
  refine gz h <| (xo (hs:=by exact bK nv exs rfl (v:=(vQ oQ)) rfl)) <| (W) ?_; clear h ac wo; intro ac wo h
  exact ret h rfl (.cell (v:=(vQ oQ)) rfl (i:=0) rfl aa29 zz29 rfl rfl rfl (.tmp rfl .nil)) rfl (h.retP (by rw [hd] <;> rfl) (by rw [hd]; exact ⟨(cX 0 (by decide) og),(cX 0 (by decide) og)⟩))
 ·
  have hd:dQ x=(x.p,true):=pt
  refine gz h <| (W) ?_; clear h ac wo; intro ac wo h
  exact ret h rfl (.cell (v:=(vQ x.p)) rfl (i:=0) rfl aa29 zz29 rfl rfl rfl (.tmp rfl .nil)) rfl (h.retP (by rw [hd] <;> rfl) (by rw [hd]; exact zx.1))
def aY (q:Qd) (t:GR):Qd :=
 bif (dQ t).2 then
  (ax (aH q ((dQ t).1)))
 else
  (aP (aq q.c0 (am q.c2 (ak t.r (am t.p t.p)))) (aI q t.p))
theorem fw (q:Qd) (t:GR) (k:Nat) (hk:(k+10)≤40) (zq:SzD (k+10) q) (zt:SzR (k+10) t) (w0:World):Calls Tryz.prog 83 #[(vD q),(vR t)] w0 (dE w0 (vD (aY q t)) (SzD k (aY q t))):=by
 refine enter (N:=38) (args:=[(vD q),(vR t)]) Tryz.func83 rfl rfl ?_; intro ac h
 have c1:=nV t (k+10) og zt
 have s1:=ap (c1 w0)
 refine gz h <| (xb) fun b1=>(xb) fun b2=>(xa) fun b3=>(xk c1) <| (xa) fun b4=>(ai) ?_ ?_ <;> clear h ac <;> intro ac wo h hc1
 ·
  have c2:=iG q ((dQ t).1) k og zq s1
  have s2:=ap (c2 w0)
  have c3:=kO (aH q ((dQ t).1)) k og s2
  have s3:=ap (c3 w0)
  have hd:aY q t=(ax (aH q ((dQ t).1))):=pt
  refine gz h <| (xk c2) <| (xk c3) <| (W) ?_; clear h ac wo; intro ac wo h
  exact ret h rfl (.cell (v:=(vD (ax (aH q ((dQ t).1))))) rfl (i:=1) rfl aa72 zz72 rfl rfl rfl .nil) rfl (h.retP (by rw [hd] <;> rfl) (by rw [hd]; exact s3))
 ·
  refine gz h <| (W) ?_; clear h ac wo; intro ac wo h
  have s4:=ap ((bo t.p t.p (k+8) og zt.1 zt.1) w0)
  have s5:=ap ((cM t.r (am t.p t.p) (k+5) og (fh zt og).2 s4) w0)
  replace h:=h.emps 1
  refine eZ mixed [dv _,dw _ [2],dv _,dw _ [2],dv _,dw _ [2],dv _,dv _,⟨.nd (.one 8 fun v=>∃ b,v=ptr b 0),[4]⟩,⟨.det undef,[4]⟩] [⟨_,[]⟩,⟨_,[]⟩,⟨_,[]⟩,⟨_,[]⟩,⟨.emp,[(8,.one 8 fun v=>.blk (bu v) (cQ oQ) 29),(9,.one 8 fun v=>.blk (bu v) (cQ (ak t.r (am t.p t.p))) 29)]⟩] h rfl (by kernel_rfl) ⟨fun _ _=>aQ (fa uu46 rfl zz29 rfl rfl rfl (k':=4)),fun _ _=>iy _ rfl rfl (js aa29 zz29 rfl rfl rfl (v:=(vQ t.r)) rfl),fun _ _=>aQ (fa uu46 rfl zz29 rfl rfl rfl (k':=0)),fun _ _=>iy _ rfl rfl (js aa29 zz29 rfl rfl rfl (v:=(vQ t.p)) rfl),fun _ _=>aQ (fa uu46 rfl zz29 rfl rfl rfl (k':=0)),fun _ _=>iy _ rfl rfl (js aa29 zz29 rfl rfl rfl (v:=(vQ t.p)) rfl),fun _ _=>fD (dZ Tryz.call172 rfl (bo t.p t.p (k+8) og zt.1 zt.1)),fun _ _=>fD (dZ cc148 rfl (cM t.r (am t.p t.p) (k+5) og (fh zt og).2 s4)),fun _ _=>oB (ψ:=fun v=>∃ b,v=ptr b 0) (B:=fun v=>[.blk (bu v) (cQ oQ) 29]) [.emp] rfl (fun v _=>by simp only [dg,bA] <;> rfl) (fun v hv=>by simpa [DF.one,bA] using hv) (jX (gI vv29 rfl)),(fun ξ hφ=>by obtain ⟨b5,hb8⟩:=hφ 8 rfl; exact kb [.blk b5 (cQ oQ) 29] [.blk b5 (cQ (ak t.r (am t.p t.p))) 29] (congrArg (fun v=>[Asn.blk (bu v) (cQ oQ) 29]) hb8) (congrArg (fun v=>[Asn.blk (bu v) (cQ (ak t.r (am t.p t.p))) 29]) hb8) (oi zz29 (Eq.trans rfl (congrArg some hb8)) rfl rfl rfl rfl rfl rfl)),trivial⟩ ?_
  clear h ac wo; intro ξ ac wo hφ h
  replace h:St w0 38 [(2,(ptr b1 0)),(3,(ptr b2 0)),(4,(ptr b3 0)),(7,ξ 8)] [.blk b4 (cQ ((dQ t).1)) 29,.blk b3 (cD oD) 72,.blk b2 (cR t) 46,.blk b1 (cD q) 72,.blk (bu (ξ 8)) (cQ (ak t.r (am t.p t.p))) 29] ac wo:=h.sub ⟨rfl,rfl,rfl,rfl,trivial⟩
  revert h
  obtain ⟨b5,hb8⟩:∃ b,ξ 8=ptr b 0:=hφ 8
  rw [hb8]; intro h
  clear hb8 hφ ξ
  refine gz h <| (W) ?_; clear h ac wo; intro ac wo h
  have s6:=ap ((bo q.c2 (ak t.r (am t.p t.p)) (k+3) og (lm zq og).2.2 s5) w0)
  have s7:=ap ((bQ q.c0 (am q.c2 (ak t.r (am t.p t.p))) k og (lm zq og).1 s6) w0)
  have s8:=ap ((io q t.p (k+2) og zq zt.1) w0)
  have s9:=ap ((cO (aq q.c0 (am q.c2 (ak t.r (am t.p t.p)))) (aI q t.p) k og s7 (cu s8 og)) w0)
  have hd:aY q t=(aP (aq q.c0 (am q.c2 (ak t.r (am t.p t.p)))) (aI q t.p)):=pt
  refine gz h <| (dr1 (H:=[⟨_,[]⟩,⟨.blk b3 (cD oD) 72,[(12,.con (.blk b3 (cD (aP (aq q.c0 (am q.c2 (ak t.r (am t.p t.p)))) (aI q t.p))) 72))]⟩,⟨_,[]⟩,⟨_,[]⟩,⟨_,[]⟩]) (hob:=(oK (bo q.c2 (ak t.r (am t.p t.p)) (k+3) og (lm zq og).2.2 s5)) <| (oK (bQ q.c0 (am q.c2 (ak t.r (am t.p t.p))) k og (lm zq og).1 s6)) <| (oK (io q t.p (k+2) og zq zt.1)) <| (oK (cO (aq q.c0 (am q.c2 (ak t.r (am t.p t.p)))) (aI q t.p) k og s7 (cu s8 og))) <| oE)) <| (W) ?_; clear h ac wo; intro ac wo h
  exact ret h rfl (.cell (v:=(vD (aP (aq q.c0 (am q.c2 (ak t.r (am t.p t.p)))) (aI q t.p)))) rfl (i:=1) rfl aa72 zz72 rfl rfl rfl .nil) rfl (h.retP (by rw [hd] <;> rfl) (by rw [hd]; exact s9))
def gg (p:Qd) (q:Qd) (t:GR):Bool :=
 (decide ((aY (dR p q) t)=(⟨(⟨(⟨false,0⟩:GI),(⟨false,0⟩:GI)⟩:GQ),(⟨(⟨false,0⟩:GI),(⟨false,0⟩:GI)⟩:GQ),(⟨(⟨false,0⟩:GI),(⟨false,0⟩:GI)⟩:GQ)⟩:Qd)))
theorem j4 (p:Qd) (q:Qd) (t:GR) (k:Nat) (hk:(k+14)≤40) (zp:SzD (k+14) p) (zq:SzD (k+14) q) (zt:SzR (k+14) t) (w0:World):Calls Tryz.prog 74 #[(vD p),(vD q),(vR t)] w0 (dE w0 (.bool (gg p q t)) (True)):=by
 refine enter (N:=14) (args:=[(vD p),(vD q),(vR t)]) Tryz.func74 rfl rfl ?_; intro ac h
 have s1:=ap ((kw p q (k+11) og zp zq) w0)
 have s2:=ap ((fw (dR p q) t (k+1) og s1 (fh zt og)) w0)
 refine gz h <| (xb) fun b1=>(xb) fun b2=>(xb) fun b3=>(dr0 (hob:=(oK (kw p q (k+11) og zp zq)) <| (oK (fw (dR p q) t (k+1) og s1 (fh zt og))) <| (oX (h:=by exact fun _=>aQ (bK w9 exs rfl (v:=(vD oD)) rfl))) <| oE)) <| (W) ?_; clear h ac; intro ac wo h
 exact (rt h) (h.retP (by unfold gg; rfl) trivial)
def dP (a:Iv) (b:Iv):Bool :=
 ((decide ((ao a.hi b.lo) < 0)) || (((ao a.hi b.lo) == 0) && (a.openHi || b.openLo)))
theorem pj (a:Iv) (b:Iv) (k:Nat) (hk:(k+20)≤40) (za:SzV (k+20) a) (zb:SzV (k+20) b) (w0:World):Calls Tryz.prog 152 #[(vV a),(vV b)] w0 (dE w0 (.bool (dP a b)) (True)):=by
 refine enter (N:=25) (args:=[(vV a),(vV b)]) Tryz.func152 rfl rfl ?_; intro ac h
 have p2:=ap ((dO a.hi b.lo k og za.2 zb.1) w0)
 refine gz h <| (xb) fun b1=>(xb) fun b2=>(xk (dO a.hi b.lo k og za.2 zb.1)) <| (W) ?_; clear h ac; intro ac wo h
 exact (rt h) (h.retP (by unfold dP; rfl) trivial)
def aM (i:Iv):Bool :=
 (decide (i.lo=i.hi))
theorem eM (i:Iv) (w0:World):Calls Tryz.prog 154 #[(vV i)] w0 (dE w0 (.bool (aM i)) (True)):=by
 refine enter (N:=8) (args:=[(vV i)]) Tryz.func154 rfl rfl ?_; intro ac h
 refine gz h <| (xb) fun b1=>(W) ?_; clear h ac; intro ac wo h
 exact (rt h) (h.retP (by unfold aM; rfl) trivial)
end Go.Sx
