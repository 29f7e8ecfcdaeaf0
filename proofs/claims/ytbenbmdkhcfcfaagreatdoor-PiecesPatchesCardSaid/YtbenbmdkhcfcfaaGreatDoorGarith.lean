import Derived.Test.YtbenbmdkhcfcfaaGreatDoorProg
import Derived.Test.YtbenbmdkhcfcfaaGreatDoorGara
set_option linter.unusedVariables false
set_option linter.unusedSimpArgs false
open Go.Proofs.Tryz renaming prog → zP, isAgg27 → aa27, sizeOf27 → zz27, runUnderlying71 → uu71, call22 → cc22, isAgg71 → aa71, sizeOf71 → zz71, zeroValue27 → vv27, isAgg53 → aa53, sizeOf53 → zz53, isAgg86 → aa86, sizeOf86 → zz86
namespace Go.Sx
open Go Go.RowKit Go.Proofs
set_option maxRecDepth 100000
set_option maxHeartbeats 40000000
attribute [local irreducible] Code.wp wpList Rd gW ObS Ent
def bC (x:GR):GQ :=
 bif x.neg then
  (ah (-1))
 else
  (ah 1)
theorem iT (x:GR) (k:Nat) (hk:k≤40) (zx:SzR k x) (w0:World):Calls zP 210 #[(vR x)] w0 (RetP w0 (vQ (bC x)) (SzQ k (bC x))):=by
 refine enter (N:=7) Tryz.func210 rfl rfl ?_; intro ac h
 refine gz h <| (xb) fun b1=>(xa) fun b2=>(ai) ?_ ?_ <;> clear h <;> intro _ _ h hc1
 ·
  have c1:=bR (-1) k og  og
  have s1:=au (c1 w0)
  have hd:bC x=(ah (-1)):=pt
  refine gz h <| (xk c1) <| (W) ?_; clear h; intro _ _ h
  exact ret h rfl (.cell (v:=(vQ (ah (-1)))) rfl (i:=0) rfl aa27 zz27 rfl rfl rfl .nil) rfl (h.retP (by rw [hd] <;> rfl) (by rw [hd]; exact s1))
 ·
  have c2:=bR 1 k og  og
  have s2:=au (c2 w0)
  have hd:bC x=(ah 1):=pt
  refine gz h <| (xk c2) <| (W) ?_; clear h; intro _ _ h
  exact ret h rfl (.cell (v:=(vQ (ah 1))) rfl (i:=0) rfl aa27 zz27 rfl rfl rfl .nil) rfl (h.retP (by rw [hd] <;> rfl) (by rw [hd]; exact s2))
def eX (a:GQ) (b:GQ) (r:GQ):Int :=
 bif ((((aO b)*(aO r)) == 0) || ((aO a) == ((aO b)*(aO r)))) then
  (aO a)
 else
  bif ((aO a) == 0) then
   ((aO b)*(aO r))
  else
   ((aO a)*(eS (aC a a) (aC (aC b b) r)))
theorem jd (a:GQ) (b:GQ) (r:GQ) (k:Nat) (hk:(k+8)≤40) (za:SzQ (k+8) a) (zb:SzQ (k+8) b) (zr:SzQ (k+8) r) (w0:World):Calls zP 211 #[(vQ a),(vQ b),(vQ r)] w0 (RetP w0 (.int .i64 (eX a b r)) ((-1≤(eX a b r)∧(eX a b r)≤1))):=by
 refine enter (N:=40) Tryz.func211 rfl rfl ?_; intro ac h
 have p2:=au ((dA a) w0)
 have p4:=au ((dA b) w0)
 have p6:=au ((dA r) w0)
 refine gz h <| (xb) fun b1=>(xb) fun b2=>(xb) fun b3=>(dr0 (hob:=(oK (dA a)) <| (oK (dA b)) <| (oK (dA r)) <| (oX (h:=by exact fun _=>bg (mg rfl rfl (r:=((aO b)*(aO r))) (by first | (rw [IntKind.wrap_i64]; omega) | exact iX og og)))) <| oE)) <| (ai) ?_ ?_ <;> clear h <;> intro _ _ h hc1
 ·
  have hd:eX a b r=(aO a):=pt
  exact (rx h) fun _ _ h=>(h.retP (by rw [hd] <;> rfl) (by rw [hd]; exact by first | omega | exact fZ og og))
 ·
  refine gz h <| (ai) ?_ ?_ <;> clear h <;> intro _ _ h hc2
  ·
   have hd2:=eq_of_beq hc2
   have hd:eX a b r=((aO b)*(aO r)):=pt
   exact (rx h) fun _ _ h=>(h.retP (by rw [hd] <;> rfl) (by rw [hd]; exact by first | omega | exact fZ og og))
  ·
   have hd2:=ne_of_beq_false hc2
   refine gz h <| (W) ?_; clear h; intro _ _ h
   have s7:=au ((bQ a a (k+6) og za za) w0)
   have s8:=au ((bQ b b (k+6) og zb zb) w0)
   have s9:=au ((bQ (aC b b) r (k+4) og s8 (fW zr og)) w0)
   have p11:=au ((kr (aC a a) (aC (aC b b) r) (k+3) og (fW s7 og) s9) w0)
   have hd:eX a b r=((aO a)*(eS (aC a a) (aC (aC b b) r))):=pt
   refine gz h <| (dr0 (hob:=(oK (bQ a a (k+6) og za za)) <| (oK (bQ b b (k+6) og zb zb)) <| (oK (bQ (aC b b) r (k+4) og s8 (fW zr og))) <| (oK (kr (aC a a) (aC (aC b b) r) (k+3) og (fW s7 og) s9)) <| (oX (h:=by exact fun _=>bg (mg rfl rfl (r:=((aO a)*(eS (aC a a) (aC (aC b b) r)))) (by first | (rw [IntKind.wrap_i64]; omega) | exact iX og og)))) <| oE)) <| (W) ?_; clear h; intro _ _ h
   exact (rt h) (h.retP (by rw [hd] <;> rfl) (by rw [hd]; exact by first | omega | exact fZ og og))
def an (x:GR) (y:GR):Int :=
 bif ((((aO (cp (bC y)))*(aO y.r)) == 0) || ((eX (aA x.p y.p) (bC x) x.r) == ((aO (cp (bC y)))*(aO y.r)))) then
  (eX (aA x.p y.p) (bC x) x.r)
 else
  bif ((eX (aA x.p y.p) (bC x) x.r) == 0) then
   ((aO (cp (bC y)))*(aO y.r))
  else
   ((eX (aA x.p y.p) (bC x) x.r)*(eX (aA (bc (aC (aA x.p y.p) (aA x.p y.p)) x.r) y.r) (aC (ah 2) (aC (aA x.p y.p) (bC x))) x.r))
theorem aS (x:GR) (y:GR) (k:Nat) (hk:(k+20)≤40) (zx:SzR (k+20) x) (zy:SzR (k+20) y) (w0:World):Calls zP 127 #[(vR x),(vR y)] w0 (RetP w0 (.int .i64 (an x y)) ((-1≤(an x y)∧(an x y)≤1))):=by
 refine enter (N:=65) Tryz.func127 rfl rfl ?_; intro ac h
 have s1:=au ((dM x.p y.p (k+17) og zx.1 zy.1) w0)
 have s2:=au ((iT x (k+20) og zx) w0)
 have s3:=au ((iT y (k+20) og zy) w0)
 have s4:=au ((jl (bC y) (k+20) og s3) w0)
 refine gz h <| (xb) fun b1=>(xb) fun b2=>(W) ?_; clear h ac; intro ac wo h
 replace h:=h.emps 3
 refine im mixed [dv _,dw _ [1],dv _,dw _ [0],dv _,dw _ [1],dv _,dw _ [0],dv _,dv _,y8 10 2,y8 11 3,y8 12 4,dw undef [2],dw undef [3],dw undef [4]] [ge _,ge _,⟨.emp,[(10,.one 10 fun v=>.blk (ch v) (cQ oQ) 27),(13,.one 10 fun v=>.blk (ch v) (cQ (aA x.p y.p)) 27)]⟩,⟨.emp,[(11,.one 11 fun v=>.blk (ch v) (cQ oQ) 27),(14,.one 11 fun v=>.blk (ch v) (cQ (bC x)) 27)]⟩,⟨.emp,[(12,.one 12 fun v=>.blk (ch v) (cQ oQ) 27),(15,.one 12 fun v=>.blk (ch v) (cQ (cp (bC y))) 27)]⟩] h rfl (by kernel_rfl) ⟨fun _ _=>bg (fa uu71 rfl zz27 rfl rfl rfl (k':=0)),fun _ _=>js _ rfl rfl (jr aa27 zz27 rfl rfl rfl (v:=(vQ x.p)) rfl),fun _ _=>bg (fa uu71 rfl zz27 rfl rfl rfl (k':=0)),fun _ _=>js _ rfl rfl (jr aa27 zz27 rfl rfl rfl (v:=(vQ y.p)) rfl),fun _ _=>kD (pz cc22 rfl (dM x.p y.p (k+17) og zx.1 zy.1)),fun _ _=>js _ rfl rfl (jr aa71 zz71 rfl rfl rfl (v:=(vR x)) rfl),fun _ _=>kD (pz Tryz.call210 rfl (iT x (k+20) og zx)),fun _ _=>js _ rfl rfl (jr aa71 zz71 rfl rfl rfl (v:=(vR y)) rfl),fun _ _=>kD (pz Tryz.call210 rfl (iT y (k+20) og zy)),fun _ _=>kD (pz Tryz.call63 rfl (jl (bC y) (k+20) og s3)),fun _ _=>mo (ψ:=fun v=>∃ b,v=ptr b 0) (B:=fun v=>[.blk (ch v) (cQ oQ) 27]) [.emp] rfl (fun v _=>by simp only [dO,bA] <;> rfl) (fun v hv=>by simpa [DF.one,bA] using hv) (jX (gY vv27 rfl)),fun _ _=>mo (ψ:=fun v=>∃ b,v=ptr b 0) (B:=fun v=>[.blk (ch v) (cQ oQ) 27]) [.emp] rfl (fun v _=>by simp only [dO,bA] <;> rfl) (fun v hv=>by simpa [DF.one,bA] using hv) (jX (gY vv27 rfl)),fun _ _=>mo (ψ:=fun v=>∃ b,v=ptr b 0) (B:=fun v=>[.blk (ch v) (cQ oQ) 27]) [.emp] rfl (fun v _=>by simp only [dO,bA] <;> rfl) (fun v hv=>by simpa [DF.one,bA] using hv) (jX (gY vv27 rfl)),(fun ξ hφ=>by obtain ⟨b3,hb10⟩:=hφ 10 rfl; exact m0 [.blk b3 (cQ oQ) 27] [.blk b3 (cQ (aA x.p y.p)) 27] (congrArg (fun v=>[Asn.blk (ch v) (cQ oQ) 27]) hb10) (congrArg (fun v=>[Asn.blk (ch v) (cQ (aA x.p y.p)) 27]) hb10) (qp zz27 (Eq.trans rfl (congrArg some hb10)) rfl rfl rfl rfl rfl rfl)),(fun ξ hφ=>by obtain ⟨b4,hb11⟩:=hφ 11 rfl; exact m0 [.blk b4 (cQ oQ) 27] [.blk b4 (cQ (bC x)) 27] (congrArg (fun v=>[Asn.blk (ch v) (cQ oQ) 27]) hb11) (congrArg (fun v=>[Asn.blk (ch v) (cQ (bC x)) 27]) hb11) (qp zz27 (Eq.trans rfl (congrArg some hb11)) rfl rfl rfl rfl rfl rfl)),(fun ξ hφ=>by obtain ⟨b5,hb12⟩:=hφ 12 rfl; exact m0 [.blk b5 (cQ oQ) 27] [.blk b5 (cQ (cp (bC y))) 27] (congrArg (fun v=>[Asn.blk (ch v) (cQ oQ) 27]) hb12) (congrArg (fun v=>[Asn.blk (ch v) (cQ (cp (bC y))) 27]) hb12) (qp zz27 (Eq.trans rfl (congrArg some hb12)) rfl rfl rfl rfl rfl rfl)),trivial⟩ ?_
 clear h ac wo; intro ξ ac wo hφ h
 replace h:St w0 65 [(2,(ptr b1 0)),(3,(ptr b2 0)),(5,ξ 10),(6,ξ 11),(7,ξ 12)] [.blk b2 (cR y) 71,.blk b1 (cR x) 71,.blk (ch (ξ 10)) (cQ (aA x.p y.p)) 27,.blk (ch (ξ 11)) (cQ (bC x)) 27,.blk (ch (ξ 12)) (cQ (cp (bC y))) 27] ac wo:=h.sub ⟨rfl,rfl,rfl,rfl,rfl,trivial⟩
 revert h
 obtain ⟨b3,hb10⟩:∃ b,ξ 10=ptr b 0:=hφ 10
 obtain ⟨b4,hb11⟩:∃ b,ξ 11=ptr b 0:=hφ 11
 obtain ⟨b5,hb12⟩:∃ b,ξ 12=ptr b 0:=hφ 12
 rw [hb10,hb11,hb12]; intro h
 clear hb10 hb11 hb12 hφ ξ
 refine gz h <| (W) ?_; clear h ac wo; intro ac wo h
 have p6:=au ((jd (aA x.p y.p) (bC x) x.r (k+9) og s1 (fW s2 og) (cr zx og).2) w0)
 have p8:=au ((dA (cp (bC y))) w0)
 have p10:=au ((dA y.r) w0)
 refine gz h <| (dr0 (hob:=(oK (jd (aA x.p y.p) (bC x) x.r (k+9) og s1 (fW s2 og) (cr zx og).2)) <| (oK (dA (cp (bC y)))) <| (oK (dA y.r)) <| (oX (h:=by exact fun _=>bg (mg rfl rfl (r:=((aO (cp (bC y)))*(aO y.r))) (by first | (rw [IntKind.wrap_i64]; omega) | exact iX og og)))) <| oE)) <| (ai) ?_ ?_ <;> clear h ac wo <;> intro ac wo h hc1
 ·
  have hd:an x y=(eX (aA x.p y.p) (bC x) x.r):=pt
  exact (rx h) fun _ _ h=>(h.retP (by rw [hd] <;> rfl) (by rw [hd]; exact by first | omega | exact fZ og og))
 ·
  refine gz h <| (ai) ?_ ?_ <;> clear h ac wo <;> intro ac wo h hc2
  ·
   have hd2:=eq_of_beq hc2
   have hd:an x y=((aO (cp (bC y)))*(aO y.r)):=pt
   exact (rx h) fun _ _ h=>(h.retP (by rw [hd] <;> rfl) (by rw [hd]; exact by first | omega | exact fZ og og))
  ·
   have hd2:=ne_of_beq_false hc2
   refine gz h <| (W) ?_; clear h ac wo; intro ac wo h
   have s11:=au ((bQ (aA x.p y.p) (aA x.p y.p) (k+15) og s1 s1) w0)
   have s12:=au ((dl (aC (aA x.p y.p) (aA x.p y.p)) x.r (k+12) og s11 (cr zx og).2) w0)
   have s13:=au ((dM (bc (aC (aA x.p y.p) (aA x.p y.p)) x.r) y.r (k+9) og s12 (cr zy og).2) w0)
   replace h:=h.emps 1
   refine im mixed [dw _ [2],dw _ [2],dv _,dv _,dw _ [1],dv _,dv _,dw _ [0],dv _,y8 9 5,dw undef [5]] [ge _,ge _,ge _,ge _,ge _,⟨.emp,[(9,.one 9 fun v=>.blk (ch v) (cQ oQ) 27),(10,.one 9 fun v=>.blk (ch v) (cQ (aA (bc (aC (aA x.p y.p) (aA x.p y.p)) x.r) y.r)) 27)]⟩] h rfl (by kernel_rfl) ⟨fun _ _=>js _ rfl rfl (jr aa27 zz27 rfl rfl rfl (v:=(vQ (aA x.p y.p))) rfl),fun _ _=>js _ rfl rfl (jr aa27 zz27 rfl rfl rfl (v:=(vQ (aA x.p y.p))) rfl),fun _ _=>kD (pz Tryz.call21 rfl (bQ (aA x.p y.p) (aA x.p y.p) (k+15) og s1 s1)),fun _ _=>bg (fa uu71 rfl zz27 rfl rfl rfl (k':=4)),fun _ _=>js _ rfl rfl (jr aa27 zz27 rfl rfl rfl (v:=(vQ x.r)) rfl),fun _ _=>kD (pz Tryz.call20 rfl (dl (aC (aA x.p y.p) (aA x.p y.p)) x.r (k+12) og s11 (cr zx og).2)),fun _ _=>bg (fa uu71 rfl zz27 rfl rfl rfl (k':=4)),fun _ _=>js _ rfl rfl (jr aa27 zz27 rfl rfl rfl (v:=(vQ y.r)) rfl),fun _ _=>kD (pz cc22 rfl (dM (bc (aC (aA x.p y.p) (aA x.p y.p)) x.r) y.r (k+9) og s12 (cr zy og).2)),fun _ _=>mo (ψ:=fun v=>∃ b,v=ptr b 0) (B:=fun v=>[.blk (ch v) (cQ oQ) 27]) [.emp] rfl (fun v _=>by simp only [dO,bA] <;> rfl) (fun v hv=>by simpa [DF.one,bA] using hv) (jX (gY vv27 rfl)),(fun ξ hφ=>by obtain ⟨b6,hb9⟩:=hφ 9 rfl; exact m0 [.blk b6 (cQ oQ) 27] [.blk b6 (cQ (aA (bc (aC (aA x.p y.p) (aA x.p y.p)) x.r) y.r)) 27] (congrArg (fun v=>[Asn.blk (ch v) (cQ oQ) 27]) hb9) (congrArg (fun v=>[Asn.blk (ch v) (cQ (aA (bc (aC (aA x.p y.p) (aA x.p y.p)) x.r) y.r)) 27]) hb9) (qp zz27 (Eq.trans rfl (congrArg some hb9)) rfl rfl rfl rfl rfl rfl)),trivial⟩ ?_
   clear h ac wo; intro ξ ac wo hφ h
   replace h:St w0 65 [(2,(ptr b1 0)),(5,(ptr b3 0)),(6,(ptr b4 0)),(8,(.int .i64 (eX (aA x.p y.p) (bC x) x.r))),(10,ξ 9)] [.blk b2 (cR y) 71,.blk b1 (cR x) 71,.blk b3 (cQ (aA x.p y.p)) 27,.blk b4 (cQ (bC x)) 27,.blk b5 (cQ (cp (bC y))) 27,.blk (ch (ξ 9)) (cQ (aA (bc (aC (aA x.p y.p) (aA x.p y.p)) x.r) y.r)) 27] ac wo:=h.sub ⟨rfl,rfl,rfl,rfl,rfl,trivial⟩
   revert h
   obtain ⟨b6,hb9⟩:∃ b,ξ 9=ptr b 0:=hφ 9
   rw [hb9]; intro h
   clear hb9 hφ ξ
   refine gz h <| (W) ?_; clear h ac wo; intro ac wo h
   have s14:=au ((bR 2 (k+20) og  og) w0)
   have s15:=au ((bQ (aA x.p y.p) (bC x) (k+15) og s1 (fW s2 og)) w0)
   have s16:=au ((bQ (ah 2) (aC (aA x.p y.p) (bC x)) (k+13) og (fW s14 og) s15) w0)
   have p18:=au ((jd (aA (bc (aC (aA x.p y.p) (aA x.p y.p)) x.r) y.r) (aC (ah 2) (aC (aA x.p y.p) (bC x))) x.r (k+1) og s13 (fW s16 og) (cr zx og).2) w0)
   have hd:an x y=((eX (aA x.p y.p) (bC x) x.r)*(eX (aA (bc (aC (aA x.p y.p) (aA x.p y.p)) x.r) y.r) (aC (ah 2) (aC (aA x.p y.p) (bC x))) x.r)):=pt
   refine gz h <| (dr0 (hob:=(oK (bR 2 (k+20) og  og)) <| (oK (bQ (aA x.p y.p) (bC x) (k+15) og s1 (fW s2 og))) <| (oK (bQ (ah 2) (aC (aA x.p y.p) (bC x)) (k+13) og (fW s14 og) s15)) <| (oK (jd (aA (bc (aC (aA x.p y.p) (aA x.p y.p)) x.r) y.r) (aC (ah 2) (aC (aA x.p y.p) (bC x))) x.r (k+1) og s13 (fW s16 og) (cr zx og).2)) <| (oX (h:=by exact fun _=>bg (mg rfl rfl (r:=((eX (aA x.p y.p) (bC x) x.r)*(eX (aA (bc (aC (aA x.p y.p) (aA x.p y.p)) x.r) y.r) (aC (ah 2) (aC (aA x.p y.p) (bC x))) x.r))) (by first | (rw [IntKind.wrap_i64]; omega) | exact iX og og)))) <| oE)) <| (W) ?_; clear h ac wo; intro ac wo h
   exact (rt h) (h.retP (by rw [hd] <;> rfl) (by rw [hd]; exact by first | omega | exact fZ og og))
def bB (n:Int):GR :=
 (⟨(ah n),(⟨(⟨false,0⟩:GI),(⟨false,0⟩:GI)⟩:GQ),false⟩:GR)
theorem pD (n:Int) (k:Nat) (hk:k≤40) (hn:-9223372036854775808≤n∧n≤9223372036854775807) (w0:World):Calls zP 86 #[(.int .i64 n)] w0 (RetP w0 (vR (bB n)) (SzR k (bB n))):=by
 refine enter (N:=6) Tryz.func86 rfl rfl ?_; intro ac h
 have c1:=bR n k og  og
 have s1:=au (c1 w0)
 refine gz h <| (xa) fun b1=>(xk c1) <| (xo (hs:=by exact bN bld71 exs rfl (v:=(vR (⟨(ah n),oQ,false⟩:GR))) rfl)) <| (W) ?_; clear h; intro _ _ h
 exact ret h rfl (.cell (v:=(vR (⟨(ah n),oQ,false⟩:GR))) rfl (i:=0) rfl aa71 zz71 rfl rfl rfl .nil) rfl (h.retP (by unfold bB; rfl) (by unfold bB; exact ⟨s1,⟨(bJ 0 DC og),(bJ 0 DC og)⟩⟩))
def dP (r:GQ):GR :=
 (⟨r,(⟨(⟨false,0⟩:GI),(⟨false,0⟩:GI)⟩:GQ),false⟩:GR)
theorem md (r:GQ) (k:Nat) (hk:k≤40) (zr:SzQ k r) (w0:World):Calls zP 88 #[(vQ r)] w0 (RetP w0 (vR (dP r)) (SzR k (dP r))):=by
 refine enter (N:=5) Tryz.func88 rfl rfl ?_; intro ac h
 refine gz h <| (xb) fun b1=>(xa) fun b2=>(xo (hs:=by exact bN bld71 exs rfl (v:=(vR (⟨r,oQ,false⟩:GR))) rfl)) <| (W) ?_; clear h; intro _ _ h
 exact ret h rfl (.cell (v:=(vR (⟨r,oQ,false⟩:GR))) rfl (i:=0) rfl aa71 zz71 rfl rfl rfl .nil) rfl (h.retP (by unfold dP; rfl) (by unfold dP; exact ⟨zr,⟨(bJ 0 DC og),(bJ 0 DC og)⟩⟩))
def bm (c0:GQ) (c1:GQ):Qd :=
 (⟨c0,c1,(⟨(⟨false,0⟩:GI),(⟨false,0⟩:GI)⟩:GQ)⟩:Qd)
theorem g7 (c0:GQ) (c1:GQ) (k:Nat) (hk:k≤40) (zc0:SzQ k c0) (zc1:SzQ k c1) (w0:World):Calls zP 107 #[(vQ c0),(vQ c1)] w0 (RetP w0 (vD (bm c0 c1)) (SzD k (bm c0 c1))):=by
 refine enter (N:=8) Tryz.func107 rfl rfl ?_; intro ac h
 refine gz h <| (xb) fun b1=>(xb) fun b2=>(xa) fun b3=>(xo (hs:=by exact bN yU exs rfl (v:=(vD (⟨c0,c1,oQ⟩:Qd))) rfl)) <| (W) ?_; clear h; intro _ _ h
 exact ret h rfl (.cell (v:=(vD (⟨c0,c1,oQ⟩:Qd))) rfl (i:=0) rfl aa53 zz53 rfl rfl rfl .nil) rfl (h.retP (by unfold bm; rfl) (by unfold bm; exact ⟨zc0,zc1,⟨(bJ 0 DC og),(bJ 0 DC og)⟩⟩))
def es (q:Qd) (t:GQ):GQ :=
 (bc q.c0 (aC t (bc q.c1 (aC t q.c2))))
theorem ob (q:Qd) (t:GQ) (k:Nat) (hk:(k+10)≤40) (zq:SzD (k+10) q) (zt:SzQ (k+10) t) (w0:World):Calls zP 101 #[(vD q),(vQ t)] w0 (RetP w0 (vQ (es q t)) (SzQ k (es q t))):=by
 refine enter (N:=17) Tryz.func101 rfl rfl ?_; intro ac h
 have s1:=au ((bQ t q.c2 (k+8) og zt zq.2.2) w0)
 have s2:=au ((dl q.c1 (aC t q.c2) (k+5) og (dh zq og).2.1 s1) w0)
 have s3:=au ((bQ t (bc q.c1 (aC t q.c2)) (k+3) og (fW zt og) s2) w0)
 have s4:=au ((dl q.c0 (aC t (bc q.c1 (aC t q.c2))) k og (dh zq og).1 s3) w0)
 refine gz h <| (xb) fun b1=>(xb) fun b2=>(xa) fun b3=>(dr1 (H:=[⟨.blk b3 (cQ oQ) 27,[(12,.con (.blk b3 (cQ (bc q.c0 (aC t (bc q.c1 (aC t q.c2))))) 27))]⟩,ge _,ge _]) (hob:=(oK (bQ t q.c2 (k+8) og zt zq.2.2)) <| (oK (dl q.c1 (aC t q.c2) (k+5) og (dh zq og).2.1 s1)) <| (oK (bQ t (bc q.c1 (aC t q.c2)) (k+3) og (fW zt og) s2)) <| (oK (dl q.c0 (aC t (bc q.c1 (aC t q.c2))) k og (dh zq og).1 s3)) <| oE)) <| (W) ?_; clear h; intro _ _ h
 exact ret h rfl (.cell (v:=(vQ (bc q.c0 (aC t (bc q.c1 (aC t q.c2)))))) rfl (i:=0) rfl aa27 zz27 rfl rfl rfl .nil) rfl (h.retP (by unfold es; rfl) (by unfold es; exact s4))
def dC (q:Qd) (t:GQ):GQ :=
 (bc q.c1 (aC (bc q.c2 q.c2) t))
theorem kK (q:Qd) (t:GQ) (k:Nat) (hk:(k+8)≤40) (zq:SzD (k+8) q) (zt:SzQ (k+8) t) (w0:World):Calls zP 213 #[(vD q),(vQ t)] w0 (RetP w0 (vQ (dC q t)) (SzQ k (dC q t))):=by
 refine enter (N:=15) Tryz.func213 rfl rfl ?_; intro ac h
 have s1:=au ((dl q.c2 q.c2 (k+5) og zq.2.2 zq.2.2) w0)
 have s2:=au ((bQ (bc q.c2 q.c2) t (k+3) og s1 (fW zt og)) w0)
 have s3:=au ((dl q.c1 (aC (bc q.c2 q.c2) t) k og (dh zq og).2.1 s2) w0)
 refine gz h <| (xb) fun b1=>(xb) fun b2=>(xa) fun b3=>(dr1 (H:=[⟨.blk b3 (cQ oQ) 27,[(10,.con (.blk b3 (cQ (bc q.c1 (aC (bc q.c2 q.c2) t))) 27))]⟩,ge _,ge _]) (hob:=(oK (dl q.c2 q.c2 (k+5) og zq.2.2 zq.2.2)) <| (oK (bQ (bc q.c2 q.c2) t (k+3) og s1 (fW zt og))) <| (oK (dl q.c1 (aC (bc q.c2 q.c2) t) k og (dh zq og).2.1 s2)) <| oE)) <| (W) ?_; clear h; intro _ _ h
 exact ret h rfl (.cell (v:=(vQ (bc q.c1 (aC (bc q.c2 q.c2) t)))) rfl (i:=0) rfl aa27 zz27 rfl rfl rfl .nil) rfl (h.retP (by unfold dC; rfl) (by unfold dC; exact s3))
def d7 (p:Qd) (q:Qd):Qd :=
 (⟨(aA p.c0 q.c0),(aA p.c1 q.c1),(aA p.c2 q.c2)⟩:Qd)
theorem lR (p:Qd) (q:Qd) (k:Nat) (hk:(k+3)≤40) (zp:SzD (k+3) p) (zq:SzD (k+3) q) (w0:World):Calls zP 131 #[(vD p),(vD q)] w0 (RetP w0 (vD (d7 p q)) (SzD k (d7 p q))):=by
 refine enter (N:=21) Tryz.func131 rfl rfl ?_; intro ac h
 have s1:=au ((dM p.c0 q.c0 k og zp.1 zq.1) w0)
 have s2:=au ((dM p.c1 q.c1 k og zp.2.1 zq.2.1) w0)
 have s3:=au ((dM p.c2 q.c2 k og zp.2.2 zq.2.2) w0)
 refine gz h <| (xb) fun b1=>(xb) fun b2=>(xa) fun b3=>(dr1 (H:=[⟨.blk b3 (cD oD) 53,[(16,.con (.blk b3 (cD (⟨(aA p.c0 q.c0),(aA p.c1 q.c1),(aA p.c2 q.c2)⟩:Qd)) 53))]⟩,ge _,ge _]) (hob:=(oK (dM p.c0 q.c0 k og zp.1 zq.1)) <| (oK (dM p.c1 q.c1 k og zp.2.1 zq.2.1)) <| (oK (dM p.c2 q.c2 k og zp.2.2 zq.2.2)) <| (oX (h:=by exact fun _=>bg (bN yU exs rfl (v:=(vD (⟨(aA p.c0 q.c0),(aA p.c1 q.c1),(aA p.c2 q.c2)⟩:Qd))) rfl))) <| oE)) <| (W) ?_; clear h; intro _ _ h
 exact ret h rfl (.cell (v:=(vD (⟨(aA p.c0 q.c0),(aA p.c1 q.c1),(aA p.c2 q.c2)⟩:Qd))) rfl (i:=0) rfl aa53 zz53 rfl rfl rfl .nil) rfl (h.retP (by unfold d7; rfl) (by unfold d7; exact ⟨s1,s2,s3⟩))
def d6 (x:GR):GQ×Bool :=
 bif (!(decide (x.r=(⟨(⟨false,0⟩:GI),(⟨false,0⟩:GI)⟩:GQ)))) then
  ((⟨(⟨false,0⟩:GI),(⟨false,0⟩:GI)⟩:GQ),false)
 else
  (x.p,true)
theorem oZ (x:GR) (k:Nat) (hk:k≤40) (zx:SzR k x) (w0:World):Calls zP 212 #[(vR x)] w0 (RetP w0 (.tuple #[(vQ ((d6 x).1)),(.bool ((d6 x).2))]) (SzQ k ((d6 x).1))):=by
 refine enter (N:=11) Tryz.func212 rfl rfl ?_; intro ac h
 refine gz h <| (xb) fun b1=>(xa) fun b2=>(xo (hs:=by exact bN qg exs rfl (v:=(vQ oQ)) rfl)) <| (ai) ?_ ?_ <;> clear h <;> intro _ _ h hc1
 ·
  have hd:d6 x=(oQ,false):=pt
  refine gz h <| (xo (hs:=by exact bN qg exs rfl (v:=(vQ oQ)) rfl)) <| (W) ?_; clear h; intro _ _ h
  exact ret h rfl (.cell (v:=(vQ oQ)) rfl (i:=0) rfl aa27 zz27 rfl rfl rfl (.tmp rfl .nil)) rfl (h.retP (by rw [hd] <;> rfl) (by rw [hd]; exact ⟨(bJ 0 DC og),(bJ 0 DC og)⟩))
 ·
  have hd:d6 x=(x.p,true):=pt
  refine gz h <| (W) ?_; clear h; intro _ _ h
  exact ret h rfl (.cell (v:=(vQ x.p)) rfl (i:=0) rfl aa27 zz27 rfl rfl rfl (.tmp rfl .nil)) rfl (h.retP (by rw [hd] <;> rfl) (by rw [hd]; exact zx.1))
def bX (q:Qd) (t:GR):Qd :=
 bif (d6 t).2 then
  (az (es q ((d6 t).1)))
 else
  (bm (bc q.c0 (aC q.c2 (aA t.r (aC t.p t.p)))) (dC q t.p))
theorem i6 (q:Qd) (t:GR) (k:Nat) (hk:(k+10)≤40) (zq:SzD (k+10) q) (zt:SzR (k+10) t) (w0:World):Calls zP 130 #[(vD q),(vR t)] w0 (RetP w0 (vD (bX q t)) (SzD k (bX q t))):=by
 refine enter (N:=38) Tryz.func130 rfl rfl ?_; intro ac h
 have c1:=oZ t (k+10) og zt
 have s1:=au (c1 w0)
 refine gz h <| (xb) fun b1=>(xb) fun b2=>(xa) fun b3=>(xk c1) <| (xa) fun b4=>(ai) ?_ ?_ <;> clear h ac <;> intro ac wo h hc1
 ·
  have c2:=ob q ((d6 t).1) k og zq s1
  have s2:=au (c2 w0)
  have c3:=iz (es q ((d6 t).1)) k og s2
  have s3:=au (c3 w0)
  have hd:bX q t=(az (es q ((d6 t).1))):=pt
  refine gz h <| (xk c2) <| (xk c3) <| (W) ?_; clear h ac wo; intro ac wo h
  exact ret h rfl (.cell (v:=(vD (az (es q ((d6 t).1))))) rfl (i:=1) rfl aa53 zz53 rfl rfl rfl .nil) rfl (h.retP (by rw [hd] <;> rfl) (by rw [hd]; exact s3))
 ·
  refine gz h <| (W) ?_; clear h ac wo; intro ac wo h
  have s4:=au ((bQ t.p t.p (k+8) og zt.1 zt.1) w0)
  have s5:=au ((dM t.r (aC t.p t.p) (k+5) og (cr zt og).2 s4) w0)
  replace h:=h.emps 1
  refine im mixed [dv _,dw _ [2],dv _,dw _ [2],dv _,dw _ [2],dv _,dv _,y8 8 4,dw undef [4]] [ge _,ge _,ge _,ge _,⟨.emp,[(8,.one 8 fun v=>.blk (ch v) (cQ oQ) 27),(9,.one 8 fun v=>.blk (ch v) (cQ (aA t.r (aC t.p t.p))) 27)]⟩] h rfl (by kernel_rfl) ⟨fun _ _=>bg (fa uu71 rfl zz27 rfl rfl rfl (k':=4)),fun _ _=>js _ rfl rfl (jr aa27 zz27 rfl rfl rfl (v:=(vQ t.r)) rfl),fun _ _=>bg (fa uu71 rfl zz27 rfl rfl rfl (k':=0)),fun _ _=>js _ rfl rfl (jr aa27 zz27 rfl rfl rfl (v:=(vQ t.p)) rfl),fun _ _=>bg (fa uu71 rfl zz27 rfl rfl rfl (k':=0)),fun _ _=>js _ rfl rfl (jr aa27 zz27 rfl rfl rfl (v:=(vQ t.p)) rfl),fun _ _=>kD (pz Tryz.call21 rfl (bQ t.p t.p (k+8) og zt.1 zt.1)),fun _ _=>kD (pz cc22 rfl (dM t.r (aC t.p t.p) (k+5) og (cr zt og).2 s4)),fun _ _=>mo (ψ:=fun v=>∃ b,v=ptr b 0) (B:=fun v=>[.blk (ch v) (cQ oQ) 27]) [.emp] rfl (fun v _=>by simp only [dO,bA] <;> rfl) (fun v hv=>by simpa [DF.one,bA] using hv) (jX (gY vv27 rfl)),(fun ξ hφ=>by obtain ⟨b5,hb8⟩:=hφ 8 rfl; exact m0 [.blk b5 (cQ oQ) 27] [.blk b5 (cQ (aA t.r (aC t.p t.p))) 27] (congrArg (fun v=>[Asn.blk (ch v) (cQ oQ) 27]) hb8) (congrArg (fun v=>[Asn.blk (ch v) (cQ (aA t.r (aC t.p t.p))) 27]) hb8) (qp zz27 (Eq.trans rfl (congrArg some hb8)) rfl rfl rfl rfl rfl rfl)),trivial⟩ ?_
  clear h ac wo; intro ξ ac wo hφ h
  replace h:St w0 38 [(2,(ptr b1 0)),(3,(ptr b2 0)),(4,(ptr b3 0)),(7,ξ 8)] [.blk b4 (cQ ((d6 t).1)) 27,.blk b3 (cD oD) 53,.blk b2 (cR t) 71,.blk b1 (cD q) 53,.blk (ch (ξ 8)) (cQ (aA t.r (aC t.p t.p))) 27] ac wo:=h.sub ⟨rfl,rfl,rfl,rfl,trivial⟩
  revert h
  obtain ⟨b5,hb8⟩:∃ b,ξ 8=ptr b 0:=hφ 8
  rw [hb8]; intro h
  clear hb8 hφ ξ
  refine gz h <| (W) ?_; clear h ac wo; intro ac wo h
  have s6:=au ((bQ q.c2 (aA t.r (aC t.p t.p)) (k+3) og (dh zq og).2.2 s5) w0)
  have s7:=au ((dl q.c0 (aC q.c2 (aA t.r (aC t.p t.p))) k og (dh zq og).1 s6) w0)
  have s8:=au ((kK q t.p (k+2) og zq zt.1) w0)
  have s9:=au ((g7 (bc q.c0 (aC q.c2 (aA t.r (aC t.p t.p)))) (dC q t.p) k og s7 (fW s8 og)) w0)
  have hd:bX q t=(bm (bc q.c0 (aC q.c2 (aA t.r (aC t.p t.p)))) (dC q t.p)):=pt
  refine gz h <| (dr1 (H:=[ge _,⟨.blk b3 (cD oD) 53,[(12,.con (.blk b3 (cD (bm (bc q.c0 (aC q.c2 (aA t.r (aC t.p t.p)))) (dC q t.p))) 53))]⟩,ge _,ge _,ge _]) (hob:=(oK (bQ q.c2 (aA t.r (aC t.p t.p)) (k+3) og (dh zq og).2.2 s5)) <| (oK (dl q.c0 (aC q.c2 (aA t.r (aC t.p t.p))) k og (dh zq og).1 s6)) <| (oK (kK q t.p (k+2) og zq zt.1)) <| (oK (g7 (bc q.c0 (aC q.c2 (aA t.r (aC t.p t.p)))) (dC q t.p) k og s7 (fW s8 og))) <| oE)) <| (W) ?_; clear h ac wo; intro ac wo h
  exact ret h rfl (.cell (v:=(vD (bm (bc q.c0 (aC q.c2 (aA t.r (aC t.p t.p)))) (dC q t.p)))) rfl (i:=1) rfl aa53 zz53 rfl rfl rfl .nil) rfl (h.retP (by rw [hd] <;> rfl) (by rw [hd]; exact s9))
def fG (p:Qd) (q:Qd) (t:GR):Bool :=
 (decide ((bX (d7 p q) t)=(⟨(⟨(⟨false,0⟩:GI),(⟨false,0⟩:GI)⟩:GQ),(⟨(⟨false,0⟩:GI),(⟨false,0⟩:GI)⟩:GQ),(⟨(⟨false,0⟩:GI),(⟨false,0⟩:GI)⟩:GQ)⟩:Qd)))
theorem jI (p:Qd) (q:Qd) (t:GR) (k:Nat) (hk:(k+14)≤40) (zp:SzD (k+14) p) (zq:SzD (k+14) q) (zt:SzR (k+14) t) (w0:World):Calls zP 39 #[(vD p),(vD q),(vR t)] w0 (RetP w0 (.bool (fG p q t)) (True)):=by
 refine enter (N:=14) Tryz.func39 rfl rfl ?_; intro ac h
 have s1:=au ((lR p q (k+11) og zp zq) w0)
 have s2:=au ((i6 (d7 p q) t (k+1) og s1 (cr zt og)) w0)
 refine gz h <| (xb) fun b1=>(xb) fun b2=>(xb) fun b3=>(dr0 (hob:=(oK (lR p q (k+11) og zp zq)) <| (oK (i6 (d7 p q) t (k+1) og s1 (cr zt og))) <| (oX (h:=by exact fun _=>bg (bN yU exs rfl (v:=(vD oD)) rfl))) <| oE)) <| (W) ?_; clear h; intro _ _ h
 exact (rt h) (h.retP (by unfold fG; rfl) trivial)
def dI (a:Iv) (b:Iv):Bool :=
 ((decide ((an a.hi b.lo) < 0)) || (((an a.hi b.lo) == 0) && (a.openHi || b.openLo)))
theorem mh (a:Iv) (b:Iv) (k:Nat) (hk:(k+20)≤40) (za:SzV (k+20) a) (zb:SzV (k+20) b) (w0:World):Calls zP 118 #[(vV a),(vV b)] w0 (RetP w0 (.bool (dI a b)) (True)):=by
 refine enter (N:=25) Tryz.func118 rfl rfl ?_; intro ac h
 have p2:=au ((aS a.hi b.lo k og za.2 zb.1) w0)
 refine gz h <| (xb) fun b1=>(xb) fun b2=>(xk (aS a.hi b.lo k og za.2 zb.1)) <| (W) ?_; clear h; intro _ _ h
 exact (rt h) (h.retP (by unfold dI; rfl) trivial)
def aN (i:Iv):Bool :=
 (decide (i.lo=i.hi))
theorem e9 (i:Iv) (w0:World):Calls zP 150 #[(vV i)] w0 (RetP w0 (.bool (aN i)) (True)):=by
 refine enter (N:=8) Tryz.func150 rfl rfl ?_; intro ac h
 refine gz h <| (xb) fun b1=>(W) ?_; clear h; intro _ _ h
 exact (rt h) (h.retP (by unfold aN; rfl) trivial)
def fx (a:Iv) (b:Iv):Bool :=
 ((decide ((an a.hi b.hi) < 0)) || (((an a.hi b.hi) == 0) && (a.openHi || (!b.openHi))))
def bf (a:Iv) (b:Iv):Iv×Bool :=
 bif (decide ((an a.lo b.lo) < 0)) then
  bif (decide ((an a.hi b.hi)>0)) then
   ((⟨b.lo,b.hi,b.openLo,b.openHi⟩:Iv),((decide ((an b.lo b.hi) < 0)) || ((((an b.lo b.hi) == 0) && (!b.openLo)) && (!b.openHi))))
  else
   bif ((an a.hi b.hi) == 0) then
    ((⟨b.lo,a.hi,b.openLo,(a.openHi || b.openHi)⟩:Iv),((decide ((an b.lo a.hi) < 0)) || ((((an b.lo a.hi) == 0) && (!b.openLo)) && (!(a.openHi || b.openHi)))))
   else
    ((⟨b.lo,a.hi,b.openLo,a.openHi⟩:Iv),((decide ((an b.lo a.hi) < 0)) || ((((an b.lo a.hi) == 0) && (!b.openLo)) && (!a.openHi))))
 else
  bif ((an a.lo b.lo) == 0) then
   bif (decide ((an a.hi b.hi)>0)) then
    ((⟨a.lo,b.hi,(a.openLo || b.openLo),b.openHi⟩:Iv),((decide ((an a.lo b.hi) < 0)) || ((((an a.lo b.hi) == 0) && (!(a.openLo || b.openLo))) && (!b.openHi))))
   else
    bif ((an a.hi b.hi) == 0) then
     ((⟨a.lo,a.hi,(a.openLo || b.openLo),(a.openHi || b.openHi)⟩:Iv),((decide ((an a.lo a.hi) < 0)) || ((((an a.lo a.hi) == 0) && (!(a.openLo || b.openLo))) && (!(a.openHi || b.openHi)))))
    else
     ((⟨a.lo,a.hi,(a.openLo || b.openLo),a.openHi⟩:Iv),((decide ((an a.lo a.hi) < 0)) || ((((an a.lo a.hi) == 0) && (!(a.openLo || b.openLo))) && (!a.openHi))))
  else
   bif (decide ((an a.hi b.hi)>0)) then
    ((⟨a.lo,b.hi,a.openLo,b.openHi⟩:Iv),((decide ((an a.lo b.hi) < 0)) || ((((an a.lo b.hi) == 0) && (!a.openLo)) && (!b.openHi))))
   else
    bif ((an a.hi b.hi) == 0) then
     ((⟨a.lo,a.hi,a.openLo,(a.openHi || b.openHi)⟩:Iv),((decide ((an a.lo a.hi) < 0)) || ((((an a.lo a.hi) == 0) && (!a.openLo)) && (!(a.openHi || b.openHi)))))
    else
     (a,((decide ((an a.lo a.hi) < 0)) || ((((an a.lo a.hi) == 0) && (!a.openLo)) && (!a.openHi))))
theorem qs (a:Iv) (b:Iv) (k:Nat) (hk:(k+20)≤40) (za:SzV (k+20) a) (zb:SzV (k+20) b) (w0:World):Calls zP 179 #[(vV a),(vV b)] w0 (RetP w0 (.tuple #[(vV ((bf a b).1)),(.bool ((bf a b).2))]) (SzV k ((bf a b).1))):=by
 refine enter (N:=81) Tryz.func179 rfl rfl ?_; intro ac h
 have p2:=au ((aS a.lo b.lo k og za.1 zb.1) w0)
 refine gz h <| (xb) fun b1=>(xb) fun b2=>(xa) fun b3=>(xa) fun b4=>(xk (aS a.lo b.lo k og za.1 zb.1)) <| (ai) ?_ ?_ <;> clear h <;> intro _ _ h hc1
 ·
  have hd1:=of_decide_eq_true hc1
  refine gz h <| (dr1 (H:=[⟨.blk b4 (cV a) 86,[(5,.con (.blk b4 (cV (⟨b.lo,a.hi,a.openLo,a.openHi⟩:Iv)) 86)),(7,.con (.blk b4 (cV (⟨b.lo,a.hi,b.openLo,a.openHi⟩:Iv)) 86))]⟩,ge _,ge _,ge _]) (hob:=oE)) <| (W) ?_; clear h; intro _ _ h
  have p4:=au ((aS a.hi b.hi k og za.2 zb.2) w0)
  refine gz h <| (xk (aS a.hi b.hi k og za.2 zb.2)) <| (ai) ?_ ?_ <;> clear h <;> intro _ _ h hc2
  ·
   have hd2:=of_decide_eq_true hc2
   refine gz h <| (dr1 (H:=[⟨.blk b4 (cV (⟨b.lo,a.hi,b.openLo,a.openHi⟩:Iv)) 86,[(5,.con (.blk b4 (cV (⟨b.lo,b.hi,b.openLo,a.openHi⟩:Iv)) 86)),(7,.con (.blk b4 (cV (⟨b.lo,b.hi,b.openLo,b.openHi⟩:Iv)) 86))]⟩,ge _,ge _,ge _]) (hob:=oE)) <| (W) ?_; clear h; intro _ _ h
   have p6:=au ((aS b.lo b.hi k og zb.1 zb.2) w0)
   have hd:bf a b=((⟨b.lo,b.hi,b.openLo,b.openHi⟩:Iv),((decide ((an b.lo b.hi) < 0)) || ((((an b.lo b.hi) == 0) && (!b.openLo)) && (!b.openHi)))):=pt
   refine gz h <| (xk (aS b.lo b.hi k og zb.1 zb.2)) <| (dr1 (H:=[ge _,⟨.blk b3 (cV (⟨(⟨oQ,oQ,false⟩:GR),(⟨oQ,oQ,false⟩:GR),false,false⟩:Iv)) 86,[(17,.con (.blk b3 (cV (⟨b.lo,b.hi,b.openLo,b.openHi⟩:Iv)) 86))]⟩,ge _,ge _]) (hob:=oE)) <| (W) ?_; clear h; intro _ _ h
   exact ret h rfl (.cell (v:=(vV (⟨b.lo,b.hi,b.openLo,b.openHi⟩:Iv))) rfl (i:=1) rfl aa86 zz86 rfl rfl rfl (.tmp rfl .nil)) rfl (h.retP (by rw [hd] <;> rfl) (by rw [hd]; exact ⟨(iK zb og).1,(iK zb og).2⟩))
  ·
   have hd2:=of_decide_eq_false hc2
   refine gz h <| (ai) ?_ ?_ <;> clear h <;> intro _ _ h hc3
   ·
    have hd3:=eq_of_beq hc3
    have p8:=au ((aS b.lo a.hi k og zb.1 za.2) w0)
    have hd:bf a b=((⟨b.lo,a.hi,b.openLo,(a.openHi || b.openHi)⟩:Iv),((decide ((an b.lo a.hi) < 0)) || ((((an b.lo a.hi) == 0) && (!b.openLo)) && (!(a.openHi || b.openHi))))):=pt
    refine gz h <| (xs 0 (cV (⟨b.lo,a.hi,b.openLo,(a.openHi || b.openHi)⟩:Iv))) <| (xk (aS b.lo a.hi k og zb.1 za.2)) <| (dr1 (H:=[ge _,⟨.blk b3 (cV (⟨(⟨oQ,oQ,false⟩:GR),(⟨oQ,oQ,false⟩:GR),false,false⟩:Iv)) 86,[(17,.con (.blk b3 (cV (⟨b.lo,a.hi,b.openLo,(a.openHi || b.openHi)⟩:Iv)) 86))]⟩,ge _,ge _]) (hob:=oE)) <| (W) ?_; clear h; intro _ _ h
    exact ret h rfl (.cell (v:=(vV (⟨b.lo,a.hi,b.openLo,(a.openHi || b.openHi)⟩:Iv))) rfl (i:=1) rfl aa86 zz86 rfl rfl rfl (.tmp rfl .nil)) rfl (h.retP (by rw [hd] <;> rfl) (by rw [hd]; exact ⟨(iK zb og).1,(iK za og).2⟩))
   ·
    have hd3:=ne_of_beq_false hc3
    have p10:=au ((aS b.lo a.hi k og zb.1 za.2) w0)
    have hd:bf a b=((⟨b.lo,a.hi,b.openLo,a.openHi⟩:Iv),((decide ((an b.lo a.hi) < 0)) || ((((an b.lo a.hi) == 0) && (!b.openLo)) && (!a.openHi)))):=pt
    refine gz h <| (xk (aS b.lo a.hi k og zb.1 za.2)) <| (dr1 (H:=[ge _,⟨.blk b3 (cV (⟨(⟨oQ,oQ,false⟩:GR),(⟨oQ,oQ,false⟩:GR),false,false⟩:Iv)) 86,[(17,.con (.blk b3 (cV (⟨b.lo,a.hi,b.openLo,a.openHi⟩:Iv)) 86))]⟩,ge _,ge _]) (hob:=oE)) <| (W) ?_; clear h; intro _ _ h
    exact ret h rfl (.cell (v:=(vV (⟨b.lo,a.hi,b.openLo,a.openHi⟩:Iv))) rfl (i:=1) rfl aa86 zz86 rfl rfl rfl (.tmp rfl .nil)) rfl (h.retP (by rw [hd] <;> rfl) (by rw [hd]; exact ⟨(iK zb og).1,(iK za og).2⟩))
 ·
  have hd1:=of_decide_eq_false hc1
  refine gz h <| (ai) ?_ ?_ <;> clear h <;> intro _ _ h hc4
  ·
   have hd4:=eq_of_beq hc4
   have p12:=au ((aS a.hi b.hi k og za.2 zb.2) w0)
   refine gz h <| (xs 0 (cV (⟨a.lo,a.hi,(a.openLo || b.openLo),a.openHi⟩:Iv))) <| (xk (aS a.hi b.hi k og za.2 zb.2)) <| (ai) ?_ ?_ <;> clear h <;> intro _ _ h hc5
   ·
    have hd5:=of_decide_eq_true hc5
    refine gz h <| (dr1 (H:=[⟨.blk b4 (cV (⟨a.lo,a.hi,(a.openLo || b.openLo),a.openHi⟩:Iv)) 86,[(5,.con (.blk b4 (cV (⟨a.lo,b.hi,(a.openLo || b.openLo),a.openHi⟩:Iv)) 86)),(7,.con (.blk b4 (cV (⟨a.lo,b.hi,(a.openLo || b.openLo),b.openHi⟩:Iv)) 86))]⟩,ge _,ge _,ge _]) (hob:=oE)) <| (W) ?_; clear h; intro _ _ h
    have p14:=au ((aS a.lo b.hi k og za.1 zb.2) w0)
    have hd:bf a b=((⟨a.lo,b.hi,(a.openLo || b.openLo),b.openHi⟩:Iv),((decide ((an a.lo b.hi) < 0)) || ((((an a.lo b.hi) == 0) && (!(a.openLo || b.openLo))) && (!b.openHi)))):=pt
    refine gz h <| (xk (aS a.lo b.hi k og za.1 zb.2)) <| (dr1 (H:=[ge _,⟨.blk b3 (cV (⟨(⟨oQ,oQ,false⟩:GR),(⟨oQ,oQ,false⟩:GR),false,false⟩:Iv)) 86,[(17,.con (.blk b3 (cV (⟨a.lo,b.hi,(a.openLo || b.openLo),b.openHi⟩:Iv)) 86))]⟩,ge _,ge _]) (hob:=oE)) <| (W) ?_; clear h; intro _ _ h
    exact ret h rfl (.cell (v:=(vV (⟨a.lo,b.hi,(a.openLo || b.openLo),b.openHi⟩:Iv))) rfl (i:=1) rfl aa86 zz86 rfl rfl rfl (.tmp rfl .nil)) rfl (h.retP (by rw [hd] <;> rfl) (by rw [hd]; exact ⟨(iK za og).1,(iK zb og).2⟩))
   ·
    have hd5:=of_decide_eq_false hc5
    refine gz h <| (ai) ?_ ?_ <;> clear h <;> intro _ _ h hc6
    ·
     have hd6:=eq_of_beq hc6
     have p16:=au ((aS a.lo a.hi k og za.1 za.2) w0)
     have hd:bf a b=((⟨a.lo,a.hi,(a.openLo || b.openLo),(a.openHi || b.openHi)⟩:Iv),((decide ((an a.lo a.hi) < 0)) || ((((an a.lo a.hi) == 0) && (!(a.openLo || b.openLo))) && (!(a.openHi || b.openHi))))):=pt
     refine gz h <| (xs 0 (cV (⟨a.lo,a.hi,(a.openLo || b.openLo),(a.openHi || b.openHi)⟩:Iv))) <| (xk (aS a.lo a.hi k og za.1 za.2)) <| (dr1 (H:=[ge _,⟨.blk b3 (cV (⟨(⟨oQ,oQ,false⟩:GR),(⟨oQ,oQ,false⟩:GR),false,false⟩:Iv)) 86,[(17,.con (.blk b3 (cV (⟨a.lo,a.hi,(a.openLo || b.openLo),(a.openHi || b.openHi)⟩:Iv)) 86))]⟩,ge _,ge _]) (hob:=oE)) <| (W) ?_; clear h; intro _ _ h
     exact ret h rfl (.cell (v:=(vV (⟨a.lo,a.hi,(a.openLo || b.openLo),(a.openHi || b.openHi)⟩:Iv))) rfl (i:=1) rfl aa86 zz86 rfl rfl rfl (.tmp rfl .nil)) rfl (h.retP (by rw [hd] <;> rfl) (by rw [hd]; exact ⟨(iK za og).1,(iK za og).2⟩))
    ·
     have hd6:=ne_of_beq_false hc6
     have p18:=au ((aS a.lo a.hi k og za.1 za.2) w0)
     have hd:bf a b=((⟨a.lo,a.hi,(a.openLo || b.openLo),a.openHi⟩:Iv),((decide ((an a.lo a.hi) < 0)) || ((((an a.lo a.hi) == 0) && (!(a.openLo || b.openLo))) && (!a.openHi)))):=pt
     refine gz h <| (xk (aS a.lo a.hi k og za.1 za.2)) <| (dr1 (H:=[ge _,⟨.blk b3 (cV (⟨(⟨oQ,oQ,false⟩:GR),(⟨oQ,oQ,false⟩:GR),false,false⟩:Iv)) 86,[(17,.con (.blk b3 (cV (⟨a.lo,a.hi,(a.openLo || b.openLo),a.openHi⟩:Iv)) 86))]⟩,ge _,ge _]) (hob:=oE)) <| (W) ?_; clear h; intro _ _ h
     exact ret h rfl (.cell (v:=(vV (⟨a.lo,a.hi,(a.openLo || b.openLo),a.openHi⟩:Iv))) rfl (i:=1) rfl aa86 zz86 rfl rfl rfl (.tmp rfl .nil)) rfl (h.retP (by rw [hd] <;> rfl) (by rw [hd]; exact ⟨(iK za og).1,(iK za og).2⟩))
  ·
   have hd4:=ne_of_beq_false hc4
   have p20:=au ((aS a.hi b.hi k og za.2 zb.2) w0)
   refine gz h <| (xk (aS a.hi b.hi k og za.2 zb.2)) <| (ai) ?_ ?_ <;> clear h <;> intro _ _ h hc7
   ·
    have hd7:=of_decide_eq_true hc7
    refine gz h <| (dr1 (H:=[⟨.blk b4 (cV a) 86,[(5,.con (.blk b4 (cV (⟨a.lo,b.hi,a.openLo,a.openHi⟩:Iv)) 86)),(7,.con (.blk b4 (cV (⟨a.lo,b.hi,a.openLo,b.openHi⟩:Iv)) 86))]⟩,ge _,ge _,ge _]) (hob:=oE)) <| (W) ?_; clear h; intro _ _ h
    have p22:=au ((aS a.lo b.hi k og za.1 zb.2) w0)
    have hd:bf a b=((⟨a.lo,b.hi,a.openLo,b.openHi⟩:Iv),((decide ((an a.lo b.hi) < 0)) || ((((an a.lo b.hi) == 0) && (!a.openLo)) && (!b.openHi)))):=pt
    refine gz h <| (xk (aS a.lo b.hi k og za.1 zb.2)) <| (dr1 (H:=[ge _,⟨.blk b3 (cV (⟨(⟨oQ,oQ,false⟩:GR),(⟨oQ,oQ,false⟩:GR),false,false⟩:Iv)) 86,[(17,.con (.blk b3 (cV (⟨a.lo,b.hi,a.openLo,b.openHi⟩:Iv)) 86))]⟩,ge _,ge _]) (hob:=oE)) <| (W) ?_; clear h; intro _ _ h
    exact ret h rfl (.cell (v:=(vV (⟨a.lo,b.hi,a.openLo,b.openHi⟩:Iv))) rfl (i:=1) rfl aa86 zz86 rfl rfl rfl (.tmp rfl .nil)) rfl (h.retP (by rw [hd] <;> rfl) (by rw [hd]; exact ⟨(iK za og).1,(iK zb og).2⟩))
   ·
    have hd7:=of_decide_eq_false hc7
    refine gz h <| (ai) ?_ ?_ <;> clear h <;> intro _ _ h hc8
    ·
     have hd8:=eq_of_beq hc8
     have p24:=au ((aS a.lo a.hi k og za.1 za.2) w0)
     have hd:bf a b=((⟨a.lo,a.hi,a.openLo,(a.openHi || b.openHi)⟩:Iv),((decide ((an a.lo a.hi) < 0)) || ((((an a.lo a.hi) == 0) && (!a.openLo)) && (!(a.openHi || b.openHi))))):=pt
     refine gz h <| (xs 0 (cV (⟨a.lo,a.hi,a.openLo,(a.openHi || b.openHi)⟩:Iv))) <| (xk (aS a.lo a.hi k og za.1 za.2)) <| (dr1 (H:=[ge _,⟨.blk b3 (cV (⟨(⟨oQ,oQ,false⟩:GR),(⟨oQ,oQ,false⟩:GR),false,false⟩:Iv)) 86,[(17,.con (.blk b3 (cV (⟨a.lo,a.hi,a.openLo,(a.openHi || b.openHi)⟩:Iv)) 86))]⟩,ge _,ge _]) (hob:=oE)) <| (W) ?_; clear h; intro _ _ h
     exact ret h rfl (.cell (v:=(vV (⟨a.lo,a.hi,a.openLo,(a.openHi || b.openHi)⟩:Iv))) rfl (i:=1) rfl aa86 zz86 rfl rfl rfl (.tmp rfl .nil)) rfl (h.retP (by rw [hd] <;> rfl) (by rw [hd]; exact ⟨(iK za og).1,(iK za og).2⟩))
    ·
     have hd8:=ne_of_beq_false hc8
     have p26:=au ((aS a.lo a.hi k og za.1 za.2) w0)
     have hd:bf a b=(a,((decide ((an a.lo a.hi) < 0)) || ((((an a.lo a.hi) == 0) && (!a.openLo)) && (!a.openHi)))):=pt
     refine gz h <| (xk (aS a.lo a.hi k og za.1 za.2)) <| (dr1 (H:=[ge _,⟨.blk b3 (cV (⟨(⟨oQ,oQ,false⟩:GR),(⟨oQ,oQ,false⟩:GR),false,false⟩:Iv)) 86,[(17,.con (.blk b3 (cV a) 86))]⟩,ge _,ge _]) (hob:=oE)) <| (W) ?_; clear h; intro _ _ h
     exact ret h rfl (.cell (v:=(vV a)) rfl (i:=1) rfl aa86 zz86 rfl rfl rfl (.tmp rfl .nil)) rfl (h.retP (by rw [hd] <;> rfl) (by rw [hd]; exact (iK za og)))
end Go.Sx
