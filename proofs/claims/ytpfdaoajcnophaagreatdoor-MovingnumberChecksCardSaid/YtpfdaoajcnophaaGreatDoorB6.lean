/- A part of the proof of movingnumberChecks. -/
import Derived.Test.YtpfdaoajcnophaaGreatDoorProg
import Derived.Test.YtpfdaoajcnophaaGreatDoorB5
set_option linter.unusedVariables false
set_option linter.unusedSimpArgs false
open Go.Proofs.Tryz renaming isAgg29 → aa29, sizeOf29 → zz29, runUnderlying46 → uu46, call148 → cc148, isAgg46 → aa46, sizeOf46 → zz46, zeroValue29 → vv29, isAgg72 → aa72, sizeOf72 → zz72, isAgg74 → aa74, sizeOf74 → zz74
namespace Go.Sx
open Go Go.RowKit Go.Proofs
set_option maxRecDepth 100000
set_option maxHeartbeats 40000000
attribute [local irreducible] Code.wp wpList Rd Step ObS Ent
def ba (x:GR):GQ :=
 bif x.neg then
  (ak (-1))
 else
  (ak 1)
theorem iD (x:GR) (k:Nat) (hk:k≤40) (zx:SzR k x) (w0:World):Calls Tryz.prog 169 #[(vR x)] w0 (dh w0 (vQ (ba x)) (SzQ k (ba x))):=by
 refine enter (N:=7) (args:=[(vR x)]) Tryz.func169 rfl rfl ?_; intro ac h
 refine gz h <| (xb) fun b1=>(xa) fun b2=>(ai) ?_ ?_ <;> clear h ac <;> intro ac wo h hc1
 ·
  have c1:=fi (-1) k og  og
  have s1:=ar (c1 w0)
  have hd:ba x=(ak (-1)):=pt
  refine gz h <| (xk c1) <| (W) ?_; clear h ac wo; intro ac wo h
  exact ret h rfl (.cell (v:=(vQ (ak (-1)))) rfl (i:=0) rfl aa29 zz29 rfl rfl rfl .nil) rfl (h.retP (by rw [hd] <;> rfl) (by rw [hd]; exact s1))
 ·
  have c2:=fi 1 k og  og
  have s2:=ar (c2 w0)
  have hd:ba x=(ak 1):=pt
  refine gz h <| (xk c2) <| (W) ?_; clear h ac wo; intro ac wo h
  exact ret h rfl (.cell (v:=(vQ (ak 1))) rfl (i:=0) rfl aa29 zz29 rfl rfl rfl .nil) rfl (h.retP (by rw [hd] <;> rfl) (by rw [hd]; exact s2))
def eE (a:GQ) (b:GQ) (r:GQ):Int :=
 bif ((((aq b)*(aq r)) == 0) || ((aq a) == ((aq b)*(aq r)))) then
  (aq a)
 else
  bif ((aq a) == 0) then
   ((aq b)*(aq r))
  else
   ((aq a)*(bA (aj a a) (aj (aj b b) r)))
theorem iS (a:GQ) (b:GQ) (r:GQ) (k:Nat) (hk:(k+8)≤40) (za:SzQ (k+8) a) (zb:SzQ (k+8) b) (zr:SzQ (k+8) r) (w0:World):Calls Tryz.prog 171 #[(vQ a),(vQ b),(vQ r)] w0 (dh w0 (.int .i64 (eE a b r)) ((-1≤(eE a b r)∧(eE a b r)≤1))):=by
 refine enter (N:=40) (args:=[(vQ a),(vQ b),(vQ r)]) Tryz.func171 rfl rfl ?_; intro ac h
 have p2:=ar ((cB a) w0)
 have p4:=ar ((cB b) w0)
 have p6:=ar ((cB r) w0)
 refine gz h <| (xb) fun b1=>(xb) fun b2=>(xb) fun b3=>(dr0 (hob:=(oK (cB a)) <| (oK (cB b)) <| (oK (cB r)) <| (oX (h:=by exact fun _=>bk (lD rfl rfl (r:=((aq b)*(aq r))) (by first | (rw [IntKind.wrap_i64]; omega) | exact iG og og)))) <| oE)) <| (ai) ?_ ?_ <;> clear h ac <;> intro ac wo h hc1
 ·
  have hd:eE a b r=(aq a):=pt
  refine gz h <| (W) ?_; clear h ac wo; intro ac wo h
  exact (rt h) (h.retP (by rw [hd] <;> rfl) (by rw [hd]; exact by first | omega | exact fQ og og))
 ·
  refine gz h <| (ai) ?_ ?_ <;> clear h ac wo <;> intro ac wo h hc2
  ·
   have hd2:=eq_of_beq hc2
   have hd:eE a b r=((aq b)*(aq r)):=pt
   refine gz h <| (W) ?_; clear h ac wo; intro ac wo h
   exact (rt h) (h.retP (by rw [hd] <;> rfl) (by rw [hd]; exact by first | omega | exact fQ og og))
  ·
   have hd2:=ne_of_beq_false hc2
   refine gz h <| (W) ?_; clear h ac wo; intro ac wo h
   have s7:=ar ((bq a a (k+6) og za za) w0)
   have s8:=ar ((bq b b (k+6) og zb zb) w0)
   have s9:=ar ((bq (aj b b) r (k+4) og s8 (di zr og)) w0)
   have p11:=ar ((jS (aj a a) (aj (aj b b) r) (k+3) og (di s7 og) s9) w0)
   have hd:eE a b r=((aq a)*(bA (aj a a) (aj (aj b b) r))):=pt
   refine gz h <| (dr0 (hob:=(oK (bq a a (k+6) og za za)) <| (oK (bq b b (k+6) og zb zb)) <| (oK (bq (aj b b) r (k+4) og s8 (di zr og))) <| (oK (jS (aj a a) (aj (aj b b) r) (k+3) og (di s7 og) s9)) <| (oX (h:=by exact fun _=>bk (lD rfl rfl (r:=((aq a)*(bA (aj a a) (aj (aj b b) r)))) (by first | (rw [IntKind.wrap_i64]; omega) | exact iG og og)))) <| oE)) <| (W) ?_; clear h ac wo; intro ac wo h
   exact (rt h) (h.retP (by rw [hd] <;> rfl) (by rw [hd]; exact by first | omega | exact fQ og og))
def ah (x:GR) (y:GR):Int :=
 bif ((((aq (aM (ba y)))*(aq y.r)) == 0) || ((eE (ao x.p y.p) (ba x) x.r) == ((aq (aM (ba y)))*(aq y.r)))) then
  (eE (ao x.p y.p) (ba x) x.r)
 else
  bif ((eE (ao x.p y.p) (ba x) x.r) == 0) then
   ((aq (aM (ba y)))*(aq y.r))
  else
   ((eE (ao x.p y.p) (ba x) x.r)*(eE (ao (aB (aj (ao x.p y.p) (ao x.p y.p)) x.r) y.r) (aj (ak 2) (aj (ao x.p y.p) (ba x))) x.r))
theorem aL (x:GR) (y:GR) (k:Nat) (hk:(k+20)≤40) (zx:SzR (k+20) x) (zy:SzR (k+20) y) (w0:World):Calls Tryz.prog 59 #[(vR x),(vR y)] w0 (dh w0 (.int .i64 (ah x y)) ((-1≤(ah x y)∧(ah x y)≤1))):=by
 refine enter (N:=65) (args:=[(vR x),(vR y)]) Tryz.func59 rfl rfl ?_; intro ac h
 have s1:=ar ((dA x.p y.p (k+17) og zx.1 zy.1) w0)
 have s2:=ar ((iD x (k+20) og zx) w0)
 have s3:=ar ((iD y (k+20) og zy) w0)
 have s4:=ar ((eN (ba y) (k+20) og s3) w0)
 refine gz h <| (xb) fun b1=>(xb) fun b2=>(W) ?_; clear h ac; intro ac wo h
 replace h:=h.emps 3
 refine fU mixed [dv _,dw _ [1],dv _,dw _ [0],dv _,dw _ [1],dv _,dw _ [0],dv _,dv _,⟨.nd (.one 10 fun v=>∃ b,v=ptr b 0),[2]⟩,⟨.nd (.one 11 fun v=>∃ b,v=ptr b 0),[3]⟩,⟨.nd (.one 12 fun v=>∃ b,v=ptr b 0),[4]⟩,⟨.det undef,[2]⟩,⟨.det undef,[3]⟩,⟨.det undef,[4]⟩] [⟨_,[]⟩,⟨_,[]⟩,⟨.emp,[(10,.one 10 fun v=>.blk (bR v) (cQ oQ) 29),(13,.one 10 fun v=>.blk (bR v) (cQ (ao x.p y.p)) 29)]⟩,⟨.emp,[(11,.one 11 fun v=>.blk (bR v) (cQ oQ) 29),(14,.one 11 fun v=>.blk (bR v) (cQ (ba x)) 29)]⟩,⟨.emp,[(12,.one 12 fun v=>.blk (bR v) (cQ oQ) 29),(15,.one 12 fun v=>.blk (bR v) (cQ (aM (ba y))) 29)]⟩] h rfl (by kernel_rfl) ⟨fun _ _=>bk (fa uu46 rfl zz29 rfl rfl rfl (k':=0)),fun _ _=>jB _ rfl rfl (kt aa29 zz29 rfl rfl rfl (v:=(vQ x.p)) rfl),fun _ _=>bk (fa uu46 rfl zz29 rfl rfl rfl (k':=0)),fun _ _=>jB _ rfl rfl (kt aa29 zz29 rfl rfl rfl (v:=(vQ y.p)) rfl),fun _ _=>i0 (iC cc148 rfl (dA x.p y.p (k+17) og zx.1 zy.1)),fun _ _=>jB _ rfl rfl (kt aa46 zz46 rfl rfl rfl (v:=(vR x)) rfl),fun _ _=>i0 (iC Tryz.call169 rfl (iD x (k+20) og zx)),fun _ _=>jB _ rfl rfl (kt aa46 zz46 rfl rfl rfl (v:=(vR y)) rfl),fun _ _=>i0 (iC Tryz.call169 rfl (iD y (k+20) og zy)),fun _ _=>i0 (iC Tryz.call170 rfl (eN (ba y) (k+20) og s3)),fun _ _=>my (ψ:=fun v=>∃ b,v=ptr b 0) (B:=fun v=>[.blk (bR v) (cQ oQ) 29]) [.emp] rfl (fun v _=>by simp only [dJ,bt] <;> rfl) (fun v hv=>by simpa [DF.one,bt] using hv) (jh (gO vv29 rfl)),fun _ _=>my (ψ:=fun v=>∃ b,v=ptr b 0) (B:=fun v=>[.blk (bR v) (cQ oQ) 29]) [.emp] rfl (fun v _=>by simp only [dJ,bt] <;> rfl) (fun v hv=>by simpa [DF.one,bt] using hv) (jh (gO vv29 rfl)),fun _ _=>my (ψ:=fun v=>∃ b,v=ptr b 0) (B:=fun v=>[.blk (bR v) (cQ oQ) 29]) [.emp] rfl (fun v _=>by simp only [dJ,bt] <;> rfl) (fun v hv=>by simpa [DF.one,bt] using hv) (jh (gO vv29 rfl)),(fun ξ hφ=>by obtain ⟨b3,hb10⟩:=hφ 10 rfl; exact lS [.blk b3 (cQ oQ) 29] [.blk b3 (cQ (ao x.p y.p)) 29] (congrArg (fun v=>[Asn.blk (bR v) (cQ oQ) 29]) hb10) (congrArg (fun v=>[Asn.blk (bR v) (cQ (ao x.p y.p)) 29]) hb10) (qK zz29 (Eq.trans rfl (congrArg some hb10)) rfl rfl rfl rfl rfl rfl)),(fun ξ hφ=>by obtain ⟨b4,hb11⟩:=hφ 11 rfl; exact lS [.blk b4 (cQ oQ) 29] [.blk b4 (cQ (ba x)) 29] (congrArg (fun v=>[Asn.blk (bR v) (cQ oQ) 29]) hb11) (congrArg (fun v=>[Asn.blk (bR v) (cQ (ba x)) 29]) hb11) (qK zz29 (Eq.trans rfl (congrArg some hb11)) rfl rfl rfl rfl rfl rfl)),(fun ξ hφ=>by obtain ⟨b5,hb12⟩:=hφ 12 rfl; exact lS [.blk b5 (cQ oQ) 29] [.blk b5 (cQ (aM (ba y))) 29] (congrArg (fun v=>[Asn.blk (bR v) (cQ oQ) 29]) hb12) (congrArg (fun v=>[Asn.blk (bR v) (cQ (aM (ba y))) 29]) hb12) (qK zz29 (Eq.trans rfl (congrArg some hb12)) rfl rfl rfl rfl rfl rfl)),trivial⟩ ?_
 clear h ac wo; intro ξ ac wo hφ h
 replace h:St w0 65 [(2,(ptr b1 0)),(3,(ptr b2 0)),(5,ξ 10),(6,ξ 11),(7,ξ 12)] [.blk b2 (cR y) 46,.blk b1 (cR x) 46,.blk (bR (ξ 10)) (cQ (ao x.p y.p)) 29,.blk (bR (ξ 11)) (cQ (ba x)) 29,.blk (bR (ξ 12)) (cQ (aM (ba y))) 29] ac wo:=h.sub ⟨rfl,rfl,rfl,rfl,rfl,trivial⟩
 revert h
 obtain ⟨b3,hb10⟩:∃ b,ξ 10=ptr b 0:=hφ 10
 obtain ⟨b4,hb11⟩:∃ b,ξ 11=ptr b 0:=hφ 11
 obtain ⟨b5,hb12⟩:∃ b,ξ 12=ptr b 0:=hφ 12
 rw [hb10,hb11,hb12]; intro h
 clear hb10 hb11 hb12 hφ ξ
 refine gz h <| (W) ?_; clear h ac wo; intro ac wo h
 have p6:=ar ((iS (ao x.p y.p) (ba x) x.r (k+9) og s1 (di s2 og) (dG zx og).2) w0)
 have p8:=ar ((cB (aM (ba y))) w0)
 have p10:=ar ((cB y.r) w0)
 refine gz h <| (dr0 (hob:=(oK (iS (ao x.p y.p) (ba x) x.r (k+9) og s1 (di s2 og) (dG zx og).2)) <| (oK (cB (aM (ba y)))) <| (oK (cB y.r)) <| (oX (h:=by exact fun _=>bk (lD rfl rfl (r:=((aq (aM (ba y)))*(aq y.r))) (by first | (rw [IntKind.wrap_i64]; omega) | exact iG og og)))) <| oE)) <| (ai) ?_ ?_ <;> clear h ac wo <;> intro ac wo h hc1
 ·
  have hd:ah x y=(eE (ao x.p y.p) (ba x) x.r):=pt
  refine gz h <| (W) ?_; clear h ac wo; intro ac wo h
  exact (rt h) (h.retP (by rw [hd] <;> rfl) (by rw [hd]; exact by first | omega | exact fQ og og))
 ·
  refine gz h <| (ai) ?_ ?_ <;> clear h ac wo <;> intro ac wo h hc2
  ·
   have hd2:=eq_of_beq hc2
   have hd:ah x y=((aq (aM (ba y)))*(aq y.r)):=pt
   refine gz h <| (W) ?_; clear h ac wo; intro ac wo h
   exact (rt h) (h.retP (by rw [hd] <;> rfl) (by rw [hd]; exact by first | omega | exact fQ og og))
  ·
   have hd2:=ne_of_beq_false hc2
   refine gz h <| (W) ?_; clear h ac wo; intro ac wo h
   have s11:=ar ((bq (ao x.p y.p) (ao x.p y.p) (k+15) og s1 s1) w0)
   have s12:=ar ((cH (aj (ao x.p y.p) (ao x.p y.p)) x.r (k+12) og s11 (dG zx og).2) w0)
   have s13:=ar ((dA (aB (aj (ao x.p y.p) (ao x.p y.p)) x.r) y.r (k+9) og s12 (dG zy og).2) w0)
   replace h:=h.emps 1
   refine fU mixed [dw _ [2],dw _ [2],dv _,dv _,dw _ [1],dv _,dv _,dw _ [0],dv _,⟨.nd (.one 9 fun v=>∃ b,v=ptr b 0),[5]⟩,⟨.det undef,[5]⟩] [⟨_,[]⟩,⟨_,[]⟩,⟨_,[]⟩,⟨_,[]⟩,⟨_,[]⟩,⟨.emp,[(9,.one 9 fun v=>.blk (bR v) (cQ oQ) 29),(10,.one 9 fun v=>.blk (bR v) (cQ (ao (aB (aj (ao x.p y.p) (ao x.p y.p)) x.r) y.r)) 29)]⟩] h rfl (by kernel_rfl) ⟨fun _ _=>jB _ rfl rfl (kt aa29 zz29 rfl rfl rfl (v:=(vQ (ao x.p y.p))) rfl),fun _ _=>jB _ rfl rfl (kt aa29 zz29 rfl rfl rfl (v:=(vQ (ao x.p y.p))) rfl),fun _ _=>i0 (iC Tryz.call172 rfl (bq (ao x.p y.p) (ao x.p y.p) (k+15) og s1 s1)),fun _ _=>bk (fa uu46 rfl zz29 rfl rfl rfl (k':=4)),fun _ _=>jB _ rfl rfl (kt aa29 zz29 rfl rfl rfl (v:=(vQ x.r)) rfl),fun _ _=>i0 (iC Tryz.call106 rfl (cH (aj (ao x.p y.p) (ao x.p y.p)) x.r (k+12) og s11 (dG zx og).2)),fun _ _=>bk (fa uu46 rfl zz29 rfl rfl rfl (k':=4)),fun _ _=>jB _ rfl rfl (kt aa29 zz29 rfl rfl rfl (v:=(vQ y.r)) rfl),fun _ _=>i0 (iC cc148 rfl (dA (aB (aj (ao x.p y.p) (ao x.p y.p)) x.r) y.r (k+9) og s12 (dG zy og).2)),fun _ _=>my (ψ:=fun v=>∃ b,v=ptr b 0) (B:=fun v=>[.blk (bR v) (cQ oQ) 29]) [.emp] rfl (fun v _=>by simp only [dJ,bt] <;> rfl) (fun v hv=>by simpa [DF.one,bt] using hv) (jh (gO vv29 rfl)),(fun ξ hφ=>by obtain ⟨b6,hb9⟩:=hφ 9 rfl; exact lS [.blk b6 (cQ oQ) 29] [.blk b6 (cQ (ao (aB (aj (ao x.p y.p) (ao x.p y.p)) x.r) y.r)) 29] (congrArg (fun v=>[Asn.blk (bR v) (cQ oQ) 29]) hb9) (congrArg (fun v=>[Asn.blk (bR v) (cQ (ao (aB (aj (ao x.p y.p) (ao x.p y.p)) x.r) y.r)) 29]) hb9) (qK zz29 (Eq.trans rfl (congrArg some hb9)) rfl rfl rfl rfl rfl rfl)),trivial⟩ ?_
   clear h ac wo; intro ξ ac wo hφ h
   replace h:St w0 65 [(2,(ptr b1 0)),(5,(ptr b3 0)),(6,(ptr b4 0)),(8,(.int .i64 (eE (ao x.p y.p) (ba x) x.r))),(10,ξ 9)] [.blk b2 (cR y) 46,.blk b1 (cR x) 46,.blk b3 (cQ (ao x.p y.p)) 29,.blk b4 (cQ (ba x)) 29,.blk b5 (cQ (aM (ba y))) 29,.blk (bR (ξ 9)) (cQ (ao (aB (aj (ao x.p y.p) (ao x.p y.p)) x.r) y.r)) 29] ac wo:=h.sub ⟨rfl,rfl,rfl,rfl,rfl,trivial⟩
   revert h
   obtain ⟨b6,hb9⟩:∃ b,ξ 9=ptr b 0:=hφ 9
   rw [hb9]; intro h
   clear hb9 hφ ξ
   refine gz h <| (W) ?_; clear h ac wo; intro ac wo h
   have s14:=ar ((fi 2 (k+20) og  og) w0)
   have s15:=ar ((bq (ao x.p y.p) (ba x) (k+15) og s1 (di s2 og)) w0)
   have s16:=ar ((bq (ak 2) (aj (ao x.p y.p) (ba x)) (k+13) og (di s14 og) s15) w0)
   have p18:=ar ((iS (ao (aB (aj (ao x.p y.p) (ao x.p y.p)) x.r) y.r) (aj (ak 2) (aj (ao x.p y.p) (ba x))) x.r (k+1) og s13 (di s16 og) (dG zx og).2) w0)
   have hd:ah x y=((eE (ao x.p y.p) (ba x) x.r)*(eE (ao (aB (aj (ao x.p y.p) (ao x.p y.p)) x.r) y.r) (aj (ak 2) (aj (ao x.p y.p) (ba x))) x.r)):=pt
   refine gz h <| (dr0 (hob:=(oK (fi 2 (k+20) og  og)) <| (oK (bq (ao x.p y.p) (ba x) (k+15) og s1 (di s2 og))) <| (oK (bq (ak 2) (aj (ao x.p y.p) (ba x)) (k+13) og (di s14 og) s15)) <| (oK (iS (ao (aB (aj (ao x.p y.p) (ao x.p y.p)) x.r) y.r) (aj (ak 2) (aj (ao x.p y.p) (ba x))) x.r (k+1) og s13 (di s16 og) (dG zx og).2)) <| (oX (h:=by exact fun _=>bk (lD rfl rfl (r:=((eE (ao x.p y.p) (ba x) x.r)*(eE (ao (aB (aj (ao x.p y.p) (ao x.p y.p)) x.r) y.r) (aj (ak 2) (aj (ao x.p y.p) (ba x))) x.r))) (by first | (rw [IntKind.wrap_i64]; omega) | exact iG og og)))) <| oE)) <| (W) ?_; clear h ac wo; intro ac wo h
   exact (rt h) (h.retP (by rw [hd] <;> rfl) (by rw [hd]; exact by first | omega | exact fQ og og))
def aQ (r:GQ):GR :=
 (⟨r,(⟨(⟨false,0⟩:GI),(⟨false,0⟩:GI)⟩:GQ),false⟩:GR)
theorem g8 (r:GQ) (k:Nat) (hk:k≤40) (zr:SzQ k r) (w0:World):Calls Tryz.prog 26 #[(vQ r)] w0 (dh w0 (vR (aQ r)) (SzR k (aQ r))):=by
 refine enter (N:=5) (args:=[(vQ r)]) Tryz.func26 rfl rfl ?_; intro ac h
 refine gz h <| (xb) fun b1=>(xa) fun b2=>(xo (hs:=by exact bX xn exs rfl (v:=(vR (⟨r,oQ,false⟩:GR))) rfl)) <| (W) ?_; clear h ac; intro ac wo h
 exact ret h rfl (.cell (v:=(vR (⟨r,oQ,false⟩:GR))) rfl (i:=0) rfl aa46 zz46 rfl rfl rfl .nil) rfl (h.retP (by unfold aQ; rfl) (by unfold aQ; exact ⟨zr,⟨(ed 0 (by decide) og),(ed 0 (by decide) og)⟩⟩))
def be (c0:GQ) (c1:GQ):Qd :=
 (⟨c0,c1,(⟨(⟨false,0⟩:GI),(⟨false,0⟩:GI)⟩:GQ)⟩:Qd)
theorem jU (c0:GQ) (c1:GQ) (k:Nat) (hk:k≤40) (zc0:SzQ k c0) (zc1:SzQ k c1) (w0:World):Calls Tryz.prog 150 #[(vQ c0),(vQ c1)] w0 (dh w0 (vD (be c0 c1)) (SzD k (be c0 c1))):=by
 refine enter (N:=8) (args:=[(vQ c0),(vQ c1)]) Tryz.func150 rfl rfl ?_; intro ac h
 refine gz h <| (xb) fun b1=>(xb) fun b2=>(xa) fun b3=>(xo (hs:=by exact bX xp exs rfl (v:=(vD (⟨c0,c1,oQ⟩:Qd))) rfl)) <| (W) ?_; clear h ac; intro ac wo h
 exact ret h rfl (.cell (v:=(vD (⟨c0,c1,oQ⟩:Qd))) rfl (i:=0) rfl aa72 zz72 rfl rfl rfl .nil) rfl (h.retP (by unfold be; rfl) (by unfold be; exact ⟨zc0,zc1,⟨(ed 0 (by decide) og),(ed 0 (by decide) og)⟩⟩))
def aW (q:Qd) (t:GQ):GQ :=
 (aB q.c0 (aj t (aB q.c1 (aj t q.c2))))
theorem kI (q:Qd) (t:GQ) (k:Nat) (hk:(k+10)≤40) (zq:SzD (k+10) q) (zt:SzQ (k+10) t) (w0:World):Calls Tryz.prog 81 #[(vD q),(vQ t)] w0 (dh w0 (vQ (aW q t)) (SzQ k (aW q t))):=by
 refine enter (N:=17) (args:=[(vD q),(vQ t)]) Tryz.func81 rfl rfl ?_; intro ac h
 have s1:=ar ((bq t q.c2 (k+8) og zt zq.2.2) w0)
 have s2:=ar ((cH q.c1 (aj t q.c2) (k+5) og (fD zq og).2.1 s1) w0)
 have s3:=ar ((bq t (aB q.c1 (aj t q.c2)) (k+3) og (di zt og) s2) w0)
 have s4:=ar ((cH q.c0 (aj t (aB q.c1 (aj t q.c2))) k og (fD zq og).1 s3) w0)
 refine gz h <| (xb) fun b1=>(xb) fun b2=>(xa) fun b3=>(dr1 (H:=[⟨.blk b3 (cQ oQ) 29,[(12,.con (.blk b3 (cQ (aB q.c0 (aj t (aB q.c1 (aj t q.c2))))) 29))]⟩,⟨_,[]⟩,⟨_,[]⟩]) (hob:=(oK (bq t q.c2 (k+8) og zt zq.2.2)) <| (oK (cH q.c1 (aj t q.c2) (k+5) og (fD zq og).2.1 s1)) <| (oK (bq t (aB q.c1 (aj t q.c2)) (k+3) og (di zt og) s2)) <| (oK (cH q.c0 (aj t (aB q.c1 (aj t q.c2))) k og (fD zq og).1 s3)) <| oE)) <| (W) ?_; clear h ac; intro ac wo h
 exact ret h rfl (.cell (v:=(vQ (aB q.c0 (aj t (aB q.c1 (aj t q.c2)))))) rfl (i:=0) rfl aa29 zz29 rfl rfl rfl .nil) rfl (h.retP (by unfold aW; rfl) (by unfold aW; exact s4))
def aR (q:Qd) (t:GQ):GQ :=
 (aB q.c1 (aj (aB q.c2 q.c2) t))
theorem iZ (q:Qd) (t:GQ) (k:Nat) (hk:(k+8)≤40) (zq:SzD (k+8) q) (zt:SzQ (k+8) t) (w0:World):Calls Tryz.prog 178 #[(vD q),(vQ t)] w0 (dh w0 (vQ (aR q t)) (SzQ k (aR q t))):=by
 refine enter (N:=15) (args:=[(vD q),(vQ t)]) Tryz.func178 rfl rfl ?_; intro ac h
 have s1:=ar ((cH q.c2 q.c2 (k+5) og zq.2.2 zq.2.2) w0)
 have s2:=ar ((bq (aB q.c2 q.c2) t (k+3) og s1 (di zt og)) w0)
 have s3:=ar ((cH q.c1 (aj (aB q.c2 q.c2) t) k og (fD zq og).2.1 s2) w0)
 refine gz h <| (xb) fun b1=>(xb) fun b2=>(xa) fun b3=>(dr1 (H:=[⟨.blk b3 (cQ oQ) 29,[(10,.con (.blk b3 (cQ (aB q.c1 (aj (aB q.c2 q.c2) t))) 29))]⟩,⟨_,[]⟩,⟨_,[]⟩]) (hob:=(oK (cH q.c2 q.c2 (k+5) og zq.2.2 zq.2.2)) <| (oK (bq (aB q.c2 q.c2) t (k+3) og s1 (di zt og))) <| (oK (cH q.c1 (aj (aB q.c2 q.c2) t) k og (fD zq og).2.1 s2)) <| oE)) <| (W) ?_; clear h ac; intro ac wo h
 exact ret h rfl (.cell (v:=(vQ (aB q.c1 (aj (aB q.c2 q.c2) t)))) rfl (i:=0) rfl aa29 zz29 rfl rfl rfl .nil) rfl (h.retP (by unfold aR; rfl) (by unfold aR; exact s3))
def cC (p:Qd) (q:Qd):Qd :=
 (⟨(ao p.c0 q.c0),(ao p.c1 q.c1),(ao p.c2 q.c2)⟩:Qd)
theorem jD (p:Qd) (q:Qd) (k:Nat) (hk:(k+3)≤40) (zp:SzD (k+3) p) (zq:SzD (k+3) q) (w0:World):Calls Tryz.prog 41 #[(vD p),(vD q)] w0 (dh w0 (vD (cC p q)) (SzD k (cC p q))):=by
 refine enter (N:=21) (args:=[(vD p),(vD q)]) Tryz.func41 rfl rfl ?_; intro ac h
 have s1:=ar ((dA p.c0 q.c0 k og zp.1 zq.1) w0)
 have s2:=ar ((dA p.c1 q.c1 k og zp.2.1 zq.2.1) w0)
 have s3:=ar ((dA p.c2 q.c2 k og zp.2.2 zq.2.2) w0)
 refine gz h <| (xb) fun b1=>(xb) fun b2=>(xa) fun b3=>(dr1 (H:=[⟨.blk b3 (cD oD) 72,[(16,.con (.blk b3 (cD (⟨(ao p.c0 q.c0),(ao p.c1 q.c1),(ao p.c2 q.c2)⟩:Qd)) 72))]⟩,⟨_,[]⟩,⟨_,[]⟩]) (hob:=(oK (dA p.c0 q.c0 k og zp.1 zq.1)) <| (oK (dA p.c1 q.c1 k og zp.2.1 zq.2.1)) <| (oK (dA p.c2 q.c2 k og zp.2.2 zq.2.2)) <| (oX (h:=by exact fun _=>bk (bX xp exs rfl (v:=(vD (⟨(ao p.c0 q.c0),(ao p.c1 q.c1),(ao p.c2 q.c2)⟩:Qd))) rfl))) <| oE)) <| (W) ?_; clear h ac; intro ac wo h
 exact ret h rfl (.cell (v:=(vD (⟨(ao p.c0 q.c0),(ao p.c1 q.c1),(ao p.c2 q.c2)⟩:Qd))) rfl (i:=0) rfl aa72 zz72 rfl rfl rfl .nil) rfl (h.retP (by unfold cC; rfl) (by unfold cC; exact ⟨s1,s2,s3⟩))
def dZ (x:GR):GQ×Bool :=
 bif (!(decide (x.r=(⟨(⟨false,0⟩:GI),(⟨false,0⟩:GI)⟩:GQ)))) then
  ((⟨(⟨false,0⟩:GI),(⟨false,0⟩:GI)⟩:GQ),false)
 else
  (x.p,true)
theorem oU (x:GR) (k:Nat) (hk:k≤40) (zx:SzR k x) (w0:World):Calls Tryz.prog 80 #[(vR x)] w0 (dh w0 (.tuple #[(vQ ((dZ x).1)),(.bool ((dZ x).2))]) (SzQ k ((dZ x).1))):=by
 refine enter (N:=11) (args:=[(vR x)]) Tryz.func80 rfl rfl ?_; intro ac h
 refine gz h <| (xb) fun b1=>(xa) fun b2=>(xo (hs:=by exact bX mR exs rfl (v:=(vQ oQ)) rfl)) <| (ai) ?_ ?_ <;> clear h ac <;> intro ac wo h hc1
 ·
  have hd:dZ x=(oQ,false):=pt
  refine gz h <| (xo (hs:=by exact bX mR exs rfl (v:=(vQ oQ)) rfl)) <| (W) ?_; clear h ac wo; intro ac wo h
  exact ret h rfl (.cell (v:=(vQ oQ)) rfl (i:=0) rfl aa29 zz29 rfl rfl rfl (.tmp rfl .nil)) rfl (h.retP (by rw [hd] <;> rfl) (by rw [hd]; exact ⟨(ed 0 (by decide) og),(ed 0 (by decide) og)⟩))
 ·
  have hd:dZ x=(x.p,true):=pt
  refine gz h <| (W) ?_; clear h ac wo; intro ac wo h
  exact ret h rfl (.cell (v:=(vQ x.p)) rfl (i:=0) rfl aa29 zz29 rfl rfl rfl (.tmp rfl .nil)) rfl (h.retP (by rw [hd] <;> rfl) (by rw [hd]; exact zx.1))
def bh (q:Qd) (t:GR):Qd :=
 bif (dZ t).2 then
  (an (aW q ((dZ t).1)))
 else
  (be (aB q.c0 (aj q.c2 (ao t.r (aj t.p t.p)))) (aR q t.p))
theorem iO (q:Qd) (t:GR) (k:Nat) (hk:(k+10)≤40) (zq:SzD (k+10) q) (zt:SzR (k+10) t) (w0:World):Calls Tryz.prog 83 #[(vD q),(vR t)] w0 (dh w0 (vD (bh q t)) (SzD k (bh q t))):=by
 refine enter (N:=38) (args:=[(vD q),(vR t)]) Tryz.func83 rfl rfl ?_; intro ac h
 have c1:=oU t (k+10) og zt
 have s1:=ar (c1 w0)
 refine gz h <| (xb) fun b1=>(xb) fun b2=>(xa) fun b3=>(xk c1) <| (xa) fun b4=>(ai) ?_ ?_ <;> clear h ac <;> intro ac wo h hc1
 ·
  have c2:=kI q ((dZ t).1) k og zq s1
  have s2:=ar (c2 w0)
  have c3:=fS (aW q ((dZ t).1)) k og s2
  have s3:=ar (c3 w0)
  have hd:bh q t=(an (aW q ((dZ t).1))):=pt
  refine gz h <| (xk c2) <| (xk c3) <| (W) ?_; clear h ac wo; intro ac wo h
  exact ret h rfl (.cell (v:=(vD (an (aW q ((dZ t).1))))) rfl (i:=1) rfl aa72 zz72 rfl rfl rfl .nil) rfl (h.retP (by rw [hd] <;> rfl) (by rw [hd]; exact s3))
 ·
  refine gz h <| (W) ?_; clear h ac wo; intro ac wo h
  have s4:=ar ((bq t.p t.p (k+8) og zt.1 zt.1) w0)
  have s5:=ar ((dA t.r (aj t.p t.p) (k+5) og (dG zt og).2 s4) w0)
  replace h:=h.emps 1
  refine fU mixed [dv _,dw _ [2],dv _,dw _ [2],dv _,dw _ [2],dv _,dv _,⟨.nd (.one 8 fun v=>∃ b,v=ptr b 0),[4]⟩,⟨.det undef,[4]⟩] [⟨_,[]⟩,⟨_,[]⟩,⟨_,[]⟩,⟨_,[]⟩,⟨.emp,[(8,.one 8 fun v=>.blk (bR v) (cQ oQ) 29),(9,.one 8 fun v=>.blk (bR v) (cQ (ao t.r (aj t.p t.p))) 29)]⟩] h rfl (by kernel_rfl) ⟨fun _ _=>bk (fa uu46 rfl zz29 rfl rfl rfl (k':=4)),fun _ _=>jB _ rfl rfl (kt aa29 zz29 rfl rfl rfl (v:=(vQ t.r)) rfl),fun _ _=>bk (fa uu46 rfl zz29 rfl rfl rfl (k':=0)),fun _ _=>jB _ rfl rfl (kt aa29 zz29 rfl rfl rfl (v:=(vQ t.p)) rfl),fun _ _=>bk (fa uu46 rfl zz29 rfl rfl rfl (k':=0)),fun _ _=>jB _ rfl rfl (kt aa29 zz29 rfl rfl rfl (v:=(vQ t.p)) rfl),fun _ _=>i0 (iC Tryz.call172 rfl (bq t.p t.p (k+8) og zt.1 zt.1)),fun _ _=>i0 (iC cc148 rfl (dA t.r (aj t.p t.p) (k+5) og (dG zt og).2 s4)),fun _ _=>my (ψ:=fun v=>∃ b,v=ptr b 0) (B:=fun v=>[.blk (bR v) (cQ oQ) 29]) [.emp] rfl (fun v _=>by simp only [dJ,bt] <;> rfl) (fun v hv=>by simpa [DF.one,bt] using hv) (jh (gO vv29 rfl)),(fun ξ hφ=>by obtain ⟨b5,hb8⟩:=hφ 8 rfl; exact lS [.blk b5 (cQ oQ) 29] [.blk b5 (cQ (ao t.r (aj t.p t.p))) 29] (congrArg (fun v=>[Asn.blk (bR v) (cQ oQ) 29]) hb8) (congrArg (fun v=>[Asn.blk (bR v) (cQ (ao t.r (aj t.p t.p))) 29]) hb8) (qK zz29 (Eq.trans rfl (congrArg some hb8)) rfl rfl rfl rfl rfl rfl)),trivial⟩ ?_
  clear h ac wo; intro ξ ac wo hφ h
  replace h:St w0 38 [(2,(ptr b1 0)),(3,(ptr b2 0)),(4,(ptr b3 0)),(7,ξ 8)] [.blk b4 (cQ ((dZ t).1)) 29,.blk b3 (cD oD) 72,.blk b2 (cR t) 46,.blk b1 (cD q) 72,.blk (bR (ξ 8)) (cQ (ao t.r (aj t.p t.p))) 29] ac wo:=h.sub ⟨rfl,rfl,rfl,rfl,trivial⟩
  revert h
  obtain ⟨b5,hb8⟩:∃ b,ξ 8=ptr b 0:=hφ 8
  rw [hb8]; intro h
  clear hb8 hφ ξ
  refine gz h <| (W) ?_; clear h ac wo; intro ac wo h
  have s6:=ar ((bq q.c2 (ao t.r (aj t.p t.p)) (k+3) og (fD zq og).2.2 s5) w0)
  have s7:=ar ((cH q.c0 (aj q.c2 (ao t.r (aj t.p t.p))) k og (fD zq og).1 s6) w0)
  have s8:=ar ((iZ q t.p (k+2) og zq zt.1) w0)
  have s9:=ar ((jU (aB q.c0 (aj q.c2 (ao t.r (aj t.p t.p)))) (aR q t.p) k og s7 (di s8 og)) w0)
  have hd:bh q t=(be (aB q.c0 (aj q.c2 (ao t.r (aj t.p t.p)))) (aR q t.p)):=pt
  refine gz h <| (dr1 (H:=[⟨_,[]⟩,⟨.blk b3 (cD oD) 72,[(12,.con (.blk b3 (cD (be (aB q.c0 (aj q.c2 (ao t.r (aj t.p t.p)))) (aR q t.p))) 72))]⟩,⟨_,[]⟩,⟨_,[]⟩,⟨_,[]⟩]) (hob:=(oK (bq q.c2 (ao t.r (aj t.p t.p)) (k+3) og (fD zq og).2.2 s5)) <| (oK (cH q.c0 (aj q.c2 (ao t.r (aj t.p t.p))) k og (fD zq og).1 s6)) <| (oK (iZ q t.p (k+2) og zq zt.1)) <| (oK (jU (aB q.c0 (aj q.c2 (ao t.r (aj t.p t.p)))) (aR q t.p) k og s7 (di s8 og))) <| oE)) <| (W) ?_; clear h ac wo; intro ac wo h
  exact ret h rfl (.cell (v:=(vD (be (aB q.c0 (aj q.c2 (ao t.r (aj t.p t.p)))) (aR q t.p)))) rfl (i:=1) rfl aa72 zz72 rfl rfl rfl .nil) rfl (h.retP (by rw [hd] <;> rfl) (by rw [hd]; exact s9))
def gH (p:Qd) (q:Qd) (t:GR):Bool :=
 (decide ((bh (cC p q) t)=(⟨(⟨(⟨false,0⟩:GI),(⟨false,0⟩:GI)⟩:GQ),(⟨(⟨false,0⟩:GI),(⟨false,0⟩:GI)⟩:GQ),(⟨(⟨false,0⟩:GI),(⟨false,0⟩:GI)⟩:GQ)⟩:Qd)))
theorem nV (p:Qd) (q:Qd) (t:GR) (k:Nat) (hk:(k+14)≤40) (zp:SzD (k+14) p) (zq:SzD (k+14) q) (zt:SzR (k+14) t) (w0:World):Calls Tryz.prog 74 #[(vD p),(vD q),(vR t)] w0 (dh w0 (.bool (gH p q t)) (True)):=by
 refine enter (N:=14) (args:=[(vD p),(vD q),(vR t)]) Tryz.func74 rfl rfl ?_; intro ac h
 have s1:=ar ((jD p q (k+11) og zp zq) w0)
 have s2:=ar ((iO (cC p q) t (k+1) og s1 (dG zt og)) w0)
 refine gz h <| (xb) fun b1=>(xb) fun b2=>(xb) fun b3=>(dr0 (hob:=(oK (jD p q (k+11) og zp zq)) <| (oK (iO (cC p q) t (k+1) og s1 (dG zt og))) <| (oX (h:=by exact fun _=>bk (bX xp exs rfl (v:=(vD oD)) rfl))) <| oE)) <| (W) ?_; clear h ac; intro ac wo h
 exact (rt h) (h.retP (by unfold gH; rfl) trivial)
def cA (a:Iv) (b:Iv):Bool :=
 ((decide ((ah a.hi b.lo) < 0)) || (((ah a.hi b.lo) == 0) && (a.openHi || b.openLo)))
theorem jX (a:Iv) (b:Iv) (k:Nat) (hk:(k+20)≤40) (za:SzV (k+20) a) (zb:SzV (k+20) b) (w0:World):Calls Tryz.prog 152 #[(vV a),(vV b)] w0 (dh w0 (.bool (cA a b)) (True)):=by
 refine enter (N:=25) (args:=[(vV a),(vV b)]) Tryz.func152 rfl rfl ?_; intro ac h
 have p2:=ar ((aL a.hi b.lo k og za.2 zb.1) w0)
 refine gz h <| (xb) fun b1=>(xb) fun b2=>(xk (aL a.hi b.lo k og za.2 zb.1)) <| (W) ?_; clear h ac; intro ac wo h
 exact (rt h) (h.retP (by unfold cA; rfl) trivial)
def aN (i:Iv):Bool :=
 (decide (i.lo=i.hi))
theorem fj (i:Iv) (w0:World):Calls Tryz.prog 154 #[(vV i)] w0 (dh w0 (.bool (aN i)) (True)):=by
 refine enter (N:=8) (args:=[(vV i)]) Tryz.func154 rfl rfl ?_; intro ac h
 refine gz h <| (xb) fun b1=>(W) ?_; clear h ac; intro ac wo h
 exact (rt h) (h.retP (by unfold aN; rfl) trivial)
def iH (a:Iv) (b:Iv):Bool :=
 ((decide ((ah a.hi b.hi) < 0)) || (((ah a.hi b.hi) == 0) && (a.openHi || (!b.openHi))))
theorem jW (a:Iv) (b:Iv) (k:Nat) (hk:(k+20)≤40) (za:SzV (k+20) a) (zb:SzV (k+20) b) (w0:World):Calls Tryz.prog 184 #[(vV a),(vV b)] w0 (dh w0 (.bool (iH a b)) (True)):=by
 refine enter (N:=26) (args:=[(vV a),(vV b)]) Tryz.func184 rfl rfl ?_; intro ac h
 have p2:=ar ((aL a.hi b.hi k og za.2 zb.2) w0)
 refine gz h <| (xb) fun b1=>(xb) fun b2=>(xk (aL a.hi b.hi k og za.2 zb.2)) <| (W) ?_; clear h ac; intro ac wo h
 exact (rt h) (h.retP (by unfold iH; rfl) trivial)
def bO (a:Iv) (b:Iv):Iv×Bool :=
 bif (decide ((ah a.lo b.lo) < 0)) then
  bif (decide ((ah a.hi b.hi)>0)) then
   ((⟨b.lo,b.hi,b.openLo,b.openHi⟩:Iv),((decide ((ah b.lo b.hi) < 0)) || ((((ah b.lo b.hi) == 0) && (!b.openLo)) && (!b.openHi))))
  else
   bif ((ah a.hi b.hi) == 0) then
    ((⟨b.lo,a.hi,b.openLo,(a.openHi || b.openHi)⟩:Iv),((decide ((ah b.lo a.hi) < 0)) || ((((ah b.lo a.hi) == 0) && (!b.openLo)) && (!(a.openHi || b.openHi)))))
   else
    ((⟨b.lo,a.hi,b.openLo,a.openHi⟩:Iv),((decide ((ah b.lo a.hi) < 0)) || ((((ah b.lo a.hi) == 0) && (!b.openLo)) && (!a.openHi))))
 else
  bif ((ah a.lo b.lo) == 0) then
   bif (decide ((ah a.hi b.hi)>0)) then
    ((⟨a.lo,b.hi,(a.openLo || b.openLo),b.openHi⟩:Iv),((decide ((ah a.lo b.hi) < 0)) || ((((ah a.lo b.hi) == 0) && (!(a.openLo || b.openLo))) && (!b.openHi))))
   else
    bif ((ah a.hi b.hi) == 0) then
     ((⟨a.lo,a.hi,(a.openLo || b.openLo),(a.openHi || b.openHi)⟩:Iv),((decide ((ah a.lo a.hi) < 0)) || ((((ah a.lo a.hi) == 0) && (!(a.openLo || b.openLo))) && (!(a.openHi || b.openHi)))))
    else
     ((⟨a.lo,a.hi,(a.openLo || b.openLo),a.openHi⟩:Iv),((decide ((ah a.lo a.hi) < 0)) || ((((ah a.lo a.hi) == 0) && (!(a.openLo || b.openLo))) && (!a.openHi))))
  else
   bif (decide ((ah a.hi b.hi)>0)) then
    ((⟨a.lo,b.hi,a.openLo,b.openHi⟩:Iv),((decide ((ah a.lo b.hi) < 0)) || ((((ah a.lo b.hi) == 0) && (!a.openLo)) && (!b.openHi))))
   else
    bif ((ah a.hi b.hi) == 0) then
     ((⟨a.lo,a.hi,a.openLo,(a.openHi || b.openHi)⟩:Iv),((decide ((ah a.lo a.hi) < 0)) || ((((ah a.lo a.hi) == 0) && (!a.openLo)) && (!(a.openHi || b.openHi)))))
    else
     (a,((decide ((ah a.lo a.hi) < 0)) || ((((ah a.lo a.hi) == 0) && (!a.openLo)) && (!a.openHi))))
theorem mw (a:Iv) (b:Iv) (k:Nat) (hk:(k+20)≤40) (za:SzV (k+20) a) (zb:SzV (k+20) b) (w0:World):Calls Tryz.prog 183 #[(vV a),(vV b)] w0 (dh w0 (.tuple #[(vV ((bO a b).1)),(.bool ((bO a b).2))]) (SzV k ((bO a b).1))):=by
 refine enter (N:=81) (args:=[(vV a),(vV b)]) Tryz.func183 rfl rfl ?_; intro ac h
 have p2:=ar ((aL a.lo b.lo k og za.1 zb.1) w0)
 refine gz h <| (xb) fun b1=>(xb) fun b2=>(xa) fun b3=>(xa) fun b4=>(xk (aL a.lo b.lo k og za.1 zb.1)) <| (ai) ?_ ?_ <;> clear h ac <;> intro ac wo h hc1
 ·
  have hd1:=of_decide_eq_true hc1
  refine gz h <| (dr1 (H:=[⟨.blk b4 (cV a) 74,[(5,.con (.blk b4 (cV (⟨b.lo,a.hi,a.openLo,a.openHi⟩:Iv)) 74)),(7,.con (.blk b4 (cV (⟨b.lo,a.hi,b.openLo,a.openHi⟩:Iv)) 74))]⟩,⟨_,[]⟩,⟨_,[]⟩,⟨_,[]⟩]) (hob:=oE)) <| (W) ?_; clear h ac wo; intro ac wo h
  have p4:=ar ((aL a.hi b.hi k og za.2 zb.2) w0)
  refine gz h <| (xk (aL a.hi b.hi k og za.2 zb.2)) <| (ai) ?_ ?_ <;> clear h ac wo <;> intro ac wo h hc2
  ·
   have hd2:=of_decide_eq_true hc2
   refine gz h <| (dr1 (H:=[⟨.blk b4 (cV (⟨b.lo,a.hi,b.openLo,a.openHi⟩:Iv)) 74,[(5,.con (.blk b4 (cV (⟨b.lo,b.hi,b.openLo,a.openHi⟩:Iv)) 74)),(7,.con (.blk b4 (cV (⟨b.lo,b.hi,b.openLo,b.openHi⟩:Iv)) 74))]⟩,⟨_,[]⟩,⟨_,[]⟩,⟨_,[]⟩]) (hob:=oE)) <| (W) ?_; clear h ac wo; intro ac wo h
   have p6:=ar ((aL b.lo b.hi k og zb.1 zb.2) w0)
   have hd:bO a b=((⟨b.lo,b.hi,b.openLo,b.openHi⟩:Iv),((decide ((ah b.lo b.hi) < 0)) || ((((ah b.lo b.hi) == 0) && (!b.openLo)) && (!b.openHi)))):=pt
   refine gz h <| (xk (aL b.lo b.hi k og zb.1 zb.2)) <| (dr1 (H:=[⟨_,[]⟩,⟨.blk b3 (cV (⟨(⟨oQ,oQ,false⟩:GR),(⟨oQ,oQ,false⟩:GR),false,false⟩:Iv)) 74,[(17,.con (.blk b3 (cV (⟨b.lo,b.hi,b.openLo,b.openHi⟩:Iv)) 74))]⟩,⟨_,[]⟩,⟨_,[]⟩]) (hob:=oE)) <| (W) ?_; clear h ac wo; intro ac wo h
   exact ret h rfl (.cell (v:=(vV (⟨b.lo,b.hi,b.openLo,b.openHi⟩:Iv))) rfl (i:=1) rfl aa74 zz74 rfl rfl rfl (.tmp rfl .nil)) rfl (h.retP (by rw [hd] <;> rfl) (by rw [hd]; exact ⟨(iU zb og).1,(iU zb og).2⟩))
  ·
   have hd2:=of_decide_eq_false hc2
   refine gz h <| (ai) ?_ ?_ <;> clear h ac wo <;> intro ac wo h hc3
   ·
    have hd3:=eq_of_beq hc3
    have p8:=ar ((aL b.lo a.hi k og zb.1 za.2) w0)
    have hd:bO a b=((⟨b.lo,a.hi,b.openLo,(a.openHi || b.openHi)⟩:Iv),((decide ((ah b.lo a.hi) < 0)) || ((((ah b.lo a.hi) == 0) && (!b.openLo)) && (!(a.openHi || b.openHi))))):=pt
    refine gz h <| (xs 0 (cV (⟨b.lo,a.hi,b.openLo,(a.openHi || b.openHi)⟩:Iv))) <| (xk (aL b.lo a.hi k og zb.1 za.2)) <| (dr1 (H:=[⟨_,[]⟩,⟨.blk b3 (cV (⟨(⟨oQ,oQ,false⟩:GR),(⟨oQ,oQ,false⟩:GR),false,false⟩:Iv)) 74,[(17,.con (.blk b3 (cV (⟨b.lo,a.hi,b.openLo,(a.openHi || b.openHi)⟩:Iv)) 74))]⟩,⟨_,[]⟩,⟨_,[]⟩]) (hob:=oE)) <| (W) ?_; clear h ac wo; intro ac wo h
    exact ret h rfl (.cell (v:=(vV (⟨b.lo,a.hi,b.openLo,(a.openHi || b.openHi)⟩:Iv))) rfl (i:=1) rfl aa74 zz74 rfl rfl rfl (.tmp rfl .nil)) rfl (h.retP (by rw [hd] <;> rfl) (by rw [hd]; exact ⟨(iU zb og).1,(iU za og).2⟩))
   ·
    have hd3:=ne_of_beq_false hc3
    have p10:=ar ((aL b.lo a.hi k og zb.1 za.2) w0)
    have hd:bO a b=((⟨b.lo,a.hi,b.openLo,a.openHi⟩:Iv),((decide ((ah b.lo a.hi) < 0)) || ((((ah b.lo a.hi) == 0) && (!b.openLo)) && (!a.openHi)))):=pt
    refine gz h <| (xk (aL b.lo a.hi k og zb.1 za.2)) <| (dr1 (H:=[⟨_,[]⟩,⟨.blk b3 (cV (⟨(⟨oQ,oQ,false⟩:GR),(⟨oQ,oQ,false⟩:GR),false,false⟩:Iv)) 74,[(17,.con (.blk b3 (cV (⟨b.lo,a.hi,b.openLo,a.openHi⟩:Iv)) 74))]⟩,⟨_,[]⟩,⟨_,[]⟩]) (hob:=oE)) <| (W) ?_; clear h ac wo; intro ac wo h
    exact ret h rfl (.cell (v:=(vV (⟨b.lo,a.hi,b.openLo,a.openHi⟩:Iv))) rfl (i:=1) rfl aa74 zz74 rfl rfl rfl (.tmp rfl .nil)) rfl (h.retP (by rw [hd] <;> rfl) (by rw [hd]; exact ⟨(iU zb og).1,(iU za og).2⟩))
 ·
  have hd1:=of_decide_eq_false hc1
  refine gz h <| (ai) ?_ ?_ <;> clear h ac wo <;> intro ac wo h hc4
  ·
   have hd4:=eq_of_beq hc4
   have p12:=ar ((aL a.hi b.hi k og za.2 zb.2) w0)
   refine gz h <| (xs 0 (cV (⟨a.lo,a.hi,(a.openLo || b.openLo),a.openHi⟩:Iv))) <| (xk (aL a.hi b.hi k og za.2 zb.2)) <| (ai) ?_ ?_ <;> clear h ac wo <;> intro ac wo h hc5
   ·
    have hd5:=of_decide_eq_true hc5
    refine gz h <| (dr1 (H:=[⟨.blk b4 (cV (⟨a.lo,a.hi,(a.openLo || b.openLo),a.openHi⟩:Iv)) 74,[(5,.con (.blk b4 (cV (⟨a.lo,b.hi,(a.openLo || b.openLo),a.openHi⟩:Iv)) 74)),(7,.con (.blk b4 (cV (⟨a.lo,b.hi,(a.openLo || b.openLo),b.openHi⟩:Iv)) 74))]⟩,⟨_,[]⟩,⟨_,[]⟩,⟨_,[]⟩]) (hob:=oE)) <| (W) ?_; clear h ac wo; intro ac wo h
    have p14:=ar ((aL a.lo b.hi k og za.1 zb.2) w0)
    have hd:bO a b=((⟨a.lo,b.hi,(a.openLo || b.openLo),b.openHi⟩:Iv),((decide ((ah a.lo b.hi) < 0)) || ((((ah a.lo b.hi) == 0) && (!(a.openLo || b.openLo))) && (!b.openHi)))):=pt
    refine gz h <| (xk (aL a.lo b.hi k og za.1 zb.2)) <| (dr1 (H:=[⟨_,[]⟩,⟨.blk b3 (cV (⟨(⟨oQ,oQ,false⟩:GR),(⟨oQ,oQ,false⟩:GR),false,false⟩:Iv)) 74,[(17,.con (.blk b3 (cV (⟨a.lo,b.hi,(a.openLo || b.openLo),b.openHi⟩:Iv)) 74))]⟩,⟨_,[]⟩,⟨_,[]⟩]) (hob:=oE)) <| (W) ?_; clear h ac wo; intro ac wo h
    exact ret h rfl (.cell (v:=(vV (⟨a.lo,b.hi,(a.openLo || b.openLo),b.openHi⟩:Iv))) rfl (i:=1) rfl aa74 zz74 rfl rfl rfl (.tmp rfl .nil)) rfl (h.retP (by rw [hd] <;> rfl) (by rw [hd]; exact ⟨(iU za og).1,(iU zb og).2⟩))
   ·
    have hd5:=of_decide_eq_false hc5
    refine gz h <| (ai) ?_ ?_ <;> clear h ac wo <;> intro ac wo h hc6
    ·
     have hd6:=eq_of_beq hc6
     have p16:=ar ((aL a.lo a.hi k og za.1 za.2) w0)
     have hd:bO a b=((⟨a.lo,a.hi,(a.openLo || b.openLo),(a.openHi || b.openHi)⟩:Iv),((decide ((ah a.lo a.hi) < 0)) || ((((ah a.lo a.hi) == 0) && (!(a.openLo || b.openLo))) && (!(a.openHi || b.openHi))))):=pt
     refine gz h <| (xs 0 (cV (⟨a.lo,a.hi,(a.openLo || b.openLo),(a.openHi || b.openHi)⟩:Iv))) <| (xk (aL a.lo a.hi k og za.1 za.2)) <| (dr1 (H:=[⟨_,[]⟩,⟨.blk b3 (cV (⟨(⟨oQ,oQ,false⟩:GR),(⟨oQ,oQ,false⟩:GR),false,false⟩:Iv)) 74,[(17,.con (.blk b3 (cV (⟨a.lo,a.hi,(a.openLo || b.openLo),(a.openHi || b.openHi)⟩:Iv)) 74))]⟩,⟨_,[]⟩,⟨_,[]⟩]) (hob:=oE)) <| (W) ?_; clear h ac wo; intro ac wo h
     exact ret h rfl (.cell (v:=(vV (⟨a.lo,a.hi,(a.openLo || b.openLo),(a.openHi || b.openHi)⟩:Iv))) rfl (i:=1) rfl aa74 zz74 rfl rfl rfl (.tmp rfl .nil)) rfl (h.retP (by rw [hd] <;> rfl) (by rw [hd]; exact ⟨(iU za og).1,(iU za og).2⟩))
    ·
     have hd6:=ne_of_beq_false hc6
     have p18:=ar ((aL a.lo a.hi k og za.1 za.2) w0)
     have hd:bO a b=((⟨a.lo,a.hi,(a.openLo || b.openLo),a.openHi⟩:Iv),((decide ((ah a.lo a.hi) < 0)) || ((((ah a.lo a.hi) == 0) && (!(a.openLo || b.openLo))) && (!a.openHi)))):=pt
     refine gz h <| (xk (aL a.lo a.hi k og za.1 za.2)) <| (dr1 (H:=[⟨_,[]⟩,⟨.blk b3 (cV (⟨(⟨oQ,oQ,false⟩:GR),(⟨oQ,oQ,false⟩:GR),false,false⟩:Iv)) 74,[(17,.con (.blk b3 (cV (⟨a.lo,a.hi,(a.openLo || b.openLo),a.openHi⟩:Iv)) 74))]⟩,⟨_,[]⟩,⟨_,[]⟩]) (hob:=oE)) <| (W) ?_; clear h ac wo; intro ac wo h
     exact ret h rfl (.cell (v:=(vV (⟨a.lo,a.hi,(a.openLo || b.openLo),a.openHi⟩:Iv))) rfl (i:=1) rfl aa74 zz74 rfl rfl rfl (.tmp rfl .nil)) rfl (h.retP (by rw [hd] <;> rfl) (by rw [hd]; exact ⟨(iU za og).1,(iU za og).2⟩))
  ·
   have hd4:=ne_of_beq_false hc4
   have p20:=ar ((aL a.hi b.hi k og za.2 zb.2) w0)
   refine gz h <| (xk (aL a.hi b.hi k og za.2 zb.2)) <| (ai) ?_ ?_ <;> clear h ac wo <;> intro ac wo h hc7
   ·
    have hd7:=of_decide_eq_true hc7
    refine gz h <| (dr1 (H:=[⟨.blk b4 (cV a) 74,[(5,.con (.blk b4 (cV (⟨a.lo,b.hi,a.openLo,a.openHi⟩:Iv)) 74)),(7,.con (.blk b4 (cV (⟨a.lo,b.hi,a.openLo,b.openHi⟩:Iv)) 74))]⟩,⟨_,[]⟩,⟨_,[]⟩,⟨_,[]⟩]) (hob:=oE)) <| (W) ?_; clear h ac wo; intro ac wo h
    have p22:=ar ((aL a.lo b.hi k og za.1 zb.2) w0)
    have hd:bO a b=((⟨a.lo,b.hi,a.openLo,b.openHi⟩:Iv),((decide ((ah a.lo b.hi) < 0)) || ((((ah a.lo b.hi) == 0) && (!a.openLo)) && (!b.openHi)))):=pt
    refine gz h <| (xk (aL a.lo b.hi k og za.1 zb.2)) <| (dr1 (H:=[⟨_,[]⟩,⟨.blk b3 (cV (⟨(⟨oQ,oQ,false⟩:GR),(⟨oQ,oQ,false⟩:GR),false,false⟩:Iv)) 74,[(17,.con (.blk b3 (cV (⟨a.lo,b.hi,a.openLo,b.openHi⟩:Iv)) 74))]⟩,⟨_,[]⟩,⟨_,[]⟩]) (hob:=oE)) <| (W) ?_; clear h ac wo; intro ac wo h
    exact ret h rfl (.cell (v:=(vV (⟨a.lo,b.hi,a.openLo,b.openHi⟩:Iv))) rfl (i:=1) rfl aa74 zz74 rfl rfl rfl (.tmp rfl .nil)) rfl (h.retP (by rw [hd] <;> rfl) (by rw [hd]; exact ⟨(iU za og).1,(iU zb og).2⟩))
   ·
    have hd7:=of_decide_eq_false hc7
    refine gz h <| (ai) ?_ ?_ <;> clear h ac wo <;> intro ac wo h hc8
    ·
     have hd8:=eq_of_beq hc8
     have p24:=ar ((aL a.lo a.hi k og za.1 za.2) w0)
     have hd:bO a b=((⟨a.lo,a.hi,a.openLo,(a.openHi || b.openHi)⟩:Iv),((decide ((ah a.lo a.hi) < 0)) || ((((ah a.lo a.hi) == 0) && (!a.openLo)) && (!(a.openHi || b.openHi))))):=pt
     refine gz h <| (xs 0 (cV (⟨a.lo,a.hi,a.openLo,(a.openHi || b.openHi)⟩:Iv))) <| (xk (aL a.lo a.hi k og za.1 za.2)) <| (dr1 (H:=[⟨_,[]⟩,⟨.blk b3 (cV (⟨(⟨oQ,oQ,false⟩:GR),(⟨oQ,oQ,false⟩:GR),false,false⟩:Iv)) 74,[(17,.con (.blk b3 (cV (⟨a.lo,a.hi,a.openLo,(a.openHi || b.openHi)⟩:Iv)) 74))]⟩,⟨_,[]⟩,⟨_,[]⟩]) (hob:=oE)) <| (W) ?_; clear h ac wo; intro ac wo h
     exact ret h rfl (.cell (v:=(vV (⟨a.lo,a.hi,a.openLo,(a.openHi || b.openHi)⟩:Iv))) rfl (i:=1) rfl aa74 zz74 rfl rfl rfl (.tmp rfl .nil)) rfl (h.retP (by rw [hd] <;> rfl) (by rw [hd]; exact ⟨(iU za og).1,(iU za og).2⟩))
    ·
     have hd8:=ne_of_beq_false hc8
     have p26:=ar ((aL a.lo a.hi k og za.1 za.2) w0)
     have hd:bO a b=(a,((decide ((ah a.lo a.hi) < 0)) || ((((ah a.lo a.hi) == 0) && (!a.openLo)) && (!a.openHi)))):=pt
     refine gz h <| (xk (aL a.lo a.hi k og za.1 za.2)) <| (dr1 (H:=[⟨_,[]⟩,⟨.blk b3 (cV (⟨(⟨oQ,oQ,false⟩:GR),(⟨oQ,oQ,false⟩:GR),false,false⟩:Iv)) 74,[(17,.con (.blk b3 (cV a) 74))]⟩,⟨_,[]⟩,⟨_,[]⟩]) (hob:=oE)) <| (W) ?_; clear h ac wo; intro ac wo h
     exact ret h rfl (.cell (v:=(vV a)) rfl (i:=1) rfl aa74 zz74 rfl rfl rfl (.tmp rfl .nil)) rfl (h.retP (by rw [hd] <;> rfl) (by rw [hd]; exact (iU za og)))
end Go.Sx
