/- A part of the proof of movingpointSamples. -/
import Derived.Test.YtbenbmdkhcfcfaaGreatDoorProg
import Derived.Test.YtbenbmdkhcfcfaaGreatDoorV6
set_option linter.unusedVariables false
set_option linter.unusedSimpArgs false
open Go.Proofs.Tryz renaming isAgg27 → aa27, sizeOf27 → zz27, runUnderlying71 → uu71, call22 → cc22, isAgg71 → aa71, sizeOf71 → zz71, zeroValue27 → vv27, isAgg53 → aa53, sizeOf53 → zz53
namespace Go.Sx
open Go Go.RowKit Go.Proofs
set_option maxRecDepth 100000
set_option maxHeartbeats 40000000
attribute [local irreducible] Code.wp wpList Rd Step ObS Ent
def aU (x : GR) : GQ :=
 bif x.neg then
  (ak (-1))
 else
  (ak 1)
theorem fz (x : GR) (k : Nat) (hk : k ≤ 40) (zx : SzR k x) (w0 : World) : Calls Tryz.prog 210 #[(vR x)] w0 (RetP w0 (vQ (aU x)) (SzQ k (aU x))) := by
 refine enter (N := 7) (args := [(vR x)]) Tryz.func210 rfl rfl ?_; intro ac h
 refine gz h <| (xb) fun b1 => (xa) fun b2 => (ai) ?_ ?_ <;> clear h ac <;> intro ac wo h hc1
 ·
  have c1 := bL (-1) k og  og
  have s1 := am (c1 w0)
  have hd : aU x = (ak (-1)) := pt
  refine gz h <| (xk c1) <| (W) ?_; clear h ac wo; intro ac wo h
  exact ret h rfl (.cell (v := (vQ (ak (-1)))) rfl (i := 0) rfl aa27 zz27 rfl rfl rfl .nil) rfl (h.retP (by rw [hd] <;> rfl) (by rw [hd]; exact s1))
 ·
  have c2 := bL 1 k og  og
  have s2 := am (c2 w0)
  have hd : aU x = (ak 1) := pt
  refine gz h <| (xk c2) <| (W) ?_; clear h ac wo; intro ac wo h
  exact ret h rfl (.cell (v := (vQ (ak 1))) rfl (i := 0) rfl aa27 zz27 rfl rfl rfl .nil) rfl (h.retP (by rw [hd] <;> rfl) (by rw [hd]; exact s2))
def cY (a : GQ) (b : GQ) (r : GQ) : Int :=
 bif ((((au b) * (au r)) == 0) || ((au a) == ((au b) * (au r)))) then
  (au a)
 else
  bif ((au a) == 0) then
   ((au b) * (au r))
  else
   ((au a) * (aR (aj a a) (aj (aj b b) r)))
theorem gh (a : GQ) (b : GQ) (r : GQ) (k : Nat) (hk : (k + 8) ≤ 40) (za : SzQ (k + 8) a) (zb : SzQ (k + 8) b) (zr : SzQ (k + 8) r) (w0 : World) : Calls Tryz.prog 211 #[(vQ a), (vQ b), (vQ r)] w0 (RetP w0 (.int .i64 (cY a b r)) ((-1 ≤ (cY a b r) ∧ (cY a b r) ≤ 1))) := by
 refine enter (N := 40) (args := [(vQ a), (vQ b), (vQ r)]) Tryz.func211 rfl rfl ?_; intro ac h
 have p2 := am ((bS a) w0)
 have p4 := am ((bS b) w0)
 have p6 := am ((bS r) w0)
 refine gz h <| (xb) fun b1 => (xb) fun b2 => (xb) fun b3 => (dr0 (hob := (oK (bS a)) <| (oK (bS b)) <| (oK (bS r)) <| (oX (h := by exact fun _ => a7 (jF rfl rfl (r := ((au b) * (au r))) (by first | (rw [IntKind.wrap_i64]; omega) | exact gg og og)))) <| oE)) <| (ai) ?_ ?_ <;> clear h ac <;> intro ac wo h hc1
 ·
  have hd : cY a b r = (au a) := pt
  refine gz h <| (W) ?_; clear h ac wo; intro ac wo h
  exact (rt h) (h.retP (by rw [hd] <;> rfl) (by rw [hd]; exact by first | omega | exact dO og og))
 ·
  refine gz h <| (ai) ?_ ?_ <;> clear h ac wo <;> intro ac wo h hc2
  ·
   have hd2 := eq_of_beq hc2
   have hd : cY a b r = ((au b) * (au r)) := pt
   refine gz h <| (W) ?_; clear h ac wo; intro ac wo h
   exact (rt h) (h.retP (by rw [hd] <;> rfl) (by rw [hd]; exact by first | omega | exact dO og og))
  ·
   have hd2 := ne_of_beq_false hc2
   refine gz h <| (W) ?_; clear h ac wo; intro ac wo h
   have s7 := am ((aT a a (k + 6) og za za) w0)
   have s8 := am ((aT b b (k + 6) og zb zb) w0)
   have s9 := am ((aT (aj b b) r (k + 4) og s8 (bM zr og)) w0)
   have p11 := am ((d8 (aj a a) (aj (aj b b) r) (k + 3) og (bM s7 og) s9) w0)
   have hd : cY a b r = ((au a) * (aR (aj a a) (aj (aj b b) r))) := pt
   refine gz h <| (dr0 (hob := (oK (aT a a (k + 6) og za za)) <| (oK (aT b b (k + 6) og zb zb)) <| (oK (aT (aj b b) r (k + 4) og s8 (bM zr og))) <| (oK (d8 (aj a a) (aj (aj b b) r) (k + 3) og (bM s7 og) s9)) <| (oX (h := by exact fun _ => a7 (jF rfl rfl (r := ((au a) * (aR (aj a a) (aj (aj b b) r)))) (by first | (rw [IntKind.wrap_i64]; omega) | exact gg og og)))) <| oE)) <| (W) ?_; clear h ac wo; intro ac wo h
   exact (rt h) (h.retP (by rw [hd] <;> rfl) (by rw [hd]; exact by first | omega | exact dO og og))
def aq (x : GR) (y : GR) : Int :=
 bif ((((au (aP (aU y))) * (au y.r)) == 0) || ((cY (ah x.p y.p) (aU x) x.r) == ((au (aP (aU y))) * (au y.r)))) then
  (cY (ah x.p y.p) (aU x) x.r)
 else
  bif ((cY (ah x.p y.p) (aU x) x.r) == 0) then
   ((au (aP (aU y))) * (au y.r))
  else
   ((cY (ah x.p y.p) (aU x) x.r) * (cY (ah (av (aj (ah x.p y.p) (ah x.p y.p)) x.r) y.r) (aj (ak 2) (aj (ah x.p y.p) (aU x))) x.r))
theorem ce (x : GR) (y : GR) (k : Nat) (hk : (k + 20) ≤ 40) (zx : SzR (k + 20) x) (zy : SzR (k + 20) y) (w0 : World) : Calls Tryz.prog 127 #[(vR x), (vR y)] w0 (RetP w0 (.int .i64 (aq x y)) ((-1 ≤ (aq x y) ∧ (aq x y) ≤ 1))) := by
 refine enter (N := 65) (args := [(vR x), (vR y)]) Tryz.func127 rfl rfl ?_; intro ac h
 have s1 := am ((bu x.p y.p (k + 17) og zx.1 zy.1) w0)
 have s2 := am ((fz x (k + 20) og zx) w0)
 have s3 := am ((fz y (k + 20) og zy) w0)
 have s4 := am ((dI (aU y) (k + 20) og s3) w0)
 refine gz h <| (xb) fun b1 => (xb) fun b2 => (W) ?_; clear h ac; intro ac wo h
 replace h := h.emps 3
 refine d4 mixed [dv _, dw _ [1], dv _, dw _ [0], dv _, dw _ [1], dv _, dw _ [0], dv _, dv _, ⟨.nd (.one 10 fun v => ∃ b, v = ptr b 0), [2]⟩, ⟨.nd (.one 11 fun v => ∃ b, v = ptr b 0), [3]⟩, ⟨.nd (.one 12 fun v => ∃ b, v = ptr b 0), [4]⟩, ⟨.det undef, [2]⟩, ⟨.det undef, [3]⟩, ⟨.det undef, [4]⟩] [⟨_, []⟩, ⟨_, []⟩, ⟨.emp, [(10, .one 10 fun v => .blk (bp v) (cQ oQ) 27), (13, .one 10 fun v => .blk (bp v) (cQ (ah x.p y.p)) 27)]⟩, ⟨.emp, [(11, .one 11 fun v => .blk (bp v) (cQ oQ) 27), (14, .one 11 fun v => .blk (bp v) (cQ (aU x)) 27)]⟩, ⟨.emp, [(12, .one 12 fun v => .blk (bp v) (cQ oQ) 27), (15, .one 12 fun v => .blk (bp v) (cQ (aP (aU y))) 27)]⟩] h rfl (by kernel_rfl) ⟨fun _ _ => a7 (fa uu71 rfl zz27 rfl rfl rfl (k' := 0)), fun _ _ => fL _ rfl rfl (gp aa27 zz27 rfl rfl rfl (v := (vQ x.p)) rfl), fun _ _ => a7 (fa uu71 rfl zz27 rfl rfl rfl (k' := 0)), fun _ _ => fL _ rfl rfl (gp aa27 zz27 rfl rfl rfl (v := (vQ y.p)) rfl), fun _ _ => fT (fg cc22 rfl (bu x.p y.p (k + 17) og zx.1 zy.1)), fun _ _ => fL _ rfl rfl (gp aa71 zz71 rfl rfl rfl (v := (vR x)) rfl), fun _ _ => fT (fg Tryz.call210 rfl (fz x (k + 20) og zx)), fun _ _ => fL _ rfl rfl (gp aa71 zz71 rfl rfl rfl (v := (vR y)) rfl), fun _ _ => fT (fg Tryz.call210 rfl (fz y (k + 20) og zy)), fun _ _ => fT (fg Tryz.call63 rfl (dI (aU y) (k + 20) og s3)), fun _ _ => kE (ψ := fun v => ∃ b, v = ptr b 0) (B := fun v => [.blk (bp v) (cQ oQ) 27]) [.emp] rfl (fun v _ => by simp only [cc, bc] <;> rfl) (fun v hv => by simpa [DF.one, bc] using hv) (gC (eL vv27 rfl)), fun _ _ => kE (ψ := fun v => ∃ b, v = ptr b 0) (B := fun v => [.blk (bp v) (cQ oQ) 27]) [.emp] rfl (fun v _ => by simp only [cc, bc] <;> rfl) (fun v hv => by simpa [DF.one, bc] using hv) (gC (eL vv27 rfl)), fun _ _ => kE (ψ := fun v => ∃ b, v = ptr b 0) (B := fun v => [.blk (bp v) (cQ oQ) 27]) [.emp] rfl (fun v _ => by simp only [cc, bc] <;> rfl) (fun v hv => by simpa [DF.one, bc] using hv) (gC (eL vv27 rfl)), (fun ξ hφ => by obtain ⟨b3, hb10⟩ := hφ 10 rfl; exact jQ [.blk b3 (cQ oQ) 27] [.blk b3 (cQ (ah x.p y.p)) 27] (congrArg (fun v => [Asn.blk (bp v) (cQ oQ) 27]) hb10) (congrArg (fun v => [Asn.blk (bp v) (cQ (ah x.p y.p)) 27]) hb10) (k7 zz27 (Eq.trans rfl (congrArg some hb10)) rfl rfl rfl rfl rfl rfl)), (fun ξ hφ => by obtain ⟨b4, hb11⟩ := hφ 11 rfl; exact jQ [.blk b4 (cQ oQ) 27] [.blk b4 (cQ (aU x)) 27] (congrArg (fun v => [Asn.blk (bp v) (cQ oQ) 27]) hb11) (congrArg (fun v => [Asn.blk (bp v) (cQ (aU x)) 27]) hb11) (k7 zz27 (Eq.trans rfl (congrArg some hb11)) rfl rfl rfl rfl rfl rfl)), (fun ξ hφ => by obtain ⟨b5, hb12⟩ := hφ 12 rfl; exact jQ [.blk b5 (cQ oQ) 27] [.blk b5 (cQ (aP (aU y))) 27] (congrArg (fun v => [Asn.blk (bp v) (cQ oQ) 27]) hb12) (congrArg (fun v => [Asn.blk (bp v) (cQ (aP (aU y))) 27]) hb12) (k7 zz27 (Eq.trans rfl (congrArg some hb12)) rfl rfl rfl rfl rfl rfl)), trivial⟩ ?_
 clear h ac wo; intro ξ ac wo hφ h
 replace h : St w0 65 [(2, (ptr b1 0)), (3, (ptr b2 0)), (5, ξ 10), (6, ξ 11), (7, ξ 12)] [.blk b2 (cR y) 71, .blk b1 (cR x) 71, .blk (bp (ξ 10)) (cQ (ah x.p y.p)) 27, .blk (bp (ξ 11)) (cQ (aU x)) 27, .blk (bp (ξ 12)) (cQ (aP (aU y))) 27] ac wo := h.sub ⟨rfl, rfl, rfl, rfl, rfl, trivial⟩
 revert h
 obtain ⟨b3, hb10⟩ : ∃ b, ξ 10 = ptr b 0 := hφ 10
 obtain ⟨b4, hb11⟩ : ∃ b, ξ 11 = ptr b 0 := hφ 11
 obtain ⟨b5, hb12⟩ : ∃ b, ξ 12 = ptr b 0 := hφ 12
 rw [hb10, hb11, hb12]; intro h
 clear hb10 hb11 hb12 hφ ξ
 refine gz h <| (W) ?_; clear h ac wo; intro ac wo h
 have p6 := am ((gh (ah x.p y.p) (aU x) x.r (k + 9) og s1 (bM s2 og) (dN zx og).2) w0)
 have p8 := am ((bS (aP (aU y))) w0)
 have p10 := am ((bS y.r) w0)
 refine gz h <| (dr0 (hob := (oK (gh (ah x.p y.p) (aU x) x.r (k + 9) og s1 (bM s2 og) (dN zx og).2)) <| (oK (bS (aP (aU y)))) <| (oK (bS y.r)) <| (oX (h := by exact fun _ => a7 (jF rfl rfl (r := ((au (aP (aU y))) * (au y.r))) (by first | (rw [IntKind.wrap_i64]; omega) | exact gg og og)))) <| oE)) <| (ai) ?_ ?_ <;> clear h ac wo <;> intro ac wo h hc1
 ·
  have hd : aq x y = (cY (ah x.p y.p) (aU x) x.r) := pt
  refine gz h <| (W) ?_; clear h ac wo; intro ac wo h
  exact (rt h) (h.retP (by rw [hd] <;> rfl) (by rw [hd]; exact by first | omega | exact dO og og))
 ·
  refine gz h <| (ai) ?_ ?_ <;> clear h ac wo <;> intro ac wo h hc2
  ·
   have hd2 := eq_of_beq hc2
   have hd : aq x y = ((au (aP (aU y))) * (au y.r)) := pt
   refine gz h <| (W) ?_; clear h ac wo; intro ac wo h
   exact (rt h) (h.retP (by rw [hd] <;> rfl) (by rw [hd]; exact by first | omega | exact dO og og))
  ·
   have hd2 := ne_of_beq_false hc2
   refine gz h <| (W) ?_; clear h ac wo; intro ac wo h
   have s11 := am ((aT (ah x.p y.p) (ah x.p y.p) (k + 15) og s1 s1) w0)
   have s12 := am ((bq (aj (ah x.p y.p) (ah x.p y.p)) x.r (k + 12) og s11 (dN zx og).2) w0)
   have s13 := am ((bu (av (aj (ah x.p y.p) (ah x.p y.p)) x.r) y.r (k + 9) og s12 (dN zy og).2) w0)
   replace h := h.emps 1
   refine d4 mixed [dw _ [2], dw _ [2], dv _, dv _, dw _ [1], dv _, dv _, dw _ [0], dv _, ⟨.nd (.one 9 fun v => ∃ b, v = ptr b 0), [5]⟩, ⟨.det undef, [5]⟩] [⟨_, []⟩, ⟨_, []⟩, ⟨_, []⟩, ⟨_, []⟩, ⟨_, []⟩, ⟨.emp, [(9, .one 9 fun v => .blk (bp v) (cQ oQ) 27), (10, .one 9 fun v => .blk (bp v) (cQ (ah (av (aj (ah x.p y.p) (ah x.p y.p)) x.r) y.r)) 27)]⟩] h rfl (by kernel_rfl) ⟨fun _ _ => fL _ rfl rfl (gp aa27 zz27 rfl rfl rfl (v := (vQ (ah x.p y.p))) rfl), fun _ _ => fL _ rfl rfl (gp aa27 zz27 rfl rfl rfl (v := (vQ (ah x.p y.p))) rfl), fun _ _ => fT (fg Tryz.call21 rfl (aT (ah x.p y.p) (ah x.p y.p) (k + 15) og s1 s1)), fun _ _ => a7 (fa uu71 rfl zz27 rfl rfl rfl (k' := 4)), fun _ _ => fL _ rfl rfl (gp aa27 zz27 rfl rfl rfl (v := (vQ x.r)) rfl), fun _ _ => fT (fg Tryz.call20 rfl (bq (aj (ah x.p y.p) (ah x.p y.p)) x.r (k + 12) og s11 (dN zx og).2)), fun _ _ => a7 (fa uu71 rfl zz27 rfl rfl rfl (k' := 4)), fun _ _ => fL _ rfl rfl (gp aa27 zz27 rfl rfl rfl (v := (vQ y.r)) rfl), fun _ _ => fT (fg cc22 rfl (bu (av (aj (ah x.p y.p) (ah x.p y.p)) x.r) y.r (k + 9) og s12 (dN zy og).2)), fun _ _ => kE (ψ := fun v => ∃ b, v = ptr b 0) (B := fun v => [.blk (bp v) (cQ oQ) 27]) [.emp] rfl (fun v _ => by simp only [cc, bc] <;> rfl) (fun v hv => by simpa [DF.one, bc] using hv) (gC (eL vv27 rfl)), (fun ξ hφ => by obtain ⟨b6, hb9⟩ := hφ 9 rfl; exact jQ [.blk b6 (cQ oQ) 27] [.blk b6 (cQ (ah (av (aj (ah x.p y.p) (ah x.p y.p)) x.r) y.r)) 27] (congrArg (fun v => [Asn.blk (bp v) (cQ oQ) 27]) hb9) (congrArg (fun v => [Asn.blk (bp v) (cQ (ah (av (aj (ah x.p y.p) (ah x.p y.p)) x.r) y.r)) 27]) hb9) (k7 zz27 (Eq.trans rfl (congrArg some hb9)) rfl rfl rfl rfl rfl rfl)), trivial⟩ ?_
   clear h ac wo; intro ξ ac wo hφ h
   replace h : St w0 65 [(2, (ptr b1 0)), (5, (ptr b3 0)), (6, (ptr b4 0)), (8, (.int .i64 (cY (ah x.p y.p) (aU x) x.r))), (10, ξ 9)] [.blk b2 (cR y) 71, .blk b1 (cR x) 71, .blk b3 (cQ (ah x.p y.p)) 27, .blk b4 (cQ (aU x)) 27, .blk b5 (cQ (aP (aU y))) 27, .blk (bp (ξ 9)) (cQ (ah (av (aj (ah x.p y.p) (ah x.p y.p)) x.r) y.r)) 27] ac wo := h.sub ⟨rfl, rfl, rfl, rfl, rfl, trivial⟩
   revert h
   obtain ⟨b6, hb9⟩ : ∃ b, ξ 9 = ptr b 0 := hφ 9
   rw [hb9]; intro h
   clear hb9 hφ ξ
   refine gz h <| (W) ?_; clear h ac wo; intro ac wo h
   have s14 := am ((bL 2 (k + 20) og  og) w0)
   have s15 := am ((aT (ah x.p y.p) (aU x) (k + 15) og s1 (bM s2 og)) w0)
   have s16 := am ((aT (ak 2) (aj (ah x.p y.p) (aU x)) (k + 13) og (bM s14 og) s15) w0)
   have p18 := am ((gh (ah (av (aj (ah x.p y.p) (ah x.p y.p)) x.r) y.r) (aj (ak 2) (aj (ah x.p y.p) (aU x))) x.r (k + 1) og s13 (bM s16 og) (dN zx og).2) w0)
   have hd : aq x y = ((cY (ah x.p y.p) (aU x) x.r) * (cY (ah (av (aj (ah x.p y.p) (ah x.p y.p)) x.r) y.r) (aj (ak 2) (aj (ah x.p y.p) (aU x))) x.r)) := pt
   refine gz h <| (dr0 (hob := (oK (bL 2 (k + 20) og  og)) <| (oK (aT (ah x.p y.p) (aU x) (k + 15) og s1 (bM s2 og))) <| (oK (aT (ak 2) (aj (ah x.p y.p) (aU x)) (k + 13) og (bM s14 og) s15)) <| (oK (gh (ah (av (aj (ah x.p y.p) (ah x.p y.p)) x.r) y.r) (aj (ak 2) (aj (ah x.p y.p) (aU x))) x.r (k + 1) og s13 (bM s16 og) (dN zx og).2)) <| (oX (h := by exact fun _ => a7 (jF rfl rfl (r := ((cY (ah x.p y.p) (aU x) x.r) * (cY (ah (av (aj (ah x.p y.p) (ah x.p y.p)) x.r) y.r) (aj (ak 2) (aj (ah x.p y.p) (aU x))) x.r))) (by first | (rw [IntKind.wrap_i64]; omega) | exact gg og og)))) <| oE)) <| (W) ?_; clear h ac wo; intro ac wo h
   exact (rt h) (h.retP (by rw [hd] <;> rfl) (by rw [hd]; exact by first | omega | exact dO og og))
def aK (n : Int) : GR :=
 (⟨(ak n), (⟨(⟨false, 0⟩ : GI), (⟨false, 0⟩ : GI)⟩ : GQ), false⟩ : GR)
theorem kx (n : Int) (k : Nat) (hk : k ≤ 40) (hn : -9223372036854775808 ≤ n ∧ n ≤ 9223372036854775807) (w0 : World) : Calls Tryz.prog 86 #[(.int .i64 n)] w0 (RetP w0 (vR (aK n)) (SzR k (aK n))) := by
 refine enter (N := 6) (args := [(.int .i64 n)]) Tryz.func86 rfl rfl ?_; intro ac h
 have c1 := bL n k og  og
 have s1 := am (c1 w0)
 refine gz h <| (xa) fun b1 => (xk c1) <| (xo (hs := by exact bD qW exs rfl (v := (vR (⟨(ak n), oQ, false⟩ : GR))) rfl)) <| (W) ?_; clear h ac; intro ac wo h
 exact ret h rfl (.cell (v := (vR (⟨(ak n), oQ, false⟩ : GR))) rfl (i := 0) rfl aa71 zz71 rfl rfl rfl .nil) rfl (h.retP (by unfold aK; rfl) (by unfold aK; exact ⟨s1, ⟨(bn 0 (by decide) og), (bn 0 (by decide) og)⟩⟩))
def an (r : GQ) : GR :=
 (⟨r, (⟨(⟨false, 0⟩ : GI), (⟨false, 0⟩ : GI)⟩ : GQ), false⟩ : GR)
theorem cm (r : GQ) (k : Nat) (hk : k ≤ 40) (zr : SzQ k r) (w0 : World) : Calls Tryz.prog 88 #[(vQ r)] w0 (RetP w0 (vR (an r)) (SzR k (an r))) := by
 refine enter (N := 5) (args := [(vQ r)]) Tryz.func88 rfl rfl ?_; intro ac h
 refine gz h <| (xb) fun b1 => (xa) fun b2 => (xo (hs := by exact bD qW exs rfl (v := (vR (⟨r, oQ, false⟩ : GR))) rfl)) <| (W) ?_; clear h ac; intro ac wo h
 exact ret h rfl (.cell (v := (vR (⟨r, oQ, false⟩ : GR))) rfl (i := 0) rfl aa71 zz71 rfl rfl rfl .nil) rfl (h.retP (by unfold an; rfl) (by unfold an; exact ⟨zr, ⟨(bn 0 (by decide) og), (bn 0 (by decide) og)⟩⟩))
def aH (c0 : GQ) (c1 : GQ) : Qd :=
 (⟨c0, c1, (⟨(⟨false, 0⟩ : GI), (⟨false, 0⟩ : GI)⟩ : GQ)⟩ : Qd)
theorem cb (c0 : GQ) (c1 : GQ) (k : Nat) (hk : k ≤ 40) (zc0 : SzQ k c0) (zc1 : SzQ k c1) (w0 : World) : Calls Tryz.prog 107 #[(vQ c0), (vQ c1)] w0 (RetP w0 (vD (aH c0 c1)) (SzD k (aH c0 c1))) := by
 refine enter (N := 8) (args := [(vQ c0), (vQ c1)]) Tryz.func107 rfl rfl ?_; intro ac h
 refine gz h <| (xb) fun b1 => (xb) fun b2 => (xa) fun b3 => (xo (hs := by exact bD qY exs rfl (v := (vD (⟨c0, c1, oQ⟩ : Qd))) rfl)) <| (W) ?_; clear h ac; intro ac wo h
 exact ret h rfl (.cell (v := (vD (⟨c0, c1, oQ⟩ : Qd))) rfl (i := 0) rfl aa53 zz53 rfl rfl rfl .nil) rfl (h.retP (by unfold aH; rfl) (by unfold aH; exact ⟨zc0, zc1, ⟨(bn 0 (by decide) og), (bn 0 (by decide) og)⟩⟩))
def aD (q : Qd) (t : GQ) : GQ :=
 (av q.c0 (aj t (av q.c1 (aj t q.c2))))
theorem eI (q : Qd) (t : GQ) (k : Nat) (hk : (k + 10) ≤ 40) (zq : SzD (k + 10) q) (zt : SzQ (k + 10) t) (w0 : World) : Calls Tryz.prog 101 #[(vD q), (vQ t)] w0 (RetP w0 (vQ (aD q t)) (SzQ k (aD q t))) := by
 refine enter (N := 17) (args := [(vD q), (vQ t)]) Tryz.func101 rfl rfl ?_; intro ac h
 have s1 := am ((aT t q.c2 (k + 8) og zt zq.2.2) w0)
 have s2 := am ((bq q.c1 (aj t q.c2) (k + 5) og (iI zq og).2.1 s1) w0)
 have s3 := am ((aT t (av q.c1 (aj t q.c2)) (k + 3) og (bM zt og) s2) w0)
 have s4 := am ((bq q.c0 (aj t (av q.c1 (aj t q.c2))) k og (iI zq og).1 s3) w0)
 refine gz h <| (xb) fun b1 => (xb) fun b2 => (xa) fun b3 => (dr1 (H := [⟨.blk b3 (cQ oQ) 27, [(12, .con (.blk b3 (cQ (av q.c0 (aj t (av q.c1 (aj t q.c2))))) 27))]⟩, ⟨_, []⟩, ⟨_, []⟩]) (hob := (oK (aT t q.c2 (k + 8) og zt zq.2.2)) <| (oK (bq q.c1 (aj t q.c2) (k + 5) og (iI zq og).2.1 s1)) <| (oK (aT t (av q.c1 (aj t q.c2)) (k + 3) og (bM zt og) s2)) <| (oK (bq q.c0 (aj t (av q.c1 (aj t q.c2))) k og (iI zq og).1 s3)) <| oE)) <| (W) ?_; clear h ac; intro ac wo h
 exact ret h rfl (.cell (v := (vQ (av q.c0 (aj t (av q.c1 (aj t q.c2)))))) rfl (i := 0) rfl aa27 zz27 rfl rfl rfl .nil) rfl (h.retP (by unfold aD; rfl) (by unfold aD; exact s4))
def aL (q : Qd) (t : GQ) : GQ :=
 (av q.c1 (aj (av q.c2 q.c2) t))
theorem fc (q : Qd) (t : GQ) (k : Nat) (hk : (k + 8) ≤ 40) (zq : SzD (k + 8) q) (zt : SzQ (k + 8) t) (w0 : World) : Calls Tryz.prog 213 #[(vD q), (vQ t)] w0 (RetP w0 (vQ (aL q t)) (SzQ k (aL q t))) := by
 refine enter (N := 15) (args := [(vD q), (vQ t)]) Tryz.func213 rfl rfl ?_; intro ac h
 have s1 := am ((bq q.c2 q.c2 (k + 5) og zq.2.2 zq.2.2) w0)
 have s2 := am ((aT (av q.c2 q.c2) t (k + 3) og s1 (bM zt og)) w0)
 have s3 := am ((bq q.c1 (aj (av q.c2 q.c2) t) k og (iI zq og).2.1 s2) w0)
 refine gz h <| (xb) fun b1 => (xb) fun b2 => (xa) fun b3 => (dr1 (H := [⟨.blk b3 (cQ oQ) 27, [(10, .con (.blk b3 (cQ (av q.c1 (aj (av q.c2 q.c2) t))) 27))]⟩, ⟨_, []⟩, ⟨_, []⟩]) (hob := (oK (bq q.c2 q.c2 (k + 5) og zq.2.2 zq.2.2)) <| (oK (aT (av q.c2 q.c2) t (k + 3) og s1 (bM zt og))) <| (oK (bq q.c1 (aj (av q.c2 q.c2) t) k og (iI zq og).2.1 s2)) <| oE)) <| (W) ?_; clear h ac; intro ac wo h
 exact ret h rfl (.cell (v := (vQ (av q.c1 (aj (av q.c2 q.c2) t)))) rfl (i := 0) rfl aa27 zz27 rfl rfl rfl .nil) rfl (h.retP (by unfold aL; rfl) (by unfold aL; exact s3))
def cr (p : Qd) (q : Qd) : Qd :=
 (⟨(ah p.c0 q.c0), (ah p.c1 q.c1), (ah p.c2 q.c2)⟩ : Qd)
theorem ic (p : Qd) (q : Qd) (k : Nat) (hk : (k + 3) ≤ 40) (zp : SzD (k + 3) p) (zq : SzD (k + 3) q) (w0 : World) : Calls Tryz.prog 131 #[(vD p), (vD q)] w0 (RetP w0 (vD (cr p q)) (SzD k (cr p q))) := by
 refine enter (N := 21) (args := [(vD p), (vD q)]) Tryz.func131 rfl rfl ?_; intro ac h
 have s1 := am ((bu p.c0 q.c0 k og zp.1 zq.1) w0)
 have s2 := am ((bu p.c1 q.c1 k og zp.2.1 zq.2.1) w0)
 have s3 := am ((bu p.c2 q.c2 k og zp.2.2 zq.2.2) w0)
 refine gz h <| (xb) fun b1 => (xb) fun b2 => (xa) fun b3 => (dr1 (H := [⟨.blk b3 (cD oD) 53, [(16, .con (.blk b3 (cD (⟨(ah p.c0 q.c0), (ah p.c1 q.c1), (ah p.c2 q.c2)⟩ : Qd)) 53))]⟩, ⟨_, []⟩, ⟨_, []⟩]) (hob := (oK (bu p.c0 q.c0 k og zp.1 zq.1)) <| (oK (bu p.c1 q.c1 k og zp.2.1 zq.2.1)) <| (oK (bu p.c2 q.c2 k og zp.2.2 zq.2.2)) <| (oX (h := by exact fun _ => a7 (bD qY exs rfl (v := (vD (⟨(ah p.c0 q.c0), (ah p.c1 q.c1), (ah p.c2 q.c2)⟩ : Qd))) rfl))) <| oE)) <| (W) ?_; clear h ac; intro ac wo h
 exact ret h rfl (.cell (v := (vD (⟨(ah p.c0 q.c0), (ah p.c1 q.c1), (ah p.c2 q.c2)⟩ : Qd))) rfl (i := 0) rfl aa53 zz53 rfl rfl rfl .nil) rfl (h.retP (by unfold cr; rfl) (by unfold cr; exact ⟨s1, s2, s3⟩))
def cq (x : GR) : GQ × Bool :=
 bif (!(decide (x.r = (⟨(⟨false, 0⟩ : GI), (⟨false, 0⟩ : GI)⟩ : GQ)))) then
  ((⟨(⟨false, 0⟩ : GI), (⟨false, 0⟩ : GI)⟩ : GQ), false)
 else
  (x.p, true)
theorem j3 (x : GR) (k : Nat) (hk : k ≤ 40) (zx : SzR k x) (w0 : World) : Calls Tryz.prog 212 #[(vR x)] w0 (RetP w0 (.tuple #[(vQ ((cq x).1)), (.bool ((cq x).2))]) (SzQ k ((cq x).1))) := by
 refine enter (N := 11) (args := [(vR x)]) Tryz.func212 rfl rfl ?_; intro ac h
 refine gz h <| (xb) fun b1 => (xa) fun b2 => (xo (hs := by exact bD kb exs rfl (v := (vQ oQ)) rfl)) <| (ai) ?_ ?_ <;> clear h ac <;> intro ac wo h hc1
 ·
  have hd : cq x = (oQ, false) := pt
  refine gz h <| (xo (hs := by exact bD kb exs rfl (v := (vQ oQ)) rfl)) <| (W) ?_; clear h ac wo; intro ac wo h
  exact ret h rfl (.cell (v := (vQ oQ)) rfl (i := 0) rfl aa27 zz27 rfl rfl rfl (.tmp rfl .nil)) rfl (h.retP (by rw [hd] <;> rfl) (by rw [hd]; exact ⟨(bn 0 (by decide) og), (bn 0 (by decide) og)⟩))
 ·
  have hd : cq x = (x.p, true) := pt
  refine gz h <| (W) ?_; clear h ac wo; intro ac wo h
  exact ret h rfl (.cell (v := (vQ x.p)) rfl (i := 0) rfl aa27 zz27 rfl rfl rfl (.tmp rfl .nil)) rfl (h.retP (by rw [hd] <;> rfl) (by rw [hd]; exact zx.1))
def aO (q : Qd) (t : GR) : Qd :=
 bif (cq t).2 then
  (ay (aD q ((cq t).1)))
 else
  (aH (av q.c0 (aj q.c2 (ah t.r (aj t.p t.p)))) (aL q t.p))
theorem dJ (q : Qd) (t : GR) (k : Nat) (hk : (k + 10) ≤ 40) (zq : SzD (k + 10) q) (zt : SzR (k + 10) t) (w0 : World) : Calls Tryz.prog 130 #[(vD q), (vR t)] w0 (RetP w0 (vD (aO q t)) (SzD k (aO q t))) := by
 refine enter (N := 38) (args := [(vD q), (vR t)]) Tryz.func130 rfl rfl ?_; intro ac h
 have c1 := j3 t (k + 10) og zt
 have s1 := am (c1 w0)
 refine gz h <| (xb) fun b1 => (xb) fun b2 => (xa) fun b3 => (xk c1) <| (xa) fun b4 => (ai) ?_ ?_ <;> clear h ac <;> intro ac wo h hc1
 ·
  have c2 := eI q ((cq t).1) k og zq s1
  have s2 := am (c2 w0)
  have c3 := iq (aD q ((cq t).1)) k og s2
  have s3 := am (c3 w0)
  have hd : aO q t = (ay (aD q ((cq t).1))) := pt
  refine gz h <| (xk c2) <| (xk c3) <| (W) ?_; clear h ac wo; intro ac wo h
  exact ret h rfl (.cell (v := (vD (ay (aD q ((cq t).1))))) rfl (i := 1) rfl aa53 zz53 rfl rfl rfl .nil) rfl (h.retP (by rw [hd] <;> rfl) (by rw [hd]; exact s3))
 ·
  refine gz h <| (W) ?_; clear h ac wo; intro ac wo h
  have s4 := am ((aT t.p t.p (k + 8) og zt.1 zt.1) w0)
  have s5 := am ((bu t.r (aj t.p t.p) (k + 5) og (dN zt og).2 s4) w0)
  replace h := h.emps 1
  refine d4 mixed [dv _, dw _ [2], dv _, dw _ [2], dv _, dw _ [2], dv _, dv _, ⟨.nd (.one 8 fun v => ∃ b, v = ptr b 0), [4]⟩, ⟨.det undef, [4]⟩] [⟨_, []⟩, ⟨_, []⟩, ⟨_, []⟩, ⟨_, []⟩, ⟨.emp, [(8, .one 8 fun v => .blk (bp v) (cQ oQ) 27), (9, .one 8 fun v => .blk (bp v) (cQ (ah t.r (aj t.p t.p))) 27)]⟩] h rfl (by kernel_rfl) ⟨fun _ _ => a7 (fa uu71 rfl zz27 rfl rfl rfl (k' := 4)), fun _ _ => fL _ rfl rfl (gp aa27 zz27 rfl rfl rfl (v := (vQ t.r)) rfl), fun _ _ => a7 (fa uu71 rfl zz27 rfl rfl rfl (k' := 0)), fun _ _ => fL _ rfl rfl (gp aa27 zz27 rfl rfl rfl (v := (vQ t.p)) rfl), fun _ _ => a7 (fa uu71 rfl zz27 rfl rfl rfl (k' := 0)), fun _ _ => fL _ rfl rfl (gp aa27 zz27 rfl rfl rfl (v := (vQ t.p)) rfl), fun _ _ => fT (fg Tryz.call21 rfl (aT t.p t.p (k + 8) og zt.1 zt.1)), fun _ _ => fT (fg cc22 rfl (bu t.r (aj t.p t.p) (k + 5) og (dN zt og).2 s4)), fun _ _ => kE (ψ := fun v => ∃ b, v = ptr b 0) (B := fun v => [.blk (bp v) (cQ oQ) 27]) [.emp] rfl (fun v _ => by simp only [cc, bc] <;> rfl) (fun v hv => by simpa [DF.one, bc] using hv) (gC (eL vv27 rfl)), (fun ξ hφ => by obtain ⟨b5, hb8⟩ := hφ 8 rfl; exact jQ [.blk b5 (cQ oQ) 27] [.blk b5 (cQ (ah t.r (aj t.p t.p))) 27] (congrArg (fun v => [Asn.blk (bp v) (cQ oQ) 27]) hb8) (congrArg (fun v => [Asn.blk (bp v) (cQ (ah t.r (aj t.p t.p))) 27]) hb8) (k7 zz27 (Eq.trans rfl (congrArg some hb8)) rfl rfl rfl rfl rfl rfl)), trivial⟩ ?_
  clear h ac wo; intro ξ ac wo hφ h
  replace h : St w0 38 [(2, (ptr b1 0)), (3, (ptr b2 0)), (4, (ptr b3 0)), (7, ξ 8)] [.blk b4 (cQ ((cq t).1)) 27, .blk b3 (cD oD) 53, .blk b2 (cR t) 71, .blk b1 (cD q) 53, .blk (bp (ξ 8)) (cQ (ah t.r (aj t.p t.p))) 27] ac wo := h.sub ⟨rfl, rfl, rfl, rfl, trivial⟩
  revert h
  obtain ⟨b5, hb8⟩ : ∃ b, ξ 8 = ptr b 0 := hφ 8
  rw [hb8]; intro h
  clear hb8 hφ ξ
  refine gz h <| (W) ?_; clear h ac wo; intro ac wo h
  have s6 := am ((aT q.c2 (ah t.r (aj t.p t.p)) (k + 3) og (iI zq og).2.2 s5) w0)
  have s7 := am ((bq q.c0 (aj q.c2 (ah t.r (aj t.p t.p))) k og (iI zq og).1 s6) w0)
  have s8 := am ((fc q t.p (k + 2) og zq zt.1) w0)
  have s9 := am ((cb (av q.c0 (aj q.c2 (ah t.r (aj t.p t.p)))) (aL q t.p) k og s7 (bM s8 og)) w0)
  have hd : aO q t = (aH (av q.c0 (aj q.c2 (ah t.r (aj t.p t.p)))) (aL q t.p)) := pt
  refine gz h <| (dr1 (H := [⟨_, []⟩, ⟨.blk b3 (cD oD) 53, [(12, .con (.blk b3 (cD (aH (av q.c0 (aj q.c2 (ah t.r (aj t.p t.p)))) (aL q t.p))) 53))]⟩, ⟨_, []⟩, ⟨_, []⟩, ⟨_, []⟩]) (hob := (oK (aT q.c2 (ah t.r (aj t.p t.p)) (k + 3) og (iI zq og).2.2 s5)) <| (oK (bq q.c0 (aj q.c2 (ah t.r (aj t.p t.p))) k og (iI zq og).1 s6)) <| (oK (fc q t.p (k + 2) og zq zt.1)) <| (oK (cb (av q.c0 (aj q.c2 (ah t.r (aj t.p t.p)))) (aL q t.p) k og s7 (bM s8 og))) <| oE)) <| (W) ?_; clear h ac wo; intro ac wo h
  exact ret h rfl (.cell (v := (vD (aH (av q.c0 (aj q.c2 (ah t.r (aj t.p t.p)))) (aL q t.p)))) rfl (i := 1) rfl aa53 zz53 rfl rfl rfl .nil) rfl (h.retP (by rw [hd] <;> rfl) (by rw [hd]; exact s9))
def es (p : Qd) (q : Qd) (t : GR) : Bool :=
 (decide ((aO (cr p q) t) = (⟨(⟨(⟨false, 0⟩ : GI), (⟨false, 0⟩ : GI)⟩ : GQ), (⟨(⟨false, 0⟩ : GI), (⟨false, 0⟩ : GI)⟩ : GQ), (⟨(⟨false, 0⟩ : GI), (⟨false, 0⟩ : GI)⟩ : GQ)⟩ : Qd)))
theorem gF (p : Qd) (q : Qd) (t : GR) (k : Nat) (hk : (k + 14) ≤ 40) (zp : SzD (k + 14) p) (zq : SzD (k + 14) q) (zt : SzR (k + 14) t) (w0 : World) : Calls Tryz.prog 39 #[(vD p), (vD q), (vR t)] w0 (RetP w0 (.bool (es p q t)) (True)) := by
 refine enter (N := 14) (args := [(vD p), (vD q), (vR t)]) Tryz.func39 rfl rfl ?_; intro ac h
 have s1 := am ((ic p q (k + 11) og zp zq) w0)
 have s2 := am ((dJ (cr p q) t (k + 1) og s1 (dN zt og)) w0)
 refine gz h <| (xb) fun b1 => (xb) fun b2 => (xb) fun b3 => (dr0 (hob := (oK (ic p q (k + 11) og zp zq)) <| (oK (dJ (cr p q) t (k + 1) og s1 (dN zt og))) <| (oX (h := by exact fun _ => a7 (bD qY exs rfl (v := (vD oD)) rfl))) <| oE)) <| (W) ?_; clear h ac; intro ac wo h
 exact (rt h) (h.retP (by unfold es; rfl) trivial)
def dx (a : Iv) (b : Iv) : Bool :=
 ((decide ((aq a.hi b.lo) < 0)) || (((aq a.hi b.lo) == 0) && (a.openHi || b.openLo)))
theorem kD (a : Iv) (b : Iv) (k : Nat) (hk : (k + 20) ≤ 40) (za : SzV (k + 20) a) (zb : SzV (k + 20) b) (w0 : World) : Calls Tryz.prog 118 #[(vV a), (vV b)] w0 (RetP w0 (.bool (dx a b)) (True)) := by
 refine enter (N := 25) (args := [(vV a), (vV b)]) Tryz.func118 rfl rfl ?_; intro ac h
 have p2 := am ((ce a.hi b.lo k og za.2 zb.1) w0)
 refine gz h <| (xb) fun b1 => (xb) fun b2 => (xk (ce a.hi b.lo k og za.2 zb.1)) <| (W) ?_; clear h ac; intro ac wo h
 exact (rt h) (h.retP (by unfold dx; rfl) trivial)
def aJ (i : Iv) : Bool :=
 (decide (i.lo = i.hi))
theorem dl (i : Iv) (w0 : World) : Calls Tryz.prog 150 #[(vV i)] w0 (RetP w0 (.bool (aJ i)) (True)) := by
 refine enter (N := 8) (args := [(vV i)]) Tryz.func150 rfl rfl ?_; intro ac h
 refine gz h <| (xb) fun b1 => (W) ?_; clear h ac; intro ac wo h
 exact (rt h) (h.retP (by unfold aJ; rfl) trivial)
end Go.Sx
