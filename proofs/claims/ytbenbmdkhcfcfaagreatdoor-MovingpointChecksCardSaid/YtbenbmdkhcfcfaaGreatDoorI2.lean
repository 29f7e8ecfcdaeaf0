/- A part of the proof of movingpointChecks. -/
import Derived.Test.YtbenbmdkhcfcfaaGreatDoorProg
import Derived.Test.YtbenbmdkhcfcfaaGreatDoorI1
set_option linter.unusedVariables false
set_option linter.unusedSimpArgs false
open Go.Proofs.Tryz renaming isAgg27 → aa27, sizeOf27 → zz27, runUnderlying71 → uu71, call22 → cc22, isAgg71 → aa71, sizeOf71 → zz71, zeroValue27 → vv27, isAgg53 → aa53, sizeOf53 → zz53
namespace Go.Sx
open Go Go.RowKit Go.Proofs
set_option maxRecDepth 100000
set_option maxHeartbeats 40000000
attribute [local irreducible] Code.wp wpList Rd Step ObS Ent
def aV (x : GR) : GQ :=
 bif x.neg then
  (ak (-1))
 else
  (ak 1)
theorem fF (x : GR) (k : Nat) (hk : k ≤ 40) (zx : SzR k x) (w0 : World) : Calls Tryz.prog 210 #[(vR x)] w0 (cq w0 (vQ (aV x)) (SzQ k (aV x))) := by
 refine enter (N := 7) (args := [(vR x)]) Tryz.func210 rfl rfl ?_; intro ac h
 refine gz h <| (xb) fun b1 => (xa) fun b2 => (ai) ?_ ?_ <;> clear h ac <;> intro ac wo h hc1
 ·
  have c1 := bP (-1) k og  og
  have s1 := am (c1 w0)
  have hd : aV x = (ak (-1)) := pt
  refine gz h <| (xk c1) <| (W) ?_; clear h ac wo; intro ac wo h
  exact ret h rfl (.cell (v := (vQ (ak (-1)))) rfl (i := 0) rfl aa27 zz27 rfl rfl rfl .nil) rfl (h.retP (by rw [hd] <;> rfl) (by rw [hd]; exact s1))
 ·
  have c2 := bP 1 k og  og
  have s2 := am (c2 w0)
  have hd : aV x = (ak 1) := pt
  refine gz h <| (xk c2) <| (W) ?_; clear h ac wo; intro ac wo h
  exact ret h rfl (.cell (v := (vQ (ak 1))) rfl (i := 0) rfl aa27 zz27 rfl rfl rfl .nil) rfl (h.retP (by rw [hd] <;> rfl) (by rw [hd]; exact s2))
def cZ (a : GQ) (b : GQ) (r : GQ) : Int :=
 bif ((((ar b) * (ar r)) == 0) || ((ar a) == ((ar b) * (ar r)))) then
  (ar a)
 else
  bif ((ar a) == 0) then
   ((ar b) * (ar r))
  else
   ((ar a) * (aU (aj a a) (aj (aj b b) r)))
theorem gw (a : GQ) (b : GQ) (r : GQ) (k : Nat) (hk : (k + 8) ≤ 40) (za : SzQ (k + 8) a) (zb : SzQ (k + 8) b) (zr : SzQ (k + 8) r) (w0 : World) : Calls Tryz.prog 211 #[(vQ a), (vQ b), (vQ r)] w0 (cq w0 (.int .i64 (cZ a b r)) ((-1 ≤ (cZ a b r) ∧ (cZ a b r) ≤ 1))) := by
 refine enter (N := 40) (args := [(vQ a), (vQ b), (vQ r)]) Tryz.func211 rfl rfl ?_; intro ac h
 have p2 := am ((bN a) w0)
 have p4 := am ((bN b) w0)
 have p6 := am ((bN r) w0)
 refine gz h <| (xb) fun b1 => (xb) fun b2 => (xb) fun b3 => (dr0 (hob := (oK (bN a)) <| (oK (bN b)) <| (oK (bN r)) <| (oX (h := by exact fun _ => ba (jZ rfl rfl (r := ((ar b) * (ar r))) (by first | (rw [IntKind.wrap_i64]; omega) | exact gu og og)))) <| oE)) <| (ai) ?_ ?_ <;> clear h ac <;> intro ac wo h hc1
 ·
  have hd : cZ a b r = (ar a) := pt
  refine gz h <| (W) ?_; clear h ac wo; intro ac wo h
  exact (rt h) (h.retP (by rw [hd] <;> rfl) (by rw [hd]; exact by first | omega | exact dT og og))
 ·
  refine gz h <| (ai) ?_ ?_ <;> clear h ac wo <;> intro ac wo h hc2
  ·
   have hd2 := eq_of_beq hc2
   have hd : cZ a b r = ((ar b) * (ar r)) := pt
   refine gz h <| (W) ?_; clear h ac wo; intro ac wo h
   exact (rt h) (h.retP (by rw [hd] <;> rfl) (by rw [hd]; exact by first | omega | exact dT og og))
  ·
   have hd2 := ne_of_beq_false hc2
   refine gz h <| (W) ?_; clear h ac wo; intro ac wo h
   have s7 := am ((a7 a a (k + 6) og za za) w0)
   have s8 := am ((a7 b b (k + 6) og zb zb) w0)
   have s9 := am ((a7 (aj b b) r (k + 4) og s8 (cn zr og)) w0)
   have p11 := am ((fg (aj a a) (aj (aj b b) r) (k + 3) og (cn s7 og) s9) w0)
   have hd : cZ a b r = ((ar a) * (aU (aj a a) (aj (aj b b) r))) := pt
   refine gz h <| (dr0 (hob := (oK (a7 a a (k + 6) og za za)) <| (oK (a7 b b (k + 6) og zb zb)) <| (oK (a7 (aj b b) r (k + 4) og s8 (cn zr og))) <| (oK (fg (aj a a) (aj (aj b b) r) (k + 3) og (cn s7 og) s9)) <| (oX (h := by exact fun _ => ba (jZ rfl rfl (r := ((ar a) * (aU (aj a a) (aj (aj b b) r)))) (by first | (rw [IntKind.wrap_i64]; omega) | exact gu og og)))) <| oE)) <| (W) ?_; clear h ac wo; intro ac wo h
   exact (rt h) (h.retP (by rw [hd] <;> rfl) (by rw [hd]; exact by first | omega | exact dT og og))
def ao (x : GR) (y : GR) : Int :=
 bif ((((ar (aR (aV y))) * (ar y.r)) == 0) || ((cZ (ah x.p y.p) (aV x) x.r) == ((ar (aR (aV y))) * (ar y.r)))) then
  (cZ (ah x.p y.p) (aV x) x.r)
 else
  bif ((cZ (ah x.p y.p) (aV x) x.r) == 0) then
   ((ar (aR (aV y))) * (ar y.r))
  else
   ((cZ (ah x.p y.p) (aV x) x.r) * (cZ (ah (au (aj (ah x.p y.p) (ah x.p y.p)) x.r) y.r) (aj (ak 2) (aj (ah x.p y.p) (aV x))) x.r))
theorem cH (x : GR) (y : GR) (k : Nat) (hk : (k + 20) ≤ 40) (zx : SzR (k + 20) x) (zy : SzR (k + 20) y) (w0 : World) : Calls Tryz.prog 127 #[(vR x), (vR y)] w0 (cq w0 (.int .i64 (ao x y)) ((-1 ≤ (ao x y) ∧ (ao x y) ≤ 1))) := by
 refine enter (N := 65) (args := [(vR x), (vR y)]) Tryz.func127 rfl rfl ?_; intro ac h
 have s1 := am ((bO x.p y.p (k + 17) og zx.1 zy.1) w0)
 have s2 := am ((fF x (k + 20) og zx) w0)
 have s3 := am ((fF y (k + 20) og zy) w0)
 have s4 := am ((dO (aV y) (k + 20) og s3) w0)
 refine gz h <| (xb) fun b1 => (xb) fun b2 => (W) ?_; clear h ac; intro ac wo h
 replace h := h.emps 3
 refine eV mixed [dv _, dw _ [1], dv _, dw _ [0], dv _, dw _ [1], dv _, dw _ [0], dv _, dv _, ⟨.nd (.one 10 fun v => ∃ b, v = ptr b 0), [2]⟩, ⟨.nd (.one 11 fun v => ∃ b, v = ptr b 0), [3]⟩, ⟨.nd (.one 12 fun v => ∃ b, v = ptr b 0), [4]⟩, ⟨.det undef, [2]⟩, ⟨.det undef, [3]⟩, ⟨.det undef, [4]⟩] [⟨_, []⟩, ⟨_, []⟩, ⟨.emp, [(10, .one 10 fun v => .blk (bC v) (cQ oQ) 27), (13, .one 10 fun v => .blk (bC v) (cQ (ah x.p y.p)) 27)]⟩, ⟨.emp, [(11, .one 11 fun v => .blk (bC v) (cQ oQ) 27), (14, .one 11 fun v => .blk (bC v) (cQ (aV x)) 27)]⟩, ⟨.emp, [(12, .one 12 fun v => .blk (bC v) (cQ oQ) 27), (15, .one 12 fun v => .blk (bC v) (cQ (aR (aV y))) 27)]⟩] h rfl (by kernel_rfl) ⟨fun _ _ => ba (fa uu71 rfl zz27 rfl rfl rfl (k' := 0)), fun _ _ => fY _ rfl rfl (ir aa27 zz27 rfl rfl rfl (v := (vQ x.p)) rfl), fun _ _ => ba (fa uu71 rfl zz27 rfl rfl rfl (k' := 0)), fun _ _ => fY _ rfl rfl (ir aa27 zz27 rfl rfl rfl (v := (vQ y.p)) rfl), fun _ _ => hH (gI cc22 rfl (bO x.p y.p (k + 17) og zx.1 zy.1)), fun _ _ => fY _ rfl rfl (ir aa71 zz71 rfl rfl rfl (v := (vR x)) rfl), fun _ _ => hH (gI Tryz.call210 rfl (fF x (k + 20) og zx)), fun _ _ => fY _ rfl rfl (ir aa71 zz71 rfl rfl rfl (v := (vR y)) rfl), fun _ _ => hH (gI Tryz.call210 rfl (fF y (k + 20) og zy)), fun _ _ => hH (gI Tryz.call63 rfl (dO (aV y) (k + 20) og s3)), fun _ _ => lW (ψ := fun v => ∃ b, v = ptr b 0) (B := fun v => [.blk (bC v) (cQ oQ) 27]) [.emp] rfl (fun v _ => by simp only [cp, bp] <;> rfl) (fun v hv => by simpa [DF.one, bp] using hv) (iz (eS vv27 rfl)), fun _ _ => lW (ψ := fun v => ∃ b, v = ptr b 0) (B := fun v => [.blk (bC v) (cQ oQ) 27]) [.emp] rfl (fun v _ => by simp only [cp, bp] <;> rfl) (fun v hv => by simpa [DF.one, bp] using hv) (iz (eS vv27 rfl)), fun _ _ => lW (ψ := fun v => ∃ b, v = ptr b 0) (B := fun v => [.blk (bC v) (cQ oQ) 27]) [.emp] rfl (fun v _ => by simp only [cp, bp] <;> rfl) (fun v hv => by simpa [DF.one, bp] using hv) (iz (eS vv27 rfl)), (fun ξ hφ => by obtain ⟨b3, hb10⟩ := hφ 10 rfl; exact kt [.blk b3 (cQ oQ) 27] [.blk b3 (cQ (ah x.p y.p)) 27] (congrArg (fun v => [Asn.blk (bC v) (cQ oQ) 27]) hb10) (congrArg (fun v => [Asn.blk (bC v) (cQ (ah x.p y.p)) 27]) hb10) (lC zz27 (Eq.trans rfl (congrArg some hb10)) rfl rfl rfl rfl rfl rfl)), (fun ξ hφ => by obtain ⟨b4, hb11⟩ := hφ 11 rfl; exact kt [.blk b4 (cQ oQ) 27] [.blk b4 (cQ (aV x)) 27] (congrArg (fun v => [Asn.blk (bC v) (cQ oQ) 27]) hb11) (congrArg (fun v => [Asn.blk (bC v) (cQ (aV x)) 27]) hb11) (lC zz27 (Eq.trans rfl (congrArg some hb11)) rfl rfl rfl rfl rfl rfl)), (fun ξ hφ => by obtain ⟨b5, hb12⟩ := hφ 12 rfl; exact kt [.blk b5 (cQ oQ) 27] [.blk b5 (cQ (aR (aV y))) 27] (congrArg (fun v => [Asn.blk (bC v) (cQ oQ) 27]) hb12) (congrArg (fun v => [Asn.blk (bC v) (cQ (aR (aV y))) 27]) hb12) (lC zz27 (Eq.trans rfl (congrArg some hb12)) rfl rfl rfl rfl rfl rfl)), trivial⟩ ?_
 clear h ac wo; intro ξ ac wo hφ h
 replace h : St w0 65 [(2, (ptr b1 0)), (3, (ptr b2 0)), (5, ξ 10), (6, ξ 11), (7, ξ 12)] [.blk b2 (cR y) 71, .blk b1 (cR x) 71, .blk (bC (ξ 10)) (cQ (ah x.p y.p)) 27, .blk (bC (ξ 11)) (cQ (aV x)) 27, .blk (bC (ξ 12)) (cQ (aR (aV y))) 27] ac wo := h.sub ⟨rfl, rfl, rfl, rfl, rfl, trivial⟩
 revert h
 obtain ⟨b3, hb10⟩ : ∃ b, ξ 10 = ptr b 0 := hφ 10
 obtain ⟨b4, hb11⟩ : ∃ b, ξ 11 = ptr b 0 := hφ 11
 obtain ⟨b5, hb12⟩ : ∃ b, ξ 12 = ptr b 0 := hφ 12
 rw [hb10, hb11, hb12]; intro h
 clear hb10 hb11 hb12 hφ ξ
 refine gz h <| (W) ?_; clear h ac wo; intro ac wo h
 have p6 := am ((gw (ah x.p y.p) (aV x) x.r (k + 9) og s1 (cn s2 og) (dL zx og).2) w0)
 have p8 := am ((bN (aR (aV y))) w0)
 have p10 := am ((bN y.r) w0)
 refine gz h <| (dr0 (hob := (oK (gw (ah x.p y.p) (aV x) x.r (k + 9) og s1 (cn s2 og) (dL zx og).2)) <| (oK (bN (aR (aV y)))) <| (oK (bN y.r)) <| (oX (h := by exact fun _ => ba (jZ rfl rfl (r := ((ar (aR (aV y))) * (ar y.r))) (by first | (rw [IntKind.wrap_i64]; omega) | exact gu og og)))) <| oE)) <| (ai) ?_ ?_ <;> clear h ac wo <;> intro ac wo h hc1
 ·
  have hd : ao x y = (cZ (ah x.p y.p) (aV x) x.r) := pt
  refine gz h <| (W) ?_; clear h ac wo; intro ac wo h
  exact (rt h) (h.retP (by rw [hd] <;> rfl) (by rw [hd]; exact by first | omega | exact dT og og))
 ·
  refine gz h <| (ai) ?_ ?_ <;> clear h ac wo <;> intro ac wo h hc2
  ·
   have hd2 := eq_of_beq hc2
   have hd : ao x y = ((ar (aR (aV y))) * (ar y.r)) := pt
   refine gz h <| (W) ?_; clear h ac wo; intro ac wo h
   exact (rt h) (h.retP (by rw [hd] <;> rfl) (by rw [hd]; exact by first | omega | exact dT og og))
  ·
   have hd2 := ne_of_beq_false hc2
   refine gz h <| (W) ?_; clear h ac wo; intro ac wo h
   have s11 := am ((a7 (ah x.p y.p) (ah x.p y.p) (k + 15) og s1 s1) w0)
   have s12 := am ((bL (aj (ah x.p y.p) (ah x.p y.p)) x.r (k + 12) og s11 (dL zx og).2) w0)
   have s13 := am ((bO (au (aj (ah x.p y.p) (ah x.p y.p)) x.r) y.r (k + 9) og s12 (dL zy og).2) w0)
   replace h := h.emps 1
   refine eV mixed [dw _ [2], dw _ [2], dv _, dv _, dw _ [1], dv _, dv _, dw _ [0], dv _, ⟨.nd (.one 9 fun v => ∃ b, v = ptr b 0), [5]⟩, ⟨.det undef, [5]⟩] [⟨_, []⟩, ⟨_, []⟩, ⟨_, []⟩, ⟨_, []⟩, ⟨_, []⟩, ⟨.emp, [(9, .one 9 fun v => .blk (bC v) (cQ oQ) 27), (10, .one 9 fun v => .blk (bC v) (cQ (ah (au (aj (ah x.p y.p) (ah x.p y.p)) x.r) y.r)) 27)]⟩] h rfl (by kernel_rfl) ⟨fun _ _ => fY _ rfl rfl (ir aa27 zz27 rfl rfl rfl (v := (vQ (ah x.p y.p))) rfl), fun _ _ => fY _ rfl rfl (ir aa27 zz27 rfl rfl rfl (v := (vQ (ah x.p y.p))) rfl), fun _ _ => hH (gI Tryz.call21 rfl (a7 (ah x.p y.p) (ah x.p y.p) (k + 15) og s1 s1)), fun _ _ => ba (fa uu71 rfl zz27 rfl rfl rfl (k' := 4)), fun _ _ => fY _ rfl rfl (ir aa27 zz27 rfl rfl rfl (v := (vQ x.r)) rfl), fun _ _ => hH (gI Tryz.call20 rfl (bL (aj (ah x.p y.p) (ah x.p y.p)) x.r (k + 12) og s11 (dL zx og).2)), fun _ _ => ba (fa uu71 rfl zz27 rfl rfl rfl (k' := 4)), fun _ _ => fY _ rfl rfl (ir aa27 zz27 rfl rfl rfl (v := (vQ y.r)) rfl), fun _ _ => hH (gI cc22 rfl (bO (au (aj (ah x.p y.p) (ah x.p y.p)) x.r) y.r (k + 9) og s12 (dL zy og).2)), fun _ _ => lW (ψ := fun v => ∃ b, v = ptr b 0) (B := fun v => [.blk (bC v) (cQ oQ) 27]) [.emp] rfl (fun v _ => by simp only [cp, bp] <;> rfl) (fun v hv => by simpa [DF.one, bp] using hv) (iz (eS vv27 rfl)), (fun ξ hφ => by obtain ⟨b6, hb9⟩ := hφ 9 rfl; exact kt [.blk b6 (cQ oQ) 27] [.blk b6 (cQ (ah (au (aj (ah x.p y.p) (ah x.p y.p)) x.r) y.r)) 27] (congrArg (fun v => [Asn.blk (bC v) (cQ oQ) 27]) hb9) (congrArg (fun v => [Asn.blk (bC v) (cQ (ah (au (aj (ah x.p y.p) (ah x.p y.p)) x.r) y.r)) 27]) hb9) (lC zz27 (Eq.trans rfl (congrArg some hb9)) rfl rfl rfl rfl rfl rfl)), trivial⟩ ?_
   clear h ac wo; intro ξ ac wo hφ h
   replace h : St w0 65 [(2, (ptr b1 0)), (5, (ptr b3 0)), (6, (ptr b4 0)), (8, (.int .i64 (cZ (ah x.p y.p) (aV x) x.r))), (10, ξ 9)] [.blk b2 (cR y) 71, .blk b1 (cR x) 71, .blk b3 (cQ (ah x.p y.p)) 27, .blk b4 (cQ (aV x)) 27, .blk b5 (cQ (aR (aV y))) 27, .blk (bC (ξ 9)) (cQ (ah (au (aj (ah x.p y.p) (ah x.p y.p)) x.r) y.r)) 27] ac wo := h.sub ⟨rfl, rfl, rfl, rfl, rfl, trivial⟩
   revert h
   obtain ⟨b6, hb9⟩ : ∃ b, ξ 9 = ptr b 0 := hφ 9
   rw [hb9]; intro h
   clear hb9 hφ ξ
   refine gz h <| (W) ?_; clear h ac wo; intro ac wo h
   have s14 := am ((bP 2 (k + 20) og  og) w0)
   have s15 := am ((a7 (ah x.p y.p) (aV x) (k + 15) og s1 (cn s2 og)) w0)
   have s16 := am ((a7 (ak 2) (aj (ah x.p y.p) (aV x)) (k + 13) og (cn s14 og) s15) w0)
   have p18 := am ((gw (ah (au (aj (ah x.p y.p) (ah x.p y.p)) x.r) y.r) (aj (ak 2) (aj (ah x.p y.p) (aV x))) x.r (k + 1) og s13 (cn s16 og) (dL zx og).2) w0)
   have hd : ao x y = ((cZ (ah x.p y.p) (aV x) x.r) * (cZ (ah (au (aj (ah x.p y.p) (ah x.p y.p)) x.r) y.r) (aj (ak 2) (aj (ah x.p y.p) (aV x))) x.r)) := pt
   refine gz h <| (dr0 (hob := (oK (bP 2 (k + 20) og  og)) <| (oK (a7 (ah x.p y.p) (aV x) (k + 15) og s1 (cn s2 og))) <| (oK (a7 (ak 2) (aj (ah x.p y.p) (aV x)) (k + 13) og (cn s14 og) s15)) <| (oK (gw (ah (au (aj (ah x.p y.p) (ah x.p y.p)) x.r) y.r) (aj (ak 2) (aj (ah x.p y.p) (aV x))) x.r (k + 1) og s13 (cn s16 og) (dL zx og).2)) <| (oX (h := by exact fun _ => ba (jZ rfl rfl (r := ((cZ (ah x.p y.p) (aV x) x.r) * (cZ (ah (au (aj (ah x.p y.p) (ah x.p y.p)) x.r) y.r) (aj (ak 2) (aj (ah x.p y.p) (aV x))) x.r))) (by first | (rw [IntKind.wrap_i64]; omega) | exact gu og og)))) <| oE)) <| (W) ?_; clear h ac wo; intro ac wo h
   exact (rt h) (h.retP (by rw [hd] <;> rfl) (by rw [hd]; exact by first | omega | exact dT og og))
def aM (n : Int) : GR :=
 (⟨(ak n), (⟨(⟨false, 0⟩ : GI), (⟨false, 0⟩ : GI)⟩ : GQ), false⟩ : GR)
theorem kT (n : Int) (k : Nat) (hk : k ≤ 40) (hn : -9223372036854775808 ≤ n ∧ n ≤ 9223372036854775807) (w0 : World) : Calls Tryz.prog 86 #[(.int .i64 n)] w0 (cq w0 (vR (aM n)) (SzR k (aM n))) := by
 refine enter (N := 6) (args := [(.int .i64 n)]) Tryz.func86 rfl rfl ?_; intro ac h
 have c1 := bP n k og  og
 have s1 := am (c1 w0)
 refine gz h <| (xa) fun b1 => (xk c1) <| (xo (hs := by exact bF rz exs rfl (v := (vR (⟨(ak n), oQ, false⟩ : GR))) rfl)) <| (W) ?_; clear h ac; intro ac wo h
 exact ret h rfl (.cell (v := (vR (⟨(ak n), oQ, false⟩ : GR))) rfl (i := 0) rfl aa71 zz71 rfl rfl rfl .nil) rfl (h.retP (by unfold aM; rfl) (by unfold aM; exact ⟨s1, ⟨(bZ 0 (by decide) og), (bZ 0 (by decide) og)⟩⟩))
def ay (r : GQ) : GR :=
 (⟨r, (⟨(⟨false, 0⟩ : GI), (⟨false, 0⟩ : GI)⟩ : GQ), false⟩ : GR)
theorem f5 (r : GQ) (k : Nat) (hk : k ≤ 40) (zr : SzQ k r) (w0 : World) : Calls Tryz.prog 88 #[(vQ r)] w0 (cq w0 (vR (ay r)) (SzR k (ay r))) := by
 refine enter (N := 5) (args := [(vQ r)]) Tryz.func88 rfl rfl ?_; intro ac h
 refine gz h <| (xb) fun b1 => (xa) fun b2 => (xo (hs := by exact bF rz exs rfl (v := (vR (⟨r, oQ, false⟩ : GR))) rfl)) <| (W) ?_; clear h ac; intro ac wo h
 exact ret h rfl (.cell (v := (vR (⟨r, oQ, false⟩ : GR))) rfl (i := 0) rfl aa71 zz71 rfl rfl rfl .nil) rfl (h.retP (by unfold ay; rfl) (by unfold ay; exact ⟨zr, ⟨(bZ 0 (by decide) og), (bZ 0 (by decide) og)⟩⟩))
def aG (c0 : GQ) (c1 : GQ) : Qd :=
 (⟨c0, c1, (⟨(⟨false, 0⟩ : GI), (⟨false, 0⟩ : GI)⟩ : GQ)⟩ : Qd)
theorem cc (c0 : GQ) (c1 : GQ) (k : Nat) (hk : k ≤ 40) (zc0 : SzQ k c0) (zc1 : SzQ k c1) (w0 : World) : Calls Tryz.prog 107 #[(vQ c0), (vQ c1)] w0 (cq w0 (vD (aG c0 c1)) (SzD k (aG c0 c1))) := by
 refine enter (N := 8) (args := [(vQ c0), (vQ c1)]) Tryz.func107 rfl rfl ?_; intro ac h
 refine gz h <| (xb) fun b1 => (xb) fun b2 => (xa) fun b3 => (xo (hs := by exact bF rA exs rfl (v := (vD (⟨c0, c1, oQ⟩ : Qd))) rfl)) <| (W) ?_; clear h ac; intro ac wo h
 exact ret h rfl (.cell (v := (vD (⟨c0, c1, oQ⟩ : Qd))) rfl (i := 0) rfl aa53 zz53 rfl rfl rfl .nil) rfl (h.retP (by unfold aG; rfl) (by unfold aG; exact ⟨zc0, zc1, ⟨(bZ 0 (by decide) og), (bZ 0 (by decide) og)⟩⟩))
def aI (q : Qd) (t : GQ) : GQ :=
 (au q.c0 (aj t (au q.c1 (aj t q.c2))))
theorem gO (q : Qd) (t : GQ) (k : Nat) (hk : (k + 10) ≤ 40) (zq : SzD (k + 10) q) (zt : SzQ (k + 10) t) (w0 : World) : Calls Tryz.prog 101 #[(vD q), (vQ t)] w0 (cq w0 (vQ (aI q t)) (SzQ k (aI q t))) := by
 refine enter (N := 17) (args := [(vD q), (vQ t)]) Tryz.func101 rfl rfl ?_; intro ac h
 have s1 := am ((a7 t q.c2 (k + 8) og zt zq.2.2) w0)
 have s2 := am ((bL q.c1 (aj t q.c2) (k + 5) og (iX zq og).2.1 s1) w0)
 have s3 := am ((a7 t (au q.c1 (aj t q.c2)) (k + 3) og (cn zt og) s2) w0)
 have s4 := am ((bL q.c0 (aj t (au q.c1 (aj t q.c2))) k og (iX zq og).1 s3) w0)
 refine gz h <| (xb) fun b1 => (xb) fun b2 => (xa) fun b3 => (dr1 (H := [⟨.blk b3 (cQ oQ) 27, [(12, .con (.blk b3 (cQ (au q.c0 (aj t (au q.c1 (aj t q.c2))))) 27))]⟩, ⟨_, []⟩, ⟨_, []⟩]) (hob := (oK (a7 t q.c2 (k + 8) og zt zq.2.2)) <| (oK (bL q.c1 (aj t q.c2) (k + 5) og (iX zq og).2.1 s1)) <| (oK (a7 t (au q.c1 (aj t q.c2)) (k + 3) og (cn zt og) s2)) <| (oK (bL q.c0 (aj t (au q.c1 (aj t q.c2))) k og (iX zq og).1 s3)) <| oE)) <| (W) ?_; clear h ac; intro ac wo h
 exact ret h rfl (.cell (v := (vQ (au q.c0 (aj t (au q.c1 (aj t q.c2)))))) rfl (i := 0) rfl aa27 zz27 rfl rfl rfl .nil) rfl (h.retP (by unfold aI; rfl) (by unfold aI; exact s4))
def aN (q : Qd) (t : GQ) : GQ :=
 (au q.c1 (aj (au q.c2 q.c2) t))
theorem fk (q : Qd) (t : GQ) (k : Nat) (hk : (k + 8) ≤ 40) (zq : SzD (k + 8) q) (zt : SzQ (k + 8) t) (w0 : World) : Calls Tryz.prog 213 #[(vD q), (vQ t)] w0 (cq w0 (vQ (aN q t)) (SzQ k (aN q t))) := by
 refine enter (N := 15) (args := [(vD q), (vQ t)]) Tryz.func213 rfl rfl ?_; intro ac h
 have s1 := am ((bL q.c2 q.c2 (k + 5) og zq.2.2 zq.2.2) w0)
 have s2 := am ((a7 (au q.c2 q.c2) t (k + 3) og s1 (cn zt og)) w0)
 have s3 := am ((bL q.c1 (aj (au q.c2 q.c2) t) k og (iX zq og).2.1 s2) w0)
 refine gz h <| (xb) fun b1 => (xb) fun b2 => (xa) fun b3 => (dr1 (H := [⟨.blk b3 (cQ oQ) 27, [(10, .con (.blk b3 (cQ (au q.c1 (aj (au q.c2 q.c2) t))) 27))]⟩, ⟨_, []⟩, ⟨_, []⟩]) (hob := (oK (bL q.c2 q.c2 (k + 5) og zq.2.2 zq.2.2)) <| (oK (a7 (au q.c2 q.c2) t (k + 3) og s1 (cn zt og))) <| (oK (bL q.c1 (aj (au q.c2 q.c2) t) k og (iX zq og).2.1 s2)) <| oE)) <| (W) ?_; clear h ac; intro ac wo h
 exact ret h rfl (.cell (v := (vQ (au q.c1 (aj (au q.c2 q.c2) t)))) rfl (i := 0) rfl aa27 zz27 rfl rfl rfl .nil) rfl (h.retP (by unfold aN; rfl) (by unfold aN; exact s3))
def cv (p : Qd) (q : Qd) : Qd :=
 (⟨(ah p.c0 q.c0), (ah p.c1 q.c1), (ah p.c2 q.c2)⟩ : Qd)
theorem it (p : Qd) (q : Qd) (k : Nat) (hk : (k + 3) ≤ 40) (zp : SzD (k + 3) p) (zq : SzD (k + 3) q) (w0 : World) : Calls Tryz.prog 131 #[(vD p), (vD q)] w0 (cq w0 (vD (cv p q)) (SzD k (cv p q))) := by
 refine enter (N := 21) (args := [(vD p), (vD q)]) Tryz.func131 rfl rfl ?_; intro ac h
 have s1 := am ((bO p.c0 q.c0 k og zp.1 zq.1) w0)
 have s2 := am ((bO p.c1 q.c1 k og zp.2.1 zq.2.1) w0)
 have s3 := am ((bO p.c2 q.c2 k og zp.2.2 zq.2.2) w0)
 refine gz h <| (xb) fun b1 => (xb) fun b2 => (xa) fun b3 => (dr1 (H := [⟨.blk b3 (cD oD) 53, [(16, .con (.blk b3 (cD (⟨(ah p.c0 q.c0), (ah p.c1 q.c1), (ah p.c2 q.c2)⟩ : Qd)) 53))]⟩, ⟨_, []⟩, ⟨_, []⟩]) (hob := (oK (bO p.c0 q.c0 k og zp.1 zq.1)) <| (oK (bO p.c1 q.c1 k og zp.2.1 zq.2.1)) <| (oK (bO p.c2 q.c2 k og zp.2.2 zq.2.2)) <| (oX (h := by exact fun _ => ba (bF rA exs rfl (v := (vD (⟨(ah p.c0 q.c0), (ah p.c1 q.c1), (ah p.c2 q.c2)⟩ : Qd))) rfl))) <| oE)) <| (W) ?_; clear h ac; intro ac wo h
 exact ret h rfl (.cell (v := (vD (⟨(ah p.c0 q.c0), (ah p.c1 q.c1), (ah p.c2 q.c2)⟩ : Qd))) rfl (i := 0) rfl aa53 zz53 rfl rfl rfl .nil) rfl (h.retP (by unfold cv; rfl) (by unfold cv; exact ⟨s1, s2, s3⟩))
def cu (x : GR) : GQ × Bool :=
 bif (!(decide (x.r = (⟨(⟨false, 0⟩ : GI), (⟨false, 0⟩ : GI)⟩ : GQ)))) then
  ((⟨(⟨false, 0⟩ : GI), (⟨false, 0⟩ : GI)⟩ : GQ), false)
 else
  (x.p, true)
theorem kq (x : GR) (k : Nat) (hk : k ≤ 40) (zx : SzR k x) (w0 : World) : Calls Tryz.prog 212 #[(vR x)] w0 (cq w0 (.tuple #[(vQ ((cu x).1)), (.bool ((cu x).2))]) (SzQ k ((cu x).1))) := by
 refine enter (N := 11) (args := [(vR x)]) Tryz.func212 rfl rfl ?_; intro ac h
 refine gz h <| (xb) fun b1 => (xa) fun b2 => (xo (hs := by exact bF kx exs rfl (v := (vQ oQ)) rfl)) <| (ai) ?_ ?_ <;> clear h ac <;> intro ac wo h hc1
 ·
  have hd : cu x = (oQ, false) := pt
  refine gz h <| (xo (hs := by exact bF kx exs rfl (v := (vQ oQ)) rfl)) <| (W) ?_; clear h ac wo; intro ac wo h
  exact ret h rfl (.cell (v := (vQ oQ)) rfl (i := 0) rfl aa27 zz27 rfl rfl rfl (.tmp rfl .nil)) rfl (h.retP (by rw [hd] <;> rfl) (by rw [hd]; exact ⟨(bZ 0 (by decide) og), (bZ 0 (by decide) og)⟩))
 ·
  have hd : cu x = (x.p, true) := pt
  refine gz h <| (W) ?_; clear h ac wo; intro ac wo h
  exact ret h rfl (.cell (v := (vQ x.p)) rfl (i := 0) rfl aa27 zz27 rfl rfl rfl (.tmp rfl .nil)) rfl (h.retP (by rw [hd] <;> rfl) (by rw [hd]; exact zx.1))
def aQ (q : Qd) (t : GR) : Qd :=
 bif (cu t).2 then
  (aA (aI q ((cu t).1)))
 else
  (aG (au q.c0 (aj q.c2 (ah t.r (aj t.p t.p)))) (aN q t.p))
theorem dP (q : Qd) (t : GR) (k : Nat) (hk : (k + 10) ≤ 40) (zq : SzD (k + 10) q) (zt : SzR (k + 10) t) (w0 : World) : Calls Tryz.prog 130 #[(vD q), (vR t)] w0 (cq w0 (vD (aQ q t)) (SzD k (aQ q t))) := by
 refine enter (N := 38) (args := [(vD q), (vR t)]) Tryz.func130 rfl rfl ?_; intro ac h
 have c1 := kq t (k + 10) og zt
 have s1 := am (c1 w0)
 refine gz h <| (xb) fun b1 => (xb) fun b2 => (xa) fun b3 => (xk c1) <| (xa) fun b4 => (ai) ?_ ?_ <;> clear h ac <;> intro ac wo h hc1
 ·
  have c2 := gO q ((cu t).1) k og zq s1
  have s2 := am (c2 w0)
  have c3 := iH (aI q ((cu t).1)) k og s2
  have s3 := am (c3 w0)
  have hd : aQ q t = (aA (aI q ((cu t).1))) := pt
  refine gz h <| (xk c2) <| (xk c3) <| (W) ?_; clear h ac wo; intro ac wo h
  exact ret h rfl (.cell (v := (vD (aA (aI q ((cu t).1))))) rfl (i := 1) rfl aa53 zz53 rfl rfl rfl .nil) rfl (h.retP (by rw [hd] <;> rfl) (by rw [hd]; exact s3))
 ·
  refine gz h <| (W) ?_; clear h ac wo; intro ac wo h
  have s4 := am ((a7 t.p t.p (k + 8) og zt.1 zt.1) w0)
  have s5 := am ((bO t.r (aj t.p t.p) (k + 5) og (dL zt og).2 s4) w0)
  replace h := h.emps 1
  refine eV mixed [dv _, dw _ [2], dv _, dw _ [2], dv _, dw _ [2], dv _, dv _, ⟨.nd (.one 8 fun v => ∃ b, v = ptr b 0), [4]⟩, ⟨.det undef, [4]⟩] [⟨_, []⟩, ⟨_, []⟩, ⟨_, []⟩, ⟨_, []⟩, ⟨.emp, [(8, .one 8 fun v => .blk (bC v) (cQ oQ) 27), (9, .one 8 fun v => .blk (bC v) (cQ (ah t.r (aj t.p t.p))) 27)]⟩] h rfl (by kernel_rfl) ⟨fun _ _ => ba (fa uu71 rfl zz27 rfl rfl rfl (k' := 4)), fun _ _ => fY _ rfl rfl (ir aa27 zz27 rfl rfl rfl (v := (vQ t.r)) rfl), fun _ _ => ba (fa uu71 rfl zz27 rfl rfl rfl (k' := 0)), fun _ _ => fY _ rfl rfl (ir aa27 zz27 rfl rfl rfl (v := (vQ t.p)) rfl), fun _ _ => ba (fa uu71 rfl zz27 rfl rfl rfl (k' := 0)), fun _ _ => fY _ rfl rfl (ir aa27 zz27 rfl rfl rfl (v := (vQ t.p)) rfl), fun _ _ => hH (gI Tryz.call21 rfl (a7 t.p t.p (k + 8) og zt.1 zt.1)), fun _ _ => hH (gI cc22 rfl (bO t.r (aj t.p t.p) (k + 5) og (dL zt og).2 s4)), fun _ _ => lW (ψ := fun v => ∃ b, v = ptr b 0) (B := fun v => [.blk (bC v) (cQ oQ) 27]) [.emp] rfl (fun v _ => by simp only [cp, bp] <;> rfl) (fun v hv => by simpa [DF.one, bp] using hv) (iz (eS vv27 rfl)), (fun ξ hφ => by obtain ⟨b5, hb8⟩ := hφ 8 rfl; exact kt [.blk b5 (cQ oQ) 27] [.blk b5 (cQ (ah t.r (aj t.p t.p))) 27] (congrArg (fun v => [Asn.blk (bC v) (cQ oQ) 27]) hb8) (congrArg (fun v => [Asn.blk (bC v) (cQ (ah t.r (aj t.p t.p))) 27]) hb8) (lC zz27 (Eq.trans rfl (congrArg some hb8)) rfl rfl rfl rfl rfl rfl)), trivial⟩ ?_
  clear h ac wo; intro ξ ac wo hφ h
  replace h : St w0 38 [(2, (ptr b1 0)), (3, (ptr b2 0)), (4, (ptr b3 0)), (7, ξ 8)] [.blk b4 (cQ ((cu t).1)) 27, .blk b3 (cD oD) 53, .blk b2 (cR t) 71, .blk b1 (cD q) 53, .blk (bC (ξ 8)) (cQ (ah t.r (aj t.p t.p))) 27] ac wo := h.sub ⟨rfl, rfl, rfl, rfl, trivial⟩
  revert h
  obtain ⟨b5, hb8⟩ : ∃ b, ξ 8 = ptr b 0 := hφ 8
  rw [hb8]; intro h
  clear hb8 hφ ξ
  refine gz h <| (W) ?_; clear h ac wo; intro ac wo h
  have s6 := am ((a7 q.c2 (ah t.r (aj t.p t.p)) (k + 3) og (iX zq og).2.2 s5) w0)
  have s7 := am ((bL q.c0 (aj q.c2 (ah t.r (aj t.p t.p))) k og (iX zq og).1 s6) w0)
  have s8 := am ((fk q t.p (k + 2) og zq zt.1) w0)
  have s9 := am ((cc (au q.c0 (aj q.c2 (ah t.r (aj t.p t.p)))) (aN q t.p) k og s7 (cn s8 og)) w0)
  have hd : aQ q t = (aG (au q.c0 (aj q.c2 (ah t.r (aj t.p t.p)))) (aN q t.p)) := pt
  refine gz h <| (dr1 (H := [⟨_, []⟩, ⟨.blk b3 (cD oD) 53, [(12, .con (.blk b3 (cD (aG (au q.c0 (aj q.c2 (ah t.r (aj t.p t.p)))) (aN q t.p))) 53))]⟩, ⟨_, []⟩, ⟨_, []⟩, ⟨_, []⟩]) (hob := (oK (a7 q.c2 (ah t.r (aj t.p t.p)) (k + 3) og (iX zq og).2.2 s5)) <| (oK (bL q.c0 (aj q.c2 (ah t.r (aj t.p t.p))) k og (iX zq og).1 s6)) <| (oK (fk q t.p (k + 2) og zq zt.1)) <| (oK (cc (au q.c0 (aj q.c2 (ah t.r (aj t.p t.p)))) (aN q t.p) k og s7 (cn s8 og))) <| oE)) <| (W) ?_; clear h ac wo; intro ac wo h
  exact ret h rfl (.cell (v := (vD (aG (au q.c0 (aj q.c2 (ah t.r (aj t.p t.p)))) (aN q t.p)))) rfl (i := 1) rfl aa53 zz53 rfl rfl rfl .nil) rfl (h.retP (by rw [hd] <;> rfl) (by rw [hd]; exact s9))
def eD (p : Qd) (q : Qd) (t : GR) : Bool :=
 (decide ((aQ (cv p q) t) = (⟨(⟨(⟨false, 0⟩ : GI), (⟨false, 0⟩ : GI)⟩ : GQ), (⟨(⟨false, 0⟩ : GI), (⟨false, 0⟩ : GI)⟩ : GQ), (⟨(⟨false, 0⟩ : GI), (⟨false, 0⟩ : GI)⟩ : GQ)⟩ : Qd)))
theorem gM (p : Qd) (q : Qd) (t : GR) (k : Nat) (hk : (k + 14) ≤ 40) (zp : SzD (k + 14) p) (zq : SzD (k + 14) q) (zt : SzR (k + 14) t) (w0 : World) : Calls Tryz.prog 39 #[(vD p), (vD q), (vR t)] w0 (cq w0 (.bool (eD p q t)) (True)) := by
 refine enter (N := 14) (args := [(vD p), (vD q), (vR t)]) Tryz.func39 rfl rfl ?_; intro ac h
 have s1 := am ((it p q (k + 11) og zp zq) w0)
 have s2 := am ((dP (cv p q) t (k + 1) og s1 (dL zt og)) w0)
 refine gz h <| (xb) fun b1 => (xb) fun b2 => (xb) fun b3 => (dr0 (hob := (oK (it p q (k + 11) og zp zq)) <| (oK (dP (cv p q) t (k + 1) og s1 (dL zt og))) <| (oX (h := by exact fun _ => ba (bF rA exs rfl (v := (vD oD)) rfl))) <| oE)) <| (W) ?_; clear h ac; intro ac wo h
 exact (rt h) (h.retP (by unfold eD; rfl) trivial)
def cm (a : Iv) (b : Iv) : Bool :=
 ((decide ((ao a.hi b.lo) < 0)) || (((ao a.hi b.lo) == 0) && (a.openHi || b.openLo)))
theorem iI (a : Iv) (b : Iv) (k : Nat) (hk : (k + 20) ≤ 40) (za : SzV (k + 20) a) (zb : SzV (k + 20) b) (w0 : World) : Calls Tryz.prog 118 #[(vV a), (vV b)] w0 (cq w0 (.bool (cm a b)) (True)) := by
 refine enter (N := 25) (args := [(vV a), (vV b)]) Tryz.func118 rfl rfl ?_; intro ac h
 have p2 := am ((cH a.hi b.lo k og za.2 zb.1) w0)
 refine gz h <| (xb) fun b1 => (xb) fun b2 => (xk (cH a.hi b.lo k og za.2 zb.1)) <| (W) ?_; clear h ac; intro ac wo h
 exact (rt h) (h.retP (by unfold cm; rfl) trivial)
def aK (i : Iv) : Bool :=
 (decide (i.lo = i.hi))
theorem dr (i : Iv) (w0 : World) : Calls Tryz.prog 150 #[(vV i)] w0 (cq w0 (.bool (aK i)) (True)) := by
 refine enter (N := 8) (args := [(vV i)]) Tryz.func150 rfl rfl ?_; intro ac h
 refine gz h <| (xb) fun b1 => (W) ?_; clear h ac; intro ac wo h
 exact (rt h) (h.retP (by unfold aK; rfl) trivial)
end Go.Sx
