/- A part of the proof of movingpointMoves. -/
import Derived.Test.YtbenbmdkhcfcfaaGreatDoorProg
import Derived.Test.YtbenbmdkhcfcfaaGreatDoorQ5
set_option linter.unusedVariables false
set_option linter.unusedSimpArgs false
open Go.Proofs.Tryz renaming isAgg27 → aa27, sizeOf27 → zz27, runUnderlying71 → uu71, call22 → cc22, isAgg71 → aa71, sizeOf71 → zz71, zeroValue27 → vv27, isAgg53 → aa53, sizeOf53 → zz53
namespace Go.Sx
open Go Go.RowKit Go.Proofs
set_option maxRecDepth 100000
set_option maxHeartbeats 40000000
attribute [local irreducible] Code.wp wpList Rd Step ObS Ent
def aZ (x : GR) : GQ :=
 bif x.neg then
  (ah (-1))
 else
  (ah 1)
theorem g7 (x : GR) (k : Nat) (hk : k ≤ 40) (zx : SzR k x) (w0 : World) : Calls Tryz.prog 210 #[(vR x)] w0 (dh w0 (vQ (aZ x)) (SzQ k (aZ x))) := by
 refine enter (N := 7) (args := [(vR x)]) Tryz.func210 rfl rfl ?_; intro ac h
 refine gz h <| (xb) fun b1 => (xa) fun b2 => (ai) ?_ ?_ <;> clear h ac <;> intro ac wo h hc1
 ·
  have c1 := bR (-1) k og  og
  have s1 := am (c1 w0)
  have hd : aZ x = (ah (-1)) := pt
  refine gz h <| (xk c1) <| (W) ?_; clear h ac wo; intro ac wo h
  exact ret h rfl (.cell (v := (vQ (ah (-1)))) rfl (i := 0) rfl aa27 zz27 rfl rfl rfl .nil) rfl (h.retP (by rw [hd] <;> rfl) (by rw [hd]; exact s1))
 ·
  have c2 := bR 1 k og  og
  have s2 := am (c2 w0)
  have hd : aZ x = (ah 1) := pt
  refine gz h <| (xk c2) <| (W) ?_; clear h ac wo; intro ac wo h
  exact ret h rfl (.cell (v := (vQ (ah 1))) rfl (i := 0) rfl aa27 zz27 rfl rfl rfl .nil) rfl (h.retP (by rw [hd] <;> rfl) (by rw [hd]; exact s2))
def dT (a : GQ) (b : GQ) (r : GQ) : Int :=
 bif ((((aw b) * (aw r)) == 0) || ((aw a) == ((aw b) * (aw r)))) then
  (aw a)
 else
  bif ((aw a) == 0) then
   ((aw b) * (aw r))
  else
   ((aw a) * (aY (ak a a) (ak (ak b b) r)))
theorem iV (a : GQ) (b : GQ) (r : GQ) (k : Nat) (hk : (k + 8) ≤ 40) (za : SzQ (k + 8) a) (zb : SzQ (k + 8) b) (zr : SzQ (k + 8) r) (w0 : World) : Calls Tryz.prog 211 #[(vQ a), (vQ b), (vQ r)] w0 (dh w0 (.int .i64 (dT a b r)) ((-1 ≤ (dT a b r) ∧ (dT a b r) ≤ 1))) := by
 refine enter (N := 40) (args := [(vQ a), (vQ b), (vQ r)]) Tryz.func211 rfl rfl ?_; intro ac h
 have p2 := am ((cH a) w0)
 have p4 := am ((cH b) w0)
 have p6 := am ((cH r) w0)
 refine gz h <| (xb) fun b1 => (xb) fun b2 => (xb) fun b3 => (dr0 (hob := (oK (cH a)) <| (oK (cH b)) <| (oK (cH r)) <| (oX (h := by exact fun _ => a6 (lM rfl rfl (r := ((aw b) * (aw r))) (by first | (rw [IntKind.wrap_i64]; omega) | exact iR og og)))) <| oE)) <| (ai) ?_ ?_ <;> clear h ac <;> intro ac wo h hc1
 ·
  have hd : dT a b r = (aw a) := pt
  refine gz h <| (W) ?_; clear h ac wo; intro ac wo h
  exact (rt h) (h.retP (by rw [hd] <;> rfl) (by rw [hd]; exact by first | omega | exact eJ og og))
 ·
  refine gz h <| (ai) ?_ ?_ <;> clear h ac wo <;> intro ac wo h hc2
  ·
   have hd2 := eq_of_beq hc2
   have hd : dT a b r = ((aw b) * (aw r)) := pt
   refine gz h <| (W) ?_; clear h ac wo; intro ac wo h
   exact (rt h) (h.retP (by rw [hd] <;> rfl) (by rw [hd]; exact by first | omega | exact eJ og og))
  ·
   have hd2 := ne_of_beq_false hc2
   refine gz h <| (W) ?_; clear h ac wo; intro ac wo h
   have s7 := am ((be a a (k + 6) og za za) w0)
   have s8 := am ((be b b (k + 6) og zb zb) w0)
   have s9 := am ((be (ak b b) r (k + 4) og s8 (bQ zr og)) w0)
   have p11 := am ((gg (ak a a) (ak (ak b b) r) (k + 3) og (bQ s7 og) s9) w0)
   have hd : dT a b r = ((aw a) * (aY (ak a a) (ak (ak b b) r))) := pt
   refine gz h <| (dr0 (hob := (oK (be a a (k + 6) og za za)) <| (oK (be b b (k + 6) og zb zb)) <| (oK (be (ak b b) r (k + 4) og s8 (bQ zr og))) <| (oK (gg (ak a a) (ak (ak b b) r) (k + 3) og (bQ s7 og) s9)) <| (oX (h := by exact fun _ => a6 (lM rfl rfl (r := ((aw a) * (aY (ak a a) (ak (ak b b) r)))) (by first | (rw [IntKind.wrap_i64]; omega) | exact iR og og)))) <| oE)) <| (W) ?_; clear h ac wo; intro ac wo h
   exact (rt h) (h.retP (by rw [hd] <;> rfl) (by rw [hd]; exact by first | omega | exact eJ og og))
def ao (x : GR) (y : GR) : Int :=
 bif ((((aw (aD (aZ y))) * (aw y.r)) == 0) || ((dT (aj x.p y.p) (aZ x) x.r) == ((aw (aD (aZ y))) * (aw y.r)))) then
  (dT (aj x.p y.p) (aZ x) x.r)
 else
  bif ((dT (aj x.p y.p) (aZ x) x.r) == 0) then
   ((aw (aD (aZ y))) * (aw y.r))
  else
   ((dT (aj x.p y.p) (aZ x) x.r) * (dT (aj (an (ak (aj x.p y.p) (aj x.p y.p)) x.r) y.r) (ak (ah 2) (ak (aj x.p y.p) (aZ x))) x.r))
theorem dl (x : GR) (y : GR) (k : Nat) (hk : (k + 20) ≤ 40) (zx : SzR (k + 20) x) (zy : SzR (k + 20) y) (w0 : World) : Calls Tryz.prog 127 #[(vR x), (vR y)] w0 (dh w0 (.int .i64 (ao x y)) ((-1 ≤ (ao x y) ∧ (ao x y) ≤ 1))) := by
 refine enter (N := 65) (args := [(vR x), (vR y)]) Tryz.func127 rfl rfl ?_; intro ac h
 have s1 := am ((cp x.p y.p (k + 17) og zx.1 zy.1) w0)
 have s2 := am ((g7 x (k + 20) og zx) w0)
 have s3 := am ((g7 y (k + 20) og zy) w0)
 have s4 := am ((cY (aZ y) (k + 20) og s3) w0)
 refine gz h <| (xb) fun b1 => (xb) fun b2 => (W) ?_; clear h ac; intro ac wo h
 replace h := h.emps 3
 refine ef mixed [dv _, dw _ [1], dv _, dw _ [0], dv _, dw _ [1], dv _, dw _ [0], dv _, dv _, ⟨.nd (.one 10 fun v => ∃ b, v = ptr b 0), [2]⟩, ⟨.nd (.one 11 fun v => ∃ b, v = ptr b 0), [3]⟩, ⟨.nd (.one 12 fun v => ∃ b, v = ptr b 0), [4]⟩, ⟨.det undef, [2]⟩, ⟨.det undef, [3]⟩, ⟨.det undef, [4]⟩] [⟨_, []⟩, ⟨_, []⟩, ⟨.emp, [(10, .one 10 fun v => .blk (bo v) (cQ oQ) 27), (13, .one 10 fun v => .blk (bo v) (cQ (aj x.p y.p)) 27)]⟩, ⟨.emp, [(11, .one 11 fun v => .blk (bo v) (cQ oQ) 27), (14, .one 11 fun v => .blk (bo v) (cQ (aZ x)) 27)]⟩, ⟨.emp, [(12, .one 12 fun v => .blk (bo v) (cQ oQ) 27), (15, .one 12 fun v => .blk (bo v) (cQ (aD (aZ y))) 27)]⟩] h rfl (by kernel_rfl) ⟨fun _ _ => a6 (fa uu71 rfl zz27 rfl rfl rfl (k' := 0)), fun _ _ => iB _ rfl rfl (jC aa27 zz27 rfl rfl rfl (v := (vQ x.p)) rfl), fun _ _ => a6 (fa uu71 rfl zz27 rfl rfl rfl (k' := 0)), fun _ _ => iB _ rfl rfl (jC aa27 zz27 rfl rfl rfl (v := (vQ y.p)) rfl), fun _ _ => fJ (eH cc22 rfl (cp x.p y.p (k + 17) og zx.1 zy.1)), fun _ _ => iB _ rfl rfl (jC aa71 zz71 rfl rfl rfl (v := (vR x)) rfl), fun _ _ => fJ (eH Tryz.call210 rfl (g7 x (k + 20) og zx)), fun _ _ => iB _ rfl rfl (jC aa71 zz71 rfl rfl rfl (v := (vR y)) rfl), fun _ _ => fJ (eH Tryz.call210 rfl (g7 y (k + 20) og zy)), fun _ _ => fJ (eH Tryz.call63 rfl (cY (aZ y) (k + 20) og s3)), fun _ _ => l8 (ψ := fun v => ∃ b, v = ptr b 0) (B := fun v => [.blk (bo v) (cQ oQ) 27]) [.emp] rfl (fun v _ => by simp only [cA, bn] <;> rfl) (fun v hv => by simpa [DF.one, bn] using hv) (jI (fP vv27 rfl)), fun _ _ => l8 (ψ := fun v => ∃ b, v = ptr b 0) (B := fun v => [.blk (bo v) (cQ oQ) 27]) [.emp] rfl (fun v _ => by simp only [cA, bn] <;> rfl) (fun v hv => by simpa [DF.one, bn] using hv) (jI (fP vv27 rfl)), fun _ _ => l8 (ψ := fun v => ∃ b, v = ptr b 0) (B := fun v => [.blk (bo v) (cQ oQ) 27]) [.emp] rfl (fun v _ => by simp only [cA, bn] <;> rfl) (fun v hv => by simpa [DF.one, bn] using hv) (jI (fP vv27 rfl)), (fun ξ hφ => by obtain ⟨b3, hb10⟩ := hφ 10 rfl; exact kX [.blk b3 (cQ oQ) 27] [.blk b3 (cQ (aj x.p y.p)) 27] (congrArg (fun v => [Asn.blk (bo v) (cQ oQ) 27]) hb10) (congrArg (fun v => [Asn.blk (bo v) (cQ (aj x.p y.p)) 27]) hb10) (nA zz27 (Eq.trans rfl (congrArg some hb10)) rfl rfl rfl rfl rfl rfl)), (fun ξ hφ => by obtain ⟨b4, hb11⟩ := hφ 11 rfl; exact kX [.blk b4 (cQ oQ) 27] [.blk b4 (cQ (aZ x)) 27] (congrArg (fun v => [Asn.blk (bo v) (cQ oQ) 27]) hb11) (congrArg (fun v => [Asn.blk (bo v) (cQ (aZ x)) 27]) hb11) (nA zz27 (Eq.trans rfl (congrArg some hb11)) rfl rfl rfl rfl rfl rfl)), (fun ξ hφ => by obtain ⟨b5, hb12⟩ := hφ 12 rfl; exact kX [.blk b5 (cQ oQ) 27] [.blk b5 (cQ (aD (aZ y))) 27] (congrArg (fun v => [Asn.blk (bo v) (cQ oQ) 27]) hb12) (congrArg (fun v => [Asn.blk (bo v) (cQ (aD (aZ y))) 27]) hb12) (nA zz27 (Eq.trans rfl (congrArg some hb12)) rfl rfl rfl rfl rfl rfl)), trivial⟩ ?_
 clear h ac wo; intro ξ ac wo hφ h
 replace h : St w0 65 [(2, (ptr b1 0)), (3, (ptr b2 0)), (5, ξ 10), (6, ξ 11), (7, ξ 12)] [.blk b2 (cR y) 71, .blk b1 (cR x) 71, .blk (bo (ξ 10)) (cQ (aj x.p y.p)) 27, .blk (bo (ξ 11)) (cQ (aZ x)) 27, .blk (bo (ξ 12)) (cQ (aD (aZ y))) 27] ac wo := h.sub ⟨rfl, rfl, rfl, rfl, rfl, trivial⟩
 revert h
 obtain ⟨b3, hb10⟩ : ∃ b, ξ 10 = ptr b 0 := hφ 10
 obtain ⟨b4, hb11⟩ : ∃ b, ξ 11 = ptr b 0 := hφ 11
 obtain ⟨b5, hb12⟩ : ∃ b, ξ 12 = ptr b 0 := hφ 12
 rw [hb10, hb11, hb12]; intro h
 clear hb10 hb11 hb12 hφ ξ
 refine gz h <| (W) ?_; clear h ac wo; intro ac wo h
 have p6 := am ((iV (aj x.p y.p) (aZ x) x.r (k + 9) og s1 (bQ s2 og) (e6 zx og).2) w0)
 have p8 := am ((cH (aD (aZ y))) w0)
 have p10 := am ((cH y.r) w0)
 refine gz h <| (dr0 (hob := (oK (iV (aj x.p y.p) (aZ x) x.r (k + 9) og s1 (bQ s2 og) (e6 zx og).2)) <| (oK (cH (aD (aZ y)))) <| (oK (cH y.r)) <| (oX (h := by exact fun _ => a6 (lM rfl rfl (r := ((aw (aD (aZ y))) * (aw y.r))) (by first | (rw [IntKind.wrap_i64]; omega) | exact iR og og)))) <| oE)) <| (ai) ?_ ?_ <;> clear h ac wo <;> intro ac wo h hc1
 ·
  have hd : ao x y = (dT (aj x.p y.p) (aZ x) x.r) := pt
  refine gz h <| (W) ?_; clear h ac wo; intro ac wo h
  exact (rt h) (h.retP (by rw [hd] <;> rfl) (by rw [hd]; exact by first | omega | exact eJ og og))
 ·
  refine gz h <| (ai) ?_ ?_ <;> clear h ac wo <;> intro ac wo h hc2
  ·
   have hd2 := eq_of_beq hc2
   have hd : ao x y = ((aw (aD (aZ y))) * (aw y.r)) := pt
   refine gz h <| (W) ?_; clear h ac wo; intro ac wo h
   exact (rt h) (h.retP (by rw [hd] <;> rfl) (by rw [hd]; exact by first | omega | exact eJ og og))
  ·
   have hd2 := ne_of_beq_false hc2
   refine gz h <| (W) ?_; clear h ac wo; intro ac wo h
   have s11 := am ((be (aj x.p y.p) (aj x.p y.p) (k + 15) og s1 s1) w0)
   have s12 := am ((bt (ak (aj x.p y.p) (aj x.p y.p)) x.r (k + 12) og s11 (e6 zx og).2) w0)
   have s13 := am ((cp (an (ak (aj x.p y.p) (aj x.p y.p)) x.r) y.r (k + 9) og s12 (e6 zy og).2) w0)
   replace h := h.emps 1
   refine ef mixed [dw _ [2], dw _ [2], dv _, dv _, dw _ [1], dv _, dv _, dw _ [0], dv _, ⟨.nd (.one 9 fun v => ∃ b, v = ptr b 0), [5]⟩, ⟨.det undef, [5]⟩] [⟨_, []⟩, ⟨_, []⟩, ⟨_, []⟩, ⟨_, []⟩, ⟨_, []⟩, ⟨.emp, [(9, .one 9 fun v => .blk (bo v) (cQ oQ) 27), (10, .one 9 fun v => .blk (bo v) (cQ (aj (an (ak (aj x.p y.p) (aj x.p y.p)) x.r) y.r)) 27)]⟩] h rfl (by kernel_rfl) ⟨fun _ _ => iB _ rfl rfl (jC aa27 zz27 rfl rfl rfl (v := (vQ (aj x.p y.p))) rfl), fun _ _ => iB _ rfl rfl (jC aa27 zz27 rfl rfl rfl (v := (vQ (aj x.p y.p))) rfl), fun _ _ => fJ (eH Tryz.call21 rfl (be (aj x.p y.p) (aj x.p y.p) (k + 15) og s1 s1)), fun _ _ => a6 (fa uu71 rfl zz27 rfl rfl rfl (k' := 4)), fun _ _ => iB _ rfl rfl (jC aa27 zz27 rfl rfl rfl (v := (vQ x.r)) rfl), fun _ _ => fJ (eH Tryz.call20 rfl (bt (ak (aj x.p y.p) (aj x.p y.p)) x.r (k + 12) og s11 (e6 zx og).2)), fun _ _ => a6 (fa uu71 rfl zz27 rfl rfl rfl (k' := 4)), fun _ _ => iB _ rfl rfl (jC aa27 zz27 rfl rfl rfl (v := (vQ y.r)) rfl), fun _ _ => fJ (eH cc22 rfl (cp (an (ak (aj x.p y.p) (aj x.p y.p)) x.r) y.r (k + 9) og s12 (e6 zy og).2)), fun _ _ => l8 (ψ := fun v => ∃ b, v = ptr b 0) (B := fun v => [.blk (bo v) (cQ oQ) 27]) [.emp] rfl (fun v _ => by simp only [cA, bn] <;> rfl) (fun v hv => by simpa [DF.one, bn] using hv) (jI (fP vv27 rfl)), (fun ξ hφ => by obtain ⟨b6, hb9⟩ := hφ 9 rfl; exact kX [.blk b6 (cQ oQ) 27] [.blk b6 (cQ (aj (an (ak (aj x.p y.p) (aj x.p y.p)) x.r) y.r)) 27] (congrArg (fun v => [Asn.blk (bo v) (cQ oQ) 27]) hb9) (congrArg (fun v => [Asn.blk (bo v) (cQ (aj (an (ak (aj x.p y.p) (aj x.p y.p)) x.r) y.r)) 27]) hb9) (nA zz27 (Eq.trans rfl (congrArg some hb9)) rfl rfl rfl rfl rfl rfl)), trivial⟩ ?_
   clear h ac wo; intro ξ ac wo hφ h
   replace h : St w0 65 [(2, (ptr b1 0)), (5, (ptr b3 0)), (6, (ptr b4 0)), (8, (.int .i64 (dT (aj x.p y.p) (aZ x) x.r))), (10, ξ 9)] [.blk b2 (cR y) 71, .blk b1 (cR x) 71, .blk b3 (cQ (aj x.p y.p)) 27, .blk b4 (cQ (aZ x)) 27, .blk b5 (cQ (aD (aZ y))) 27, .blk (bo (ξ 9)) (cQ (aj (an (ak (aj x.p y.p) (aj x.p y.p)) x.r) y.r)) 27] ac wo := h.sub ⟨rfl, rfl, rfl, rfl, rfl, trivial⟩
   revert h
   obtain ⟨b6, hb9⟩ : ∃ b, ξ 9 = ptr b 0 := hφ 9
   rw [hb9]; intro h
   clear hb9 hφ ξ
   refine gz h <| (W) ?_; clear h ac wo; intro ac wo h
   have s14 := am ((bR 2 (k + 20) og  og) w0)
   have s15 := am ((be (aj x.p y.p) (aZ x) (k + 15) og s1 (bQ s2 og)) w0)
   have s16 := am ((be (ah 2) (ak (aj x.p y.p) (aZ x)) (k + 13) og (bQ s14 og) s15) w0)
   have p18 := am ((iV (aj (an (ak (aj x.p y.p) (aj x.p y.p)) x.r) y.r) (ak (ah 2) (ak (aj x.p y.p) (aZ x))) x.r (k + 1) og s13 (bQ s16 og) (e6 zx og).2) w0)
   have hd : ao x y = ((dT (aj x.p y.p) (aZ x) x.r) * (dT (aj (an (ak (aj x.p y.p) (aj x.p y.p)) x.r) y.r) (ak (ah 2) (ak (aj x.p y.p) (aZ x))) x.r)) := pt
   refine gz h <| (dr0 (hob := (oK (bR 2 (k + 20) og  og)) <| (oK (be (aj x.p y.p) (aZ x) (k + 15) og s1 (bQ s2 og))) <| (oK (be (ah 2) (ak (aj x.p y.p) (aZ x)) (k + 13) og (bQ s14 og) s15)) <| (oK (iV (aj (an (ak (aj x.p y.p) (aj x.p y.p)) x.r) y.r) (ak (ah 2) (ak (aj x.p y.p) (aZ x))) x.r (k + 1) og s13 (bQ s16 og) (e6 zx og).2)) <| (oX (h := by exact fun _ => a6 (lM rfl rfl (r := ((dT (aj x.p y.p) (aZ x) x.r) * (dT (aj (an (ak (aj x.p y.p) (aj x.p y.p)) x.r) y.r) (ak (ah 2) (ak (aj x.p y.p) (aZ x))) x.r))) (by first | (rw [IntKind.wrap_i64]; omega) | exact iR og og)))) <| oE)) <| (W) ?_; clear h ac wo; intro ac wo h
   exact (rt h) (h.retP (by rw [hd] <;> rfl) (by rw [hd]; exact by first | omega | exact eJ og og))
def aN (n : Int) : GR :=
 (⟨(ah n), (⟨(⟨false, 0⟩ : GI), (⟨false, 0⟩ : GI)⟩ : GQ), false⟩ : GR)
theorem mR (n : Int) (k : Nat) (hk : k ≤ 40) (hn : -9223372036854775808 ≤ n ∧ n ≤ 9223372036854775807) (w0 : World) : Calls Tryz.prog 86 #[(.int .i64 n)] w0 (dh w0 (vR (aN n)) (SzR k (aN n))) := by
 refine enter (N := 6) (args := [(.int .i64 n)]) Tryz.func86 rfl rfl ?_; intro ac h
 have c1 := bR n k og  og
 have s1 := am (c1 w0)
 refine gz h <| (xa) fun b1 => (xk c1) <| (xo (hs := by exact bA uq exs rfl (v := (vR (⟨(ah n), oQ, false⟩ : GR))) rfl)) <| (W) ?_; clear h ac; intro ac wo h
 exact ret h rfl (.cell (v := (vR (⟨(ah n), oQ, false⟩ : GR))) rfl (i := 0) rfl aa71 zz71 rfl rfl rfl .nil) rfl (h.retP (by unfold aN; rfl) (by unfold aN; exact ⟨s1, ⟨(cw 0 (by decide) og), (cw 0 (by decide) og)⟩⟩))
def ap (r : GQ) : GR :=
 (⟨r, (⟨(⟨false, 0⟩ : GI), (⟨false, 0⟩ : GI)⟩ : GQ), false⟩ : GR)
theorem dF (r : GQ) (k : Nat) (hk : k ≤ 40) (zr : SzQ k r) (w0 : World) : Calls Tryz.prog 88 #[(vQ r)] w0 (dh w0 (vR (ap r)) (SzR k (ap r))) := by
 refine enter (N := 5) (args := [(vQ r)]) Tryz.func88 rfl rfl ?_; intro ac h
 refine gz h <| (xb) fun b1 => (xa) fun b2 => (xo (hs := by exact bA uq exs rfl (v := (vR (⟨r, oQ, false⟩ : GR))) rfl)) <| (W) ?_; clear h ac; intro ac wo h
 exact ret h rfl (.cell (v := (vR (⟨r, oQ, false⟩ : GR))) rfl (i := 0) rfl aa71 zz71 rfl rfl rfl .nil) rfl (h.retP (by unfold ap; rfl) (by unfold ap; exact ⟨zr, ⟨(cw 0 (by decide) og), (cw 0 (by decide) og)⟩⟩))
def aM (c0 : GQ) (c1 : GQ) : Qd :=
 (⟨c0, c1, (⟨(⟨false, 0⟩ : GI), (⟨false, 0⟩ : GI)⟩ : GQ)⟩ : Qd)
theorem cq (c0 : GQ) (c1 : GQ) (k : Nat) (hk : k ≤ 40) (zc0 : SzQ k c0) (zc1 : SzQ k c1) (w0 : World) : Calls Tryz.prog 107 #[(vQ c0), (vQ c1)] w0 (dh w0 (vD (aM c0 c1)) (SzD k (aM c0 c1))) := by
 refine enter (N := 8) (args := [(vQ c0), (vQ c1)]) Tryz.func107 rfl rfl ?_; intro ac h
 refine gz h <| (xb) fun b1 => (xb) fun b2 => (xa) fun b3 => (xo (hs := by exact bA ur exs rfl (v := (vD (⟨c0, c1, oQ⟩ : Qd))) rfl)) <| (W) ?_; clear h ac; intro ac wo h
 exact ret h rfl (.cell (v := (vD (⟨c0, c1, oQ⟩ : Qd))) rfl (i := 0) rfl aa53 zz53 rfl rfl rfl .nil) rfl (h.retP (by unfold aM; rfl) (by unfold aM; exact ⟨zc0, zc1, ⟨(cw 0 (by decide) og), (cw 0 (by decide) og)⟩⟩))
def aU (q : Qd) (t : GQ) : GQ :=
 (an q.c0 (ak t (an q.c1 (ak t q.c2))))
theorem gO (q : Qd) (t : GQ) (k : Nat) (hk : (k + 10) ≤ 40) (zq : SzD (k + 10) q) (zt : SzQ (k + 10) t) (w0 : World) : Calls Tryz.prog 101 #[(vD q), (vQ t)] w0 (dh w0 (vQ (aU q t)) (SzQ k (aU q t))) := by
 refine enter (N := 17) (args := [(vD q), (vQ t)]) Tryz.func101 rfl rfl ?_; intro ac h
 have s1 := am ((be t q.c2 (k + 8) og zt zq.2.2) w0)
 have s2 := am ((bt q.c1 (ak t q.c2) (k + 5) og (j8 zq og).2.1 s1) w0)
 have s3 := am ((be t (an q.c1 (ak t q.c2)) (k + 3) og (bQ zt og) s2) w0)
 have s4 := am ((bt q.c0 (ak t (an q.c1 (ak t q.c2))) k og (j8 zq og).1 s3) w0)
 refine gz h <| (xb) fun b1 => (xb) fun b2 => (xa) fun b3 => (dr1 (H := [⟨.blk b3 (cQ oQ) 27, [(12, .con (.blk b3 (cQ (an q.c0 (ak t (an q.c1 (ak t q.c2))))) 27))]⟩, ⟨_, []⟩, ⟨_, []⟩]) (hob := (oK (be t q.c2 (k + 8) og zt zq.2.2)) <| (oK (bt q.c1 (ak t q.c2) (k + 5) og (j8 zq og).2.1 s1)) <| (oK (be t (an q.c1 (ak t q.c2)) (k + 3) og (bQ zt og) s2)) <| (oK (bt q.c0 (ak t (an q.c1 (ak t q.c2))) k og (j8 zq og).1 s3)) <| oE)) <| (W) ?_; clear h ac; intro ac wo h
 exact ret h rfl (.cell (v := (vQ (an q.c0 (ak t (an q.c1 (ak t q.c2)))))) rfl (i := 0) rfl aa27 zz27 rfl rfl rfl .nil) rfl (h.retP (by unfold aU; rfl) (by unfold aU; exact s4))
def aR (q : Qd) (t : GQ) : GQ :=
 (an q.c1 (ak (an q.c2 q.c2) t))
theorem gu (q : Qd) (t : GQ) (k : Nat) (hk : (k + 8) ≤ 40) (zq : SzD (k + 8) q) (zt : SzQ (k + 8) t) (w0 : World) : Calls Tryz.prog 213 #[(vD q), (vQ t)] w0 (dh w0 (vQ (aR q t)) (SzQ k (aR q t))) := by
 refine enter (N := 15) (args := [(vD q), (vQ t)]) Tryz.func213 rfl rfl ?_; intro ac h
 have s1 := am ((bt q.c2 q.c2 (k + 5) og zq.2.2 zq.2.2) w0)
 have s2 := am ((be (an q.c2 q.c2) t (k + 3) og s1 (bQ zt og)) w0)
 have s3 := am ((bt q.c1 (ak (an q.c2 q.c2) t) k og (j8 zq og).2.1 s2) w0)
 refine gz h <| (xb) fun b1 => (xb) fun b2 => (xa) fun b3 => (dr1 (H := [⟨.blk b3 (cQ oQ) 27, [(10, .con (.blk b3 (cQ (an q.c1 (ak (an q.c2 q.c2) t))) 27))]⟩, ⟨_, []⟩, ⟨_, []⟩]) (hob := (oK (bt q.c2 q.c2 (k + 5) og zq.2.2 zq.2.2)) <| (oK (be (an q.c2 q.c2) t (k + 3) og s1 (bQ zt og))) <| (oK (bt q.c1 (ak (an q.c2 q.c2) t) k og (j8 zq og).2.1 s2)) <| oE)) <| (W) ?_; clear h ac; intro ac wo h
 exact ret h rfl (.cell (v := (vQ (an q.c1 (ak (an q.c2 q.c2) t)))) rfl (i := 0) rfl aa27 zz27 rfl rfl rfl .nil) rfl (h.retP (by unfold aR; rfl) (by unfold aR; exact s3))
def du (p : Qd) (q : Qd) : Qd :=
 (⟨(aj p.c0 q.c0), (aj p.c1 q.c1), (aj p.c2 q.c2)⟩ : Qd)
theorem jD (p : Qd) (q : Qd) (k : Nat) (hk : (k + 3) ≤ 40) (zp : SzD (k + 3) p) (zq : SzD (k + 3) q) (w0 : World) : Calls Tryz.prog 131 #[(vD p), (vD q)] w0 (dh w0 (vD (du p q)) (SzD k (du p q))) := by
 refine enter (N := 21) (args := [(vD p), (vD q)]) Tryz.func131 rfl rfl ?_; intro ac h
 have s1 := am ((cp p.c0 q.c0 k og zp.1 zq.1) w0)
 have s2 := am ((cp p.c1 q.c1 k og zp.2.1 zq.2.1) w0)
 have s3 := am ((cp p.c2 q.c2 k og zp.2.2 zq.2.2) w0)
 refine gz h <| (xb) fun b1 => (xb) fun b2 => (xa) fun b3 => (dr1 (H := [⟨.blk b3 (cD oD) 53, [(16, .con (.blk b3 (cD (⟨(aj p.c0 q.c0), (aj p.c1 q.c1), (aj p.c2 q.c2)⟩ : Qd)) 53))]⟩, ⟨_, []⟩, ⟨_, []⟩]) (hob := (oK (cp p.c0 q.c0 k og zp.1 zq.1)) <| (oK (cp p.c1 q.c1 k og zp.2.1 zq.2.1)) <| (oK (cp p.c2 q.c2 k og zp.2.2 zq.2.2)) <| (oX (h := by exact fun _ => a6 (bA ur exs rfl (v := (vD (⟨(aj p.c0 q.c0), (aj p.c1 q.c1), (aj p.c2 q.c2)⟩ : Qd))) rfl))) <| oE)) <| (W) ?_; clear h ac; intro ac wo h
 exact ret h rfl (.cell (v := (vD (⟨(aj p.c0 q.c0), (aj p.c1 q.c1), (aj p.c2 q.c2)⟩ : Qd))) rfl (i := 0) rfl aa53 zz53 rfl rfl rfl .nil) rfl (h.retP (by unfold du; rfl) (by unfold du; exact ⟨s1, s2, s3⟩))
def dq (x : GR) : GQ × Bool :=
 bif (!(decide (x.r = (⟨(⟨false, 0⟩ : GI), (⟨false, 0⟩ : GI)⟩ : GQ)))) then
  ((⟨(⟨false, 0⟩ : GI), (⟨false, 0⟩ : GI)⟩ : GQ), false)
 else
  (x.p, true)
theorem mo (x : GR) (k : Nat) (hk : k ≤ 40) (zx : SzR k x) (w0 : World) : Calls Tryz.prog 212 #[(vR x)] w0 (dh w0 (.tuple #[(vQ ((dq x).1)), (.bool ((dq x).2))]) (SzQ k ((dq x).1))) := by
 refine enter (N := 11) (args := [(vR x)]) Tryz.func212 rfl rfl ?_; intro ac h
 refine gz h <| (xb) fun b1 => (xa) fun b2 => (xo (hs := by exact bA no exs rfl (v := (vQ oQ)) rfl)) <| (ai) ?_ ?_ <;> clear h ac <;> intro ac wo h hc1
 ·
  have hd : dq x = (oQ, false) := pt
  refine gz h <| (xo (hs := by exact bA no exs rfl (v := (vQ oQ)) rfl)) <| (W) ?_; clear h ac wo; intro ac wo h
  exact ret h rfl (.cell (v := (vQ oQ)) rfl (i := 0) rfl aa27 zz27 rfl rfl rfl (.tmp rfl .nil)) rfl (h.retP (by rw [hd] <;> rfl) (by rw [hd]; exact ⟨(cw 0 (by decide) og), (cw 0 (by decide) og)⟩))
 ·
  have hd : dq x = (x.p, true) := pt
  refine gz h <| (W) ?_; clear h ac wo; intro ac wo h
  exact ret h rfl (.cell (v := (vQ x.p)) rfl (i := 0) rfl aa27 zz27 rfl rfl rfl (.tmp rfl .nil)) rfl (h.retP (by rw [hd] <;> rfl) (by rw [hd]; exact zx.1))
def aV (q : Qd) (t : GR) : Qd :=
 bif (dq t).2 then
  (ay (aU q ((dq t).1)))
 else
  (aM (an q.c0 (ak q.c2 (aj t.r (ak t.p t.p)))) (aR q t.p))
theorem eG (q : Qd) (t : GR) (k : Nat) (hk : (k + 10) ≤ 40) (zq : SzD (k + 10) q) (zt : SzR (k + 10) t) (w0 : World) : Calls Tryz.prog 130 #[(vD q), (vR t)] w0 (dh w0 (vD (aV q t)) (SzD k (aV q t))) := by
 refine enter (N := 38) (args := [(vD q), (vR t)]) Tryz.func130 rfl rfl ?_; intro ac h
 have c1 := mo t (k + 10) og zt
 have s1 := am (c1 w0)
 refine gz h <| (xb) fun b1 => (xb) fun b2 => (xa) fun b3 => (xk c1) <| (xa) fun b4 => (ai) ?_ ?_ <;> clear h ac <;> intro ac wo h hc1
 ·
  have c2 := gO q ((dq t).1) k og zq s1
  have s2 := am (c2 w0)
  have c3 := jS (aU q ((dq t).1)) k og s2
  have s3 := am (c3 w0)
  have hd : aV q t = (ay (aU q ((dq t).1))) := pt
  refine gz h <| (xk c2) <| (xk c3) <| (W) ?_; clear h ac wo; intro ac wo h
  exact ret h rfl (.cell (v := (vD (ay (aU q ((dq t).1))))) rfl (i := 1) rfl aa53 zz53 rfl rfl rfl .nil) rfl (h.retP (by rw [hd] <;> rfl) (by rw [hd]; exact s3))
 ·
  refine gz h <| (W) ?_; clear h ac wo; intro ac wo h
  have s4 := am ((be t.p t.p (k + 8) og zt.1 zt.1) w0)
  have s5 := am ((cp t.r (ak t.p t.p) (k + 5) og (e6 zt og).2 s4) w0)
  replace h := h.emps 1
  refine ef mixed [dv _, dw _ [2], dv _, dw _ [2], dv _, dw _ [2], dv _, dv _, ⟨.nd (.one 8 fun v => ∃ b, v = ptr b 0), [4]⟩, ⟨.det undef, [4]⟩] [⟨_, []⟩, ⟨_, []⟩, ⟨_, []⟩, ⟨_, []⟩, ⟨.emp, [(8, .one 8 fun v => .blk (bo v) (cQ oQ) 27), (9, .one 8 fun v => .blk (bo v) (cQ (aj t.r (ak t.p t.p))) 27)]⟩] h rfl (by kernel_rfl) ⟨fun _ _ => a6 (fa uu71 rfl zz27 rfl rfl rfl (k' := 4)), fun _ _ => iB _ rfl rfl (jC aa27 zz27 rfl rfl rfl (v := (vQ t.r)) rfl), fun _ _ => a6 (fa uu71 rfl zz27 rfl rfl rfl (k' := 0)), fun _ _ => iB _ rfl rfl (jC aa27 zz27 rfl rfl rfl (v := (vQ t.p)) rfl), fun _ _ => a6 (fa uu71 rfl zz27 rfl rfl rfl (k' := 0)), fun _ _ => iB _ rfl rfl (jC aa27 zz27 rfl rfl rfl (v := (vQ t.p)) rfl), fun _ _ => fJ (eH Tryz.call21 rfl (be t.p t.p (k + 8) og zt.1 zt.1)), fun _ _ => fJ (eH cc22 rfl (cp t.r (ak t.p t.p) (k + 5) og (e6 zt og).2 s4)), fun _ _ => l8 (ψ := fun v => ∃ b, v = ptr b 0) (B := fun v => [.blk (bo v) (cQ oQ) 27]) [.emp] rfl (fun v _ => by simp only [cA, bn] <;> rfl) (fun v hv => by simpa [DF.one, bn] using hv) (jI (fP vv27 rfl)), (fun ξ hφ => by obtain ⟨b5, hb8⟩ := hφ 8 rfl; exact kX [.blk b5 (cQ oQ) 27] [.blk b5 (cQ (aj t.r (ak t.p t.p))) 27] (congrArg (fun v => [Asn.blk (bo v) (cQ oQ) 27]) hb8) (congrArg (fun v => [Asn.blk (bo v) (cQ (aj t.r (ak t.p t.p))) 27]) hb8) (nA zz27 (Eq.trans rfl (congrArg some hb8)) rfl rfl rfl rfl rfl rfl)), trivial⟩ ?_
  clear h ac wo; intro ξ ac wo hφ h
  replace h : St w0 38 [(2, (ptr b1 0)), (3, (ptr b2 0)), (4, (ptr b3 0)), (7, ξ 8)] [.blk b4 (cQ ((dq t).1)) 27, .blk b3 (cD oD) 53, .blk b2 (cR t) 71, .blk b1 (cD q) 53, .blk (bo (ξ 8)) (cQ (aj t.r (ak t.p t.p))) 27] ac wo := h.sub ⟨rfl, rfl, rfl, rfl, trivial⟩
  revert h
  obtain ⟨b5, hb8⟩ : ∃ b, ξ 8 = ptr b 0 := hφ 8
  rw [hb8]; intro h
  clear hb8 hφ ξ
  refine gz h <| (W) ?_; clear h ac wo; intro ac wo h
  have s6 := am ((be q.c2 (aj t.r (ak t.p t.p)) (k + 3) og (j8 zq og).2.2 s5) w0)
  have s7 := am ((bt q.c0 (ak q.c2 (aj t.r (ak t.p t.p))) k og (j8 zq og).1 s6) w0)
  have s8 := am ((gu q t.p (k + 2) og zq zt.1) w0)
  have s9 := am ((cq (an q.c0 (ak q.c2 (aj t.r (ak t.p t.p)))) (aR q t.p) k og s7 (bQ s8 og)) w0)
  have hd : aV q t = (aM (an q.c0 (ak q.c2 (aj t.r (ak t.p t.p)))) (aR q t.p)) := pt
  refine gz h <| (dr1 (H := [⟨_, []⟩, ⟨.blk b3 (cD oD) 53, [(12, .con (.blk b3 (cD (aM (an q.c0 (ak q.c2 (aj t.r (ak t.p t.p)))) (aR q t.p))) 53))]⟩, ⟨_, []⟩, ⟨_, []⟩, ⟨_, []⟩]) (hob := (oK (be q.c2 (aj t.r (ak t.p t.p)) (k + 3) og (j8 zq og).2.2 s5)) <| (oK (bt q.c0 (ak q.c2 (aj t.r (ak t.p t.p))) k og (j8 zq og).1 s6)) <| (oK (gu q t.p (k + 2) og zq zt.1)) <| (oK (cq (an q.c0 (ak q.c2 (aj t.r (ak t.p t.p)))) (aR q t.p) k og s7 (bQ s8 og))) <| oE)) <| (W) ?_; clear h ac wo; intro ac wo h
  exact ret h rfl (.cell (v := (vD (aM (an q.c0 (ak q.c2 (aj t.r (ak t.p t.p)))) (aR q t.p)))) rfl (i := 1) rfl aa53 zz53 rfl rfl rfl .nil) rfl (h.retP (by rw [hd] <;> rfl) (by rw [hd]; exact s9))
def fC (p : Qd) (q : Qd) (t : GR) : Bool :=
 (decide ((aV (du p q) t) = (⟨(⟨(⟨false, 0⟩ : GI), (⟨false, 0⟩ : GI)⟩ : GQ), (⟨(⟨false, 0⟩ : GI), (⟨false, 0⟩ : GI)⟩ : GQ), (⟨(⟨false, 0⟩ : GI), (⟨false, 0⟩ : GI)⟩ : GQ)⟩ : Qd)))
theorem jc (p : Qd) (q : Qd) (t : GR) (k : Nat) (hk : (k + 14) ≤ 40) (zp : SzD (k + 14) p) (zq : SzD (k + 14) q) (zt : SzR (k + 14) t) (w0 : World) : Calls Tryz.prog 39 #[(vD p), (vD q), (vR t)] w0 (dh w0 (.bool (fC p q t)) (True)) := by
 refine enter (N := 14) (args := [(vD p), (vD q), (vR t)]) Tryz.func39 rfl rfl ?_; intro ac h
 have s1 := am ((jD p q (k + 11) og zp zq) w0)
 have s2 := am ((eG (du p q) t (k + 1) og s1 (e6 zt og)) w0)
 refine gz h <| (xb) fun b1 => (xb) fun b2 => (xb) fun b3 => (dr0 (hob := (oK (jD p q (k + 11) og zp zq)) <| (oK (eG (du p q) t (k + 1) og s1 (e6 zt og))) <| (oX (h := by exact fun _ => a6 (bA ur exs rfl (v := (vD oD)) rfl))) <| oE)) <| (W) ?_; clear h ac; intro ac wo h
 exact (rt h) (h.retP (by unfold fC; rfl) trivial)
def dA (a : Iv) (b : Iv) : Bool :=
 ((decide ((ao a.hi b.lo) < 0)) || (((ao a.hi b.lo) == 0) && (a.openHi || b.openLo)))
theorem mY (a : Iv) (b : Iv) (k : Nat) (hk : (k + 20) ≤ 40) (za : SzV (k + 20) a) (zb : SzV (k + 20) b) (w0 : World) : Calls Tryz.prog 118 #[(vV a), (vV b)] w0 (dh w0 (.bool (dA a b)) (True)) := by
 refine enter (N := 25) (args := [(vV a), (vV b)]) Tryz.func118 rfl rfl ?_; intro ac h
 have p2 := am ((dl a.hi b.lo k og za.2 zb.1) w0)
 refine gz h <| (xb) fun b1 => (xb) fun b2 => (xk (dl a.hi b.lo k og za.2 zb.1)) <| (W) ?_; clear h ac; intro ac wo h
 exact (rt h) (h.retP (by unfold dA; rfl) trivial)
def aH (i : Iv) : Bool :=
 (decide (i.lo = i.hi))
theorem d7 (i : Iv) (w0 : World) : Calls Tryz.prog 150 #[(vV i)] w0 (dh w0 (.bool (aH i)) (True)) := by
 refine enter (N := 8) (args := [(vV i)]) Tryz.func150 rfl rfl ?_; intro ac h
 refine gz h <| (xb) fun b1 => (W) ?_; clear h ac; intro ac wo h
 exact (rt h) (h.retP (by unfold aH; rfl) trivial)
end Go.Sx
