/- A part of the proof of movingpointRestricts. -/
import Derived.Test.YtbenbmdkhcfcfaaGreatDoorProg
import Derived.Test.YtbenbmdkhcfcfaaGreatDoorL5
set_option linter.unusedVariables false
set_option linter.unusedSimpArgs false
open Go.Proofs.Tryz renaming isAgg27 → aa27, sizeOf27 → zz27, runUnderlying71 → uu71, call22 → cc22, isAgg71 → aa71, sizeOf71 → zz71, zeroValue27 → vv27, isAgg53 → aa53, sizeOf53 → zz53, isAgg86 → aa86, sizeOf86 → zz86
namespace Go.Sx
open Go Go.RowKit Go.Proofs
set_option maxRecDepth 100000
set_option maxHeartbeats 40000000
attribute [local irreducible] Code.wp wpList Rd Step ObS Ent
def aY (x : GR) : GQ :=
 bif x.neg then
  (ah (-1))
 else
  (ah 1)
theorem gU (x : GR) (k : Nat) (hk : k ≤ 40) (zx : SzR k x) (w0 : World) : Calls Tryz.prog 210 #[(vR x)] w0 (dA w0 (vQ (aY x)) (SzQ k (aY x))) := by
 refine enter (N := 7) (args := [(vR x)]) Tryz.func210 rfl rfl ?_; intro ac h
 refine gz h <| (xb) fun b1 => (xa) fun b2 => (ai) ?_ ?_ <;> clear h ac <;> intro ac wo h hc1
 ·
  have c1 := bN (-1) k og  og
  have s1 := an (c1 w0)
  have hd : aY x = (ah (-1)) := pt
  refine gz h <| (xk c1) <| (W) ?_; clear h ac wo; intro ac wo h
  exact ret h rfl (.cell (v := (vQ (ah (-1)))) rfl (i := 0) rfl aa27 zz27 rfl rfl rfl .nil) rfl (h.retP (by rw [hd] <;> rfl) (by rw [hd]; exact s1))
 ·
  have c2 := bN 1 k og  og
  have s2 := an (c2 w0)
  have hd : aY x = (ah 1) := pt
  refine gz h <| (xk c2) <| (W) ?_; clear h ac wo; intro ac wo h
  exact ret h rfl (.cell (v := (vQ (ah 1))) rfl (i := 0) rfl aa27 zz27 rfl rfl rfl .nil) rfl (h.retP (by rw [hd] <;> rfl) (by rw [hd]; exact s2))
def dQ (a : GQ) (b : GQ) (r : GQ) : Int :=
 bif ((((aw b) * (aw r)) == 0) || ((aw a) == ((aw b) * (aw r)))) then
  (aw a)
 else
  bif ((aw a) == 0) then
   ((aw b) * (aw r))
  else
   ((aw a) * (bn (ak a a) (ak (ak b b) r)))
theorem iL (a : GQ) (b : GQ) (r : GQ) (k : Nat) (hk : (k + 8) ≤ 40) (za : SzQ (k + 8) a) (zb : SzQ (k + 8) b) (zr : SzQ (k + 8) r) (w0 : World) : Calls Tryz.prog 211 #[(vQ a), (vQ b), (vQ r)] w0 (dA w0 (.int .i64 (dQ a b r)) ((-1 ≤ (dQ a b r) ∧ (dQ a b r) ≤ 1))) := by
 refine enter (N := 40) (args := [(vQ a), (vQ b), (vQ r)]) Tryz.func211 rfl rfl ?_; intro ac h
 have p2 := an ((cp a) w0)
 have p4 := an ((cp b) w0)
 have p6 := an ((cp r) w0)
 refine gz h <| (xb) fun b1 => (xb) fun b2 => (xb) fun b3 => (dr0 (hob := (oK (cp a)) <| (oK (cp b)) <| (oK (cp r)) <| (oX (h := by exact fun _ => bm (lx rfl rfl (r := ((aw b) * (aw r))) (by first | (rw [IntKind.wrap_i64]; omega) | exact iI og og)))) <| oE)) <| (ai) ?_ ?_ <;> clear h ac <;> intro ac wo h hc1
 ·
  have hd : dQ a b r = (aw a) := pt
  refine gz h <| (W) ?_; clear h ac wo; intro ac wo h
  exact (rt h) (h.retP (by rw [hd] <;> rfl) (by rw [hd]; exact by first | omega | exact eK og og))
 ·
  refine gz h <| (ai) ?_ ?_ <;> clear h ac wo <;> intro ac wo h hc2
  ·
   have hd2 := eq_of_beq hc2
   have hd : dQ a b r = ((aw b) * (aw r)) := pt
   refine gz h <| (W) ?_; clear h ac wo; intro ac wo h
   exact (rt h) (h.retP (by rw [hd] <;> rfl) (by rw [hd]; exact by first | omega | exact eK og og))
  ·
   have hd2 := ne_of_beq_false hc2
   refine gz h <| (W) ?_; clear h ac wo; intro ac wo h
   have s7 := an ((bh a a (k + 6) og za za) w0)
   have s8 := an ((bh b b (k + 6) og zb zb) w0)
   have s9 := an ((bh (ak b b) r (k + 4) og s8 (cw zr og)) w0)
   have p11 := an ((fY (ak a a) (ak (ak b b) r) (k + 3) og (cw s7 og) s9) w0)
   have hd : dQ a b r = ((aw a) * (bn (ak a a) (ak (ak b b) r))) := pt
   refine gz h <| (dr0 (hob := (oK (bh a a (k + 6) og za za)) <| (oK (bh b b (k + 6) og zb zb)) <| (oK (bh (ak b b) r (k + 4) og s8 (cw zr og))) <| (oK (fY (ak a a) (ak (ak b b) r) (k + 3) og (cw s7 og) s9)) <| (oX (h := by exact fun _ => bm (lx rfl rfl (r := ((aw a) * (bn (ak a a) (ak (ak b b) r)))) (by first | (rw [IntKind.wrap_i64]; omega) | exact iI og og)))) <| oE)) <| (W) ?_; clear h ac wo; intro ac wo h
   exact (rt h) (h.retP (by rw [hd] <;> rfl) (by rw [hd]; exact by first | omega | exact eK og og))
def am (x : GR) (y : GR) : Int :=
 bif ((((aw (aU (aY y))) * (aw y.r)) == 0) || ((dQ (aj x.p y.p) (aY x) x.r) == ((aw (aU (aY y))) * (aw y.r)))) then
  (dQ (aj x.p y.p) (aY x) x.r)
 else
  bif ((dQ (aj x.p y.p) (aY x) x.r) == 0) then
   ((aw (aU (aY y))) * (aw y.r))
  else
   ((dQ (aj x.p y.p) (aY x) x.r) * (dQ (aj (aC (ak (aj x.p y.p) (aj x.p y.p)) x.r) y.r) (ak (ah 2) (ak (aj x.p y.p) (aY x))) x.r))
theorem aT (x : GR) (y : GR) (k : Nat) (hk : (k + 20) ≤ 40) (zx : SzR (k + 20) x) (zy : SzR (k + 20) y) (w0 : World) : Calls Tryz.prog 127 #[(vR x), (vR y)] w0 (dA w0 (.int .i64 (am x y)) ((-1 ≤ (am x y) ∧ (am x y) ≤ 1))) := by
 refine enter (N := 65) (args := [(vR x), (vR y)]) Tryz.func127 rfl rfl ?_; intro ac h
 have s1 := an ((cr x.p y.p (k + 17) og zx.1 zy.1) w0)
 have s2 := an ((gU x (k + 20) og zx) w0)
 have s3 := an ((gU y (k + 20) og zy) w0)
 have s4 := an ((eG (aY y) (k + 20) og s3) w0)
 refine gz h <| (xb) fun b1 => (xb) fun b2 => (W) ?_; clear h ac; intro ac wo h
 replace h := h.emps 3
 refine fh mixed [dv _, dw _ [1], dv _, dw _ [0], dv _, dw _ [1], dv _, dw _ [0], dv _, dv _, ⟨.nd (.one 10 fun v => ∃ b, v = ptr b 0), [2]⟩, ⟨.nd (.one 11 fun v => ∃ b, v = ptr b 0), [3]⟩, ⟨.nd (.one 12 fun v => ∃ b, v = ptr b 0), [4]⟩, ⟨.det undef, [2]⟩, ⟨.det undef, [3]⟩, ⟨.det undef, [4]⟩] [⟨_, []⟩, ⟨_, []⟩, ⟨.emp, [(10, .one 10 fun v => .blk (bD v) (cQ oQ) 27), (13, .one 10 fun v => .blk (bD v) (cQ (aj x.p y.p)) 27)]⟩, ⟨.emp, [(11, .one 11 fun v => .blk (bD v) (cQ oQ) 27), (14, .one 11 fun v => .blk (bD v) (cQ (aY x)) 27)]⟩, ⟨.emp, [(12, .one 12 fun v => .blk (bD v) (cQ oQ) 27), (15, .one 12 fun v => .blk (bD v) (cQ (aU (aY y))) 27)]⟩] h rfl (by kernel_rfl) ⟨fun _ _ => bm (fa uu71 rfl zz27 rfl rfl rfl (k' := 0)), fun _ _ => it _ rfl rfl (jt aa27 zz27 rfl rfl rfl (v := (vQ x.p)) rfl), fun _ _ => bm (fa uu71 rfl zz27 rfl rfl rfl (k' := 0)), fun _ _ => it _ rfl rfl (jt aa27 zz27 rfl rfl rfl (v := (vQ y.p)) rfl), fun _ _ => gm (fQ cc22 rfl (cr x.p y.p (k + 17) og zx.1 zy.1)), fun _ _ => it _ rfl rfl (jt aa71 zz71 rfl rfl rfl (v := (vR x)) rfl), fun _ _ => gm (fQ Tryz.call210 rfl (gU x (k + 20) og zx)), fun _ _ => it _ rfl rfl (jt aa71 zz71 rfl rfl rfl (v := (vR y)) rfl), fun _ _ => gm (fQ Tryz.call210 rfl (gU y (k + 20) og zy)), fun _ _ => gm (fQ Tryz.call63 rfl (eG (aY y) (k + 20) og s3)), fun _ _ => nN (ψ := fun v => ∃ b, v = ptr b 0) (B := fun v => [.blk (bD v) (cQ oQ) 27]) [.emp] rfl (fun v _ => by simp only [de, bC] <;> rfl) (fun v hv => by simpa [DF.one, bC] using hv) (jA (fK vv27 rfl)), fun _ _ => nN (ψ := fun v => ∃ b, v = ptr b 0) (B := fun v => [.blk (bD v) (cQ oQ) 27]) [.emp] rfl (fun v _ => by simp only [de, bC] <;> rfl) (fun v hv => by simpa [DF.one, bC] using hv) (jA (fK vv27 rfl)), fun _ _ => nN (ψ := fun v => ∃ b, v = ptr b 0) (B := fun v => [.blk (bD v) (cQ oQ) 27]) [.emp] rfl (fun v _ => by simp only [de, bC] <;> rfl) (fun v hv => by simpa [DF.one, bC] using hv) (jA (fK vv27 rfl)), (fun ξ hφ => by obtain ⟨b3, hb10⟩ := hφ 10 rfl; exact lC [.blk b3 (cQ oQ) 27] [.blk b3 (cQ (aj x.p y.p)) 27] (congrArg (fun v => [Asn.blk (bD v) (cQ oQ) 27]) hb10) (congrArg (fun v => [Asn.blk (bD v) (cQ (aj x.p y.p)) 27]) hb10) (nj zz27 (Eq.trans rfl (congrArg some hb10)) rfl rfl rfl rfl rfl rfl)), (fun ξ hφ => by obtain ⟨b4, hb11⟩ := hφ 11 rfl; exact lC [.blk b4 (cQ oQ) 27] [.blk b4 (cQ (aY x)) 27] (congrArg (fun v => [Asn.blk (bD v) (cQ oQ) 27]) hb11) (congrArg (fun v => [Asn.blk (bD v) (cQ (aY x)) 27]) hb11) (nj zz27 (Eq.trans rfl (congrArg some hb11)) rfl rfl rfl rfl rfl rfl)), (fun ξ hφ => by obtain ⟨b5, hb12⟩ := hφ 12 rfl; exact lC [.blk b5 (cQ oQ) 27] [.blk b5 (cQ (aU (aY y))) 27] (congrArg (fun v => [Asn.blk (bD v) (cQ oQ) 27]) hb12) (congrArg (fun v => [Asn.blk (bD v) (cQ (aU (aY y))) 27]) hb12) (nj zz27 (Eq.trans rfl (congrArg some hb12)) rfl rfl rfl rfl rfl rfl)), trivial⟩ ?_
 clear h ac wo; intro ξ ac wo hφ h
 replace h : St w0 65 [(2, (ptr b1 0)), (3, (ptr b2 0)), (5, ξ 10), (6, ξ 11), (7, ξ 12)] [.blk b2 (cR y) 71, .blk b1 (cR x) 71, .blk (bD (ξ 10)) (cQ (aj x.p y.p)) 27, .blk (bD (ξ 11)) (cQ (aY x)) 27, .blk (bD (ξ 12)) (cQ (aU (aY y))) 27] ac wo := h.sub ⟨rfl, rfl, rfl, rfl, rfl, trivial⟩
 revert h
 obtain ⟨b3, hb10⟩ : ∃ b, ξ 10 = ptr b 0 := hφ 10
 obtain ⟨b4, hb11⟩ : ∃ b, ξ 11 = ptr b 0 := hφ 11
 obtain ⟨b5, hb12⟩ : ∃ b, ξ 12 = ptr b 0 := hφ 12
 rw [hb10, hb11, hb12]; intro h
 clear hb10 hb11 hb12 hφ ξ
 refine gz h <| (W) ?_; clear h ac wo; intro ac wo h
 have p6 := an ((iL (aj x.p y.p) (aY x) x.r (k + 9) og s1 (cw s2 og) (e6 zx og).2) w0)
 have p8 := an ((cp (aU (aY y))) w0)
 have p10 := an ((cp y.r) w0)
 refine gz h <| (dr0 (hob := (oK (iL (aj x.p y.p) (aY x) x.r (k + 9) og s1 (cw s2 og) (e6 zx og).2)) <| (oK (cp (aU (aY y)))) <| (oK (cp y.r)) <| (oX (h := by exact fun _ => bm (lx rfl rfl (r := ((aw (aU (aY y))) * (aw y.r))) (by first | (rw [IntKind.wrap_i64]; omega) | exact iI og og)))) <| oE)) <| (ai) ?_ ?_ <;> clear h ac wo <;> intro ac wo h hc1
 ·
  have hd : am x y = (dQ (aj x.p y.p) (aY x) x.r) := pt
  refine gz h <| (W) ?_; clear h ac wo; intro ac wo h
  exact (rt h) (h.retP (by rw [hd] <;> rfl) (by rw [hd]; exact by first | omega | exact eK og og))
 ·
  refine gz h <| (ai) ?_ ?_ <;> clear h ac wo <;> intro ac wo h hc2
  ·
   have hd2 := eq_of_beq hc2
   have hd : am x y = ((aw (aU (aY y))) * (aw y.r)) := pt
   refine gz h <| (W) ?_; clear h ac wo; intro ac wo h
   exact (rt h) (h.retP (by rw [hd] <;> rfl) (by rw [hd]; exact by first | omega | exact eK og og))
  ·
   have hd2 := ne_of_beq_false hc2
   refine gz h <| (W) ?_; clear h ac wo; intro ac wo h
   have s11 := an ((bh (aj x.p y.p) (aj x.p y.p) (k + 15) og s1 s1) w0)
   have s12 := an ((bW (ak (aj x.p y.p) (aj x.p y.p)) x.r (k + 12) og s11 (e6 zx og).2) w0)
   have s13 := an ((cr (aC (ak (aj x.p y.p) (aj x.p y.p)) x.r) y.r (k + 9) og s12 (e6 zy og).2) w0)
   replace h := h.emps 1
   refine fh mixed [dw _ [2], dw _ [2], dv _, dv _, dw _ [1], dv _, dv _, dw _ [0], dv _, ⟨.nd (.one 9 fun v => ∃ b, v = ptr b 0), [5]⟩, ⟨.det undef, [5]⟩] [⟨_, []⟩, ⟨_, []⟩, ⟨_, []⟩, ⟨_, []⟩, ⟨_, []⟩, ⟨.emp, [(9, .one 9 fun v => .blk (bD v) (cQ oQ) 27), (10, .one 9 fun v => .blk (bD v) (cQ (aj (aC (ak (aj x.p y.p) (aj x.p y.p)) x.r) y.r)) 27)]⟩] h rfl (by kernel_rfl) ⟨fun _ _ => it _ rfl rfl (jt aa27 zz27 rfl rfl rfl (v := (vQ (aj x.p y.p))) rfl), fun _ _ => it _ rfl rfl (jt aa27 zz27 rfl rfl rfl (v := (vQ (aj x.p y.p))) rfl), fun _ _ => gm (fQ Tryz.call21 rfl (bh (aj x.p y.p) (aj x.p y.p) (k + 15) og s1 s1)), fun _ _ => bm (fa uu71 rfl zz27 rfl rfl rfl (k' := 4)), fun _ _ => it _ rfl rfl (jt aa27 zz27 rfl rfl rfl (v := (vQ x.r)) rfl), fun _ _ => gm (fQ Tryz.call20 rfl (bW (ak (aj x.p y.p) (aj x.p y.p)) x.r (k + 12) og s11 (e6 zx og).2)), fun _ _ => bm (fa uu71 rfl zz27 rfl rfl rfl (k' := 4)), fun _ _ => it _ rfl rfl (jt aa27 zz27 rfl rfl rfl (v := (vQ y.r)) rfl), fun _ _ => gm (fQ cc22 rfl (cr (aC (ak (aj x.p y.p) (aj x.p y.p)) x.r) y.r (k + 9) og s12 (e6 zy og).2)), fun _ _ => nN (ψ := fun v => ∃ b, v = ptr b 0) (B := fun v => [.blk (bD v) (cQ oQ) 27]) [.emp] rfl (fun v _ => by simp only [de, bC] <;> rfl) (fun v hv => by simpa [DF.one, bC] using hv) (jA (fK vv27 rfl)), (fun ξ hφ => by obtain ⟨b6, hb9⟩ := hφ 9 rfl; exact lC [.blk b6 (cQ oQ) 27] [.blk b6 (cQ (aj (aC (ak (aj x.p y.p) (aj x.p y.p)) x.r) y.r)) 27] (congrArg (fun v => [Asn.blk (bD v) (cQ oQ) 27]) hb9) (congrArg (fun v => [Asn.blk (bD v) (cQ (aj (aC (ak (aj x.p y.p) (aj x.p y.p)) x.r) y.r)) 27]) hb9) (nj zz27 (Eq.trans rfl (congrArg some hb9)) rfl rfl rfl rfl rfl rfl)), trivial⟩ ?_
   clear h ac wo; intro ξ ac wo hφ h
   replace h : St w0 65 [(2, (ptr b1 0)), (5, (ptr b3 0)), (6, (ptr b4 0)), (8, (.int .i64 (dQ (aj x.p y.p) (aY x) x.r))), (10, ξ 9)] [.blk b2 (cR y) 71, .blk b1 (cR x) 71, .blk b3 (cQ (aj x.p y.p)) 27, .blk b4 (cQ (aY x)) 27, .blk b5 (cQ (aU (aY y))) 27, .blk (bD (ξ 9)) (cQ (aj (aC (ak (aj x.p y.p) (aj x.p y.p)) x.r) y.r)) 27] ac wo := h.sub ⟨rfl, rfl, rfl, rfl, rfl, trivial⟩
   revert h
   obtain ⟨b6, hb9⟩ : ∃ b, ξ 9 = ptr b 0 := hφ 9
   rw [hb9]; intro h
   clear hb9 hφ ξ
   refine gz h <| (W) ?_; clear h ac wo; intro ac wo h
   have s14 := an ((bN 2 (k + 20) og  og) w0)
   have s15 := an ((bh (aj x.p y.p) (aY x) (k + 15) og s1 (cw s2 og)) w0)
   have s16 := an ((bh (ah 2) (ak (aj x.p y.p) (aY x)) (k + 13) og (cw s14 og) s15) w0)
   have p18 := an ((iL (aj (aC (ak (aj x.p y.p) (aj x.p y.p)) x.r) y.r) (ak (ah 2) (ak (aj x.p y.p) (aY x))) x.r (k + 1) og s13 (cw s16 og) (e6 zx og).2) w0)
   have hd : am x y = ((dQ (aj x.p y.p) (aY x) x.r) * (dQ (aj (aC (ak (aj x.p y.p) (aj x.p y.p)) x.r) y.r) (ak (ah 2) (ak (aj x.p y.p) (aY x))) x.r)) := pt
   refine gz h <| (dr0 (hob := (oK (bN 2 (k + 20) og  og)) <| (oK (bh (aj x.p y.p) (aY x) (k + 15) og s1 (cw s2 og))) <| (oK (bh (ah 2) (ak (aj x.p y.p) (aY x)) (k + 13) og (cw s14 og) s15)) <| (oK (iL (aj (aC (ak (aj x.p y.p) (aj x.p y.p)) x.r) y.r) (ak (ah 2) (ak (aj x.p y.p) (aY x))) x.r (k + 1) og s13 (cw s16 og) (e6 zx og).2)) <| (oX (h := by exact fun _ => bm (lx rfl rfl (r := ((dQ (aj x.p y.p) (aY x) x.r) * (dQ (aj (aC (ak (aj x.p y.p) (aj x.p y.p)) x.r) y.r) (ak (ah 2) (ak (aj x.p y.p) (aY x))) x.r))) (by first | (rw [IntKind.wrap_i64]; omega) | exact iI og og)))) <| oE)) <| (W) ?_; clear h ac wo; intro ac wo h
   exact (rt h) (h.retP (by rw [hd] <;> rfl) (by rw [hd]; exact by first | omega | exact eK og og))
def aQ (n : Int) : GR :=
 (⟨(ah n), (⟨(⟨false, 0⟩ : GI), (⟨false, 0⟩ : GI)⟩ : GQ), false⟩ : GR)
theorem mI (n : Int) (k : Nat) (hk : k ≤ 40) (hn : -9223372036854775808 ≤ n ∧ n ≤ 9223372036854775807) (w0 : World) : Calls Tryz.prog 86 #[(.int .i64 n)] w0 (dA w0 (vR (aQ n)) (SzR k (aQ n))) := by
 refine enter (N := 6) (args := [(.int .i64 n)]) Tryz.func86 rfl rfl ?_; intro ac h
 have c1 := bN n k og  og
 have s1 := an (c1 w0)
 refine gz h <| (xa) fun b1 => (xk c1) <| (xo (hs := by exact bG tR exs rfl (v := (vR (⟨(ah n), oQ, false⟩ : GR))) rfl)) <| (W) ?_; clear h ac; intro ac wo h
 exact ret h rfl (.cell (v := (vR (⟨(ah n), oQ, false⟩ : GR))) rfl (i := 0) rfl aa71 zz71 rfl rfl rfl .nil) rfl (h.retP (by unfold aQ; rfl) (by unfold aQ; exact ⟨s1, ⟨(cG 0 (by decide) og), (cG 0 (by decide) og)⟩⟩))
def au (r : GQ) : GR :=
 (⟨r, (⟨(⟨false, 0⟩ : GI), (⟨false, 0⟩ : GI)⟩ : GQ), false⟩ : GR)
theorem dF (r : GQ) (k : Nat) (hk : k ≤ 40) (zr : SzQ k r) (w0 : World) : Calls Tryz.prog 88 #[(vQ r)] w0 (dA w0 (vR (au r)) (SzR k (au r))) := by
 refine enter (N := 5) (args := [(vQ r)]) Tryz.func88 rfl rfl ?_; intro ac h
 refine gz h <| (xb) fun b1 => (xa) fun b2 => (xo (hs := by exact bG tR exs rfl (v := (vR (⟨r, oQ, false⟩ : GR))) rfl)) <| (W) ?_; clear h ac; intro ac wo h
 exact ret h rfl (.cell (v := (vR (⟨r, oQ, false⟩ : GR))) rfl (i := 0) rfl aa71 zz71 rfl rfl rfl .nil) rfl (h.retP (by unfold au; rfl) (by unfold au; exact ⟨zr, ⟨(cG 0 (by decide) og), (cG 0 (by decide) og)⟩⟩))
def aS (c0 : GQ) (c1 : GQ) : Qd :=
 (⟨c0, c1, (⟨(⟨false, 0⟩ : GI), (⟨false, 0⟩ : GI)⟩ : GQ)⟩ : Qd)
theorem cX (c0 : GQ) (c1 : GQ) (k : Nat) (hk : k ≤ 40) (zc0 : SzQ k c0) (zc1 : SzQ k c1) (w0 : World) : Calls Tryz.prog 107 #[(vQ c0), (vQ c1)] w0 (dA w0 (vD (aS c0 c1)) (SzD k (aS c0 c1))) := by
 refine enter (N := 8) (args := [(vQ c0), (vQ c1)]) Tryz.func107 rfl rfl ?_; intro ac h
 refine gz h <| (xb) fun b1 => (xb) fun b2 => (xa) fun b3 => (xo (hs := by exact bG wt exs rfl (v := (vD (⟨c0, c1, oQ⟩ : Qd))) rfl)) <| (W) ?_; clear h ac; intro ac wo h
 exact ret h rfl (.cell (v := (vD (⟨c0, c1, oQ⟩ : Qd))) rfl (i := 0) rfl aa53 zz53 rfl rfl rfl .nil) rfl (h.retP (by unfold aS; rfl) (by unfold aS; exact ⟨zc0, zc1, ⟨(cG 0 (by decide) og), (cG 0 (by decide) og)⟩⟩))
def aW (q : Qd) (t : GQ) : GQ :=
 (aC q.c0 (ak t (aC q.c1 (ak t q.c2))))
theorem iW (q : Qd) (t : GQ) (k : Nat) (hk : (k + 10) ≤ 40) (zq : SzD (k + 10) q) (zt : SzQ (k + 10) t) (w0 : World) : Calls Tryz.prog 101 #[(vD q), (vQ t)] w0 (dA w0 (vQ (aW q t)) (SzQ k (aW q t))) := by
 refine enter (N := 17) (args := [(vD q), (vQ t)]) Tryz.func101 rfl rfl ?_; intro ac h
 have s1 := an ((bh t q.c2 (k + 8) og zt zq.2.2) w0)
 have s2 := an ((bW q.c1 (ak t q.c2) (k + 5) og (jW zq og).2.1 s1) w0)
 have s3 := an ((bh t (aC q.c1 (ak t q.c2)) (k + 3) og (cw zt og) s2) w0)
 have s4 := an ((bW q.c0 (ak t (aC q.c1 (ak t q.c2))) k og (jW zq og).1 s3) w0)
 refine gz h <| (xb) fun b1 => (xb) fun b2 => (xa) fun b3 => (dr1 (H := [⟨.blk b3 (cQ oQ) 27, [(12, .con (.blk b3 (cQ (aC q.c0 (ak t (aC q.c1 (ak t q.c2))))) 27))]⟩, ⟨_, []⟩, ⟨_, []⟩]) (hob := (oK (bh t q.c2 (k + 8) og zt zq.2.2)) <| (oK (bW q.c1 (ak t q.c2) (k + 5) og (jW zq og).2.1 s1)) <| (oK (bh t (aC q.c1 (ak t q.c2)) (k + 3) og (cw zt og) s2)) <| (oK (bW q.c0 (ak t (aC q.c1 (ak t q.c2))) k og (jW zq og).1 s3)) <| oE)) <| (W) ?_; clear h ac; intro ac wo h
 exact ret h rfl (.cell (v := (vQ (aC q.c0 (ak t (aC q.c1 (ak t q.c2)))))) rfl (i := 0) rfl aa27 zz27 rfl rfl rfl .nil) rfl (h.retP (by unfold aW; rfl) (by unfold aW; exact s4))
def aV (q : Qd) (t : GQ) : GQ :=
 (aC q.c1 (ak (aC q.c2 q.c2) t))
theorem gc (q : Qd) (t : GQ) (k : Nat) (hk : (k + 8) ≤ 40) (zq : SzD (k + 8) q) (zt : SzQ (k + 8) t) (w0 : World) : Calls Tryz.prog 213 #[(vD q), (vQ t)] w0 (dA w0 (vQ (aV q t)) (SzQ k (aV q t))) := by
 refine enter (N := 15) (args := [(vD q), (vQ t)]) Tryz.func213 rfl rfl ?_; intro ac h
 have s1 := an ((bW q.c2 q.c2 (k + 5) og zq.2.2 zq.2.2) w0)
 have s2 := an ((bh (aC q.c2 q.c2) t (k + 3) og s1 (cw zt og)) w0)
 have s3 := an ((bW q.c1 (ak (aC q.c2 q.c2) t) k og (jW zq og).2.1 s2) w0)
 refine gz h <| (xb) fun b1 => (xb) fun b2 => (xa) fun b3 => (dr1 (H := [⟨.blk b3 (cQ oQ) 27, [(10, .con (.blk b3 (cQ (aC q.c1 (ak (aC q.c2 q.c2) t))) 27))]⟩, ⟨_, []⟩, ⟨_, []⟩]) (hob := (oK (bW q.c2 q.c2 (k + 5) og zq.2.2 zq.2.2)) <| (oK (bh (aC q.c2 q.c2) t (k + 3) og s1 (cw zt og))) <| (oK (bW q.c1 (ak (aC q.c2 q.c2) t) k og (jW zq og).2.1 s2)) <| oE)) <| (W) ?_; clear h ac; intro ac wo h
 exact ret h rfl (.cell (v := (vQ (aC q.c1 (ak (aC q.c2 q.c2) t)))) rfl (i := 0) rfl aa27 zz27 rfl rfl rfl .nil) rfl (h.retP (by unfold aV; rfl) (by unfold aV; exact s3))
def dx (p : Qd) (q : Qd) : Qd :=
 (⟨(aj p.c0 q.c0), (aj p.c1 q.c1), (aj p.c2 q.c2)⟩ : Qd)
theorem ju (p : Qd) (q : Qd) (k : Nat) (hk : (k + 3) ≤ 40) (zp : SzD (k + 3) p) (zq : SzD (k + 3) q) (w0 : World) : Calls Tryz.prog 131 #[(vD p), (vD q)] w0 (dA w0 (vD (dx p q)) (SzD k (dx p q))) := by
 refine enter (N := 21) (args := [(vD p), (vD q)]) Tryz.func131 rfl rfl ?_; intro ac h
 have s1 := an ((cr p.c0 q.c0 k og zp.1 zq.1) w0)
 have s2 := an ((cr p.c1 q.c1 k og zp.2.1 zq.2.1) w0)
 have s3 := an ((cr p.c2 q.c2 k og zp.2.2 zq.2.2) w0)
 refine gz h <| (xb) fun b1 => (xb) fun b2 => (xa) fun b3 => (dr1 (H := [⟨.blk b3 (cD oD) 53, [(16, .con (.blk b3 (cD (⟨(aj p.c0 q.c0), (aj p.c1 q.c1), (aj p.c2 q.c2)⟩ : Qd)) 53))]⟩, ⟨_, []⟩, ⟨_, []⟩]) (hob := (oK (cr p.c0 q.c0 k og zp.1 zq.1)) <| (oK (cr p.c1 q.c1 k og zp.2.1 zq.2.1)) <| (oK (cr p.c2 q.c2 k og zp.2.2 zq.2.2)) <| (oX (h := by exact fun _ => bm (bG wt exs rfl (v := (vD (⟨(aj p.c0 q.c0), (aj p.c1 q.c1), (aj p.c2 q.c2)⟩ : Qd))) rfl))) <| oE)) <| (W) ?_; clear h ac; intro ac wo h
 exact ret h rfl (.cell (v := (vD (⟨(aj p.c0 q.c0), (aj p.c1 q.c1), (aj p.c2 q.c2)⟩ : Qd))) rfl (i := 0) rfl aa53 zz53 rfl rfl rfl .nil) rfl (h.retP (by unfold dx; rfl) (by unfold dx; exact ⟨s1, s2, s3⟩))
def du (x : GR) : GQ × Bool :=
 bif (!(decide (x.r = (⟨(⟨false, 0⟩ : GI), (⟨false, 0⟩ : GI)⟩ : GQ)))) then
  ((⟨(⟨false, 0⟩ : GI), (⟨false, 0⟩ : GI)⟩ : GQ), false)
 else
  (x.p, true)
theorem me (x : GR) (k : Nat) (hk : k ≤ 40) (zx : SzR k x) (w0 : World) : Calls Tryz.prog 212 #[(vR x)] w0 (dA w0 (.tuple #[(vQ ((du x).1)), (.bool ((du x).2))]) (SzQ k ((du x).1))) := by
 refine enter (N := 11) (args := [(vR x)]) Tryz.func212 rfl rfl ?_; intro ac h
 refine gz h <| (xb) fun b1 => (xa) fun b2 => (xo (hs := by exact bG m7 exs rfl (v := (vQ oQ)) rfl)) <| (ai) ?_ ?_ <;> clear h ac <;> intro ac wo h hc1
 ·
  have hd : du x = (oQ, false) := pt
  refine gz h <| (xo (hs := by exact bG m7 exs rfl (v := (vQ oQ)) rfl)) <| (W) ?_; clear h ac wo; intro ac wo h
  exact ret h rfl (.cell (v := (vQ oQ)) rfl (i := 0) rfl aa27 zz27 rfl rfl rfl (.tmp rfl .nil)) rfl (h.retP (by rw [hd] <;> rfl) (by rw [hd]; exact ⟨(cG 0 (by decide) og), (cG 0 (by decide) og)⟩))
 ·
  have hd : du x = (x.p, true) := pt
  refine gz h <| (W) ?_; clear h ac wo; intro ac wo h
  exact ret h rfl (.cell (v := (vQ x.p)) rfl (i := 0) rfl aa27 zz27 rfl rfl rfl (.tmp rfl .nil)) rfl (h.retP (by rw [hd] <;> rfl) (by rw [hd]; exact zx.1))
def aP (q : Qd) (t : GR) : Qd :=
 bif (du t).2 then
  (aD (aW q ((du t).1)))
 else
  (aS (aC q.c0 (ak q.c2 (aj t.r (ak t.p t.p)))) (aV q t.p))
theorem eH (q : Qd) (t : GR) (k : Nat) (hk : (k + 10) ≤ 40) (zq : SzD (k + 10) q) (zt : SzR (k + 10) t) (w0 : World) : Calls Tryz.prog 130 #[(vD q), (vR t)] w0 (dA w0 (vD (aP q t)) (SzD k (aP q t))) := by
 refine enter (N := 38) (args := [(vD q), (vR t)]) Tryz.func130 rfl rfl ?_; intro ac h
 have c1 := me t (k + 10) og zt
 have s1 := an (c1 w0)
 refine gz h <| (xb) fun b1 => (xb) fun b2 => (xa) fun b3 => (xk c1) <| (xa) fun b4 => (ai) ?_ ?_ <;> clear h ac <;> intro ac wo h hc1
 ·
  have c2 := iW q ((du t).1) k og zq s1
  have s2 := an (c2 w0)
  have c3 := jH (aW q ((du t).1)) k og s2
  have s3 := an (c3 w0)
  have hd : aP q t = (aD (aW q ((du t).1))) := pt
  refine gz h <| (xk c2) <| (xk c3) <| (W) ?_; clear h ac wo; intro ac wo h
  exact ret h rfl (.cell (v := (vD (aD (aW q ((du t).1))))) rfl (i := 1) rfl aa53 zz53 rfl rfl rfl .nil) rfl (h.retP (by rw [hd] <;> rfl) (by rw [hd]; exact s3))
 ·
  refine gz h <| (W) ?_; clear h ac wo; intro ac wo h
  have s4 := an ((bh t.p t.p (k + 8) og zt.1 zt.1) w0)
  have s5 := an ((cr t.r (ak t.p t.p) (k + 5) og (e6 zt og).2 s4) w0)
  replace h := h.emps 1
  refine fh mixed [dv _, dw _ [2], dv _, dw _ [2], dv _, dw _ [2], dv _, dv _, ⟨.nd (.one 8 fun v => ∃ b, v = ptr b 0), [4]⟩, ⟨.det undef, [4]⟩] [⟨_, []⟩, ⟨_, []⟩, ⟨_, []⟩, ⟨_, []⟩, ⟨.emp, [(8, .one 8 fun v => .blk (bD v) (cQ oQ) 27), (9, .one 8 fun v => .blk (bD v) (cQ (aj t.r (ak t.p t.p))) 27)]⟩] h rfl (by kernel_rfl) ⟨fun _ _ => bm (fa uu71 rfl zz27 rfl rfl rfl (k' := 4)), fun _ _ => it _ rfl rfl (jt aa27 zz27 rfl rfl rfl (v := (vQ t.r)) rfl), fun _ _ => bm (fa uu71 rfl zz27 rfl rfl rfl (k' := 0)), fun _ _ => it _ rfl rfl (jt aa27 zz27 rfl rfl rfl (v := (vQ t.p)) rfl), fun _ _ => bm (fa uu71 rfl zz27 rfl rfl rfl (k' := 0)), fun _ _ => it _ rfl rfl (jt aa27 zz27 rfl rfl rfl (v := (vQ t.p)) rfl), fun _ _ => gm (fQ Tryz.call21 rfl (bh t.p t.p (k + 8) og zt.1 zt.1)), fun _ _ => gm (fQ cc22 rfl (cr t.r (ak t.p t.p) (k + 5) og (e6 zt og).2 s4)), fun _ _ => nN (ψ := fun v => ∃ b, v = ptr b 0) (B := fun v => [.blk (bD v) (cQ oQ) 27]) [.emp] rfl (fun v _ => by simp only [de, bC] <;> rfl) (fun v hv => by simpa [DF.one, bC] using hv) (jA (fK vv27 rfl)), (fun ξ hφ => by obtain ⟨b5, hb8⟩ := hφ 8 rfl; exact lC [.blk b5 (cQ oQ) 27] [.blk b5 (cQ (aj t.r (ak t.p t.p))) 27] (congrArg (fun v => [Asn.blk (bD v) (cQ oQ) 27]) hb8) (congrArg (fun v => [Asn.blk (bD v) (cQ (aj t.r (ak t.p t.p))) 27]) hb8) (nj zz27 (Eq.trans rfl (congrArg some hb8)) rfl rfl rfl rfl rfl rfl)), trivial⟩ ?_
  clear h ac wo; intro ξ ac wo hφ h
  replace h : St w0 38 [(2, (ptr b1 0)), (3, (ptr b2 0)), (4, (ptr b3 0)), (7, ξ 8)] [.blk b4 (cQ ((du t).1)) 27, .blk b3 (cD oD) 53, .blk b2 (cR t) 71, .blk b1 (cD q) 53, .blk (bD (ξ 8)) (cQ (aj t.r (ak t.p t.p))) 27] ac wo := h.sub ⟨rfl, rfl, rfl, rfl, trivial⟩
  revert h
  obtain ⟨b5, hb8⟩ : ∃ b, ξ 8 = ptr b 0 := hφ 8
  rw [hb8]; intro h
  clear hb8 hφ ξ
  refine gz h <| (W) ?_; clear h ac wo; intro ac wo h
  have s6 := an ((bh q.c2 (aj t.r (ak t.p t.p)) (k + 3) og (jW zq og).2.2 s5) w0)
  have s7 := an ((bW q.c0 (ak q.c2 (aj t.r (ak t.p t.p))) k og (jW zq og).1 s6) w0)
  have s8 := an ((gc q t.p (k + 2) og zq zt.1) w0)
  have s9 := an ((cX (aC q.c0 (ak q.c2 (aj t.r (ak t.p t.p)))) (aV q t.p) k og s7 (cw s8 og)) w0)
  have hd : aP q t = (aS (aC q.c0 (ak q.c2 (aj t.r (ak t.p t.p)))) (aV q t.p)) := pt
  refine gz h <| (dr1 (H := [⟨_, []⟩, ⟨.blk b3 (cD oD) 53, [(12, .con (.blk b3 (cD (aS (aC q.c0 (ak q.c2 (aj t.r (ak t.p t.p)))) (aV q t.p))) 53))]⟩, ⟨_, []⟩, ⟨_, []⟩, ⟨_, []⟩]) (hob := (oK (bh q.c2 (aj t.r (ak t.p t.p)) (k + 3) og (jW zq og).2.2 s5)) <| (oK (bW q.c0 (ak q.c2 (aj t.r (ak t.p t.p))) k og (jW zq og).1 s6)) <| (oK (gc q t.p (k + 2) og zq zt.1)) <| (oK (cX (aC q.c0 (ak q.c2 (aj t.r (ak t.p t.p)))) (aV q t.p) k og s7 (cw s8 og))) <| oE)) <| (W) ?_; clear h ac wo; intro ac wo h
  exact ret h rfl (.cell (v := (vD (aS (aC q.c0 (ak q.c2 (aj t.r (ak t.p t.p)))) (aV q t.p)))) rfl (i := 1) rfl aa53 zz53 rfl rfl rfl .nil) rfl (h.retP (by rw [hd] <;> rfl) (by rw [hd]; exact s9))
def fq (p : Qd) (q : Qd) (t : GR) : Bool :=
 (decide ((aP (dx p q) t) = (⟨(⟨(⟨false, 0⟩ : GI), (⟨false, 0⟩ : GI)⟩ : GQ), (⟨(⟨false, 0⟩ : GI), (⟨false, 0⟩ : GI)⟩ : GQ), (⟨(⟨false, 0⟩ : GI), (⟨false, 0⟩ : GI)⟩ : GQ)⟩ : Qd)))
theorem iV (p : Qd) (q : Qd) (t : GR) (k : Nat) (hk : (k + 14) ≤ 40) (zp : SzD (k + 14) p) (zq : SzD (k + 14) q) (zt : SzR (k + 14) t) (w0 : World) : Calls Tryz.prog 39 #[(vD p), (vD q), (vR t)] w0 (dA w0 (.bool (fq p q t)) (True)) := by
 refine enter (N := 14) (args := [(vD p), (vD q), (vR t)]) Tryz.func39 rfl rfl ?_; intro ac h
 have s1 := an ((ju p q (k + 11) og zp zq) w0)
 have s2 := an ((eH (dx p q) t (k + 1) og s1 (e6 zt og)) w0)
 refine gz h <| (xb) fun b1 => (xb) fun b2 => (xb) fun b3 => (dr0 (hob := (oK (ju p q (k + 11) og zp zq)) <| (oK (eH (dx p q) t (k + 1) og s1 (e6 zt og))) <| (oX (h := by exact fun _ => bm (bG wt exs rfl (v := (vD oD)) rfl))) <| oE)) <| (W) ?_; clear h ac; intro ac wo h
 exact (rt h) (h.retP (by unfold fq; rfl) trivial)
def dX (a : Iv) (b : Iv) : Bool :=
 ((decide ((am a.hi b.lo) < 0)) || (((am a.hi b.lo) == 0) && (a.openHi || b.openLo)))
theorem jI (a : Iv) (b : Iv) (k : Nat) (hk : (k + 20) ≤ 40) (za : SzV (k + 20) a) (zb : SzV (k + 20) b) (w0 : World) : Calls Tryz.prog 118 #[(vV a), (vV b)] w0 (dA w0 (.bool (dX a b)) (True)) := by
 refine enter (N := 25) (args := [(vV a), (vV b)]) Tryz.func118 rfl rfl ?_; intro ac h
 have p2 := an ((aT a.hi b.lo k og za.2 zb.1) w0)
 refine gz h <| (xb) fun b1 => (xb) fun b2 => (xk (aT a.hi b.lo k og za.2 zb.1)) <| (W) ?_; clear h ac; intro ac wo h
 exact (rt h) (h.retP (by unfold dX; rfl) trivial)
def aZ (i : Iv) : Bool :=
 (decide (i.lo = i.hi))
theorem d6 (i : Iv) (w0 : World) : Calls Tryz.prog 150 #[(vV i)] w0 (dA w0 (.bool (aZ i)) (True)) := by
 refine enter (N := 8) (args := [(vV i)]) Tryz.func150 rfl rfl ?_; intro ac h
 refine gz h <| (xb) fun b1 => (W) ?_; clear h ac; intro ac wo h
 exact (rt h) (h.retP (by unfold aZ; rfl) trivial)
def bB (a : Iv) (b : Iv) : Iv × Bool :=
 bif (decide ((am a.lo b.lo) < 0)) then
  bif (decide ((am a.hi b.hi) > 0)) then
   ((⟨b.lo, b.hi, b.openLo, b.openHi⟩ : Iv), ((decide ((am b.lo b.hi) < 0)) || ((((am b.lo b.hi) == 0) && (!b.openLo)) && (!b.openHi))))
  else
   bif ((am a.hi b.hi) == 0) then
    ((⟨b.lo, a.hi, b.openLo, (a.openHi || b.openHi)⟩ : Iv), ((decide ((am b.lo a.hi) < 0)) || ((((am b.lo a.hi) == 0) && (!b.openLo)) && (!(a.openHi || b.openHi)))))
   else
    ((⟨b.lo, a.hi, b.openLo, a.openHi⟩ : Iv), ((decide ((am b.lo a.hi) < 0)) || ((((am b.lo a.hi) == 0) && (!b.openLo)) && (!a.openHi))))
 else
  bif ((am a.lo b.lo) == 0) then
   bif (decide ((am a.hi b.hi) > 0)) then
    ((⟨a.lo, b.hi, (a.openLo || b.openLo), b.openHi⟩ : Iv), ((decide ((am a.lo b.hi) < 0)) || ((((am a.lo b.hi) == 0) && (!(a.openLo || b.openLo))) && (!b.openHi))))
   else
    bif ((am a.hi b.hi) == 0) then
     ((⟨a.lo, a.hi, (a.openLo || b.openLo), (a.openHi || b.openHi)⟩ : Iv), ((decide ((am a.lo a.hi) < 0)) || ((((am a.lo a.hi) == 0) && (!(a.openLo || b.openLo))) && (!(a.openHi || b.openHi)))))
    else
     ((⟨a.lo, a.hi, (a.openLo || b.openLo), a.openHi⟩ : Iv), ((decide ((am a.lo a.hi) < 0)) || ((((am a.lo a.hi) == 0) && (!(a.openLo || b.openLo))) && (!a.openHi))))
  else
   bif (decide ((am a.hi b.hi) > 0)) then
    ((⟨a.lo, b.hi, a.openLo, b.openHi⟩ : Iv), ((decide ((am a.lo b.hi) < 0)) || ((((am a.lo b.hi) == 0) && (!a.openLo)) && (!b.openHi))))
   else
    bif ((am a.hi b.hi) == 0) then
     ((⟨a.lo, a.hi, a.openLo, (a.openHi || b.openHi)⟩ : Iv), ((decide ((am a.lo a.hi) < 0)) || ((((am a.lo a.hi) == 0) && (!a.openLo)) && (!(a.openHi || b.openHi)))))
    else
     (a, ((decide ((am a.lo a.hi) < 0)) || ((((am a.lo a.hi) == 0) && (!a.openLo)) && (!a.openHi))))
theorem nl (a : Iv) (b : Iv) (k : Nat) (hk : (k + 20) ≤ 40) (za : SzV (k + 20) a) (zb : SzV (k + 20) b) (w0 : World) : Calls Tryz.prog 179 #[(vV a), (vV b)] w0 (dA w0 (.tuple #[(vV ((bB a b).1)), (.bool ((bB a b).2))]) (SzV k ((bB a b).1))) := by
 refine enter (N := 81) (args := [(vV a), (vV b)]) Tryz.func179 rfl rfl ?_; intro ac h
 have p2 := an ((aT a.lo b.lo k og za.1 zb.1) w0)
 refine gz h <| (xb) fun b1 => (xb) fun b2 => (xa) fun b3 => (xa) fun b4 => (xk (aT a.lo b.lo k og za.1 zb.1)) <| (ai) ?_ ?_ <;> clear h ac <;> intro ac wo h hc1
 ·
  have hd1 := of_decide_eq_true hc1
  refine gz h <| (dr1 (H := [⟨.blk b4 (cV a) 86, [(5, .con (.blk b4 (cV (⟨b.lo, a.hi, a.openLo, a.openHi⟩ : Iv)) 86)), (7, .con (.blk b4 (cV (⟨b.lo, a.hi, b.openLo, a.openHi⟩ : Iv)) 86))]⟩, ⟨_, []⟩, ⟨_, []⟩, ⟨_, []⟩]) (hob := oE)) <| (W) ?_; clear h ac wo; intro ac wo h
  have p4 := an ((aT a.hi b.hi k og za.2 zb.2) w0)
  refine gz h <| (xk (aT a.hi b.hi k og za.2 zb.2)) <| (ai) ?_ ?_ <;> clear h ac wo <;> intro ac wo h hc2
  ·
   have hd2 := of_decide_eq_true hc2
   refine gz h <| (dr1 (H := [⟨.blk b4 (cV (⟨b.lo, a.hi, b.openLo, a.openHi⟩ : Iv)) 86, [(5, .con (.blk b4 (cV (⟨b.lo, b.hi, b.openLo, a.openHi⟩ : Iv)) 86)), (7, .con (.blk b4 (cV (⟨b.lo, b.hi, b.openLo, b.openHi⟩ : Iv)) 86))]⟩, ⟨_, []⟩, ⟨_, []⟩, ⟨_, []⟩]) (hob := oE)) <| (W) ?_; clear h ac wo; intro ac wo h
   have p6 := an ((aT b.lo b.hi k og zb.1 zb.2) w0)
   have hd : bB a b = ((⟨b.lo, b.hi, b.openLo, b.openHi⟩ : Iv), ((decide ((am b.lo b.hi) < 0)) || ((((am b.lo b.hi) == 0) && (!b.openLo)) && (!b.openHi)))) := pt
   refine gz h <| (xk (aT b.lo b.hi k og zb.1 zb.2)) <| (dr1 (H := [⟨_, []⟩, ⟨.blk b3 (cV (⟨(⟨oQ, oQ, false⟩ : GR), (⟨oQ, oQ, false⟩ : GR), false, false⟩ : Iv)) 86, [(17, .con (.blk b3 (cV (⟨b.lo, b.hi, b.openLo, b.openHi⟩ : Iv)) 86))]⟩, ⟨_, []⟩, ⟨_, []⟩]) (hob := oE)) <| (W) ?_; clear h ac wo; intro ac wo h
   exact ret h rfl (.cell (v := (vV (⟨b.lo, b.hi, b.openLo, b.openHi⟩ : Iv))) rfl (i := 1) rfl aa86 zz86 rfl rfl rfl (.tmp rfl .nil)) rfl (h.retP (by rw [hd] <;> rfl) (by rw [hd]; exact ⟨(f7 zb og).1, (f7 zb og).2⟩))
  ·
   have hd2 := of_decide_eq_false hc2
   refine gz h <| (ai) ?_ ?_ <;> clear h ac wo <;> intro ac wo h hc3
   ·
    have hd3 := eq_of_beq hc3
    have p8 := an ((aT b.lo a.hi k og zb.1 za.2) w0)
    have hd : bB a b = ((⟨b.lo, a.hi, b.openLo, (a.openHi || b.openHi)⟩ : Iv), ((decide ((am b.lo a.hi) < 0)) || ((((am b.lo a.hi) == 0) && (!b.openLo)) && (!(a.openHi || b.openHi))))) := pt
    refine gz h <| (xs 0 (cV (⟨b.lo, a.hi, b.openLo, (a.openHi || b.openHi)⟩ : Iv))) <| (xk (aT b.lo a.hi k og zb.1 za.2)) <| (dr1 (H := [⟨_, []⟩, ⟨.blk b3 (cV (⟨(⟨oQ, oQ, false⟩ : GR), (⟨oQ, oQ, false⟩ : GR), false, false⟩ : Iv)) 86, [(17, .con (.blk b3 (cV (⟨b.lo, a.hi, b.openLo, (a.openHi || b.openHi)⟩ : Iv)) 86))]⟩, ⟨_, []⟩, ⟨_, []⟩]) (hob := oE)) <| (W) ?_; clear h ac wo; intro ac wo h
    exact ret h rfl (.cell (v := (vV (⟨b.lo, a.hi, b.openLo, (a.openHi || b.openHi)⟩ : Iv))) rfl (i := 1) rfl aa86 zz86 rfl rfl rfl (.tmp rfl .nil)) rfl (h.retP (by rw [hd] <;> rfl) (by rw [hd]; exact ⟨(f7 zb og).1, (f7 za og).2⟩))
   ·
    have hd3 := ne_of_beq_false hc3
    have p10 := an ((aT b.lo a.hi k og zb.1 za.2) w0)
    have hd : bB a b = ((⟨b.lo, a.hi, b.openLo, a.openHi⟩ : Iv), ((decide ((am b.lo a.hi) < 0)) || ((((am b.lo a.hi) == 0) && (!b.openLo)) && (!a.openHi)))) := pt
    refine gz h <| (xk (aT b.lo a.hi k og zb.1 za.2)) <| (dr1 (H := [⟨_, []⟩, ⟨.blk b3 (cV (⟨(⟨oQ, oQ, false⟩ : GR), (⟨oQ, oQ, false⟩ : GR), false, false⟩ : Iv)) 86, [(17, .con (.blk b3 (cV (⟨b.lo, a.hi, b.openLo, a.openHi⟩ : Iv)) 86))]⟩, ⟨_, []⟩, ⟨_, []⟩]) (hob := oE)) <| (W) ?_; clear h ac wo; intro ac wo h
    exact ret h rfl (.cell (v := (vV (⟨b.lo, a.hi, b.openLo, a.openHi⟩ : Iv))) rfl (i := 1) rfl aa86 zz86 rfl rfl rfl (.tmp rfl .nil)) rfl (h.retP (by rw [hd] <;> rfl) (by rw [hd]; exact ⟨(f7 zb og).1, (f7 za og).2⟩))
 ·
  have hd1 := of_decide_eq_false hc1
  refine gz h <| (ai) ?_ ?_ <;> clear h ac wo <;> intro ac wo h hc4
  ·
   have hd4 := eq_of_beq hc4
   have p12 := an ((aT a.hi b.hi k og za.2 zb.2) w0)
   refine gz h <| (xs 0 (cV (⟨a.lo, a.hi, (a.openLo || b.openLo), a.openHi⟩ : Iv))) <| (xk (aT a.hi b.hi k og za.2 zb.2)) <| (ai) ?_ ?_ <;> clear h ac wo <;> intro ac wo h hc5
   ·
    have hd5 := of_decide_eq_true hc5
    refine gz h <| (dr1 (H := [⟨.blk b4 (cV (⟨a.lo, a.hi, (a.openLo || b.openLo), a.openHi⟩ : Iv)) 86, [(5, .con (.blk b4 (cV (⟨a.lo, b.hi, (a.openLo || b.openLo), a.openHi⟩ : Iv)) 86)), (7, .con (.blk b4 (cV (⟨a.lo, b.hi, (a.openLo || b.openLo), b.openHi⟩ : Iv)) 86))]⟩, ⟨_, []⟩, ⟨_, []⟩, ⟨_, []⟩]) (hob := oE)) <| (W) ?_; clear h ac wo; intro ac wo h
    have p14 := an ((aT a.lo b.hi k og za.1 zb.2) w0)
    have hd : bB a b = ((⟨a.lo, b.hi, (a.openLo || b.openLo), b.openHi⟩ : Iv), ((decide ((am a.lo b.hi) < 0)) || ((((am a.lo b.hi) == 0) && (!(a.openLo || b.openLo))) && (!b.openHi)))) := pt
    refine gz h <| (xk (aT a.lo b.hi k og za.1 zb.2)) <| (dr1 (H := [⟨_, []⟩, ⟨.blk b3 (cV (⟨(⟨oQ, oQ, false⟩ : GR), (⟨oQ, oQ, false⟩ : GR), false, false⟩ : Iv)) 86, [(17, .con (.blk b3 (cV (⟨a.lo, b.hi, (a.openLo || b.openLo), b.openHi⟩ : Iv)) 86))]⟩, ⟨_, []⟩, ⟨_, []⟩]) (hob := oE)) <| (W) ?_; clear h ac wo; intro ac wo h
    exact ret h rfl (.cell (v := (vV (⟨a.lo, b.hi, (a.openLo || b.openLo), b.openHi⟩ : Iv))) rfl (i := 1) rfl aa86 zz86 rfl rfl rfl (.tmp rfl .nil)) rfl (h.retP (by rw [hd] <;> rfl) (by rw [hd]; exact ⟨(f7 za og).1, (f7 zb og).2⟩))
   ·
    have hd5 := of_decide_eq_false hc5
    refine gz h <| (ai) ?_ ?_ <;> clear h ac wo <;> intro ac wo h hc6
    ·
     have hd6 := eq_of_beq hc6
     have p16 := an ((aT a.lo a.hi k og za.1 za.2) w0)
     have hd : bB a b = ((⟨a.lo, a.hi, (a.openLo || b.openLo), (a.openHi || b.openHi)⟩ : Iv), ((decide ((am a.lo a.hi) < 0)) || ((((am a.lo a.hi) == 0) && (!(a.openLo || b.openLo))) && (!(a.openHi || b.openHi))))) := pt
     refine gz h <| (xs 0 (cV (⟨a.lo, a.hi, (a.openLo || b.openLo), (a.openHi || b.openHi)⟩ : Iv))) <| (xk (aT a.lo a.hi k og za.1 za.2)) <| (dr1 (H := [⟨_, []⟩, ⟨.blk b3 (cV (⟨(⟨oQ, oQ, false⟩ : GR), (⟨oQ, oQ, false⟩ : GR), false, false⟩ : Iv)) 86, [(17, .con (.blk b3 (cV (⟨a.lo, a.hi, (a.openLo || b.openLo), (a.openHi || b.openHi)⟩ : Iv)) 86))]⟩, ⟨_, []⟩, ⟨_, []⟩]) (hob := oE)) <| (W) ?_; clear h ac wo; intro ac wo h
     exact ret h rfl (.cell (v := (vV (⟨a.lo, a.hi, (a.openLo || b.openLo), (a.openHi || b.openHi)⟩ : Iv))) rfl (i := 1) rfl aa86 zz86 rfl rfl rfl (.tmp rfl .nil)) rfl (h.retP (by rw [hd] <;> rfl) (by rw [hd]; exact ⟨(f7 za og).1, (f7 za og).2⟩))
    ·
     have hd6 := ne_of_beq_false hc6
     have p18 := an ((aT a.lo a.hi k og za.1 za.2) w0)
     have hd : bB a b = ((⟨a.lo, a.hi, (a.openLo || b.openLo), a.openHi⟩ : Iv), ((decide ((am a.lo a.hi) < 0)) || ((((am a.lo a.hi) == 0) && (!(a.openLo || b.openLo))) && (!a.openHi)))) := pt
     refine gz h <| (xk (aT a.lo a.hi k og za.1 za.2)) <| (dr1 (H := [⟨_, []⟩, ⟨.blk b3 (cV (⟨(⟨oQ, oQ, false⟩ : GR), (⟨oQ, oQ, false⟩ : GR), false, false⟩ : Iv)) 86, [(17, .con (.blk b3 (cV (⟨a.lo, a.hi, (a.openLo || b.openLo), a.openHi⟩ : Iv)) 86))]⟩, ⟨_, []⟩, ⟨_, []⟩]) (hob := oE)) <| (W) ?_; clear h ac wo; intro ac wo h
     exact ret h rfl (.cell (v := (vV (⟨a.lo, a.hi, (a.openLo || b.openLo), a.openHi⟩ : Iv))) rfl (i := 1) rfl aa86 zz86 rfl rfl rfl (.tmp rfl .nil)) rfl (h.retP (by rw [hd] <;> rfl) (by rw [hd]; exact ⟨(f7 za og).1, (f7 za og).2⟩))
  ·
   have hd4 := ne_of_beq_false hc4
   have p20 := an ((aT a.hi b.hi k og za.2 zb.2) w0)
   refine gz h <| (xk (aT a.hi b.hi k og za.2 zb.2)) <| (ai) ?_ ?_ <;> clear h ac wo <;> intro ac wo h hc7
   ·
    have hd7 := of_decide_eq_true hc7
    refine gz h <| (dr1 (H := [⟨.blk b4 (cV a) 86, [(5, .con (.blk b4 (cV (⟨a.lo, b.hi, a.openLo, a.openHi⟩ : Iv)) 86)), (7, .con (.blk b4 (cV (⟨a.lo, b.hi, a.openLo, b.openHi⟩ : Iv)) 86))]⟩, ⟨_, []⟩, ⟨_, []⟩, ⟨_, []⟩]) (hob := oE)) <| (W) ?_; clear h ac wo; intro ac wo h
    have p22 := an ((aT a.lo b.hi k og za.1 zb.2) w0)
    have hd : bB a b = ((⟨a.lo, b.hi, a.openLo, b.openHi⟩ : Iv), ((decide ((am a.lo b.hi) < 0)) || ((((am a.lo b.hi) == 0) && (!a.openLo)) && (!b.openHi)))) := pt
    refine gz h <| (xk (aT a.lo b.hi k og za.1 zb.2)) <| (dr1 (H := [⟨_, []⟩, ⟨.blk b3 (cV (⟨(⟨oQ, oQ, false⟩ : GR), (⟨oQ, oQ, false⟩ : GR), false, false⟩ : Iv)) 86, [(17, .con (.blk b3 (cV (⟨a.lo, b.hi, a.openLo, b.openHi⟩ : Iv)) 86))]⟩, ⟨_, []⟩, ⟨_, []⟩]) (hob := oE)) <| (W) ?_; clear h ac wo; intro ac wo h
    exact ret h rfl (.cell (v := (vV (⟨a.lo, b.hi, a.openLo, b.openHi⟩ : Iv))) rfl (i := 1) rfl aa86 zz86 rfl rfl rfl (.tmp rfl .nil)) rfl (h.retP (by rw [hd] <;> rfl) (by rw [hd]; exact ⟨(f7 za og).1, (f7 zb og).2⟩))
   ·
    have hd7 := of_decide_eq_false hc7
    refine gz h <| (ai) ?_ ?_ <;> clear h ac wo <;> intro ac wo h hc8
    ·
     have hd8 := eq_of_beq hc8
     have p24 := an ((aT a.lo a.hi k og za.1 za.2) w0)
     have hd : bB a b = ((⟨a.lo, a.hi, a.openLo, (a.openHi || b.openHi)⟩ : Iv), ((decide ((am a.lo a.hi) < 0)) || ((((am a.lo a.hi) == 0) && (!a.openLo)) && (!(a.openHi || b.openHi))))) := pt
     refine gz h <| (xs 0 (cV (⟨a.lo, a.hi, a.openLo, (a.openHi || b.openHi)⟩ : Iv))) <| (xk (aT a.lo a.hi k og za.1 za.2)) <| (dr1 (H := [⟨_, []⟩, ⟨.blk b3 (cV (⟨(⟨oQ, oQ, false⟩ : GR), (⟨oQ, oQ, false⟩ : GR), false, false⟩ : Iv)) 86, [(17, .con (.blk b3 (cV (⟨a.lo, a.hi, a.openLo, (a.openHi || b.openHi)⟩ : Iv)) 86))]⟩, ⟨_, []⟩, ⟨_, []⟩]) (hob := oE)) <| (W) ?_; clear h ac wo; intro ac wo h
     exact ret h rfl (.cell (v := (vV (⟨a.lo, a.hi, a.openLo, (a.openHi || b.openHi)⟩ : Iv))) rfl (i := 1) rfl aa86 zz86 rfl rfl rfl (.tmp rfl .nil)) rfl (h.retP (by rw [hd] <;> rfl) (by rw [hd]; exact ⟨(f7 za og).1, (f7 za og).2⟩))
    ·
     have hd8 := ne_of_beq_false hc8
     have p26 := an ((aT a.lo a.hi k og za.1 za.2) w0)
     have hd : bB a b = (a, ((decide ((am a.lo a.hi) < 0)) || ((((am a.lo a.hi) == 0) && (!a.openLo)) && (!a.openHi)))) := pt
     refine gz h <| (xk (aT a.lo a.hi k og za.1 za.2)) <| (dr1 (H := [⟨_, []⟩, ⟨.blk b3 (cV (⟨(⟨oQ, oQ, false⟩ : GR), (⟨oQ, oQ, false⟩ : GR), false, false⟩ : Iv)) 86, [(17, .con (.blk b3 (cV a) 86))]⟩, ⟨_, []⟩, ⟨_, []⟩]) (hob := oE)) <| (W) ?_; clear h ac wo; intro ac wo h
     exact ret h rfl (.cell (v := (vV a)) rfl (i := 1) rfl aa86 zz86 rfl rfl rfl (.tmp rfl .nil)) rfl (h.retP (by rw [hd] <;> rfl) (by rw [hd]; exact (f7 za og)))
end Go.Sx
