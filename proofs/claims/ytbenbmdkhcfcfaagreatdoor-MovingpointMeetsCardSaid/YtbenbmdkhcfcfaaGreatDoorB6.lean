/- A part of the proof of movingpointMeets. -/
import Derived.Test.YtbenbmdkhcfcfaaGreatDoorProg
import Derived.Test.YtbenbmdkhcfcfaaGreatDoorB5
set_option linter.unusedVariables false
set_option linter.unusedSimpArgs false
open Go.Proofs.Tryz renaming isAgg27 → aa27, sizeOf27 → zz27, runUnderlying71 → uu71, call22 → cc22, isAgg71 → aa71, sizeOf71 → zz71, zeroValue27 → vv27, isAgg53 → aa53, sizeOf53 → zz53
namespace Go.Sx
open Go Go.RowKit Go.Proofs
set_option maxRecDepth 100000
set_option maxHeartbeats 40000000
attribute [local irreducible] Code.wp wpList Rd Step ObS Ent
def aY (x : GR) : GQ :=
 bif x.neg then
  (ah (-1))
 else
  (ah 1)
theorem gD (x : GR) (k : Nat) (hk : k ≤ 40) (zx : SzR k x) (w0 : World) : Calls Tryz.prog 210 #[(vR x)] w0 (dr w0 (vQ (aY x)) (SzQ k (aY x))) := by
 refine enter (N := 7) (args := [(vR x)]) Tryz.func210 rfl rfl ?_; intro ac h
 refine gz h <| (xb) fun b1 => (xa) fun b2 => (ai) ?_ ?_ <;> clear h ac <;> intro ac wo h hc1
 ·
  have c1 := bL (-1) k og  og
  have s1 := am (c1 w0)
  have hd : aY x = (ah (-1)) := pt
  refine gz h <| (xk c1) <| (W) ?_; clear h ac wo; intro ac wo h
  exact ret h rfl (.cell (v := (vQ (ah (-1)))) rfl (i := 0) rfl aa27 zz27 rfl rfl rfl .nil) rfl (h.retP (by rw [hd] <;> rfl) (by rw [hd]; exact s1))
 ·
  have c2 := bL 1 k og  og
  have s2 := am (c2 w0)
  have hd : aY x = (ah 1) := pt
  refine gz h <| (xk c2) <| (W) ?_; clear h ac wo; intro ac wo h
  exact ret h rfl (.cell (v := (vQ (ah 1))) rfl (i := 0) rfl aa27 zz27 rfl rfl rfl .nil) rfl (h.retP (by rw [hd] <;> rfl) (by rw [hd]; exact s2))
def dJ (a : GQ) (b : GQ) (r : GQ) : Int :=
 bif ((((au b) * (au r)) == 0) || ((au a) == ((au b) * (au r)))) then
  (au a)
 else
  bif ((au a) == 0) then
   ((au b) * (au r))
  else
   ((au a) * (bo (ak a a) (ak (ak b b) r)))
theorem im (a : GQ) (b : GQ) (r : GQ) (k : Nat) (hk : (k + 8) ≤ 40) (za : SzQ (k + 8) a) (zb : SzQ (k + 8) b) (zr : SzQ (k + 8) r) (w0 : World) : Calls Tryz.prog 211 #[(vQ a), (vQ b), (vQ r)] w0 (dr w0 (.int .i64 (dJ a b r)) ((-1 ≤ (dJ a b r) ∧ (dJ a b r) ≤ 1))) := by
 refine enter (N := 40) (args := [(vQ a), (vQ b), (vQ r)]) Tryz.func211 rfl rfl ?_; intro ac h
 have p2 := am ((cw a) w0)
 have p4 := am ((cw b) w0)
 have p6 := am ((cw r) w0)
 refine gz h <| (xb) fun b1 => (xb) fun b2 => (xb) fun b3 => (dr0 (hob := (oK (cw a)) <| (oK (cw b)) <| (oK (cw r)) <| (oX (h := by exact fun _ => bk (kN rfl rfl (r := ((au b) * (au r))) (by first | (rw [IntKind.wrap_i64]; omega) | exact ij og og)))) <| oE)) <| (ai) ?_ ?_ <;> clear h ac <;> intro ac wo h hc1
 ·
  have hd : dJ a b r = (au a) := pt
  refine gz h <| (W) ?_; clear h ac wo; intro ac wo h
  exact (rt h) (h.retP (by rw [hd] <;> rfl) (by rw [hd]; exact by first | omega | exact eB og og))
 ·
  refine gz h <| (ai) ?_ ?_ <;> clear h ac wo <;> intro ac wo h hc2
  ·
   have hd2 := eq_of_beq hc2
   have hd : dJ a b r = ((au b) * (au r)) := pt
   refine gz h <| (W) ?_; clear h ac wo; intro ac wo h
   exact (rt h) (h.retP (by rw [hd] <;> rfl) (by rw [hd]; exact by first | omega | exact eB og og))
  ·
   have hd2 := ne_of_beq_false hc2
   refine gz h <| (W) ?_; clear h ac wo; intro ac wo h
   have s7 := am ((be a a (k + 6) og za za) w0)
   have s8 := am ((be b b (k + 6) og zb zb) w0)
   have s9 := am ((be (ak b b) r (k + 4) og s8 (cr zr og)) w0)
   have p11 := am ((fP (ak a a) (ak (ak b b) r) (k + 3) og (cr s7 og) s9) w0)
   have hd : dJ a b r = ((au a) * (bo (ak a a) (ak (ak b b) r))) := pt
   refine gz h <| (dr0 (hob := (oK (be a a (k + 6) og za za)) <| (oK (be b b (k + 6) og zb zb)) <| (oK (be (ak b b) r (k + 4) og s8 (cr zr og))) <| (oK (fP (ak a a) (ak (ak b b) r) (k + 3) og (cr s7 og) s9)) <| (oX (h := by exact fun _ => bk (kN rfl rfl (r := ((au a) * (bo (ak a a) (ak (ak b b) r)))) (by first | (rw [IntKind.wrap_i64]; omega) | exact ij og og)))) <| oE)) <| (W) ?_; clear h ac wo; intro ac wo h
   exact (rt h) (h.retP (by rw [hd] <;> rfl) (by rw [hd]; exact by first | omega | exact eB og og))
def aq (x : GR) (y : GR) : Int :=
 bif ((((au (aU (aY y))) * (au y.r)) == 0) || ((dJ (aj x.p y.p) (aY x) x.r) == ((au (aU (aY y))) * (au y.r)))) then
  (dJ (aj x.p y.p) (aY x) x.r)
 else
  bif ((dJ (aj x.p y.p) (aY x) x.r) == 0) then
   ((au (aU (aY y))) * (au y.r))
  else
   ((dJ (aj x.p y.p) (aY x) x.r) * (dJ (aj (az (ak (aj x.p y.p) (aj x.p y.p)) x.r) y.r) (ak (ah 2) (ak (aj x.p y.p) (aY x))) x.r))
theorem dc (x : GR) (y : GR) (k : Nat) (hk : (k + 20) ≤ 40) (zx : SzR (k + 20) x) (zy : SzR (k + 20) y) (w0 : World) : Calls Tryz.prog 127 #[(vR x), (vR y)] w0 (dr w0 (.int .i64 (aq x y)) ((-1 ≤ (aq x y) ∧ (aq x y) ≤ 1))) := by
 refine enter (N := 65) (args := [(vR x), (vR y)]) Tryz.func127 rfl rfl ?_; intro ac h
 have s1 := am ((cd x.p y.p (k + 17) og zx.1 zy.1) w0)
 have s2 := am ((gD x (k + 20) og zx) w0)
 have s3 := am ((gD y (k + 20) og zy) w0)
 have s4 := am ((en (aY y) (k + 20) og s3) w0)
 refine gz h <| (xb) fun b1 => (xb) fun b2 => (W) ?_; clear h ac; intro ac wo h
 replace h := h.emps 3
 refine eP mixed [dv _, dw _ [1], dv _, dw _ [0], dv _, dw _ [1], dv _, dw _ [0], dv _, dv _, ⟨.nd (.one 10 fun v => ∃ b, v = ptr b 0), [2]⟩, ⟨.nd (.one 11 fun v => ∃ b, v = ptr b 0), [3]⟩, ⟨.nd (.one 12 fun v => ∃ b, v = ptr b 0), [4]⟩, ⟨.det undef, [2]⟩, ⟨.det undef, [3]⟩, ⟨.det undef, [4]⟩] [⟨_, []⟩, ⟨_, []⟩, ⟨.emp, [(10, .one 10 fun v => .blk (bq v) (cQ oQ) 27), (13, .one 10 fun v => .blk (bq v) (cQ (aj x.p y.p)) 27)]⟩, ⟨.emp, [(11, .one 11 fun v => .blk (bq v) (cQ oQ) 27), (14, .one 11 fun v => .blk (bq v) (cQ (aY x)) 27)]⟩, ⟨.emp, [(12, .one 12 fun v => .blk (bq v) (cQ oQ) 27), (15, .one 12 fun v => .blk (bq v) (cQ (aU (aY y))) 27)]⟩] h rfl (by kernel_rfl) ⟨fun _ _ => bk (fa uu71 rfl zz27 rfl rfl rfl (k' := 0)), fun _ _ => g8 _ rfl rfl (i6 aa27 zz27 rfl rfl rfl (v := (vQ x.p)) rfl), fun _ _ => bk (fa uu71 rfl zz27 rfl rfl rfl (k' := 0)), fun _ _ => g8 _ rfl rfl (i6 aa27 zz27 rfl rfl rfl (v := (vQ y.p)) rfl), fun _ _ => f9 (fF cc22 rfl (cd x.p y.p (k + 17) og zx.1 zy.1)), fun _ _ => g8 _ rfl rfl (i6 aa71 zz71 rfl rfl rfl (v := (vR x)) rfl), fun _ _ => f9 (fF Tryz.call210 rfl (gD x (k + 20) og zx)), fun _ _ => g8 _ rfl rfl (i6 aa71 zz71 rfl rfl rfl (v := (vR y)) rfl), fun _ _ => f9 (fF Tryz.call210 rfl (gD y (k + 20) og zy)), fun _ _ => f9 (fF Tryz.call63 rfl (en (aY y) (k + 20) og s3)), fun _ _ => nb (ψ := fun v => ∃ b, v = ptr b 0) (B := fun v => [.blk (bq v) (cQ oQ) 27]) [.emp] rfl (fun v _ => by simp only [cH, bA] <;> rfl) (fun v hv => by simpa [DF.one, bA] using hv) (jc (fz vv27 rfl)), fun _ _ => nb (ψ := fun v => ∃ b, v = ptr b 0) (B := fun v => [.blk (bq v) (cQ oQ) 27]) [.emp] rfl (fun v _ => by simp only [cH, bA] <;> rfl) (fun v hv => by simpa [DF.one, bA] using hv) (jc (fz vv27 rfl)), fun _ _ => nb (ψ := fun v => ∃ b, v = ptr b 0) (B := fun v => [.blk (bq v) (cQ oQ) 27]) [.emp] rfl (fun v _ => by simp only [cH, bA] <;> rfl) (fun v hv => by simpa [DF.one, bA] using hv) (jc (fz vv27 rfl)), (fun ξ hφ => by obtain ⟨b3, hb10⟩ := hφ 10 rfl; exact kR [.blk b3 (cQ oQ) 27] [.blk b3 (cQ (aj x.p y.p)) 27] (congrArg (fun v => [Asn.blk (bq v) (cQ oQ) 27]) hb10) (congrArg (fun v => [Asn.blk (bq v) (cQ (aj x.p y.p)) 27]) hb10) (mK zz27 (Eq.trans rfl (congrArg some hb10)) rfl rfl rfl rfl rfl rfl)), (fun ξ hφ => by obtain ⟨b4, hb11⟩ := hφ 11 rfl; exact kR [.blk b4 (cQ oQ) 27] [.blk b4 (cQ (aY x)) 27] (congrArg (fun v => [Asn.blk (bq v) (cQ oQ) 27]) hb11) (congrArg (fun v => [Asn.blk (bq v) (cQ (aY x)) 27]) hb11) (mK zz27 (Eq.trans rfl (congrArg some hb11)) rfl rfl rfl rfl rfl rfl)), (fun ξ hφ => by obtain ⟨b5, hb12⟩ := hφ 12 rfl; exact kR [.blk b5 (cQ oQ) 27] [.blk b5 (cQ (aU (aY y))) 27] (congrArg (fun v => [Asn.blk (bq v) (cQ oQ) 27]) hb12) (congrArg (fun v => [Asn.blk (bq v) (cQ (aU (aY y))) 27]) hb12) (mK zz27 (Eq.trans rfl (congrArg some hb12)) rfl rfl rfl rfl rfl rfl)), trivial⟩ ?_
 clear h ac wo; intro ξ ac wo hφ h
 replace h : St w0 65 [(2, (ptr b1 0)), (3, (ptr b2 0)), (5, ξ 10), (6, ξ 11), (7, ξ 12)] [.blk b2 (cR y) 71, .blk b1 (cR x) 71, .blk (bq (ξ 10)) (cQ (aj x.p y.p)) 27, .blk (bq (ξ 11)) (cQ (aY x)) 27, .blk (bq (ξ 12)) (cQ (aU (aY y))) 27] ac wo := h.sub ⟨rfl, rfl, rfl, rfl, rfl, trivial⟩
 revert h
 obtain ⟨b3, hb10⟩ : ∃ b, ξ 10 = ptr b 0 := hφ 10
 obtain ⟨b4, hb11⟩ : ∃ b, ξ 11 = ptr b 0 := hφ 11
 obtain ⟨b5, hb12⟩ : ∃ b, ξ 12 = ptr b 0 := hφ 12
 rw [hb10, hb11, hb12]; intro h
 clear hb10 hb11 hb12 hφ ξ
 refine gz h <| (W) ?_; clear h ac wo; intro ac wo h
 have p6 := am ((im (aj x.p y.p) (aY x) x.r (k + 9) og s1 (cr s2 og) (eA zx og).2) w0)
 have p8 := am ((cw (aU (aY y))) w0)
 have p10 := am ((cw y.r) w0)
 refine gz h <| (dr0 (hob := (oK (im (aj x.p y.p) (aY x) x.r (k + 9) og s1 (cr s2 og) (eA zx og).2)) <| (oK (cw (aU (aY y)))) <| (oK (cw y.r)) <| (oX (h := by exact fun _ => bk (kN rfl rfl (r := ((au (aU (aY y))) * (au y.r))) (by first | (rw [IntKind.wrap_i64]; omega) | exact ij og og)))) <| oE)) <| (ai) ?_ ?_ <;> clear h ac wo <;> intro ac wo h hc1
 ·
  have hd : aq x y = (dJ (aj x.p y.p) (aY x) x.r) := pt
  refine gz h <| (W) ?_; clear h ac wo; intro ac wo h
  exact (rt h) (h.retP (by rw [hd] <;> rfl) (by rw [hd]; exact by first | omega | exact eB og og))
 ·
  refine gz h <| (ai) ?_ ?_ <;> clear h ac wo <;> intro ac wo h hc2
  ·
   have hd2 := eq_of_beq hc2
   have hd : aq x y = ((au (aU (aY y))) * (au y.r)) := pt
   refine gz h <| (W) ?_; clear h ac wo; intro ac wo h
   exact (rt h) (h.retP (by rw [hd] <;> rfl) (by rw [hd]; exact by first | omega | exact eB og og))
  ·
   have hd2 := ne_of_beq_false hc2
   refine gz h <| (W) ?_; clear h ac wo; intro ac wo h
   have s11 := am ((be (aj x.p y.p) (aj x.p y.p) (k + 15) og s1 s1) w0)
   have s12 := am ((bU (ak (aj x.p y.p) (aj x.p y.p)) x.r (k + 12) og s11 (eA zx og).2) w0)
   have s13 := am ((cd (az (ak (aj x.p y.p) (aj x.p y.p)) x.r) y.r (k + 9) og s12 (eA zy og).2) w0)
   replace h := h.emps 1
   refine eP mixed [dw _ [2], dw _ [2], dv _, dv _, dw _ [1], dv _, dv _, dw _ [0], dv _, ⟨.nd (.one 9 fun v => ∃ b, v = ptr b 0), [5]⟩, ⟨.det undef, [5]⟩] [⟨_, []⟩, ⟨_, []⟩, ⟨_, []⟩, ⟨_, []⟩, ⟨_, []⟩, ⟨.emp, [(9, .one 9 fun v => .blk (bq v) (cQ oQ) 27), (10, .one 9 fun v => .blk (bq v) (cQ (aj (az (ak (aj x.p y.p) (aj x.p y.p)) x.r) y.r)) 27)]⟩] h rfl (by kernel_rfl) ⟨fun _ _ => g8 _ rfl rfl (i6 aa27 zz27 rfl rfl rfl (v := (vQ (aj x.p y.p))) rfl), fun _ _ => g8 _ rfl rfl (i6 aa27 zz27 rfl rfl rfl (v := (vQ (aj x.p y.p))) rfl), fun _ _ => f9 (fF Tryz.call21 rfl (be (aj x.p y.p) (aj x.p y.p) (k + 15) og s1 s1)), fun _ _ => bk (fa uu71 rfl zz27 rfl rfl rfl (k' := 4)), fun _ _ => g8 _ rfl rfl (i6 aa27 zz27 rfl rfl rfl (v := (vQ x.r)) rfl), fun _ _ => f9 (fF Tryz.call20 rfl (bU (ak (aj x.p y.p) (aj x.p y.p)) x.r (k + 12) og s11 (eA zx og).2)), fun _ _ => bk (fa uu71 rfl zz27 rfl rfl rfl (k' := 4)), fun _ _ => g8 _ rfl rfl (i6 aa27 zz27 rfl rfl rfl (v := (vQ y.r)) rfl), fun _ _ => f9 (fF cc22 rfl (cd (az (ak (aj x.p y.p) (aj x.p y.p)) x.r) y.r (k + 9) og s12 (eA zy og).2)), fun _ _ => nb (ψ := fun v => ∃ b, v = ptr b 0) (B := fun v => [.blk (bq v) (cQ oQ) 27]) [.emp] rfl (fun v _ => by simp only [cH, bA] <;> rfl) (fun v hv => by simpa [DF.one, bA] using hv) (jc (fz vv27 rfl)), (fun ξ hφ => by obtain ⟨b6, hb9⟩ := hφ 9 rfl; exact kR [.blk b6 (cQ oQ) 27] [.blk b6 (cQ (aj (az (ak (aj x.p y.p) (aj x.p y.p)) x.r) y.r)) 27] (congrArg (fun v => [Asn.blk (bq v) (cQ oQ) 27]) hb9) (congrArg (fun v => [Asn.blk (bq v) (cQ (aj (az (ak (aj x.p y.p) (aj x.p y.p)) x.r) y.r)) 27]) hb9) (mK zz27 (Eq.trans rfl (congrArg some hb9)) rfl rfl rfl rfl rfl rfl)), trivial⟩ ?_
   clear h ac wo; intro ξ ac wo hφ h
   replace h : St w0 65 [(2, (ptr b1 0)), (5, (ptr b3 0)), (6, (ptr b4 0)), (8, (.int .i64 (dJ (aj x.p y.p) (aY x) x.r))), (10, ξ 9)] [.blk b2 (cR y) 71, .blk b1 (cR x) 71, .blk b3 (cQ (aj x.p y.p)) 27, .blk b4 (cQ (aY x)) 27, .blk b5 (cQ (aU (aY y))) 27, .blk (bq (ξ 9)) (cQ (aj (az (ak (aj x.p y.p) (aj x.p y.p)) x.r) y.r)) 27] ac wo := h.sub ⟨rfl, rfl, rfl, rfl, rfl, trivial⟩
   revert h
   obtain ⟨b6, hb9⟩ : ∃ b, ξ 9 = ptr b 0 := hφ 9
   rw [hb9]; intro h
   clear hb9 hφ ξ
   refine gz h <| (W) ?_; clear h ac wo; intro ac wo h
   have s14 := am ((bL 2 (k + 20) og  og) w0)
   have s15 := am ((be (aj x.p y.p) (aY x) (k + 15) og s1 (cr s2 og)) w0)
   have s16 := am ((be (ah 2) (ak (aj x.p y.p) (aY x)) (k + 13) og (cr s14 og) s15) w0)
   have p18 := am ((im (aj (az (ak (aj x.p y.p) (aj x.p y.p)) x.r) y.r) (ak (ah 2) (ak (aj x.p y.p) (aY x))) x.r (k + 1) og s13 (cr s16 og) (eA zx og).2) w0)
   have hd : aq x y = ((dJ (aj x.p y.p) (aY x) x.r) * (dJ (aj (az (ak (aj x.p y.p) (aj x.p y.p)) x.r) y.r) (ak (ah 2) (ak (aj x.p y.p) (aY x))) x.r)) := pt
   refine gz h <| (dr0 (hob := (oK (bL 2 (k + 20) og  og)) <| (oK (be (aj x.p y.p) (aY x) (k + 15) og s1 (cr s2 og))) <| (oK (be (ah 2) (ak (aj x.p y.p) (aY x)) (k + 13) og (cr s14 og) s15)) <| (oK (im (aj (az (ak (aj x.p y.p) (aj x.p y.p)) x.r) y.r) (ak (ah 2) (ak (aj x.p y.p) (aY x))) x.r (k + 1) og s13 (cr s16 og) (eA zx og).2)) <| (oX (h := by exact fun _ => bk (kN rfl rfl (r := ((dJ (aj x.p y.p) (aY x) x.r) * (dJ (aj (az (ak (aj x.p y.p) (aj x.p y.p)) x.r) y.r) (ak (ah 2) (ak (aj x.p y.p) (aY x))) x.r))) (by first | (rw [IntKind.wrap_i64]; omega) | exact ij og og)))) <| oE)) <| (W) ?_; clear h ac wo; intro ac wo h
   exact (rt h) (h.retP (by rw [hd] <;> rfl) (by rw [hd]; exact by first | omega | exact eB og og))
def aP (n : Int) : GR :=
 (⟨(ah n), (⟨(⟨false, 0⟩ : GI), (⟨false, 0⟩ : GI)⟩ : GQ), false⟩ : GR)
theorem l9 (n : Int) (k : Nat) (hk : k ≤ 40) (hn : -9223372036854775808 ≤ n ∧ n ≤ 9223372036854775807) (w0 : World) : Calls Tryz.prog 86 #[(.int .i64 n)] w0 (dr w0 (vR (aP n)) (SzR k (aP n))) := by
 refine enter (N := 6) (args := [(.int .i64 n)]) Tryz.func86 rfl rfl ?_; intro ac h
 have c1 := bL n k og  og
 have s1 := am (c1 w0)
 refine gz h <| (xa) fun b1 => (xk c1) <| (xo (hs := by exact bD sQ exs rfl (v := (vR (⟨(ah n), oQ, false⟩ : GR))) rfl)) <| (W) ?_; clear h ac; intro ac wo h
 exact ret h rfl (.cell (v := (vR (⟨(ah n), oQ, false⟩ : GR))) rfl (i := 0) rfl aa71 zz71 rfl rfl rfl .nil) rfl (h.retP (by unfold aP; rfl) (by unfold aP; exact ⟨s1, ⟨(cp 0 (by decide) og), (cp 0 (by decide) og)⟩⟩))
def ap (r : GQ) : GR :=
 (⟨r, (⟨(⟨false, 0⟩ : GI), (⟨false, 0⟩ : GI)⟩ : GQ), false⟩ : GR)
theorem dy (r : GQ) (k : Nat) (hk : k ≤ 40) (zr : SzQ k r) (w0 : World) : Calls Tryz.prog 88 #[(vQ r)] w0 (dr w0 (vR (ap r)) (SzR k (ap r))) := by
 refine enter (N := 5) (args := [(vQ r)]) Tryz.func88 rfl rfl ?_; intro ac h
 refine gz h <| (xb) fun b1 => (xa) fun b2 => (xo (hs := by exact bD sQ exs rfl (v := (vR (⟨r, oQ, false⟩ : GR))) rfl)) <| (W) ?_; clear h ac; intro ac wo h
 exact ret h rfl (.cell (v := (vR (⟨r, oQ, false⟩ : GR))) rfl (i := 0) rfl aa71 zz71 rfl rfl rfl .nil) rfl (h.retP (by unfold ap; rfl) (by unfold ap; exact ⟨zr, ⟨(cp 0 (by decide) og), (cp 0 (by decide) og)⟩⟩))
def aR (c0 : GQ) (c1 : GQ) : Qd :=
 (⟨c0, c1, (⟨(⟨false, 0⟩ : GI), (⟨false, 0⟩ : GI)⟩ : GQ)⟩ : Qd)
theorem ce (c0 : GQ) (c1 : GQ) (k : Nat) (hk : k ≤ 40) (zc0 : SzQ k c0) (zc1 : SzQ k c1) (w0 : World) : Calls Tryz.prog 107 #[(vQ c0), (vQ c1)] w0 (dr w0 (vD (aR c0 c1)) (SzD k (aR c0 c1))) := by
 refine enter (N := 8) (args := [(vQ c0), (vQ c1)]) Tryz.func107 rfl rfl ?_; intro ac h
 refine gz h <| (xb) fun b1 => (xb) fun b2 => (xa) fun b3 => (xo (hs := by exact bD vk exs rfl (v := (vD (⟨c0, c1, oQ⟩ : Qd))) rfl)) <| (W) ?_; clear h ac; intro ac wo h
 exact ret h rfl (.cell (v := (vD (⟨c0, c1, oQ⟩ : Qd))) rfl (i := 0) rfl aa53 zz53 rfl rfl rfl .nil) rfl (h.retP (by unfold aR; rfl) (by unfold aR; exact ⟨zc0, zc1, ⟨(cp 0 (by decide) og), (cp 0 (by decide) og)⟩⟩))
def aX (q : Qd) (t : GQ) : GQ :=
 (az q.c0 (ak t (az q.c1 (ak t q.c2))))
theorem iD (q : Qd) (t : GQ) (k : Nat) (hk : (k + 10) ≤ 40) (zq : SzD (k + 10) q) (zt : SzQ (k + 10) t) (w0 : World) : Calls Tryz.prog 101 #[(vD q), (vQ t)] w0 (dr w0 (vQ (aX q t)) (SzQ k (aX q t))) := by
 refine enter (N := 17) (args := [(vD q), (vQ t)]) Tryz.func101 rfl rfl ?_; intro ac h
 have s1 := am ((be t q.c2 (k + 8) og zt zq.2.2) w0)
 have s2 := am ((bU q.c1 (ak t q.c2) (k + 5) og (jF zq og).2.1 s1) w0)
 have s3 := am ((be t (az q.c1 (ak t q.c2)) (k + 3) og (cr zt og) s2) w0)
 have s4 := am ((bU q.c0 (ak t (az q.c1 (ak t q.c2))) k og (jF zq og).1 s3) w0)
 refine gz h <| (xb) fun b1 => (xb) fun b2 => (xa) fun b3 => (dr1 (H := [⟨.blk b3 (cQ oQ) 27, [(12, .con (.blk b3 (cQ (az q.c0 (ak t (az q.c1 (ak t q.c2))))) 27))]⟩, ⟨_, []⟩, ⟨_, []⟩]) (hob := (oK (be t q.c2 (k + 8) og zt zq.2.2)) <| (oK (bU q.c1 (ak t q.c2) (k + 5) og (jF zq og).2.1 s1)) <| (oK (be t (az q.c1 (ak t q.c2)) (k + 3) og (cr zt og) s2)) <| (oK (bU q.c0 (ak t (az q.c1 (ak t q.c2))) k og (jF zq og).1 s3)) <| oE)) <| (W) ?_; clear h ac; intro ac wo h
 exact ret h rfl (.cell (v := (vQ (az q.c0 (ak t (az q.c1 (ak t q.c2)))))) rfl (i := 0) rfl aa27 zz27 rfl rfl rfl .nil) rfl (h.retP (by unfold aX; rfl) (by unfold aX; exact s4))
def aW (q : Qd) (t : GQ) : GQ :=
 (az q.c1 (ak (az q.c2 q.c2) t))
theorem fU (q : Qd) (t : GQ) (k : Nat) (hk : (k + 8) ≤ 40) (zq : SzD (k + 8) q) (zt : SzQ (k + 8) t) (w0 : World) : Calls Tryz.prog 213 #[(vD q), (vQ t)] w0 (dr w0 (vQ (aW q t)) (SzQ k (aW q t))) := by
 refine enter (N := 15) (args := [(vD q), (vQ t)]) Tryz.func213 rfl rfl ?_; intro ac h
 have s1 := am ((bU q.c2 q.c2 (k + 5) og zq.2.2 zq.2.2) w0)
 have s2 := am ((be (az q.c2 q.c2) t (k + 3) og s1 (cr zt og)) w0)
 have s3 := am ((bU q.c1 (ak (az q.c2 q.c2) t) k og (jF zq og).2.1 s2) w0)
 refine gz h <| (xb) fun b1 => (xb) fun b2 => (xa) fun b3 => (dr1 (H := [⟨.blk b3 (cQ oQ) 27, [(10, .con (.blk b3 (cQ (az q.c1 (ak (az q.c2 q.c2) t))) 27))]⟩, ⟨_, []⟩, ⟨_, []⟩]) (hob := (oK (bU q.c2 q.c2 (k + 5) og zq.2.2 zq.2.2)) <| (oK (be (az q.c2 q.c2) t (k + 3) og s1 (cr zt og))) <| (oK (bU q.c1 (ak (az q.c2 q.c2) t) k og (jF zq og).2.1 s2)) <| oE)) <| (W) ?_; clear h ac; intro ac wo h
 exact ret h rfl (.cell (v := (vQ (az q.c1 (ak (az q.c2 q.c2) t)))) rfl (i := 0) rfl aa27 zz27 rfl rfl rfl .nil) rfl (h.retP (by unfold aW; rfl) (by unfold aW; exact s3))
def dg (p : Qd) (q : Qd) : Qd :=
 (⟨(aj p.c0 q.c0), (aj p.c1 q.c1), (aj p.c2 q.c2)⟩ : Qd)
theorem i7 (p : Qd) (q : Qd) (k : Nat) (hk : (k + 3) ≤ 40) (zp : SzD (k + 3) p) (zq : SzD (k + 3) q) (w0 : World) : Calls Tryz.prog 131 #[(vD p), (vD q)] w0 (dr w0 (vD (dg p q)) (SzD k (dg p q))) := by
 refine enter (N := 21) (args := [(vD p), (vD q)]) Tryz.func131 rfl rfl ?_; intro ac h
 have s1 := am ((cd p.c0 q.c0 k og zp.1 zq.1) w0)
 have s2 := am ((cd p.c1 q.c1 k og zp.2.1 zq.2.1) w0)
 have s3 := am ((cd p.c2 q.c2 k og zp.2.2 zq.2.2) w0)
 refine gz h <| (xb) fun b1 => (xb) fun b2 => (xa) fun b3 => (dr1 (H := [⟨.blk b3 (cD oD) 53, [(16, .con (.blk b3 (cD (⟨(aj p.c0 q.c0), (aj p.c1 q.c1), (aj p.c2 q.c2)⟩ : Qd)) 53))]⟩, ⟨_, []⟩, ⟨_, []⟩]) (hob := (oK (cd p.c0 q.c0 k og zp.1 zq.1)) <| (oK (cd p.c1 q.c1 k og zp.2.1 zq.2.1)) <| (oK (cd p.c2 q.c2 k og zp.2.2 zq.2.2)) <| (oX (h := by exact fun _ => bk (bD vk exs rfl (v := (vD (⟨(aj p.c0 q.c0), (aj p.c1 q.c1), (aj p.c2 q.c2)⟩ : Qd))) rfl))) <| oE)) <| (W) ?_; clear h ac; intro ac wo h
 exact ret h rfl (.cell (v := (vD (⟨(aj p.c0 q.c0), (aj p.c1 q.c1), (aj p.c2 q.c2)⟩ : Qd))) rfl (i := 0) rfl aa53 zz53 rfl rfl rfl .nil) rfl (h.retP (by unfold dg; rfl) (by unfold dg; exact ⟨s1, s2, s3⟩))
def df (x : GR) : GQ × Bool :=
 bif (!(decide (x.r = (⟨(⟨false, 0⟩ : GI), (⟨false, 0⟩ : GI)⟩ : GQ)))) then
  ((⟨(⟨false, 0⟩ : GI), (⟨false, 0⟩ : GI)⟩ : GQ), false)
 else
  (x.p, true)
theorem lA (x : GR) (k : Nat) (hk : k ≤ 40) (zx : SzR k x) (w0 : World) : Calls Tryz.prog 212 #[(vR x)] w0 (dr w0 (.tuple #[(vQ ((df x).1)), (.bool ((df x).2))]) (SzQ k ((df x).1))) := by
 refine enter (N := 11) (args := [(vR x)]) Tryz.func212 rfl rfl ?_; intro ac h
 refine gz h <| (xb) fun b1 => (xa) fun b2 => (xo (hs := by exact bD mB exs rfl (v := (vQ oQ)) rfl)) <| (ai) ?_ ?_ <;> clear h ac <;> intro ac wo h hc1
 ·
  have hd : df x = (oQ, false) := pt
  refine gz h <| (xo (hs := by exact bD mB exs rfl (v := (vQ oQ)) rfl)) <| (W) ?_; clear h ac wo; intro ac wo h
  exact ret h rfl (.cell (v := (vQ oQ)) rfl (i := 0) rfl aa27 zz27 rfl rfl rfl (.tmp rfl .nil)) rfl (h.retP (by rw [hd] <;> rfl) (by rw [hd]; exact ⟨(cp 0 (by decide) og), (cp 0 (by decide) og)⟩))
 ·
  have hd : df x = (x.p, true) := pt
  refine gz h <| (W) ?_; clear h ac wo; intro ac wo h
  exact ret h rfl (.cell (v := (vQ x.p)) rfl (i := 0) rfl aa27 zz27 rfl rfl rfl (.tmp rfl .nil)) rfl (h.retP (by rw [hd] <;> rfl) (by rw [hd]; exact zx.1))
def aN (q : Qd) (t : GR) : Qd :=
 bif (df t).2 then
  (aA (aX q ((df t).1)))
 else
  (aR (az q.c0 (ak q.c2 (aj t.r (ak t.p t.p)))) (aW q t.p))
theorem es (q : Qd) (t : GR) (k : Nat) (hk : (k + 10) ≤ 40) (zq : SzD (k + 10) q) (zt : SzR (k + 10) t) (w0 : World) : Calls Tryz.prog 130 #[(vD q), (vR t)] w0 (dr w0 (vD (aN q t)) (SzD k (aN q t))) := by
 refine enter (N := 38) (args := [(vD q), (vR t)]) Tryz.func130 rfl rfl ?_; intro ac h
 have c1 := lA t (k + 10) og zt
 have s1 := am (c1 w0)
 refine gz h <| (xb) fun b1 => (xb) fun b2 => (xa) fun b3 => (xk c1) <| (xa) fun b4 => (ai) ?_ ?_ <;> clear h ac <;> intro ac wo h hc1
 ·
  have c2 := iD q ((df t).1) k og zq s1
  have s2 := am (c2 w0)
  have c3 := jj (aX q ((df t).1)) k og s2
  have s3 := am (c3 w0)
  have hd : aN q t = (aA (aX q ((df t).1))) := pt
  refine gz h <| (xk c2) <| (xk c3) <| (W) ?_; clear h ac wo; intro ac wo h
  exact ret h rfl (.cell (v := (vD (aA (aX q ((df t).1))))) rfl (i := 1) rfl aa53 zz53 rfl rfl rfl .nil) rfl (h.retP (by rw [hd] <;> rfl) (by rw [hd]; exact s3))
 ·
  refine gz h <| (W) ?_; clear h ac wo; intro ac wo h
  have s4 := am ((be t.p t.p (k + 8) og zt.1 zt.1) w0)
  have s5 := am ((cd t.r (ak t.p t.p) (k + 5) og (eA zt og).2 s4) w0)
  replace h := h.emps 1
  refine eP mixed [dv _, dw _ [2], dv _, dw _ [2], dv _, dw _ [2], dv _, dv _, ⟨.nd (.one 8 fun v => ∃ b, v = ptr b 0), [4]⟩, ⟨.det undef, [4]⟩] [⟨_, []⟩, ⟨_, []⟩, ⟨_, []⟩, ⟨_, []⟩, ⟨.emp, [(8, .one 8 fun v => .blk (bq v) (cQ oQ) 27), (9, .one 8 fun v => .blk (bq v) (cQ (aj t.r (ak t.p t.p))) 27)]⟩] h rfl (by kernel_rfl) ⟨fun _ _ => bk (fa uu71 rfl zz27 rfl rfl rfl (k' := 4)), fun _ _ => g8 _ rfl rfl (i6 aa27 zz27 rfl rfl rfl (v := (vQ t.r)) rfl), fun _ _ => bk (fa uu71 rfl zz27 rfl rfl rfl (k' := 0)), fun _ _ => g8 _ rfl rfl (i6 aa27 zz27 rfl rfl rfl (v := (vQ t.p)) rfl), fun _ _ => bk (fa uu71 rfl zz27 rfl rfl rfl (k' := 0)), fun _ _ => g8 _ rfl rfl (i6 aa27 zz27 rfl rfl rfl (v := (vQ t.p)) rfl), fun _ _ => f9 (fF Tryz.call21 rfl (be t.p t.p (k + 8) og zt.1 zt.1)), fun _ _ => f9 (fF cc22 rfl (cd t.r (ak t.p t.p) (k + 5) og (eA zt og).2 s4)), fun _ _ => nb (ψ := fun v => ∃ b, v = ptr b 0) (B := fun v => [.blk (bq v) (cQ oQ) 27]) [.emp] rfl (fun v _ => by simp only [cH, bA] <;> rfl) (fun v hv => by simpa [DF.one, bA] using hv) (jc (fz vv27 rfl)), (fun ξ hφ => by obtain ⟨b5, hb8⟩ := hφ 8 rfl; exact kR [.blk b5 (cQ oQ) 27] [.blk b5 (cQ (aj t.r (ak t.p t.p))) 27] (congrArg (fun v => [Asn.blk (bq v) (cQ oQ) 27]) hb8) (congrArg (fun v => [Asn.blk (bq v) (cQ (aj t.r (ak t.p t.p))) 27]) hb8) (mK zz27 (Eq.trans rfl (congrArg some hb8)) rfl rfl rfl rfl rfl rfl)), trivial⟩ ?_
  clear h ac wo; intro ξ ac wo hφ h
  replace h : St w0 38 [(2, (ptr b1 0)), (3, (ptr b2 0)), (4, (ptr b3 0)), (7, ξ 8)] [.blk b4 (cQ ((df t).1)) 27, .blk b3 (cD oD) 53, .blk b2 (cR t) 71, .blk b1 (cD q) 53, .blk (bq (ξ 8)) (cQ (aj t.r (ak t.p t.p))) 27] ac wo := h.sub ⟨rfl, rfl, rfl, rfl, trivial⟩
  revert h
  obtain ⟨b5, hb8⟩ : ∃ b, ξ 8 = ptr b 0 := hφ 8
  rw [hb8]; intro h
  clear hb8 hφ ξ
  refine gz h <| (W) ?_; clear h ac wo; intro ac wo h
  have s6 := am ((be q.c2 (aj t.r (ak t.p t.p)) (k + 3) og (jF zq og).2.2 s5) w0)
  have s7 := am ((bU q.c0 (ak q.c2 (aj t.r (ak t.p t.p))) k og (jF zq og).1 s6) w0)
  have s8 := am ((fU q t.p (k + 2) og zq zt.1) w0)
  have s9 := am ((ce (az q.c0 (ak q.c2 (aj t.r (ak t.p t.p)))) (aW q t.p) k og s7 (cr s8 og)) w0)
  have hd : aN q t = (aR (az q.c0 (ak q.c2 (aj t.r (ak t.p t.p)))) (aW q t.p)) := pt
  refine gz h <| (dr1 (H := [⟨_, []⟩, ⟨.blk b3 (cD oD) 53, [(12, .con (.blk b3 (cD (aR (az q.c0 (ak q.c2 (aj t.r (ak t.p t.p)))) (aW q t.p))) 53))]⟩, ⟨_, []⟩, ⟨_, []⟩, ⟨_, []⟩]) (hob := (oK (be q.c2 (aj t.r (ak t.p t.p)) (k + 3) og (jF zq og).2.2 s5)) <| (oK (bU q.c0 (ak q.c2 (aj t.r (ak t.p t.p))) k og (jF zq og).1 s6)) <| (oK (fU q t.p (k + 2) og zq zt.1)) <| (oK (ce (az q.c0 (ak q.c2 (aj t.r (ak t.p t.p)))) (aW q t.p) k og s7 (cr s8 og))) <| oE)) <| (W) ?_; clear h ac wo; intro ac wo h
  exact ret h rfl (.cell (v := (vD (aR (az q.c0 (ak q.c2 (aj t.r (ak t.p t.p)))) (aW q t.p)))) rfl (i := 1) rfl aa53 zz53 rfl rfl rfl .nil) rfl (h.retP (by rw [hd] <;> rfl) (by rw [hd]; exact s9))
def d9 (p : Qd) (q : Qd) (t : GR) : Bool :=
 (decide ((aN (dg p q) t) = (⟨(⟨(⟨false, 0⟩ : GI), (⟨false, 0⟩ : GI)⟩ : GQ), (⟨(⟨false, 0⟩ : GI), (⟨false, 0⟩ : GI)⟩ : GQ), (⟨(⟨false, 0⟩ : GI), (⟨false, 0⟩ : GI)⟩ : GQ)⟩ : Qd)))
theorem fq (p : Qd) (q : Qd) (t : GR) (k : Nat) (hk : (k + 14) ≤ 40) (zp : SzD (k + 14) p) (zq : SzD (k + 14) q) (zt : SzR (k + 14) t) (w0 : World) : Calls Tryz.prog 39 #[(vD p), (vD q), (vR t)] w0 (dr w0 (.bool (d9 p q t)) (True)) := by
 refine enter (N := 14) (args := [(vD p), (vD q), (vR t)]) Tryz.func39 rfl rfl ?_; intro ac h
 have s1 := am ((i7 p q (k + 11) og zp zq) w0)
 have s2 := am ((es (dg p q) t (k + 1) og s1 (eA zt og)) w0)
 refine gz h <| (xb) fun b1 => (xb) fun b2 => (xb) fun b3 => (dr0 (hob := (oK (i7 p q (k + 11) og zp zq)) <| (oK (es (dg p q) t (k + 1) og s1 (eA zt og))) <| (oX (h := by exact fun _ => bk (bD vk exs rfl (v := (vD oD)) rfl))) <| oE)) <| (W) ?_; clear h ac; intro ac wo h
 exact (rt h) (h.retP (by unfold d9; rfl) trivial)
def ed (a : Iv) (b : Iv) : Bool :=
 ((decide ((aq a.hi b.lo) < 0)) || (((aq a.hi b.lo) == 0) && (a.openHi || b.openLo)))
theorem me (a : Iv) (b : Iv) (k : Nat) (hk : (k + 20) ≤ 40) (za : SzV (k + 20) a) (zb : SzV (k + 20) b) (w0 : World) : Calls Tryz.prog 118 #[(vV a), (vV b)] w0 (dr w0 (.bool (ed a b)) (True)) := by
 refine enter (N := 25) (args := [(vV a), (vV b)]) Tryz.func118 rfl rfl ?_; intro ac h
 have p2 := am ((dc a.hi b.lo k og za.2 zb.1) w0)
 refine gz h <| (xb) fun b1 => (xb) fun b2 => (xk (dc a.hi b.lo k og za.2 zb.1)) <| (W) ?_; clear h ac; intro ac wo h
 exact (rt h) (h.retP (by unfold ed; rfl) trivial)
def aZ (i : Iv) : Bool :=
 (decide (i.lo = i.hi))
theorem dR (i : Iv) (w0 : World) : Calls Tryz.prog 150 #[(vV i)] w0 (dr w0 (.bool (aZ i)) (True)) := by
 refine enter (N := 8) (args := [(vV i)]) Tryz.func150 rfl rfl ?_; intro ac h
 refine gz h <| (xb) fun b1 => (W) ?_; clear h ac; intro ac wo h
 exact (rt h) (h.retP (by unfold aZ; rfl) trivial)
end Go.Sx
