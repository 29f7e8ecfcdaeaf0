/- A part of the proof of movingpointLong. -/
import Derived.Test.YtbenbmdkhcfcfaaGreatDoorProg
import Derived.Test.YtbenbmdkhcfcfaaGreatDoorB4
set_option linter.unusedVariables false
set_option linter.unusedSimpArgs false
open Go.Proofs.Tryz renaming isAgg27 → aa27, sizeOf27 → zz27, runUnderlying71 → uu71, call22 → cc22, isAgg71 → aa71, sizeOf71 → zz71, zeroValue27 → vv27, isAgg53 → aa53, sizeOf53 → zz53
namespace Go.Sx
open Go Go.RowKit Go.Proofs
set_option maxRecDepth 100000
set_option maxHeartbeats 40000000
attribute [local irreducible] Code.wp wpList Rd Step ObS Ent
def aX (x : GR) : GQ :=
 bif x.neg then
  (am (-1))
 else
  (am 1)
theorem gA (x : GR) (k : Nat) (hk : k ≤ 40) (zx : SzR k x) (w0 : World) : Calls Tryz.prog 210 #[(vR x)] w0 (dH w0 (vQ (aX x)) (SzQ k (aX x))) := by
 refine enter (N := 7) (args := [(vR x)]) Tryz.func210 rfl rfl ?_; intro ac h
 refine gz h <| (xb) fun b1 => (xa) fun b2 => (ai) ?_ ?_ <;> clear h ac <;> intro ac wo h hc1
 ·
  have c1 := bV (-1) k og  og
  have s1 := an (c1 w0)
  have hd : aX x = (am (-1)) := pt
  refine gz h <| (xk c1) <| (W) ?_; clear h ac wo; intro ac wo h
  exact ret h rfl (.cell (v := (vQ (am (-1)))) rfl (i := 0) rfl aa27 zz27 rfl rfl rfl .nil) rfl (h.retP (by rw [hd] <;> rfl) (by rw [hd]; exact s1))
 ·
  have c2 := bV 1 k og  og
  have s2 := an (c2 w0)
  have hd : aX x = (am 1) := pt
  refine gz h <| (xk c2) <| (W) ?_; clear h ac wo; intro ac wo h
  exact ret h rfl (.cell (v := (vQ (am 1))) rfl (i := 0) rfl aa27 zz27 rfl rfl rfl .nil) rfl (h.retP (by rw [hd] <;> rfl) (by rw [hd]; exact s2))
def dp (a : GQ) (b : GQ) (r : GQ) : Int :=
 bif ((((au b) * (au r)) == 0) || ((au a) == ((au b) * (au r)))) then
  (au a)
 else
  bif ((au a) == 0) then
   ((au b) * (au r))
  else
   ((au a) * (aY (ak a a) (ak (ak b b) r)))
theorem iq (a : GQ) (b : GQ) (r : GQ) (k : Nat) (hk : (k + 8) ≤ 40) (za : SzQ (k + 8) a) (zb : SzQ (k + 8) b) (zr : SzQ (k + 8) r) (w0 : World) : Calls Tryz.prog 211 #[(vQ a), (vQ b), (vQ r)] w0 (dH w0 (.int .i64 (dp a b r)) ((-1 ≤ (dp a b r) ∧ (dp a b r) ≤ 1))) := by
 refine enter (N := 40) (args := [(vQ a), (vQ b), (vQ r)]) Tryz.func211 rfl rfl ?_; intro ac h
 have p2 := an ((ce a) w0)
 have p4 := an ((ce b) w0)
 have p6 := an ((ce r) w0)
 refine gz h <| (xb) fun b1 => (xb) fun b2 => (xb) fun b3 => (dr0 (hob := (oK (ce a)) <| (oK (ce b)) <| (oK (ce r)) <| (oX (h := by exact fun _ => bm (jc rfl rfl (r := ((au b) * (au r))) (by first | (rw [IntKind.wrap_i64]; omega) | exact fL og og)))) <| oE)) <| (ai) ?_ ?_ <;> clear h ac <;> intro ac wo h hc1
 ·
  have hd : dp a b r = (au a) := pt
  refine gz h <| (W) ?_; clear h ac wo; intro ac wo h
  exact (rt h) (h.retP (by rw [hd] <;> rfl) (by rw [hd]; exact by first | omega | exact em og og))
 ·
  refine gz h <| (ai) ?_ ?_ <;> clear h ac wo <;> intro ac wo h hc2
  ·
   have hd2 := eq_of_beq hc2
   have hd : dp a b r = ((au b) * (au r)) := pt
   refine gz h <| (W) ?_; clear h ac wo; intro ac wo h
   exact (rt h) (h.retP (by rw [hd] <;> rfl) (by rw [hd]; exact by first | omega | exact em og og))
  ·
   have hd2 := ne_of_beq_false hc2
   refine gz h <| (W) ?_; clear h ac wo; intro ac wo h
   have s7 := an ((be a a (k + 6) og za za) w0)
   have s8 := an ((be b b (k + 6) og zb zb) w0)
   have s9 := an ((be (ak b b) r (k + 4) og s8 (cv zr og)) w0)
   have p11 := an ((fQ (ak a a) (ak (ak b b) r) (k + 3) og (cv s7 og) s9) w0)
   have hd : dp a b r = ((au a) * (aY (ak a a) (ak (ak b b) r))) := pt
   refine gz h <| (dr0 (hob := (oK (be a a (k + 6) og za za)) <| (oK (be b b (k + 6) og zb zb)) <| (oK (be (ak b b) r (k + 4) og s8 (cv zr og))) <| (oK (fQ (ak a a) (ak (ak b b) r) (k + 3) og (cv s7 og) s9)) <| (oX (h := by exact fun _ => bm (jc rfl rfl (r := ((au a) * (aY (ak a a) (ak (ak b b) r)))) (by first | (rw [IntKind.wrap_i64]; omega) | exact fL og og)))) <| oE)) <| (W) ?_; clear h ac wo; intro ac wo h
   exact (rt h) (h.retP (by rw [hd] <;> rfl) (by rw [hd]; exact by first | omega | exact em og og))
def ar (x : GR) (y : GR) : Int :=
 bif ((((au (aU (aX y))) * (au y.r)) == 0) || ((dp (aj x.p y.p) (aX x) x.r) == ((au (aU (aX y))) * (au y.r)))) then
  (dp (aj x.p y.p) (aX x) x.r)
 else
  bif ((dp (aj x.p y.p) (aX x) x.r) == 0) then
   ((au (aU (aX y))) * (au y.r))
  else
   ((dp (aj x.p y.p) (aX x) x.r) * (dp (aj (ax (ak (aj x.p y.p) (aj x.p y.p)) x.r) y.r) (ak (am 2) (ak (aj x.p y.p) (aX x))) x.r))
theorem dP (x : GR) (y : GR) (k : Nat) (hk : (k + 20) ≤ 40) (zx : SzR (k + 20) x) (zy : SzR (k + 20) y) (w0 : World) : Calls Tryz.prog 127 #[(vR x), (vR y)] w0 (dH w0 (.int .i64 (ar x y)) ((-1 ≤ (ar x y) ∧ (ar x y) ≤ 1))) := by
 refine enter (N := 65) (args := [(vR x), (vR y)]) Tryz.func127 rfl rfl ?_; intro ac h
 have s1 := an ((bU x.p y.p (k + 17) og zx.1 zy.1) w0)
 have s2 := an ((gA x (k + 20) og zx) w0)
 have s3 := an ((gA y (k + 20) og zy) w0)
 have s4 := an ((d4 (aX y) (k + 20) og s3) w0)
 refine gz h <| (xb) fun b1 => (xb) fun b2 => (W) ?_; clear h ac; intro ac wo h
 replace h := h.emps 3
 refine fK mixed [dv _, dw _ [1], dv _, dw _ [0], dv _, dw _ [1], dv _, dw _ [0], dv _, dv _, ⟨.nd (.one 10 fun v => ∃ b, v = ptr b 0), [2]⟩, ⟨.nd (.one 11 fun v => ∃ b, v = ptr b 0), [3]⟩, ⟨.nd (.one 12 fun v => ∃ b, v = ptr b 0), [4]⟩, ⟨.det undef, [2]⟩, ⟨.det undef, [3]⟩, ⟨.det undef, [4]⟩] [⟨_, []⟩, ⟨_, []⟩, ⟨.emp, [(10, .one 10 fun v => .blk (bF v) (cQ oQ) 27), (13, .one 10 fun v => .blk (bF v) (cQ (aj x.p y.p)) 27)]⟩, ⟨.emp, [(11, .one 11 fun v => .blk (bF v) (cQ oQ) 27), (14, .one 11 fun v => .blk (bF v) (cQ (aX x)) 27)]⟩, ⟨.emp, [(12, .one 12 fun v => .blk (bF v) (cQ oQ) 27), (15, .one 12 fun v => .blk (bF v) (cQ (aU (aX y))) 27)]⟩] h rfl (by kernel_rfl) ⟨fun _ _ => bm (fa uu71 rfl zz27 rfl rfl rfl (k' := 0)), fun _ _ => g9 _ rfl rfl (i0 aa27 zz27 rfl rfl rfl (v := (vQ x.p)) rfl), fun _ _ => bm (fa uu71 rfl zz27 rfl rfl rfl (k' := 0)), fun _ _ => g9 _ rfl rfl (i0 aa27 zz27 rfl rfl rfl (v := (vQ y.p)) rfl), fun _ _ => iS (iE cc22 rfl (bU x.p y.p (k + 17) og zx.1 zy.1)), fun _ _ => g9 _ rfl rfl (i0 aa71 zz71 rfl rfl rfl (v := (vR x)) rfl), fun _ _ => iS (iE Tryz.call210 rfl (gA x (k + 20) og zx)), fun _ _ => g9 _ rfl rfl (i0 aa71 zz71 rfl rfl rfl (v := (vR y)) rfl), fun _ _ => iS (iE Tryz.call210 rfl (gA y (k + 20) og zy)), fun _ _ => iS (iE Tryz.call63 rfl (d4 (aX y) (k + 20) og s3)), fun _ _ => ng (ψ := fun v => ∃ b, v = ptr b 0) (B := fun v => [.blk (bF v) (cQ oQ) 27]) [.emp] rfl (fun v _ => by simp only [cH, bB] <;> rfl) (fun v hv => by simpa [DF.one, bB] using hv) (ja (fE vv27 rfl)), fun _ _ => ng (ψ := fun v => ∃ b, v = ptr b 0) (B := fun v => [.blk (bF v) (cQ oQ) 27]) [.emp] rfl (fun v _ => by simp only [cH, bB] <;> rfl) (fun v hv => by simpa [DF.one, bB] using hv) (ja (fE vv27 rfl)), fun _ _ => ng (ψ := fun v => ∃ b, v = ptr b 0) (B := fun v => [.blk (bF v) (cQ oQ) 27]) [.emp] rfl (fun v _ => by simp only [cH, bB] <;> rfl) (fun v hv => by simpa [DF.one, bB] using hv) (ja (fE vv27 rfl)), (fun ξ hφ => by obtain ⟨b3, hb10⟩ := hφ 10 rfl; exact jT [.blk b3 (cQ oQ) 27] [.blk b3 (cQ (aj x.p y.p)) 27] (congrArg (fun v => [Asn.blk (bF v) (cQ oQ) 27]) hb10) (congrArg (fun v => [Asn.blk (bF v) (cQ (aj x.p y.p)) 27]) hb10) (mb zz27 (Eq.trans rfl (congrArg some hb10)) rfl rfl rfl rfl rfl rfl)), (fun ξ hφ => by obtain ⟨b4, hb11⟩ := hφ 11 rfl; exact jT [.blk b4 (cQ oQ) 27] [.blk b4 (cQ (aX x)) 27] (congrArg (fun v => [Asn.blk (bF v) (cQ oQ) 27]) hb11) (congrArg (fun v => [Asn.blk (bF v) (cQ (aX x)) 27]) hb11) (mb zz27 (Eq.trans rfl (congrArg some hb11)) rfl rfl rfl rfl rfl rfl)), (fun ξ hφ => by obtain ⟨b5, hb12⟩ := hφ 12 rfl; exact jT [.blk b5 (cQ oQ) 27] [.blk b5 (cQ (aU (aX y))) 27] (congrArg (fun v => [Asn.blk (bF v) (cQ oQ) 27]) hb12) (congrArg (fun v => [Asn.blk (bF v) (cQ (aU (aX y))) 27]) hb12) (mb zz27 (Eq.trans rfl (congrArg some hb12)) rfl rfl rfl rfl rfl rfl)), trivial⟩ ?_
 clear h ac wo; intro ξ ac wo hφ h
 replace h : St w0 65 [(2, (ptr b1 0)), (3, (ptr b2 0)), (5, ξ 10), (6, ξ 11), (7, ξ 12)] [.blk b2 (cR y) 71, .blk b1 (cR x) 71, .blk (bF (ξ 10)) (cQ (aj x.p y.p)) 27, .blk (bF (ξ 11)) (cQ (aX x)) 27, .blk (bF (ξ 12)) (cQ (aU (aX y))) 27] ac wo := h.sub ⟨rfl, rfl, rfl, rfl, rfl, trivial⟩
 revert h
 obtain ⟨b3, hb10⟩ : ∃ b, ξ 10 = ptr b 0 := hφ 10
 obtain ⟨b4, hb11⟩ : ∃ b, ξ 11 = ptr b 0 := hφ 11
 obtain ⟨b5, hb12⟩ : ∃ b, ξ 12 = ptr b 0 := hφ 12
 rw [hb10, hb11, hb12]; intro h
 clear hb10 hb11 hb12 hφ ξ
 refine gz h <| (W) ?_; clear h ac wo; intro ac wo h
 have p6 := an ((iq (aj x.p y.p) (aX x) x.r (k + 9) og s1 (cv s2 og) (dY zx og).2) w0)
 have p8 := an ((ce (aU (aX y))) w0)
 have p10 := an ((ce y.r) w0)
 refine gz h <| (dr0 (hob := (oK (iq (aj x.p y.p) (aX x) x.r (k + 9) og s1 (cv s2 og) (dY zx og).2)) <| (oK (ce (aU (aX y)))) <| (oK (ce y.r)) <| (oX (h := by exact fun _ => bm (jc rfl rfl (r := ((au (aU (aX y))) * (au y.r))) (by first | (rw [IntKind.wrap_i64]; omega) | exact fL og og)))) <| oE)) <| (ai) ?_ ?_ <;> clear h ac wo <;> intro ac wo h hc1
 ·
  have hd : ar x y = (dp (aj x.p y.p) (aX x) x.r) := pt
  refine gz h <| (W) ?_; clear h ac wo; intro ac wo h
  exact (rt h) (h.retP (by rw [hd] <;> rfl) (by rw [hd]; exact by first | omega | exact em og og))
 ·
  refine gz h <| (ai) ?_ ?_ <;> clear h ac wo <;> intro ac wo h hc2
  ·
   have hd2 := eq_of_beq hc2
   have hd : ar x y = ((au (aU (aX y))) * (au y.r)) := pt
   refine gz h <| (W) ?_; clear h ac wo; intro ac wo h
   exact (rt h) (h.retP (by rw [hd] <;> rfl) (by rw [hd]; exact by first | omega | exact em og og))
  ·
   have hd2 := ne_of_beq_false hc2
   refine gz h <| (W) ?_; clear h ac wo; intro ac wo h
   have s11 := an ((be (aj x.p y.p) (aj x.p y.p) (k + 15) og s1 s1) w0)
   have s12 := an ((bM (ak (aj x.p y.p) (aj x.p y.p)) x.r (k + 12) og s11 (dY zx og).2) w0)
   have s13 := an ((bU (ax (ak (aj x.p y.p) (aj x.p y.p)) x.r) y.r (k + 9) og s12 (dY zy og).2) w0)
   replace h := h.emps 1
   refine fK mixed [dw _ [2], dw _ [2], dv _, dv _, dw _ [1], dv _, dv _, dw _ [0], dv _, ⟨.nd (.one 9 fun v => ∃ b, v = ptr b 0), [5]⟩, ⟨.det undef, [5]⟩] [⟨_, []⟩, ⟨_, []⟩, ⟨_, []⟩, ⟨_, []⟩, ⟨_, []⟩, ⟨.emp, [(9, .one 9 fun v => .blk (bF v) (cQ oQ) 27), (10, .one 9 fun v => .blk (bF v) (cQ (aj (ax (ak (aj x.p y.p) (aj x.p y.p)) x.r) y.r)) 27)]⟩] h rfl (by kernel_rfl) ⟨fun _ _ => g9 _ rfl rfl (i0 aa27 zz27 rfl rfl rfl (v := (vQ (aj x.p y.p))) rfl), fun _ _ => g9 _ rfl rfl (i0 aa27 zz27 rfl rfl rfl (v := (vQ (aj x.p y.p))) rfl), fun _ _ => iS (iE Tryz.call21 rfl (be (aj x.p y.p) (aj x.p y.p) (k + 15) og s1 s1)), fun _ _ => bm (fa uu71 rfl zz27 rfl rfl rfl (k' := 4)), fun _ _ => g9 _ rfl rfl (i0 aa27 zz27 rfl rfl rfl (v := (vQ x.r)) rfl), fun _ _ => iS (iE Tryz.call20 rfl (bM (ak (aj x.p y.p) (aj x.p y.p)) x.r (k + 12) og s11 (dY zx og).2)), fun _ _ => bm (fa uu71 rfl zz27 rfl rfl rfl (k' := 4)), fun _ _ => g9 _ rfl rfl (i0 aa27 zz27 rfl rfl rfl (v := (vQ y.r)) rfl), fun _ _ => iS (iE cc22 rfl (bU (ax (ak (aj x.p y.p) (aj x.p y.p)) x.r) y.r (k + 9) og s12 (dY zy og).2)), fun _ _ => ng (ψ := fun v => ∃ b, v = ptr b 0) (B := fun v => [.blk (bF v) (cQ oQ) 27]) [.emp] rfl (fun v _ => by simp only [cH, bB] <;> rfl) (fun v hv => by simpa [DF.one, bB] using hv) (ja (fE vv27 rfl)), (fun ξ hφ => by obtain ⟨b6, hb9⟩ := hφ 9 rfl; exact jT [.blk b6 (cQ oQ) 27] [.blk b6 (cQ (aj (ax (ak (aj x.p y.p) (aj x.p y.p)) x.r) y.r)) 27] (congrArg (fun v => [Asn.blk (bF v) (cQ oQ) 27]) hb9) (congrArg (fun v => [Asn.blk (bF v) (cQ (aj (ax (ak (aj x.p y.p) (aj x.p y.p)) x.r) y.r)) 27]) hb9) (mb zz27 (Eq.trans rfl (congrArg some hb9)) rfl rfl rfl rfl rfl rfl)), trivial⟩ ?_
   clear h ac wo; intro ξ ac wo hφ h
   replace h : St w0 65 [(2, (ptr b1 0)), (5, (ptr b3 0)), (6, (ptr b4 0)), (8, (.int .i64 (dp (aj x.p y.p) (aX x) x.r))), (10, ξ 9)] [.blk b2 (cR y) 71, .blk b1 (cR x) 71, .blk b3 (cQ (aj x.p y.p)) 27, .blk b4 (cQ (aX x)) 27, .blk b5 (cQ (aU (aX y))) 27, .blk (bF (ξ 9)) (cQ (aj (ax (ak (aj x.p y.p) (aj x.p y.p)) x.r) y.r)) 27] ac wo := h.sub ⟨rfl, rfl, rfl, rfl, rfl, trivial⟩
   revert h
   obtain ⟨b6, hb9⟩ : ∃ b, ξ 9 = ptr b 0 := hφ 9
   rw [hb9]; intro h
   clear hb9 hφ ξ
   refine gz h <| (W) ?_; clear h ac wo; intro ac wo h
   have s14 := an ((bV 2 (k + 20) og  og) w0)
   have s15 := an ((be (aj x.p y.p) (aX x) (k + 15) og s1 (cv s2 og)) w0)
   have s16 := an ((be (am 2) (ak (aj x.p y.p) (aX x)) (k + 13) og (cv s14 og) s15) w0)
   have p18 := an ((iq (aj (ax (ak (aj x.p y.p) (aj x.p y.p)) x.r) y.r) (ak (am 2) (ak (aj x.p y.p) (aX x))) x.r (k + 1) og s13 (cv s16 og) (dY zx og).2) w0)
   have hd : ar x y = ((dp (aj x.p y.p) (aX x) x.r) * (dp (aj (ax (ak (aj x.p y.p) (aj x.p y.p)) x.r) y.r) (ak (am 2) (ak (aj x.p y.p) (aX x))) x.r)) := pt
   refine gz h <| (dr0 (hob := (oK (bV 2 (k + 20) og  og)) <| (oK (be (aj x.p y.p) (aX x) (k + 15) og s1 (cv s2 og))) <| (oK (be (am 2) (ak (aj x.p y.p) (aX x)) (k + 13) og (cv s14 og) s15)) <| (oK (iq (aj (ax (ak (aj x.p y.p) (aj x.p y.p)) x.r) y.r) (ak (am 2) (ak (aj x.p y.p) (aX x))) x.r (k + 1) og s13 (cv s16 og) (dY zx og).2)) <| (oX (h := by exact fun _ => bm (jc rfl rfl (r := ((dp (aj x.p y.p) (aX x) x.r) * (dp (aj (ax (ak (aj x.p y.p) (aj x.p y.p)) x.r) y.r) (ak (am 2) (ak (aj x.p y.p) (aX x))) x.r))) (by first | (rw [IntKind.wrap_i64]; omega) | exact fL og og)))) <| oE)) <| (W) ?_; clear h ac wo; intro ac wo h
   exact (rt h) (h.retP (by rw [hd] <;> rfl) (by rw [hd]; exact by first | omega | exact em og og))
def aO (n : Int) : GR :=
 (⟨(am n), (⟨(⟨false, 0⟩ : GI), (⟨false, 0⟩ : GI)⟩ : GQ), false⟩ : GR)
theorem lG (n : Int) (k : Nat) (hk : k ≤ 40) (hn : -9223372036854775808 ≤ n ∧ n ≤ 9223372036854775807) (w0 : World) : Calls Tryz.prog 86 #[(.int .i64 n)] w0 (dH w0 (vR (aO n)) (SzR k (aO n))) := by
 refine enter (N := 6) (args := [(.int .i64 n)]) Tryz.func86 rfl rfl ?_; intro ac h
 have c1 := bV n k og  og
 have s1 := an (c1 w0)
 refine gz h <| (xa) fun b1 => (xk c1) <| (xo (hs := by exact bP rX exs rfl (v := (vR (⟨(am n), oQ, false⟩ : GR))) rfl)) <| (W) ?_; clear h ac; intro ac wo h
 exact ret h rfl (.cell (v := (vR (⟨(am n), oQ, false⟩ : GR))) rfl (i := 0) rfl aa71 zz71 rfl rfl rfl .nil) rfl (h.retP (by unfold aO; rfl) (by unfold aO; exact ⟨s1, ⟨(cg 0 (by decide) og), (cg 0 (by decide) og)⟩⟩))
def ao (r : GQ) : GR :=
 (⟨r, (⟨(⟨false, 0⟩ : GI), (⟨false, 0⟩ : GI)⟩ : GQ), false⟩ : GR)
theorem fo (r : GQ) (k : Nat) (hk : k ≤ 40) (zr : SzQ k r) (w0 : World) : Calls Tryz.prog 88 #[(vQ r)] w0 (dH w0 (vR (ao r)) (SzR k (ao r))) := by
 refine enter (N := 5) (args := [(vQ r)]) Tryz.func88 rfl rfl ?_; intro ac h
 refine gz h <| (xb) fun b1 => (xa) fun b2 => (xo (hs := by exact bP rX exs rfl (v := (vR (⟨r, oQ, false⟩ : GR))) rfl)) <| (W) ?_; clear h ac; intro ac wo h
 exact ret h rfl (.cell (v := (vR (⟨r, oQ, false⟩ : GR))) rfl (i := 0) rfl aa71 zz71 rfl rfl rfl .nil) rfl (h.retP (by unfold ao; rfl) (by unfold ao; exact ⟨zr, ⟨(cg 0 (by decide) og), (cg 0 (by decide) og)⟩⟩))
def aM (c0 : GQ) (c1 : GQ) : Qd :=
 (⟨c0, c1, (⟨(⟨false, 0⟩ : GI), (⟨false, 0⟩ : GI)⟩ : GQ)⟩ : Qd)
theorem ck (c0 : GQ) (c1 : GQ) (k : Nat) (hk : k ≤ 40) (zc0 : SzQ k c0) (zc1 : SzQ k c1) (w0 : World) : Calls Tryz.prog 107 #[(vQ c0), (vQ c1)] w0 (dH w0 (vD (aM c0 c1)) (SzD k (aM c0 c1))) := by
 refine enter (N := 8) (args := [(vQ c0), (vQ c1)]) Tryz.func107 rfl rfl ?_; intro ac h
 refine gz h <| (xb) fun b1 => (xb) fun b2 => (xa) fun b3 => (xo (hs := by exact bP rY exs rfl (v := (vD (⟨c0, c1, oQ⟩ : Qd))) rfl)) <| (W) ?_; clear h ac; intro ac wo h
 exact ret h rfl (.cell (v := (vD (⟨c0, c1, oQ⟩ : Qd))) rfl (i := 0) rfl aa53 zz53 rfl rfl rfl .nil) rfl (h.retP (by unfold aM; rfl) (by unfold aM; exact ⟨zc0, zc1, ⟨(cg 0 (by decide) og), (cg 0 (by decide) og)⟩⟩))
def aN (q : Qd) (t : GQ) : GQ :=
 (ax q.c0 (ak t (ax q.c1 (ak t q.c2))))
theorem iH (q : Qd) (t : GQ) (k : Nat) (hk : (k + 10) ≤ 40) (zq : SzD (k + 10) q) (zt : SzQ (k + 10) t) (w0 : World) : Calls Tryz.prog 101 #[(vD q), (vQ t)] w0 (dH w0 (vQ (aN q t)) (SzQ k (aN q t))) := by
 refine enter (N := 17) (args := [(vD q), (vQ t)]) Tryz.func101 rfl rfl ?_; intro ac h
 have s1 := an ((be t q.c2 (k + 8) og zt zq.2.2) w0)
 have s2 := an ((bM q.c1 (ak t q.c2) (k + 5) og (jA zq og).2.1 s1) w0)
 have s3 := an ((be t (ax q.c1 (ak t q.c2)) (k + 3) og (cv zt og) s2) w0)
 have s4 := an ((bM q.c0 (ak t (ax q.c1 (ak t q.c2))) k og (jA zq og).1 s3) w0)
 refine gz h <| (xb) fun b1 => (xb) fun b2 => (xa) fun b3 => (dr1 (H := [⟨.blk b3 (cQ oQ) 27, [(12, .con (.blk b3 (cQ (ax q.c0 (ak t (ax q.c1 (ak t q.c2))))) 27))]⟩, ⟨_, []⟩, ⟨_, []⟩]) (hob := (oK (be t q.c2 (k + 8) og zt zq.2.2)) <| (oK (bM q.c1 (ak t q.c2) (k + 5) og (jA zq og).2.1 s1)) <| (oK (be t (ax q.c1 (ak t q.c2)) (k + 3) og (cv zt og) s2)) <| (oK (bM q.c0 (ak t (ax q.c1 (ak t q.c2))) k og (jA zq og).1 s3)) <| oE)) <| (W) ?_; clear h ac; intro ac wo h
 exact ret h rfl (.cell (v := (vQ (ax q.c0 (ak t (ax q.c1 (ak t q.c2)))))) rfl (i := 0) rfl aa27 zz27 rfl rfl rfl .nil) rfl (h.retP (by unfold aN; rfl) (by unfold aN; exact s4))
def aT (q : Qd) (t : GQ) : GQ :=
 (ax q.c1 (ak (ax q.c2 q.c2) t))
theorem fX (q : Qd) (t : GQ) (k : Nat) (hk : (k + 8) ≤ 40) (zq : SzD (k + 8) q) (zt : SzQ (k + 8) t) (w0 : World) : Calls Tryz.prog 213 #[(vD q), (vQ t)] w0 (dH w0 (vQ (aT q t)) (SzQ k (aT q t))) := by
 refine enter (N := 15) (args := [(vD q), (vQ t)]) Tryz.func213 rfl rfl ?_; intro ac h
 have s1 := an ((bM q.c2 q.c2 (k + 5) og zq.2.2 zq.2.2) w0)
 have s2 := an ((be (ax q.c2 q.c2) t (k + 3) og s1 (cv zt og)) w0)
 have s3 := an ((bM q.c1 (ak (ax q.c2 q.c2) t) k og (jA zq og).2.1 s2) w0)
 refine gz h <| (xb) fun b1 => (xb) fun b2 => (xa) fun b3 => (dr1 (H := [⟨.blk b3 (cQ oQ) 27, [(10, .con (.blk b3 (cQ (ax q.c1 (ak (ax q.c2 q.c2) t))) 27))]⟩, ⟨_, []⟩, ⟨_, []⟩]) (hob := (oK (bM q.c2 q.c2 (k + 5) og zq.2.2 zq.2.2)) <| (oK (be (ax q.c2 q.c2) t (k + 3) og s1 (cv zt og))) <| (oK (bM q.c1 (ak (ax q.c2 q.c2) t) k og (jA zq og).2.1 s2)) <| oE)) <| (W) ?_; clear h ac; intro ac wo h
 exact ret h rfl (.cell (v := (vQ (ax q.c1 (ak (ax q.c2 q.c2) t)))) rfl (i := 0) rfl aa27 zz27 rfl rfl rfl .nil) rfl (h.retP (by unfold aT; rfl) (by unfold aT; exact s3))
def cK (p : Qd) (q : Qd) : Qd :=
 (⟨(aj p.c0 q.c0), (aj p.c1 q.c1), (aj p.c2 q.c2)⟩ : Qd)
theorem i3 (p : Qd) (q : Qd) (k : Nat) (hk : (k + 3) ≤ 40) (zp : SzD (k + 3) p) (zq : SzD (k + 3) q) (w0 : World) : Calls Tryz.prog 131 #[(vD p), (vD q)] w0 (dH w0 (vD (cK p q)) (SzD k (cK p q))) := by
 refine enter (N := 21) (args := [(vD p), (vD q)]) Tryz.func131 rfl rfl ?_; intro ac h
 have s1 := an ((bU p.c0 q.c0 k og zp.1 zq.1) w0)
 have s2 := an ((bU p.c1 q.c1 k og zp.2.1 zq.2.1) w0)
 have s3 := an ((bU p.c2 q.c2 k og zp.2.2 zq.2.2) w0)
 refine gz h <| (xb) fun b1 => (xb) fun b2 => (xa) fun b3 => (dr1 (H := [⟨.blk b3 (cD oD) 53, [(16, .con (.blk b3 (cD (⟨(aj p.c0 q.c0), (aj p.c1 q.c1), (aj p.c2 q.c2)⟩ : Qd)) 53))]⟩, ⟨_, []⟩, ⟨_, []⟩]) (hob := (oK (bU p.c0 q.c0 k og zp.1 zq.1)) <| (oK (bU p.c1 q.c1 k og zp.2.1 zq.2.1)) <| (oK (bU p.c2 q.c2 k og zp.2.2 zq.2.2)) <| (oX (h := by exact fun _ => bm (bP rY exs rfl (v := (vD (⟨(aj p.c0 q.c0), (aj p.c1 q.c1), (aj p.c2 q.c2)⟩ : Qd))) rfl))) <| oE)) <| (W) ?_; clear h ac; intro ac wo h
 exact ret h rfl (.cell (v := (vD (⟨(aj p.c0 q.c0), (aj p.c1 q.c1), (aj p.c2 q.c2)⟩ : Qd))) rfl (i := 0) rfl aa53 zz53 rfl rfl rfl .nil) rfl (h.retP (by unfold cK; rfl) (by unfold cK; exact ⟨s1, s2, s3⟩))
def cJ (x : GR) : GQ × Bool :=
 bif (!(decide (x.r = (⟨(⟨false, 0⟩ : GI), (⟨false, 0⟩ : GI)⟩ : GQ)))) then
  ((⟨(⟨false, 0⟩ : GI), (⟨false, 0⟩ : GI)⟩ : GQ), false)
 else
  (x.p, true)
theorem k8 (x : GR) (k : Nat) (hk : k ≤ 40) (zx : SzR k x) (w0 : World) : Calls Tryz.prog 212 #[(vR x)] w0 (dH w0 (.tuple #[(vQ ((cJ x).1)), (.bool ((cJ x).2))]) (SzQ k ((cJ x).1))) := by
 refine enter (N := 11) (args := [(vR x)]) Tryz.func212 rfl rfl ?_; intro ac h
 refine gz h <| (xb) fun b1 => (xa) fun b2 => (xo (hs := by exact bP lj exs rfl (v := (vQ oQ)) rfl)) <| (ai) ?_ ?_ <;> clear h ac <;> intro ac wo h hc1
 ·
  have hd : cJ x = (oQ, false) := pt
  refine gz h <| (xo (hs := by exact bP lj exs rfl (v := (vQ oQ)) rfl)) <| (W) ?_; clear h ac wo; intro ac wo h
  exact ret h rfl (.cell (v := (vQ oQ)) rfl (i := 0) rfl aa27 zz27 rfl rfl rfl (.tmp rfl .nil)) rfl (h.retP (by rw [hd] <;> rfl) (by rw [hd]; exact ⟨(cg 0 (by decide) og), (cg 0 (by decide) og)⟩))
 ·
  have hd : cJ x = (x.p, true) := pt
  refine gz h <| (W) ?_; clear h ac wo; intro ac wo h
  exact ret h rfl (.cell (v := (vQ x.p)) rfl (i := 0) rfl aa27 zz27 rfl rfl rfl (.tmp rfl .nil)) rfl (h.retP (by rw [hd] <;> rfl) (by rw [hd]; exact zx.1))
def aQ (q : Qd) (t : GR) : Qd :=
 bif (cJ t).2 then
  (aA (aN q ((cJ t).1)))
 else
  (aM (ax q.c0 (ak q.c2 (aj t.r (ak t.p t.p)))) (aT q t.p))
theorem d6 (q : Qd) (t : GR) (k : Nat) (hk : (k + 10) ≤ 40) (zq : SzD (k + 10) q) (zt : SzR (k + 10) t) (w0 : World) : Calls Tryz.prog 130 #[(vD q), (vR t)] w0 (dH w0 (vD (aQ q t)) (SzD k (aQ q t))) := by
 refine enter (N := 38) (args := [(vD q), (vR t)]) Tryz.func130 rfl rfl ?_; intro ac h
 have c1 := k8 t (k + 10) og zt
 have s1 := an (c1 w0)
 refine gz h <| (xb) fun b1 => (xb) fun b2 => (xa) fun b3 => (xk c1) <| (xa) fun b4 => (ai) ?_ ?_ <;> clear h ac <;> intro ac wo h hc1
 ·
  have c2 := iH q ((cJ t).1) k og zq s1
  have s2 := an (c2 w0)
  have c3 := jj (aN q ((cJ t).1)) k og s2
  have s3 := an (c3 w0)
  have hd : aQ q t = (aA (aN q ((cJ t).1))) := pt
  refine gz h <| (xk c2) <| (xk c3) <| (W) ?_; clear h ac wo; intro ac wo h
  exact ret h rfl (.cell (v := (vD (aA (aN q ((cJ t).1))))) rfl (i := 1) rfl aa53 zz53 rfl rfl rfl .nil) rfl (h.retP (by rw [hd] <;> rfl) (by rw [hd]; exact s3))
 ·
  refine gz h <| (W) ?_; clear h ac wo; intro ac wo h
  have s4 := an ((be t.p t.p (k + 8) og zt.1 zt.1) w0)
  have s5 := an ((bU t.r (ak t.p t.p) (k + 5) og (dY zt og).2 s4) w0)
  replace h := h.emps 1
  refine fK mixed [dv _, dw _ [2], dv _, dw _ [2], dv _, dw _ [2], dv _, dv _, ⟨.nd (.one 8 fun v => ∃ b, v = ptr b 0), [4]⟩, ⟨.det undef, [4]⟩] [⟨_, []⟩, ⟨_, []⟩, ⟨_, []⟩, ⟨_, []⟩, ⟨.emp, [(8, .one 8 fun v => .blk (bF v) (cQ oQ) 27), (9, .one 8 fun v => .blk (bF v) (cQ (aj t.r (ak t.p t.p))) 27)]⟩] h rfl (by kernel_rfl) ⟨fun _ _ => bm (fa uu71 rfl zz27 rfl rfl rfl (k' := 4)), fun _ _ => g9 _ rfl rfl (i0 aa27 zz27 rfl rfl rfl (v := (vQ t.r)) rfl), fun _ _ => bm (fa uu71 rfl zz27 rfl rfl rfl (k' := 0)), fun _ _ => g9 _ rfl rfl (i0 aa27 zz27 rfl rfl rfl (v := (vQ t.p)) rfl), fun _ _ => bm (fa uu71 rfl zz27 rfl rfl rfl (k' := 0)), fun _ _ => g9 _ rfl rfl (i0 aa27 zz27 rfl rfl rfl (v := (vQ t.p)) rfl), fun _ _ => iS (iE Tryz.call21 rfl (be t.p t.p (k + 8) og zt.1 zt.1)), fun _ _ => iS (iE cc22 rfl (bU t.r (ak t.p t.p) (k + 5) og (dY zt og).2 s4)), fun _ _ => ng (ψ := fun v => ∃ b, v = ptr b 0) (B := fun v => [.blk (bF v) (cQ oQ) 27]) [.emp] rfl (fun v _ => by simp only [cH, bB] <;> rfl) (fun v hv => by simpa [DF.one, bB] using hv) (ja (fE vv27 rfl)), (fun ξ hφ => by obtain ⟨b5, hb8⟩ := hφ 8 rfl; exact jT [.blk b5 (cQ oQ) 27] [.blk b5 (cQ (aj t.r (ak t.p t.p))) 27] (congrArg (fun v => [Asn.blk (bF v) (cQ oQ) 27]) hb8) (congrArg (fun v => [Asn.blk (bF v) (cQ (aj t.r (ak t.p t.p))) 27]) hb8) (mb zz27 (Eq.trans rfl (congrArg some hb8)) rfl rfl rfl rfl rfl rfl)), trivial⟩ ?_
  clear h ac wo; intro ξ ac wo hφ h
  replace h : St w0 38 [(2, (ptr b1 0)), (3, (ptr b2 0)), (4, (ptr b3 0)), (7, ξ 8)] [.blk b4 (cQ ((cJ t).1)) 27, .blk b3 (cD oD) 53, .blk b2 (cR t) 71, .blk b1 (cD q) 53, .blk (bF (ξ 8)) (cQ (aj t.r (ak t.p t.p))) 27] ac wo := h.sub ⟨rfl, rfl, rfl, rfl, trivial⟩
  revert h
  obtain ⟨b5, hb8⟩ : ∃ b, ξ 8 = ptr b 0 := hφ 8
  rw [hb8]; intro h
  clear hb8 hφ ξ
  refine gz h <| (W) ?_; clear h ac wo; intro ac wo h
  have s6 := an ((be q.c2 (aj t.r (ak t.p t.p)) (k + 3) og (jA zq og).2.2 s5) w0)
  have s7 := an ((bM q.c0 (ak q.c2 (aj t.r (ak t.p t.p))) k og (jA zq og).1 s6) w0)
  have s8 := an ((fX q t.p (k + 2) og zq zt.1) w0)
  have s9 := an ((ck (ax q.c0 (ak q.c2 (aj t.r (ak t.p t.p)))) (aT q t.p) k og s7 (cv s8 og)) w0)
  have hd : aQ q t = (aM (ax q.c0 (ak q.c2 (aj t.r (ak t.p t.p)))) (aT q t.p)) := pt
  refine gz h <| (dr1 (H := [⟨_, []⟩, ⟨.blk b3 (cD oD) 53, [(12, .con (.blk b3 (cD (aM (ax q.c0 (ak q.c2 (aj t.r (ak t.p t.p)))) (aT q t.p))) 53))]⟩, ⟨_, []⟩, ⟨_, []⟩, ⟨_, []⟩]) (hob := (oK (be q.c2 (aj t.r (ak t.p t.p)) (k + 3) og (jA zq og).2.2 s5)) <| (oK (bM q.c0 (ak q.c2 (aj t.r (ak t.p t.p))) k og (jA zq og).1 s6)) <| (oK (fX q t.p (k + 2) og zq zt.1)) <| (oK (ck (ax q.c0 (ak q.c2 (aj t.r (ak t.p t.p)))) (aT q t.p) k og s7 (cv s8 og))) <| oE)) <| (W) ?_; clear h ac wo; intro ac wo h
  exact ret h rfl (.cell (v := (vD (aM (ax q.c0 (ak q.c2 (aj t.r (ak t.p t.p)))) (aT q t.p)))) rfl (i := 1) rfl aa53 zz53 rfl rfl rfl .nil) rfl (h.retP (by rw [hd] <;> rfl) (by rw [hd]; exact s9))
def e7 (p : Qd) (q : Qd) (t : GR) : Bool :=
 (decide ((aQ (cK p q) t) = (⟨(⟨(⟨false, 0⟩ : GI), (⟨false, 0⟩ : GI)⟩ : GQ), (⟨(⟨false, 0⟩ : GI), (⟨false, 0⟩ : GI)⟩ : GQ), (⟨(⟨false, 0⟩ : GI), (⟨false, 0⟩ : GI)⟩ : GQ)⟩ : Qd)))
theorem iG (p : Qd) (q : Qd) (t : GR) (k : Nat) (hk : (k + 14) ≤ 40) (zp : SzD (k + 14) p) (zq : SzD (k + 14) q) (zt : SzR (k + 14) t) (w0 : World) : Calls Tryz.prog 39 #[(vD p), (vD q), (vR t)] w0 (dH w0 (.bool (e7 p q t)) (True)) := by
 refine enter (N := 14) (args := [(vD p), (vD q), (vR t)]) Tryz.func39 rfl rfl ?_; intro ac h
 have s1 := an ((i3 p q (k + 11) og zp zq) w0)
 have s2 := an ((d6 (cK p q) t (k + 1) og s1 (dY zt og)) w0)
 refine gz h <| (xb) fun b1 => (xb) fun b2 => (xb) fun b3 => (dr0 (hob := (oK (i3 p q (k + 11) og zp zq)) <| (oK (d6 (cK p q) t (k + 1) og s1 (dY zt og))) <| (oX (h := by exact fun _ => bm (bP rY exs rfl (v := (vD oD)) rfl))) <| oE)) <| (W) ?_; clear h ac; intro ac wo h
 exact (rt h) (h.retP (by unfold e7; rfl) trivial)
def dD (a : Iv) (b : Iv) : Bool :=
 ((decide ((ar a.hi b.lo) < 0)) || (((ar a.hi b.lo) == 0) && (a.openHi || b.openLo)))
theorem jk (a : Iv) (b : Iv) (k : Nat) (hk : (k + 20) ≤ 40) (za : SzV (k + 20) a) (zb : SzV (k + 20) b) (w0 : World) : Calls Tryz.prog 118 #[(vV a), (vV b)] w0 (dH w0 (.bool (dD a b)) (True)) := by
 refine enter (N := 25) (args := [(vV a), (vV b)]) Tryz.func118 rfl rfl ?_; intro ac h
 have p2 := an ((dP a.hi b.lo k og za.2 zb.1) w0)
 refine gz h <| (xb) fun b1 => (xb) fun b2 => (xk (dP a.hi b.lo k og za.2 zb.1)) <| (W) ?_; clear h ac; intro ac wo h
 exact (rt h) (h.retP (by unfold dD; rfl) trivial)
def aH (i : Iv) : Bool :=
 (decide (i.lo = i.hi))
theorem bZ (i : Iv) (w0 : World) : Calls Tryz.prog 150 #[(vV i)] w0 (dH w0 (.bool (aH i)) (True)) := by
 refine enter (N := 8) (args := [(vV i)]) Tryz.func150 rfl rfl ?_; intro ac h
 refine gz h <| (xb) fun b1 => (W) ?_; clear h ac; intro ac wo h
 exact (rt h) (h.retP (by unfold aH; rfl) trivial)
end Go.Sx
