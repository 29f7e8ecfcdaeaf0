/- A part of the proof of movingpointAt. -/
import Derived.Test.YtpfdaoajcnophaaGreatDoorProg
import Derived.Test.YtpfdaoajcnophaaGreatDoorB6
set_option linter.unusedVariables false
set_option linter.unusedSimpArgs false
open Go.Proofs.Tryz renaming isAgg29 → aa29, sizeOf29 → zz29, runUnderlying46 → uu46, call148 → cc148, isAgg46 → aa46, sizeOf46 → zz46, zeroValue29 → vv29, isAgg72 → aa72, sizeOf72 → zz72
namespace Go.Sx
open Go Go.RowKit Go.Proofs
set_option maxRecDepth 100000
set_option maxHeartbeats 40000000
attribute [local irreducible] Code.wp wpList Rd Step ObS Ent
def a7 (x : GR) : GQ :=
 bif x.neg then
  (ak (-1))
 else
  (ak 1)
theorem iH (x : GR) (k : Nat) (hk : k ≤ 40) (zx : SzR k x) (w0 : World) : Calls Tryz.prog 169 #[(vR x)] w0 (RetP w0 (vQ (a7 x)) (SzQ k (a7 x))) := by
 refine enter (N := 7) (args := [(vR x)]) Tryz.func169 rfl rfl ?_; intro ac h
 refine gz h <| (xb) fun b1 => (xa) fun b2 => (ai) ?_ ?_ <;> clear h ac <;> intro ac wo h hc1
 ·
  have c1 := bV (-1) k og  og
  have s1 := an (c1 w0)
  have hd : a7 x = (ak (-1)) := pt
  refine gz h <| (xk c1) <| (W) ?_; clear h ac wo; intro ac wo h
  exact ret h rfl (.cell (v := (vQ (ak (-1)))) rfl (i := 0) rfl aa29 zz29 rfl rfl rfl .nil) rfl (h.retP (by rw [hd] <;> rfl) (by rw [hd]; exact s1))
 ·
  have c2 := bV 1 k og  og
  have s2 := an (c2 w0)
  have hd : a7 x = (ak 1) := pt
  refine gz h <| (xk c2) <| (W) ?_; clear h ac wo; intro ac wo h
  exact ret h rfl (.cell (v := (vQ (ak 1))) rfl (i := 0) rfl aa29 zz29 rfl rfl rfl .nil) rfl (h.retP (by rw [hd] <;> rfl) (by rw [hd]; exact s2))
def d8 (a : GQ) (b : GQ) (r : GQ) : Int :=
 bif ((((ap b) * (ap r)) == 0) || ((ap a) == ((ap b) * (ap r)))) then
  (ap a)
 else
  bif ((ap a) == 0) then
   ((ap b) * (ap r))
  else
   ((ap a) * (aX (am a a) (am (am b b) r)))
theorem jA (a : GQ) (b : GQ) (r : GQ) (k : Nat) (hk : (k + 8) ≤ 40) (za : SzQ (k + 8) a) (zb : SzQ (k + 8) b) (zr : SzQ (k + 8) r) (w0 : World) : Calls Tryz.prog 171 #[(vQ a), (vQ b), (vQ r)] w0 (RetP w0 (.int .i64 (d8 a b r)) ((-1 ≤ (d8 a b r) ∧ (d8 a b r) ≤ 1))) := by
 refine enter (N := 40) (args := [(vQ a), (vQ b), (vQ r)]) Tryz.func171 rfl rfl ?_; intro ac h
 have p2 := an ((cC a) w0)
 have p4 := an ((cC b) w0)
 have p6 := an ((cC r) w0)
 refine gz h <| (xb) fun b1 => (xb) fun b2 => (xb) fun b3 => (dr0 (hob := (oK (cC a)) <| (oK (cC b)) <| (oK (cC r)) <| (oX (h := by exact fun _ => aZ (mt rfl rfl (r := ((ap b) * (ap r))) (by first | (rw [IntKind.wrap_i64]; omega) | exact jy og og)))) <| oE)) <| (ai) ?_ ?_ <;> clear h ac <;> intro ac wo h hc1
 ·
  have hd : d8 a b r = (ap a) := pt
  refine gz h <| (W) ?_; clear h ac wo; intro ac wo h
  exact (rt h) (h.retP (by rw [hd] <;> rfl) (by rw [hd]; exact by first | omega | exact fw og og))
 ·
  refine gz h <| (ai) ?_ ?_ <;> clear h ac wo <;> intro ac wo h hc2
  ·
   have hd2 := eq_of_beq hc2
   have hd : d8 a b r = ((ap b) * (ap r)) := pt
   refine gz h <| (W) ?_; clear h ac wo; intro ac wo h
   exact (rt h) (h.retP (by rw [hd] <;> rfl) (by rw [hd]; exact by first | omega | exact fw og og))
  ·
   have hd2 := ne_of_beq_false hc2
   refine gz h <| (W) ?_; clear h ac wo; intro ac wo h
   have s7 := an ((bk a a (k + 6) og za za) w0)
   have s8 := an ((bk b b (k + 6) og zb zb) w0)
   have s9 := an ((bk (am b b) r (k + 4) og s8 (cX zr og)) w0)
   have p11 := an ((gV (am a a) (am (am b b) r) (k + 3) og (cX s7 og) s9) w0)
   have hd : d8 a b r = ((ap a) * (aX (am a a) (am (am b b) r))) := pt
   refine gz h <| (dr0 (hob := (oK (bk a a (k + 6) og za za)) <| (oK (bk b b (k + 6) og zb zb)) <| (oK (bk (am b b) r (k + 4) og s8 (cX zr og))) <| (oK (gV (am a a) (am (am b b) r) (k + 3) og (cX s7 og) s9)) <| (oX (h := by exact fun _ => aZ (mt rfl rfl (r := ((ap a) * (aX (am a a) (am (am b b) r)))) (by first | (rw [IntKind.wrap_i64]; omega) | exact jy og og)))) <| oE)) <| (W) ?_; clear h ac wo; intro ac wo h
   exact (rt h) (h.retP (by rw [hd] <;> rfl) (by rw [hd]; exact by first | omega | exact fw og og))
def ao (x : GR) (y : GR) : Int :=
 bif ((((ap (aR (a7 y))) * (ap y.r)) == 0) || ((d8 (aj x.p y.p) (a7 x) x.r) == ((ap (aR (a7 y))) * (ap y.r)))) then
  (d8 (aj x.p y.p) (a7 x) x.r)
 else
  bif ((d8 (aj x.p y.p) (a7 x) x.r) == 0) then
   ((ap (aR (a7 y))) * (ap y.r))
  else
   ((d8 (aj x.p y.p) (a7 x) x.r) * (d8 (aj (az (am (aj x.p y.p) (aj x.p y.p)) x.r) y.r) (am (ak 2) (am (aj x.p y.p) (a7 x))) x.r))
theorem cH (x : GR) (y : GR) (k : Nat) (hk : (k + 20) ≤ 40) (zx : SzR (k + 20) x) (zy : SzR (k + 20) y) (w0 : World) : Calls Tryz.prog 59 #[(vR x), (vR y)] w0 (RetP w0 (.int .i64 (ao x y)) ((-1 ≤ (ao x y) ∧ (ao x y) ≤ 1))) := by
 refine enter (N := 65) (args := [(vR x), (vR y)]) Tryz.func59 rfl rfl ?_; intro ac h
 have s1 := an ((cK x.p y.p (k + 17) og zx.1 zy.1) w0)
 have s2 := an ((iH x (k + 20) og zx) w0)
 have s3 := an ((iH y (k + 20) og zy) w0)
 have s4 := an ((fo (a7 y) (k + 20) og s3) w0)
 refine gz h <| (xb) fun b1 => (xb) fun b2 => (W) ?_; clear h ac; intro ac wo h
 replace h := h.emps 3
 refine fq mixed [dv _, dw _ [1], dv _, dw _ [0], dv _, dw _ [1], dv _, dw _ [0], dv _, dv _, ⟨.nd (.one 10 fun v => ∃ b, v = ptr b 0), [2]⟩, ⟨.nd (.one 11 fun v => ∃ b, v = ptr b 0), [3]⟩, ⟨.nd (.one 12 fun v => ∃ b, v = ptr b 0), [4]⟩, ⟨.det undef, [2]⟩, ⟨.det undef, [3]⟩, ⟨.det undef, [4]⟩] [⟨_, []⟩, ⟨_, []⟩, ⟨.emp, [(10, .one 10 fun v => .blk (bE v) (cQ oQ) 29), (13, .one 10 fun v => .blk (bE v) (cQ (aj x.p y.p)) 29)]⟩, ⟨.emp, [(11, .one 11 fun v => .blk (bE v) (cQ oQ) 29), (14, .one 11 fun v => .blk (bE v) (cQ (a7 x)) 29)]⟩, ⟨.emp, [(12, .one 12 fun v => .blk (bE v) (cQ oQ) 29), (15, .one 12 fun v => .blk (bE v) (cQ (aR (a7 y))) 29)]⟩] h rfl (by kernel_rfl) ⟨fun _ _ => aZ (fa uu46 rfl zz29 rfl rfl rfl (k' := 0)), fun _ _ => il _ rfl rfl (iT aa29 zz29 rfl rfl rfl (v := (vQ x.p)) rfl), fun _ _ => aZ (fa uu46 rfl zz29 rfl rfl rfl (k' := 0)), fun _ _ => il _ rfl rfl (iT aa29 zz29 rfl rfl rfl (v := (vQ y.p)) rfl), fun _ _ => g7 (gg cc148 rfl (cK x.p y.p (k + 17) og zx.1 zy.1)), fun _ _ => il _ rfl rfl (iT aa46 zz46 rfl rfl rfl (v := (vR x)) rfl), fun _ _ => g7 (gg Tryz.call169 rfl (iH x (k + 20) og zx)), fun _ _ => il _ rfl rfl (iT aa46 zz46 rfl rfl rfl (v := (vR y)) rfl), fun _ _ => g7 (gg Tryz.call169 rfl (iH y (k + 20) og zy)), fun _ _ => g7 (gg Tryz.call170 rfl (fo (a7 y) (k + 20) og s3)), fun _ _ => na (ψ := fun v => ∃ b, v = ptr b 0) (B := fun v => [.blk (bE v) (cQ oQ) 29]) [.emp] rfl (fun v _ => by simp only [dh, bo] <;> rfl) (fun v hv => by simpa [DF.one, bo] using hv) (kf (gw vv29 rfl)), fun _ _ => na (ψ := fun v => ∃ b, v = ptr b 0) (B := fun v => [.blk (bE v) (cQ oQ) 29]) [.emp] rfl (fun v _ => by simp only [dh, bo] <;> rfl) (fun v hv => by simpa [DF.one, bo] using hv) (kf (gw vv29 rfl)), fun _ _ => na (ψ := fun v => ∃ b, v = ptr b 0) (B := fun v => [.blk (bE v) (cQ oQ) 29]) [.emp] rfl (fun v _ => by simp only [dh, bo] <;> rfl) (fun v hv => by simpa [DF.one, bo] using hv) (kf (gw vv29 rfl)), (fun ξ hφ => by obtain ⟨b3, hb10⟩ := hφ 10 rfl; exact ly [.blk b3 (cQ oQ) 29] [.blk b3 (cQ (aj x.p y.p)) 29] (congrArg (fun v => [Asn.blk (bE v) (cQ oQ) 29]) hb10) (congrArg (fun v => [Asn.blk (bE v) (cQ (aj x.p y.p)) 29]) hb10) (ow zz29 (Eq.trans rfl (congrArg some hb10)) rfl rfl rfl rfl rfl rfl)), (fun ξ hφ => by obtain ⟨b4, hb11⟩ := hφ 11 rfl; exact ly [.blk b4 (cQ oQ) 29] [.blk b4 (cQ (a7 x)) 29] (congrArg (fun v => [Asn.blk (bE v) (cQ oQ) 29]) hb11) (congrArg (fun v => [Asn.blk (bE v) (cQ (a7 x)) 29]) hb11) (ow zz29 (Eq.trans rfl (congrArg some hb11)) rfl rfl rfl rfl rfl rfl)), (fun ξ hφ => by obtain ⟨b5, hb12⟩ := hφ 12 rfl; exact ly [.blk b5 (cQ oQ) 29] [.blk b5 (cQ (aR (a7 y))) 29] (congrArg (fun v => [Asn.blk (bE v) (cQ oQ) 29]) hb12) (congrArg (fun v => [Asn.blk (bE v) (cQ (aR (a7 y))) 29]) hb12) (ow zz29 (Eq.trans rfl (congrArg some hb12)) rfl rfl rfl rfl rfl rfl)), trivial⟩ ?_
 clear h ac wo; intro ξ ac wo hφ h
 replace h : St w0 65 [(2, (ptr b1 0)), (3, (ptr b2 0)), (5, ξ 10), (6, ξ 11), (7, ξ 12)] [.blk b2 (cR y) 46, .blk b1 (cR x) 46, .blk (bE (ξ 10)) (cQ (aj x.p y.p)) 29, .blk (bE (ξ 11)) (cQ (a7 x)) 29, .blk (bE (ξ 12)) (cQ (aR (a7 y))) 29] ac wo := h.sub ⟨rfl, rfl, rfl, rfl, rfl, trivial⟩
 revert h
 obtain ⟨b3, hb10⟩ : ∃ b, ξ 10 = ptr b 0 := hφ 10
 obtain ⟨b4, hb11⟩ : ∃ b, ξ 11 = ptr b 0 := hφ 11
 obtain ⟨b5, hb12⟩ : ∃ b, ξ 12 = ptr b 0 := hφ 12
 rw [hb10, hb11, hb12]; intro h
 clear hb10 hb11 hb12 hφ ξ
 refine gz h <| (W) ?_; clear h ac wo; intro ac wo h
 have p6 := an ((jA (aj x.p y.p) (a7 x) x.r (k + 9) og s1 (cX s2 og) (eS zx og).2) w0)
 have p8 := an ((cC (aR (a7 y))) w0)
 have p10 := an ((cC y.r) w0)
 refine gz h <| (dr0 (hob := (oK (jA (aj x.p y.p) (a7 x) x.r (k + 9) og s1 (cX s2 og) (eS zx og).2)) <| (oK (cC (aR (a7 y)))) <| (oK (cC y.r)) <| (oX (h := by exact fun _ => aZ (mt rfl rfl (r := ((ap (aR (a7 y))) * (ap y.r))) (by first | (rw [IntKind.wrap_i64]; omega) | exact jy og og)))) <| oE)) <| (ai) ?_ ?_ <;> clear h ac wo <;> intro ac wo h hc1
 ·
  have hd : ao x y = (d8 (aj x.p y.p) (a7 x) x.r) := pt
  refine gz h <| (W) ?_; clear h ac wo; intro ac wo h
  exact (rt h) (h.retP (by rw [hd] <;> rfl) (by rw [hd]; exact by first | omega | exact fw og og))
 ·
  refine gz h <| (ai) ?_ ?_ <;> clear h ac wo <;> intro ac wo h hc2
  ·
   have hd2 := eq_of_beq hc2
   have hd : ao x y = ((ap (aR (a7 y))) * (ap y.r)) := pt
   refine gz h <| (W) ?_; clear h ac wo; intro ac wo h
   exact (rt h) (h.retP (by rw [hd] <;> rfl) (by rw [hd]; exact by first | omega | exact fw og og))
  ·
   have hd2 := ne_of_beq_false hc2
   refine gz h <| (W) ?_; clear h ac wo; intro ac wo h
   have s11 := an ((bk (aj x.p y.p) (aj x.p y.p) (k + 15) og s1 s1) w0)
   have s12 := an ((cu (am (aj x.p y.p) (aj x.p y.p)) x.r (k + 12) og s11 (eS zx og).2) w0)
   have s13 := an ((cK (az (am (aj x.p y.p) (aj x.p y.p)) x.r) y.r (k + 9) og s12 (eS zy og).2) w0)
   replace h := h.emps 1
   refine fq mixed [dw _ [2], dw _ [2], dv _, dv _, dw _ [1], dv _, dv _, dw _ [0], dv _, ⟨.nd (.one 9 fun v => ∃ b, v = ptr b 0), [5]⟩, ⟨.det undef, [5]⟩] [⟨_, []⟩, ⟨_, []⟩, ⟨_, []⟩, ⟨_, []⟩, ⟨_, []⟩, ⟨.emp, [(9, .one 9 fun v => .blk (bE v) (cQ oQ) 29), (10, .one 9 fun v => .blk (bE v) (cQ (aj (az (am (aj x.p y.p) (aj x.p y.p)) x.r) y.r)) 29)]⟩] h rfl (by kernel_rfl) ⟨fun _ _ => il _ rfl rfl (iT aa29 zz29 rfl rfl rfl (v := (vQ (aj x.p y.p))) rfl), fun _ _ => il _ rfl rfl (iT aa29 zz29 rfl rfl rfl (v := (vQ (aj x.p y.p))) rfl), fun _ _ => g7 (gg Tryz.call172 rfl (bk (aj x.p y.p) (aj x.p y.p) (k + 15) og s1 s1)), fun _ _ => aZ (fa uu46 rfl zz29 rfl rfl rfl (k' := 4)), fun _ _ => il _ rfl rfl (iT aa29 zz29 rfl rfl rfl (v := (vQ x.r)) rfl), fun _ _ => g7 (gg Tryz.call106 rfl (cu (am (aj x.p y.p) (aj x.p y.p)) x.r (k + 12) og s11 (eS zx og).2)), fun _ _ => aZ (fa uu46 rfl zz29 rfl rfl rfl (k' := 4)), fun _ _ => il _ rfl rfl (iT aa29 zz29 rfl rfl rfl (v := (vQ y.r)) rfl), fun _ _ => g7 (gg cc148 rfl (cK (az (am (aj x.p y.p) (aj x.p y.p)) x.r) y.r (k + 9) og s12 (eS zy og).2)), fun _ _ => na (ψ := fun v => ∃ b, v = ptr b 0) (B := fun v => [.blk (bE v) (cQ oQ) 29]) [.emp] rfl (fun v _ => by simp only [dh, bo] <;> rfl) (fun v hv => by simpa [DF.one, bo] using hv) (kf (gw vv29 rfl)), (fun ξ hφ => by obtain ⟨b6, hb9⟩ := hφ 9 rfl; exact ly [.blk b6 (cQ oQ) 29] [.blk b6 (cQ (aj (az (am (aj x.p y.p) (aj x.p y.p)) x.r) y.r)) 29] (congrArg (fun v => [Asn.blk (bE v) (cQ oQ) 29]) hb9) (congrArg (fun v => [Asn.blk (bE v) (cQ (aj (az (am (aj x.p y.p) (aj x.p y.p)) x.r) y.r)) 29]) hb9) (ow zz29 (Eq.trans rfl (congrArg some hb9)) rfl rfl rfl rfl rfl rfl)), trivial⟩ ?_
   clear h ac wo; intro ξ ac wo hφ h
   replace h : St w0 65 [(2, (ptr b1 0)), (5, (ptr b3 0)), (6, (ptr b4 0)), (8, (.int .i64 (d8 (aj x.p y.p) (a7 x) x.r))), (10, ξ 9)] [.blk b2 (cR y) 46, .blk b1 (cR x) 46, .blk b3 (cQ (aj x.p y.p)) 29, .blk b4 (cQ (a7 x)) 29, .blk b5 (cQ (aR (a7 y))) 29, .blk (bE (ξ 9)) (cQ (aj (az (am (aj x.p y.p) (aj x.p y.p)) x.r) y.r)) 29] ac wo := h.sub ⟨rfl, rfl, rfl, rfl, rfl, trivial⟩
   revert h
   obtain ⟨b6, hb9⟩ : ∃ b, ξ 9 = ptr b 0 := hφ 9
   rw [hb9]; intro h
   clear hb9 hφ ξ
   refine gz h <| (W) ?_; clear h ac wo; intro ac wo h
   have s14 := an ((bV 2 (k + 20) og  og) w0)
   have s15 := an ((bk (aj x.p y.p) (a7 x) (k + 15) og s1 (cX s2 og)) w0)
   have s16 := an ((bk (ak 2) (am (aj x.p y.p) (a7 x)) (k + 13) og (cX s14 og) s15) w0)
   have p18 := an ((jA (aj (az (am (aj x.p y.p) (aj x.p y.p)) x.r) y.r) (am (ak 2) (am (aj x.p y.p) (a7 x))) x.r (k + 1) og s13 (cX s16 og) (eS zx og).2) w0)
   have hd : ao x y = ((d8 (aj x.p y.p) (a7 x) x.r) * (d8 (aj (az (am (aj x.p y.p) (aj x.p y.p)) x.r) y.r) (am (ak 2) (am (aj x.p y.p) (a7 x))) x.r)) := pt
   refine gz h <| (dr0 (hob := (oK (bV 2 (k + 20) og  og)) <| (oK (bk (aj x.p y.p) (a7 x) (k + 15) og s1 (cX s2 og))) <| (oK (bk (ak 2) (am (aj x.p y.p) (a7 x)) (k + 13) og (cX s14 og) s15)) <| (oK (jA (aj (az (am (aj x.p y.p) (aj x.p y.p)) x.r) y.r) (am (ak 2) (am (aj x.p y.p) (a7 x))) x.r (k + 1) og s13 (cX s16 og) (eS zx og).2)) <| (oX (h := by exact fun _ => aZ (mt rfl rfl (r := ((d8 (aj x.p y.p) (a7 x) x.r) * (d8 (aj (az (am (aj x.p y.p) (aj x.p y.p)) x.r) y.r) (am (ak 2) (am (aj x.p y.p) (a7 x))) x.r))) (by first | (rw [IntKind.wrap_i64]; omega) | exact jy og og)))) <| oE)) <| (W) ?_; clear h ac wo; intro ac wo h
   exact (rt h) (h.retP (by rw [hd] <;> rfl) (by rw [hd]; exact by first | omega | exact fw og og))
def aK (n : Int) : GR :=
 (⟨(ak n), (⟨(⟨false, 0⟩ : GI), (⟨false, 0⟩ : GI)⟩ : GQ), false⟩ : GR)
theorem nI (n : Int) (k : Nat) (hk : k ≤ 40) (hn : -9223372036854775808 ≤ n ∧ n ≤ 9223372036854775807) (w0 : World) : Calls Tryz.prog 102 #[(.int .i64 n)] w0 (RetP w0 (vR (aK n)) (SzR k (aK n))) := by
 refine enter (N := 6) (args := [(.int .i64 n)]) Tryz.func102 rfl rfl ?_; intro ac h
 have c1 := bV n k og  og
 have s1 := an (c1 w0)
 refine gz h <| (xa) fun b1 => (xk c1) <| (xo (hs := by exact bF vd exs rfl (v := (vR (⟨(ak n), oQ, false⟩ : GR))) rfl)) <| (W) ?_; clear h ac; intro ac wo h
 exact ret h rfl (.cell (v := (vR (⟨(ak n), oQ, false⟩ : GR))) rfl (i := 0) rfl aa46 zz46 rfl rfl rfl .nil) rfl (h.retP (by unfold aK; rfl) (by unfold aK; exact ⟨s1, ⟨(bu 0 (by decide) og), (bu 0 (by decide) og)⟩⟩))
def ah (r : GQ) : GR :=
 (⟨r, (⟨(⟨false, 0⟩ : GI), (⟨false, 0⟩ : GI)⟩ : GQ), false⟩ : GR)
theorem cO (r : GQ) (k : Nat) (hk : k ≤ 40) (zr : SzQ k r) (w0 : World) : Calls Tryz.prog 26 #[(vQ r)] w0 (RetP w0 (vR (ah r)) (SzR k (ah r))) := by
 refine enter (N := 5) (args := [(vQ r)]) Tryz.func26 rfl rfl ?_; intro ac h
 refine gz h <| (xb) fun b1 => (xa) fun b2 => (xo (hs := by exact bF vd exs rfl (v := (vR (⟨r, oQ, false⟩ : GR))) rfl)) <| (W) ?_; clear h ac; intro ac wo h
 exact ret h rfl (.cell (v := (vR (⟨r, oQ, false⟩ : GR))) rfl (i := 0) rfl aa46 zz46 rfl rfl rfl .nil) rfl (h.retP (by unfold ah; rfl) (by unfold ah; exact ⟨zr, ⟨(bu 0 (by decide) og), (bu 0 (by decide) og)⟩⟩))
def aQ (c0 : GQ) (c1 : GQ) : Qd :=
 (⟨c0, c1, (⟨(⟨false, 0⟩ : GI), (⟨false, 0⟩ : GI)⟩ : GQ)⟩ : Qd)
theorem cL (c0 : GQ) (c1 : GQ) (k : Nat) (hk : k ≤ 40) (zc0 : SzQ k c0) (zc1 : SzQ k c1) (w0 : World) : Calls Tryz.prog 150 #[(vQ c0), (vQ c1)] w0 (RetP w0 (vD (aQ c0 c1)) (SzD k (aQ c0 c1))) := by
 refine enter (N := 8) (args := [(vQ c0), (vQ c1)]) Tryz.func150 rfl rfl ?_; intro ac h
 refine gz h <| (xb) fun b1 => (xb) fun b2 => (xa) fun b3 => (xo (hs := by exact bF ve exs rfl (v := (vD (⟨c0, c1, oQ⟩ : Qd))) rfl)) <| (W) ?_; clear h ac; intro ac wo h
 exact ret h rfl (.cell (v := (vD (⟨c0, c1, oQ⟩ : Qd))) rfl (i := 0) rfl aa72 zz72 rfl rfl rfl .nil) rfl (h.retP (by unfold aQ; rfl) (by unfold aQ; exact ⟨zc0, zc1, ⟨(bu 0 (by decide) og), (bu 0 (by decide) og)⟩⟩))
def aD (q : Qd) (t : GQ) : GQ :=
 (az q.c0 (am t (az q.c1 (am t q.c2))))
theorem fk (q : Qd) (t : GQ) (k : Nat) (hk : (k + 10) ≤ 40) (zq : SzD (k + 10) q) (zt : SzQ (k + 10) t) (w0 : World) : Calls Tryz.prog 81 #[(vD q), (vQ t)] w0 (RetP w0 (vQ (aD q t)) (SzQ k (aD q t))) := by
 refine enter (N := 17) (args := [(vD q), (vQ t)]) Tryz.func81 rfl rfl ?_; intro ac h
 have s1 := an ((bk t q.c2 (k + 8) og zt zq.2.2) w0)
 have s2 := an ((cu q.c1 (am t q.c2) (k + 5) og (kK zq og).2.1 s1) w0)
 have s3 := an ((bk t (az q.c1 (am t q.c2)) (k + 3) og (cX zt og) s2) w0)
 have s4 := an ((cu q.c0 (am t (az q.c1 (am t q.c2))) k og (kK zq og).1 s3) w0)
 refine gz h <| (xb) fun b1 => (xb) fun b2 => (xa) fun b3 => (dr1 (H := [⟨.blk b3 (cQ oQ) 29, [(12, .con (.blk b3 (cQ (az q.c0 (am t (az q.c1 (am t q.c2))))) 29))]⟩, ⟨_, []⟩, ⟨_, []⟩]) (hob := (oK (bk t q.c2 (k + 8) og zt zq.2.2)) <| (oK (cu q.c1 (am t q.c2) (k + 5) og (kK zq og).2.1 s1)) <| (oK (bk t (az q.c1 (am t q.c2)) (k + 3) og (cX zt og) s2)) <| (oK (cu q.c0 (am t (az q.c1 (am t q.c2))) k og (kK zq og).1 s3)) <| oE)) <| (W) ?_; clear h ac; intro ac wo h
 exact ret h rfl (.cell (v := (vQ (az q.c0 (am t (az q.c1 (am t q.c2)))))) rfl (i := 0) rfl aa29 zz29 rfl rfl rfl .nil) rfl (h.retP (by unfold aD; rfl) (by unfold aD; exact s4))
def aM (q : Qd) (t : GQ) : GQ :=
 (az q.c1 (am (az q.c2 q.c2) t))
theorem ie (q : Qd) (t : GQ) (k : Nat) (hk : (k + 8) ≤ 40) (zq : SzD (k + 8) q) (zt : SzQ (k + 8) t) (w0 : World) : Calls Tryz.prog 178 #[(vD q), (vQ t)] w0 (RetP w0 (vQ (aM q t)) (SzQ k (aM q t))) := by
 refine enter (N := 15) (args := [(vD q), (vQ t)]) Tryz.func178 rfl rfl ?_; intro ac h
 have s1 := an ((cu q.c2 q.c2 (k + 5) og zq.2.2 zq.2.2) w0)
 have s2 := an ((bk (az q.c2 q.c2) t (k + 3) og s1 (cX zt og)) w0)
 have s3 := an ((cu q.c1 (am (az q.c2 q.c2) t) k og (kK zq og).2.1 s2) w0)
 refine gz h <| (xb) fun b1 => (xb) fun b2 => (xa) fun b3 => (dr1 (H := [⟨.blk b3 (cQ oQ) 29, [(10, .con (.blk b3 (cQ (az q.c1 (am (az q.c2 q.c2) t))) 29))]⟩, ⟨_, []⟩, ⟨_, []⟩]) (hob := (oK (cu q.c2 q.c2 (k + 5) og zq.2.2 zq.2.2)) <| (oK (bk (az q.c2 q.c2) t (k + 3) og s1 (cX zt og))) <| (oK (cu q.c1 (am (az q.c2 q.c2) t) k og (kK zq og).2.1 s2)) <| oE)) <| (W) ?_; clear h ac; intro ac wo h
 exact ret h rfl (.cell (v := (vQ (az q.c1 (am (az q.c2 q.c2) t)))) rfl (i := 0) rfl aa29 zz29 rfl rfl rfl .nil) rfl (h.retP (by unfold aM; rfl) (by unfold aM; exact s3))
def dI (p : Qd) (q : Qd) : Qd :=
 (⟨(aj p.c0 q.c0), (aj p.c1 q.c1), (aj p.c2 q.c2)⟩ : Qd)
theorem kb (p : Qd) (q : Qd) (k : Nat) (hk : (k + 3) ≤ 40) (zp : SzD (k + 3) p) (zq : SzD (k + 3) q) (w0 : World) : Calls Tryz.prog 41 #[(vD p), (vD q)] w0 (RetP w0 (vD (dI p q)) (SzD k (dI p q))) := by
 refine enter (N := 21) (args := [(vD p), (vD q)]) Tryz.func41 rfl rfl ?_; intro ac h
 have s1 := an ((cK p.c0 q.c0 k og zp.1 zq.1) w0)
 have s2 := an ((cK p.c1 q.c1 k og zp.2.1 zq.2.1) w0)
 have s3 := an ((cK p.c2 q.c2 k og zp.2.2 zq.2.2) w0)
 refine gz h <| (xb) fun b1 => (xb) fun b2 => (xa) fun b3 => (dr1 (H := [⟨.blk b3 (cD oD) 72, [(16, .con (.blk b3 (cD (⟨(aj p.c0 q.c0), (aj p.c1 q.c1), (aj p.c2 q.c2)⟩ : Qd)) 72))]⟩, ⟨_, []⟩, ⟨_, []⟩]) (hob := (oK (cK p.c0 q.c0 k og zp.1 zq.1)) <| (oK (cK p.c1 q.c1 k og zp.2.1 zq.2.1)) <| (oK (cK p.c2 q.c2 k og zp.2.2 zq.2.2)) <| (oX (h := by exact fun _ => aZ (bF ve exs rfl (v := (vD (⟨(aj p.c0 q.c0), (aj p.c1 q.c1), (aj p.c2 q.c2)⟩ : Qd))) rfl))) <| oE)) <| (W) ?_; clear h ac; intro ac wo h
 exact ret h rfl (.cell (v := (vD (⟨(aj p.c0 q.c0), (aj p.c1 q.c1), (aj p.c2 q.c2)⟩ : Qd))) rfl (i := 0) rfl aa72 zz72 rfl rfl rfl .nil) rfl (h.retP (by unfold dI; rfl) (by unfold dI; exact ⟨s1, s2, s3⟩))
def dH (x : GR) : GQ × Bool :=
 bif (!(decide (x.r = (⟨(⟨false, 0⟩ : GI), (⟨false, 0⟩ : GI)⟩ : GQ)))) then
  ((⟨(⟨false, 0⟩ : GI), (⟨false, 0⟩ : GI)⟩ : GQ), false)
 else
  (x.p, true)
theorem m7 (x : GR) (k : Nat) (hk : k ≤ 40) (zx : SzR k x) (w0 : World) : Calls Tryz.prog 80 #[(vR x)] w0 (RetP w0 (.tuple #[(vQ ((dH x).1)), (.bool ((dH x).2))]) (SzQ k ((dH x).1))) := by
 refine enter (N := 11) (args := [(vR x)]) Tryz.func80 rfl rfl ?_; intro ac h
 refine gz h <| (xb) fun b1 => (xa) fun b2 => (xo (hs := by exact bF ni exs rfl (v := (vQ oQ)) rfl)) <| (ai) ?_ ?_ <;> clear h ac <;> intro ac wo h hc1
 ·
  have hd : dH x = (oQ, false) := pt
  refine gz h <| (xo (hs := by exact bF ni exs rfl (v := (vQ oQ)) rfl)) <| (W) ?_; clear h ac wo; intro ac wo h
  exact ret h rfl (.cell (v := (vQ oQ)) rfl (i := 0) rfl aa29 zz29 rfl rfl rfl (.tmp rfl .nil)) rfl (h.retP (by rw [hd] <;> rfl) (by rw [hd]; exact ⟨(bu 0 (by decide) og), (bu 0 (by decide) og)⟩))
 ·
  have hd : dH x = (x.p, true) := pt
  refine gz h <| (W) ?_; clear h ac wo; intro ac wo h
  exact ret h rfl (.cell (v := (vQ x.p)) rfl (i := 0) rfl aa29 zz29 rfl rfl rfl (.tmp rfl .nil)) rfl (h.retP (by rw [hd] <;> rfl) (by rw [hd]; exact zx.1))
def aV (q : Qd) (t : GR) : Qd :=
 bif (dH t).2 then
  (ax (aD q ((dH t).1)))
 else
  (aQ (az q.c0 (am q.c2 (aj t.r (am t.p t.p)))) (aM q t.p))
theorem fp (q : Qd) (t : GR) (k : Nat) (hk : (k + 10) ≤ 40) (zq : SzD (k + 10) q) (zt : SzR (k + 10) t) (w0 : World) : Calls Tryz.prog 83 #[(vD q), (vR t)] w0 (RetP w0 (vD (aV q t)) (SzD k (aV q t))) := by
 refine enter (N := 38) (args := [(vD q), (vR t)]) Tryz.func83 rfl rfl ?_; intro ac h
 have c1 := m7 t (k + 10) og zt
 have s1 := an (c1 w0)
 refine gz h <| (xb) fun b1 => (xb) fun b2 => (xa) fun b3 => (xk c1) <| (xa) fun b4 => (ai) ?_ ?_ <;> clear h ac <;> intro ac wo h hc1
 ·
  have c2 := fk q ((dH t).1) k og zq s1
  have s2 := an (c2 w0)
  have c3 := kr (aD q ((dH t).1)) k og s2
  have s3 := an (c3 w0)
  have hd : aV q t = (ax (aD q ((dH t).1))) := pt
  refine gz h <| (xk c2) <| (xk c3) <| (W) ?_; clear h ac wo; intro ac wo h
  exact ret h rfl (.cell (v := (vD (ax (aD q ((dH t).1))))) rfl (i := 1) rfl aa72 zz72 rfl rfl rfl .nil) rfl (h.retP (by rw [hd] <;> rfl) (by rw [hd]; exact s3))
 ·
  refine gz h <| (W) ?_; clear h ac wo; intro ac wo h
  have s4 := an ((bk t.p t.p (k + 8) og zt.1 zt.1) w0)
  have s5 := an ((cK t.r (am t.p t.p) (k + 5) og (eS zt og).2 s4) w0)
  replace h := h.emps 1
  refine fq mixed [dv _, dw _ [2], dv _, dw _ [2], dv _, dw _ [2], dv _, dv _, ⟨.nd (.one 8 fun v => ∃ b, v = ptr b 0), [4]⟩, ⟨.det undef, [4]⟩] [⟨_, []⟩, ⟨_, []⟩, ⟨_, []⟩, ⟨_, []⟩, ⟨.emp, [(8, .one 8 fun v => .blk (bE v) (cQ oQ) 29), (9, .one 8 fun v => .blk (bE v) (cQ (aj t.r (am t.p t.p))) 29)]⟩] h rfl (by kernel_rfl) ⟨fun _ _ => aZ (fa uu46 rfl zz29 rfl rfl rfl (k' := 4)), fun _ _ => il _ rfl rfl (iT aa29 zz29 rfl rfl rfl (v := (vQ t.r)) rfl), fun _ _ => aZ (fa uu46 rfl zz29 rfl rfl rfl (k' := 0)), fun _ _ => il _ rfl rfl (iT aa29 zz29 rfl rfl rfl (v := (vQ t.p)) rfl), fun _ _ => aZ (fa uu46 rfl zz29 rfl rfl rfl (k' := 0)), fun _ _ => il _ rfl rfl (iT aa29 zz29 rfl rfl rfl (v := (vQ t.p)) rfl), fun _ _ => g7 (gg Tryz.call172 rfl (bk t.p t.p (k + 8) og zt.1 zt.1)), fun _ _ => g7 (gg cc148 rfl (cK t.r (am t.p t.p) (k + 5) og (eS zt og).2 s4)), fun _ _ => na (ψ := fun v => ∃ b, v = ptr b 0) (B := fun v => [.blk (bE v) (cQ oQ) 29]) [.emp] rfl (fun v _ => by simp only [dh, bo] <;> rfl) (fun v hv => by simpa [DF.one, bo] using hv) (kf (gw vv29 rfl)), (fun ξ hφ => by obtain ⟨b5, hb8⟩ := hφ 8 rfl; exact ly [.blk b5 (cQ oQ) 29] [.blk b5 (cQ (aj t.r (am t.p t.p))) 29] (congrArg (fun v => [Asn.blk (bE v) (cQ oQ) 29]) hb8) (congrArg (fun v => [Asn.blk (bE v) (cQ (aj t.r (am t.p t.p))) 29]) hb8) (ow zz29 (Eq.trans rfl (congrArg some hb8)) rfl rfl rfl rfl rfl rfl)), trivial⟩ ?_
  clear h ac wo; intro ξ ac wo hφ h
  replace h : St w0 38 [(2, (ptr b1 0)), (3, (ptr b2 0)), (4, (ptr b3 0)), (7, ξ 8)] [.blk b4 (cQ ((dH t).1)) 29, .blk b3 (cD oD) 72, .blk b2 (cR t) 46, .blk b1 (cD q) 72, .blk (bE (ξ 8)) (cQ (aj t.r (am t.p t.p))) 29] ac wo := h.sub ⟨rfl, rfl, rfl, rfl, trivial⟩
  revert h
  obtain ⟨b5, hb8⟩ : ∃ b, ξ 8 = ptr b 0 := hφ 8
  rw [hb8]; intro h
  clear hb8 hφ ξ
  refine gz h <| (W) ?_; clear h ac wo; intro ac wo h
  have s6 := an ((bk q.c2 (aj t.r (am t.p t.p)) (k + 3) og (kK zq og).2.2 s5) w0)
  have s7 := an ((cu q.c0 (am q.c2 (aj t.r (am t.p t.p))) k og (kK zq og).1 s6) w0)
  have s8 := an ((ie q t.p (k + 2) og zq zt.1) w0)
  have s9 := an ((cL (az q.c0 (am q.c2 (aj t.r (am t.p t.p)))) (aM q t.p) k og s7 (cX s8 og)) w0)
  have hd : aV q t = (aQ (az q.c0 (am q.c2 (aj t.r (am t.p t.p)))) (aM q t.p)) := pt
  refine gz h <| (dr1 (H := [⟨_, []⟩, ⟨.blk b3 (cD oD) 72, [(12, .con (.blk b3 (cD (aQ (az q.c0 (am q.c2 (aj t.r (am t.p t.p)))) (aM q t.p))) 72))]⟩, ⟨_, []⟩, ⟨_, []⟩, ⟨_, []⟩]) (hob := (oK (bk q.c2 (aj t.r (am t.p t.p)) (k + 3) og (kK zq og).2.2 s5)) <| (oK (cu q.c0 (am q.c2 (aj t.r (am t.p t.p))) k og (kK zq og).1 s6)) <| (oK (ie q t.p (k + 2) og zq zt.1)) <| (oK (cL (az q.c0 (am q.c2 (aj t.r (am t.p t.p)))) (aM q t.p) k og s7 (cX s8 og))) <| oE)) <| (W) ?_; clear h ac wo; intro ac wo h
  exact ret h rfl (.cell (v := (vD (aQ (az q.c0 (am q.c2 (aj t.r (am t.p t.p)))) (aM q t.p)))) rfl (i := 1) rfl aa72 zz72 rfl rfl rfl .nil) rfl (h.retP (by rw [hd] <;> rfl) (by rw [hd]; exact s9))
def fW (p : Qd) (q : Qd) (t : GR) : Bool :=
 (decide ((aV (dI p q) t) = (⟨(⟨(⟨false, 0⟩ : GI), (⟨false, 0⟩ : GI)⟩ : GQ), (⟨(⟨false, 0⟩ : GI), (⟨false, 0⟩ : GI)⟩ : GQ), (⟨(⟨false, 0⟩ : GI), (⟨false, 0⟩ : GI)⟩ : GQ)⟩ : Qd)))
theorem jO (p : Qd) (q : Qd) (t : GR) (k : Nat) (hk : (k + 14) ≤ 40) (zp : SzD (k + 14) p) (zq : SzD (k + 14) q) (zt : SzR (k + 14) t) (w0 : World) : Calls Tryz.prog 74 #[(vD p), (vD q), (vR t)] w0 (RetP w0 (.bool (fW p q t)) (True)) := by
 refine enter (N := 14) (args := [(vD p), (vD q), (vR t)]) Tryz.func74 rfl rfl ?_; intro ac h
 have s1 := an ((kb p q (k + 11) og zp zq) w0)
 have s2 := an ((fp (dI p q) t (k + 1) og s1 (eS zt og)) w0)
 refine gz h <| (xb) fun b1 => (xb) fun b2 => (xb) fun b3 => (dr0 (hob := (oK (kb p q (k + 11) og zp zq)) <| (oK (fp (dI p q) t (k + 1) og s1 (eS zt og))) <| (oX (h := by exact fun _ => aZ (bF ve exs rfl (v := (vD oD)) rfl))) <| oE)) <| (W) ?_; clear h ac; intro ac wo h
 exact (rt h) (h.retP (by unfold fW; rfl) trivial)
def en (a : Iv) (b : Iv) : Bool :=
 ((decide ((ao a.hi b.lo) < 0)) || (((ao a.hi b.lo) == 0) && (a.openHi || b.openLo)))
theorem nL (a : Iv) (b : Iv) (k : Nat) (hk : (k + 20) ≤ 40) (za : SzV (k + 20) a) (zb : SzV (k + 20) b) (w0 : World) : Calls Tryz.prog 152 #[(vV a), (vV b)] w0 (RetP w0 (.bool (en a b)) (True)) := by
 refine enter (N := 25) (args := [(vV a), (vV b)]) Tryz.func152 rfl rfl ?_; intro ac h
 have p2 := an ((cH a.hi b.lo k og za.2 zb.1) w0)
 refine gz h <| (xb) fun b1 => (xb) fun b2 => (xk (cH a.hi b.lo k og za.2 zb.1)) <| (W) ?_; clear h ac; intro ac wo h
 exact (rt h) (h.retP (by unfold en; rfl) trivial)
def aP (i : Iv) : Bool :=
 (decide (i.lo = i.hi))
theorem eE (i : Iv) (w0 : World) : Calls Tryz.prog 154 #[(vV i)] w0 (RetP w0 (.bool (aP i)) (True)) := by
 refine enter (N := 8) (args := [(vV i)]) Tryz.func154 rfl rfl ?_; intro ac h
 refine gz h <| (xb) fun b1 => (W) ?_; clear h ac; intro ac wo h
 exact (rt h) (h.retP (by unfold aP; rfl) trivial)
end Go.Sx
