/- A part of the proof of movingpointNumbers. -/
import Derived.Test.YtbenbmdkhcfcfaaGreatDoorProg
import Derived.Test.YtbenbmdkhcfcfaaGreatDoorG6
set_option linter.unusedVariables false
set_option linter.unusedSimpArgs false
open Go.Proofs.Tryz renaming isAgg27 → aa27, sizeOf27 → zz27, runUnderlying71 → uu71, call22 → cc22, isAgg71 → aa71, sizeOf71 → zz71, zeroValue27 → vv27, isAgg53 → aa53, sizeOf53 → zz53
namespace Go.Sx
open Go Go.RowKit Go.Proofs
set_option maxRecDepth 100000
set_option maxHeartbeats 40000000
attribute [local irreducible] Code.wp wpList Rd Step ObS Ent
def bm (x : GR) : GQ :=
 bif x.neg then
  (ak (-1))
 else
  (ak 1)
theorem jb (x : GR) (k : Nat) (hk : k ≤ 40) (zx : SzR k x) (w0 : World) : Calls Tryz.prog 210 #[(vR x)] w0 (dI w0 (vQ (bm x)) (SzQ k (bm x))) := by
 refine enter (N := 7) (args := [(vR x)]) Tryz.func210 rfl rfl ?_; intro ac h
 refine gz h <| (xb) fun b1 => (xa) fun b2 => (ai) ?_ ?_ <;> clear h ac <;> intro ac wo h hc1
 ·
  have c1 := cq (-1) k og  og
  have s1 := ao (c1 w0)
  have hd : bm x = (ak (-1)) := pt
  refine gz h <| (xk c1) <| (W) ?_; clear h ac wo; intro ac wo h
  exact ret h rfl (.cell (v := (vQ (ak (-1)))) rfl (i := 0) rfl aa27 zz27 rfl rfl rfl .nil) rfl (h.retP (by rw [hd] <;> rfl) (by rw [hd]; exact s1))
 ·
  have c2 := cq 1 k og  og
  have s2 := ao (c2 w0)
  have hd : bm x = (ak 1) := pt
  refine gz h <| (xk c2) <| (W) ?_; clear h ac wo; intro ac wo h
  exact ret h rfl (.cell (v := (vQ (ak 1))) rfl (i := 0) rfl aa27 zz27 rfl rfl rfl .nil) rfl (h.retP (by rw [hd] <;> rfl) (by rw [hd]; exact s2))
def eh (a : GQ) (b : GQ) (r : GQ) : Int :=
 bif ((((au b) * (au r)) == 0) || ((au a) == ((au b) * (au r)))) then
  (au a)
 else
  bif ((au a) == 0) then
   ((au b) * (au r))
  else
   ((au a) * (br (an a a) (an (an b b) r)))
theorem jV (a : GQ) (b : GQ) (r : GQ) (k : Nat) (hk : (k + 8) ≤ 40) (za : SzQ (k + 8) a) (zb : SzQ (k + 8) b) (zr : SzQ (k + 8) r) (w0 : World) : Calls Tryz.prog 211 #[(vQ a), (vQ b), (vQ r)] w0 (dI w0 (.int .i64 (eh a b r)) ((-1 ≤ (eh a b r) ∧ (eh a b r) ≤ 1))) := by
 refine enter (N := 40) (args := [(vQ a), (vQ b), (vQ r)]) Tryz.func211 rfl rfl ?_; intro ac h
 have p2 := ao ((dp a) w0)
 have p4 := ao ((dp b) w0)
 have p6 := ao ((dp r) w0)
 refine gz h <| (xb) fun b1 => (xb) fun b2 => (xb) fun b3 => (dr0 (hob := (oK (dp a)) <| (oK (dp b)) <| (oK (dp r)) <| (oX (h := by exact fun _ => bk (k7 rfl rfl (r := ((au b) * (au r))) (by first | (rw [IntKind.wrap_i64]; omega) | exact ik og og)))) <| oE)) <| (ai) ?_ ?_ <;> clear h ac <;> intro ac wo h hc1
 ·
  have hd : eh a b r = (au a) := pt
  refine gz h <| (W) ?_; clear h ac wo; intro ac wo h
  exact (rt h) (h.retP (by rw [hd] <;> rfl) (by rw [hd]; exact by first | omega | exact fw og og))
 ·
  refine gz h <| (ai) ?_ ?_ <;> clear h ac wo <;> intro ac wo h hc2
  ·
   have hd2 := eq_of_beq hc2
   have hd : eh a b r = ((au b) * (au r)) := pt
   refine gz h <| (W) ?_; clear h ac wo; intro ac wo h
   exact (rt h) (h.retP (by rw [hd] <;> rfl) (by rw [hd]; exact by first | omega | exact fw og og))
  ·
   have hd2 := ne_of_beq_false hc2
   refine gz h <| (W) ?_; clear h ac wo; intro ac wo h
   have s7 := ao ((be a a (k + 6) og za za) w0)
   have s8 := ao ((be b b (k + 6) og zb zb) w0)
   have s9 := ao ((be (an b b) r (k + 4) og s8 (cO zr og)) w0)
   have p11 := ao ((it (an a a) (an (an b b) r) (k + 3) og (cO s7 og) s9) w0)
   have hd : eh a b r = ((au a) * (br (an a a) (an (an b b) r))) := pt
   refine gz h <| (dr0 (hob := (oK (be a a (k + 6) og za za)) <| (oK (be b b (k + 6) og zb zb)) <| (oK (be (an b b) r (k + 4) og s8 (cO zr og))) <| (oK (it (an a a) (an (an b b) r) (k + 3) og (cO s7 og) s9)) <| (oX (h := by exact fun _ => bk (k7 rfl rfl (r := ((au a) * (br (an a a) (an (an b b) r)))) (by first | (rw [IntKind.wrap_i64]; omega) | exact ik og og)))) <| oE)) <| (W) ?_; clear h ac wo; intro ac wo h
   exact (rt h) (h.retP (by rw [hd] <;> rfl) (by rw [hd]; exact by first | omega | exact fw og og))
def ap (x : GR) (y : GR) : Int :=
 bif ((((au (aZ (bm y))) * (au y.r)) == 0) || ((eh (am x.p y.p) (bm x) x.r) == ((au (aZ (bm y))) * (au y.r)))) then
  (eh (am x.p y.p) (bm x) x.r)
 else
  bif ((eh (am x.p y.p) (bm x) x.r) == 0) then
   ((au (aZ (bm y))) * (au y.r))
  else
   ((eh (am x.p y.p) (bm x) x.r) * (eh (am (aE (an (am x.p y.p) (am x.p y.p)) x.r) y.r) (an (ak 2) (an (am x.p y.p) (bm x))) x.r))
theorem cP (x : GR) (y : GR) (k : Nat) (hk : (k + 20) ≤ 40) (zx : SzR (k + 20) x) (zy : SzR (k + 20) y) (w0 : World) : Calls Tryz.prog 127 #[(vR x), (vR y)] w0 (dI w0 (.int .i64 (ap x y)) ((-1 ≤ (ap x y) ∧ (ap x y) ≤ 1))) := by
 refine enter (N := 65) (args := [(vR x), (vR y)]) Tryz.func127 rfl rfl ?_; intro ac h
 have s1 := ao ((cX x.p y.p (k + 17) og zx.1 zy.1) w0)
 have s2 := ao ((jb x (k + 20) og zx) w0)
 have s3 := ao ((jb y (k + 20) og zy) w0)
 have s4 := ao ((fl (bm y) (k + 20) og s3) w0)
 refine gz h <| (xb) fun b1 => (xb) fun b2 => (W) ?_; clear h ac; intro ac wo h
 replace h := h.emps 3
 refine fo mixed [dv _, dw _ [1], dv _, dw _ [0], dv _, dw _ [1], dv _, dw _ [0], dv _, dv _, ⟨.nd (.one 10 fun v => ∃ b, v = ptr b 0), [2]⟩, ⟨.nd (.one 11 fun v => ∃ b, v = ptr b 0), [3]⟩, ⟨.nd (.one 12 fun v => ∃ b, v = ptr b 0), [4]⟩, ⟨.det undef, [2]⟩, ⟨.det undef, [3]⟩, ⟨.det undef, [4]⟩] [⟨_, []⟩, ⟨_, []⟩, ⟨.emp, [(10, .one 10 fun v => .blk (bK v) (cQ oQ) 27), (13, .one 10 fun v => .blk (bK v) (cQ (am x.p y.p)) 27)]⟩, ⟨.emp, [(11, .one 11 fun v => .blk (bK v) (cQ oQ) 27), (14, .one 11 fun v => .blk (bK v) (cQ (bm x)) 27)]⟩, ⟨.emp, [(12, .one 12 fun v => .blk (bK v) (cQ oQ) 27), (15, .one 12 fun v => .blk (bK v) (cQ (aZ (bm y))) 27)]⟩] h rfl (by kernel_rfl) ⟨fun _ _ => bk (fa uu71 rfl zz27 rfl rfl rfl (k' := 0)), fun _ _ => iZ _ rfl rfl (jW aa27 zz27 rfl rfl rfl (v := (vQ x.p)) rfl), fun _ _ => bk (fa uu71 rfl zz27 rfl rfl rfl (k' := 0)), fun _ _ => iZ _ rfl rfl (jW aa27 zz27 rfl rfl rfl (v := (vQ y.p)) rfl), fun _ _ => g8 (gD cc22 rfl (cX x.p y.p (k + 17) og zx.1 zy.1)), fun _ _ => iZ _ rfl rfl (jW aa71 zz71 rfl rfl rfl (v := (vR x)) rfl), fun _ _ => g8 (gD Tryz.call210 rfl (jb x (k + 20) og zx)), fun _ _ => iZ _ rfl rfl (jW aa71 zz71 rfl rfl rfl (v := (vR y)) rfl), fun _ _ => g8 (gD Tryz.call210 rfl (jb y (k + 20) og zy)), fun _ _ => g8 (gD Tryz.call63 rfl (fl (bm y) (k + 20) og s3)), fun _ _ => oU (ψ := fun v => ∃ b, v = ptr b 0) (B := fun v => [.blk (bK v) (cQ oQ) 27]) [.emp] rfl (fun v _ => by simp only [dx, bD] <;> rfl) (fun v hv => by simpa [DF.one, bD] using hv) (kz (gV vv27 rfl)), fun _ _ => oU (ψ := fun v => ∃ b, v = ptr b 0) (B := fun v => [.blk (bK v) (cQ oQ) 27]) [.emp] rfl (fun v _ => by simp only [dx, bD] <;> rfl) (fun v hv => by simpa [DF.one, bD] using hv) (kz (gV vv27 rfl)), fun _ _ => oU (ψ := fun v => ∃ b, v = ptr b 0) (B := fun v => [.blk (bK v) (cQ oQ) 27]) [.emp] rfl (fun v _ => by simp only [dx, bD] <;> rfl) (fun v hv => by simpa [DF.one, bD] using hv) (kz (gV vv27 rfl)), (fun ξ hφ => by obtain ⟨b3, hb10⟩ := hφ 10 rfl; exact kW [.blk b3 (cQ oQ) 27] [.blk b3 (cQ (am x.p y.p)) 27] (congrArg (fun v => [Asn.blk (bK v) (cQ oQ) 27]) hb10) (congrArg (fun v => [Asn.blk (bK v) (cQ (am x.p y.p)) 27]) hb10) (oS zz27 (Eq.trans rfl (congrArg some hb10)) rfl rfl rfl rfl rfl rfl)), (fun ξ hφ => by obtain ⟨b4, hb11⟩ := hφ 11 rfl; exact kW [.blk b4 (cQ oQ) 27] [.blk b4 (cQ (bm x)) 27] (congrArg (fun v => [Asn.blk (bK v) (cQ oQ) 27]) hb11) (congrArg (fun v => [Asn.blk (bK v) (cQ (bm x)) 27]) hb11) (oS zz27 (Eq.trans rfl (congrArg some hb11)) rfl rfl rfl rfl rfl rfl)), (fun ξ hφ => by obtain ⟨b5, hb12⟩ := hφ 12 rfl; exact kW [.blk b5 (cQ oQ) 27] [.blk b5 (cQ (aZ (bm y))) 27] (congrArg (fun v => [Asn.blk (bK v) (cQ oQ) 27]) hb12) (congrArg (fun v => [Asn.blk (bK v) (cQ (aZ (bm y))) 27]) hb12) (oS zz27 (Eq.trans rfl (congrArg some hb12)) rfl rfl rfl rfl rfl rfl)), trivial⟩ ?_
 clear h ac wo; intro ξ ac wo hφ h
 replace h : St w0 65 [(2, (ptr b1 0)), (3, (ptr b2 0)), (5, ξ 10), (6, ξ 11), (7, ξ 12)] [.blk b2 (cR y) 71, .blk b1 (cR x) 71, .blk (bK (ξ 10)) (cQ (am x.p y.p)) 27, .blk (bK (ξ 11)) (cQ (bm x)) 27, .blk (bK (ξ 12)) (cQ (aZ (bm y))) 27] ac wo := h.sub ⟨rfl, rfl, rfl, rfl, rfl, trivial⟩
 revert h
 obtain ⟨b3, hb10⟩ : ∃ b, ξ 10 = ptr b 0 := hφ 10
 obtain ⟨b4, hb11⟩ : ∃ b, ξ 11 = ptr b 0 := hφ 11
 obtain ⟨b5, hb12⟩ : ∃ b, ξ 12 = ptr b 0 := hφ 12
 rw [hb10, hb11, hb12]; intro h
 clear hb10 hb11 hb12 hφ ξ
 refine gz h <| (W) ?_; clear h ac wo; intro ac wo h
 have p6 := ao ((jV (am x.p y.p) (bm x) x.r (k + 9) og s1 (cO s2 og) (eW zx og).2) w0)
 have p8 := ao ((dp (aZ (bm y))) w0)
 have p10 := ao ((dp y.r) w0)
 refine gz h <| (dr0 (hob := (oK (jV (am x.p y.p) (bm x) x.r (k + 9) og s1 (cO s2 og) (eW zx og).2)) <| (oK (dp (aZ (bm y)))) <| (oK (dp y.r)) <| (oX (h := by exact fun _ => bk (k7 rfl rfl (r := ((au (aZ (bm y))) * (au y.r))) (by first | (rw [IntKind.wrap_i64]; omega) | exact ik og og)))) <| oE)) <| (ai) ?_ ?_ <;> clear h ac wo <;> intro ac wo h hc1
 ·
  have hd : ap x y = (eh (am x.p y.p) (bm x) x.r) := pt
  refine gz h <| (W) ?_; clear h ac wo; intro ac wo h
  exact (rt h) (h.retP (by rw [hd] <;> rfl) (by rw [hd]; exact by first | omega | exact fw og og))
 ·
  refine gz h <| (ai) ?_ ?_ <;> clear h ac wo <;> intro ac wo h hc2
  ·
   have hd2 := eq_of_beq hc2
   have hd : ap x y = ((au (aZ (bm y))) * (au y.r)) := pt
   refine gz h <| (W) ?_; clear h ac wo; intro ac wo h
   exact (rt h) (h.retP (by rw [hd] <;> rfl) (by rw [hd]; exact by first | omega | exact fw og og))
  ·
   have hd2 := ne_of_beq_false hc2
   refine gz h <| (W) ?_; clear h ac wo; intro ac wo h
   have s11 := ao ((be (am x.p y.p) (am x.p y.p) (k + 15) og s1 s1) w0)
   have s12 := ao ((cd (an (am x.p y.p) (am x.p y.p)) x.r (k + 12) og s11 (eW zx og).2) w0)
   have s13 := ao ((cX (aE (an (am x.p y.p) (am x.p y.p)) x.r) y.r (k + 9) og s12 (eW zy og).2) w0)
   replace h := h.emps 1
   refine fo mixed [dw _ [2], dw _ [2], dv _, dv _, dw _ [1], dv _, dv _, dw _ [0], dv _, ⟨.nd (.one 9 fun v => ∃ b, v = ptr b 0), [5]⟩, ⟨.det undef, [5]⟩] [⟨_, []⟩, ⟨_, []⟩, ⟨_, []⟩, ⟨_, []⟩, ⟨_, []⟩, ⟨.emp, [(9, .one 9 fun v => .blk (bK v) (cQ oQ) 27), (10, .one 9 fun v => .blk (bK v) (cQ (am (aE (an (am x.p y.p) (am x.p y.p)) x.r) y.r)) 27)]⟩] h rfl (by kernel_rfl) ⟨fun _ _ => iZ _ rfl rfl (jW aa27 zz27 rfl rfl rfl (v := (vQ (am x.p y.p))) rfl), fun _ _ => iZ _ rfl rfl (jW aa27 zz27 rfl rfl rfl (v := (vQ (am x.p y.p))) rfl), fun _ _ => g8 (gD Tryz.call21 rfl (be (am x.p y.p) (am x.p y.p) (k + 15) og s1 s1)), fun _ _ => bk (fa uu71 rfl zz27 rfl rfl rfl (k' := 4)), fun _ _ => iZ _ rfl rfl (jW aa27 zz27 rfl rfl rfl (v := (vQ x.r)) rfl), fun _ _ => g8 (gD Tryz.call20 rfl (cd (an (am x.p y.p) (am x.p y.p)) x.r (k + 12) og s11 (eW zx og).2)), fun _ _ => bk (fa uu71 rfl zz27 rfl rfl rfl (k' := 4)), fun _ _ => iZ _ rfl rfl (jW aa27 zz27 rfl rfl rfl (v := (vQ y.r)) rfl), fun _ _ => g8 (gD cc22 rfl (cX (aE (an (am x.p y.p) (am x.p y.p)) x.r) y.r (k + 9) og s12 (eW zy og).2)), fun _ _ => oU (ψ := fun v => ∃ b, v = ptr b 0) (B := fun v => [.blk (bK v) (cQ oQ) 27]) [.emp] rfl (fun v _ => by simp only [dx, bD] <;> rfl) (fun v hv => by simpa [DF.one, bD] using hv) (kz (gV vv27 rfl)), (fun ξ hφ => by obtain ⟨b6, hb9⟩ := hφ 9 rfl; exact kW [.blk b6 (cQ oQ) 27] [.blk b6 (cQ (am (aE (an (am x.p y.p) (am x.p y.p)) x.r) y.r)) 27] (congrArg (fun v => [Asn.blk (bK v) (cQ oQ) 27]) hb9) (congrArg (fun v => [Asn.blk (bK v) (cQ (am (aE (an (am x.p y.p) (am x.p y.p)) x.r) y.r)) 27]) hb9) (oS zz27 (Eq.trans rfl (congrArg some hb9)) rfl rfl rfl rfl rfl rfl)), trivial⟩ ?_
   clear h ac wo; intro ξ ac wo hφ h
   replace h : St w0 65 [(2, (ptr b1 0)), (5, (ptr b3 0)), (6, (ptr b4 0)), (8, (.int .i64 (eh (am x.p y.p) (bm x) x.r))), (10, ξ 9)] [.blk b2 (cR y) 71, .blk b1 (cR x) 71, .blk b3 (cQ (am x.p y.p)) 27, .blk b4 (cQ (bm x)) 27, .blk b5 (cQ (aZ (bm y))) 27, .blk (bK (ξ 9)) (cQ (am (aE (an (am x.p y.p) (am x.p y.p)) x.r) y.r)) 27] ac wo := h.sub ⟨rfl, rfl, rfl, rfl, rfl, trivial⟩
   revert h
   obtain ⟨b6, hb9⟩ : ∃ b, ξ 9 = ptr b 0 := hφ 9
   rw [hb9]; intro h
   clear hb9 hφ ξ
   refine gz h <| (W) ?_; clear h ac wo; intro ac wo h
   have s14 := ao ((cq 2 (k + 20) og  og) w0)
   have s15 := ao ((be (am x.p y.p) (bm x) (k + 15) og s1 (cO s2 og)) w0)
   have s16 := ao ((be (ak 2) (an (am x.p y.p) (bm x)) (k + 13) og (cO s14 og) s15) w0)
   have p18 := ao ((jV (am (aE (an (am x.p y.p) (am x.p y.p)) x.r) y.r) (an (ak 2) (an (am x.p y.p) (bm x))) x.r (k + 1) og s13 (cO s16 og) (eW zx og).2) w0)
   have hd : ap x y = ((eh (am x.p y.p) (bm x) x.r) * (eh (am (aE (an (am x.p y.p) (am x.p y.p)) x.r) y.r) (an (ak 2) (an (am x.p y.p) (bm x))) x.r)) := pt
   refine gz h <| (dr0 (hob := (oK (cq 2 (k + 20) og  og)) <| (oK (be (am x.p y.p) (bm x) (k + 15) og s1 (cO s2 og))) <| (oK (be (ak 2) (an (am x.p y.p) (bm x)) (k + 13) og (cO s14 og) s15)) <| (oK (jV (am (aE (an (am x.p y.p) (am x.p y.p)) x.r) y.r) (an (ak 2) (an (am x.p y.p) (bm x))) x.r (k + 1) og s13 (cO s16 og) (eW zx og).2)) <| (oX (h := by exact fun _ => bk (k7 rfl rfl (r := ((eh (am x.p y.p) (bm x) x.r) * (eh (am (aE (an (am x.p y.p) (am x.p y.p)) x.r) y.r) (an (ak 2) (an (am x.p y.p) (bm x))) x.r))) (by first | (rw [IntKind.wrap_i64]; omega) | exact ik og og)))) <| oE)) <| (W) ?_; clear h ac wo; intro ac wo h
   exact (rt h) (h.retP (by rw [hd] <;> rfl) (by rw [hd]; exact by first | omega | exact fw og og))
def aN (n : Int) : GR :=
 (⟨(ak n), (⟨(⟨false, 0⟩ : GI), (⟨false, 0⟩ : GI)⟩ : GQ), false⟩ : GR)
theorem nS (n : Int) (k : Nat) (hk : k ≤ 40) (hn : -9223372036854775808 ≤ n ∧ n ≤ 9223372036854775807) (w0 : World) : Calls Tryz.prog 86 #[(.int .i64 n)] w0 (dI w0 (vR (aN n)) (SzR k (aN n))) := by
 refine enter (N := 6) (args := [(.int .i64 n)]) Tryz.func86 rfl rfl ?_; intro ac h
 have c1 := cq n k og  og
 have s1 := ao (c1 w0)
 refine gz h <| (xa) fun b1 => (xk c1) <| (xo (hs := by exact bA uZ exs rfl (v := (vR (⟨(ak n), oQ, false⟩ : GR))) rfl)) <| (W) ?_; clear h ac; intro ac wo h
 exact ret h rfl (.cell (v := (vR (⟨(ak n), oQ, false⟩ : GR))) rfl (i := 0) rfl aa71 zz71 rfl rfl rfl .nil) rfl (h.retP (by unfold aN; rfl) (by unfold aN; exact ⟨s1, ⟨(df 0 (by decide) og), (df 0 (by decide) og)⟩⟩))
def aw (r : GQ) : GR :=
 (⟨r, (⟨(⟨false, 0⟩ : GI), (⟨false, 0⟩ : GI)⟩ : GQ), false⟩ : GR)
theorem dW (r : GQ) (k : Nat) (hk : k ≤ 40) (zr : SzQ k r) (w0 : World) : Calls Tryz.prog 88 #[(vQ r)] w0 (dI w0 (vR (aw r)) (SzR k (aw r))) := by
 refine enter (N := 5) (args := [(vQ r)]) Tryz.func88 rfl rfl ?_; intro ac h
 refine gz h <| (xb) fun b1 => (xa) fun b2 => (xo (hs := by exact bA uZ exs rfl (v := (vR (⟨r, oQ, false⟩ : GR))) rfl)) <| (W) ?_; clear h ac; intro ac wo h
 exact ret h rfl (.cell (v := (vR (⟨r, oQ, false⟩ : GR))) rfl (i := 0) rfl aa71 zz71 rfl rfl rfl .nil) rfl (h.retP (by unfold aw; rfl) (by unfold aw; exact ⟨zr, ⟨(df 0 (by decide) og), (df 0 (by decide) og)⟩⟩))
def aV (c0 : GQ) (c1 : GQ) : Qd :=
 (⟨c0, c1, (⟨(⟨false, 0⟩ : GI), (⟨false, 0⟩ : GI)⟩ : GQ)⟩ : Qd)
theorem cY (c0 : GQ) (c1 : GQ) (k : Nat) (hk : k ≤ 40) (zc0 : SzQ k c0) (zc1 : SzQ k c1) (w0 : World) : Calls Tryz.prog 107 #[(vQ c0), (vQ c1)] w0 (dI w0 (vD (aV c0 c1)) (SzD k (aV c0 c1))) := by
 refine enter (N := 8) (args := [(vQ c0), (vQ c1)]) Tryz.func107 rfl rfl ?_; intro ac h
 refine gz h <| (xb) fun b1 => (xb) fun b2 => (xa) fun b3 => (xo (hs := by exact bA xF exs rfl (v := (vD (⟨c0, c1, oQ⟩ : Qd))) rfl)) <| (W) ?_; clear h ac; intro ac wo h
 exact ret h rfl (.cell (v := (vD (⟨c0, c1, oQ⟩ : Qd))) rfl (i := 0) rfl aa53 zz53 rfl rfl rfl .nil) rfl (h.retP (by unfold aV; rfl) (by unfold aV; exact ⟨zc0, zc1, ⟨(df 0 (by decide) og), (df 0 (by decide) og)⟩⟩))
def a8 (q : Qd) (t : GQ) : GQ :=
 (aE q.c0 (an t (aE q.c1 (an t q.c2))))
theorem kh (q : Qd) (t : GQ) (k : Nat) (hk : (k + 10) ≤ 40) (zq : SzD (k + 10) q) (zt : SzQ (k + 10) t) (w0 : World) : Calls Tryz.prog 101 #[(vD q), (vQ t)] w0 (dI w0 (vQ (a8 q t)) (SzQ k (a8 q t))) := by
 refine enter (N := 17) (args := [(vD q), (vQ t)]) Tryz.func101 rfl rfl ?_; intro ac h
 have s1 := ao ((be t q.c2 (k + 8) og zt zq.2.2) w0)
 have s2 := ao ((cd q.c1 (an t q.c2) (k + 5) og (ij zq og).2.1 s1) w0)
 have s3 := ao ((be t (aE q.c1 (an t q.c2)) (k + 3) og (cO zt og) s2) w0)
 have s4 := ao ((cd q.c0 (an t (aE q.c1 (an t q.c2))) k og (ij zq og).1 s3) w0)
 refine gz h <| (xb) fun b1 => (xb) fun b2 => (xa) fun b3 => (dr1 (H := [⟨.blk b3 (cQ oQ) 27, [(12, .con (.blk b3 (cQ (aE q.c0 (an t (aE q.c1 (an t q.c2))))) 27))]⟩, ⟨_, []⟩, ⟨_, []⟩]) (hob := (oK (be t q.c2 (k + 8) og zt zq.2.2)) <| (oK (cd q.c1 (an t q.c2) (k + 5) og (ij zq og).2.1 s1)) <| (oK (be t (aE q.c1 (an t q.c2)) (k + 3) og (cO zt og) s2)) <| (oK (cd q.c0 (an t (aE q.c1 (an t q.c2))) k og (ij zq og).1 s3)) <| oE)) <| (W) ?_; clear h ac; intro ac wo h
 exact ret h rfl (.cell (v := (vQ (aE q.c0 (an t (aE q.c1 (an t q.c2)))))) rfl (i := 0) rfl aa27 zz27 rfl rfl rfl .nil) rfl (h.retP (by unfold a8; rfl) (by unfold a8; exact s4))
def aY (q : Qd) (t : GQ) : GQ :=
 (aE q.c1 (an (aE q.c2 q.c2) t))
theorem iC (q : Qd) (t : GQ) (k : Nat) (hk : (k + 8) ≤ 40) (zq : SzD (k + 8) q) (zt : SzQ (k + 8) t) (w0 : World) : Calls Tryz.prog 213 #[(vD q), (vQ t)] w0 (dI w0 (vQ (aY q t)) (SzQ k (aY q t))) := by
 refine enter (N := 15) (args := [(vD q), (vQ t)]) Tryz.func213 rfl rfl ?_; intro ac h
 have s1 := ao ((cd q.c2 q.c2 (k + 5) og zq.2.2 zq.2.2) w0)
 have s2 := ao ((be (aE q.c2 q.c2) t (k + 3) og s1 (cO zt og)) w0)
 have s3 := ao ((cd q.c1 (an (aE q.c2 q.c2) t) k og (ij zq og).2.1 s2) w0)
 refine gz h <| (xb) fun b1 => (xb) fun b2 => (xa) fun b3 => (dr1 (H := [⟨.blk b3 (cQ oQ) 27, [(10, .con (.blk b3 (cQ (aE q.c1 (an (aE q.c2 q.c2) t))) 27))]⟩, ⟨_, []⟩, ⟨_, []⟩]) (hob := (oK (cd q.c2 q.c2 (k + 5) og zq.2.2 zq.2.2)) <| (oK (be (aE q.c2 q.c2) t (k + 3) og s1 (cO zt og))) <| (oK (cd q.c1 (an (aE q.c2 q.c2) t) k og (ij zq og).2.1 s2)) <| oE)) <| (W) ?_; clear h ac; intro ac wo h
 exact ret h rfl (.cell (v := (vQ (aE q.c1 (an (aE q.c2 q.c2) t)))) rfl (i := 0) rfl aa27 zz27 rfl rfl rfl .nil) rfl (h.retP (by unfold aY; rfl) (by unfold aY; exact s3))
def dN (p : Qd) (q : Qd) : Qd :=
 (⟨(am p.c0 q.c0), (am p.c1 q.c1), (am p.c2 q.c2)⟩ : Qd)
theorem kL (p : Qd) (q : Qd) (k : Nat) (hk : (k + 3) ≤ 40) (zp : SzD (k + 3) p) (zq : SzD (k + 3) q) (w0 : World) : Calls Tryz.prog 131 #[(vD p), (vD q)] w0 (dI w0 (vD (dN p q)) (SzD k (dN p q))) := by
 refine enter (N := 21) (args := [(vD p), (vD q)]) Tryz.func131 rfl rfl ?_; intro ac h
 have s1 := ao ((cX p.c0 q.c0 k og zp.1 zq.1) w0)
 have s2 := ao ((cX p.c1 q.c1 k og zp.2.1 zq.2.1) w0)
 have s3 := ao ((cX p.c2 q.c2 k og zp.2.2 zq.2.2) w0)
 refine gz h <| (xb) fun b1 => (xb) fun b2 => (xa) fun b3 => (dr1 (H := [⟨.blk b3 (cD oD) 53, [(16, .con (.blk b3 (cD (⟨(am p.c0 q.c0), (am p.c1 q.c1), (am p.c2 q.c2)⟩ : Qd)) 53))]⟩, ⟨_, []⟩, ⟨_, []⟩]) (hob := (oK (cX p.c0 q.c0 k og zp.1 zq.1)) <| (oK (cX p.c1 q.c1 k og zp.2.1 zq.2.1)) <| (oK (cX p.c2 q.c2 k og zp.2.2 zq.2.2)) <| (oX (h := by exact fun _ => bk (bA xF exs rfl (v := (vD (⟨(am p.c0 q.c0), (am p.c1 q.c1), (am p.c2 q.c2)⟩ : Qd))) rfl))) <| oE)) <| (W) ?_; clear h ac; intro ac wo h
 exact ret h rfl (.cell (v := (vD (⟨(am p.c0 q.c0), (am p.c1 q.c1), (am p.c2 q.c2)⟩ : Qd))) rfl (i := 0) rfl aa53 zz53 rfl rfl rfl .nil) rfl (h.retP (by unfold dN; rfl) (by unfold dN; exact ⟨s1, s2, s3⟩))
def dM (x : GR) : GQ × Bool :=
 bif (!(decide (x.r = (⟨(⟨false, 0⟩ : GI), (⟨false, 0⟩ : GI)⟩ : GQ)))) then
  ((⟨(⟨false, 0⟩ : GI), (⟨false, 0⟩ : GI)⟩ : GQ), false)
 else
  (x.p, true)
theorem nr (x : GR) (k : Nat) (hk : k ≤ 40) (zx : SzR k x) (w0 : World) : Calls Tryz.prog 212 #[(vR x)] w0 (dI w0 (.tuple #[(vQ ((dM x).1)), (.bool ((dM x).2))]) (SzQ k ((dM x).1))) := by
 refine enter (N := 11) (args := [(vR x)]) Tryz.func212 rfl rfl ?_; intro ac h
 refine gz h <| (xb) fun b1 => (xa) fun b2 => (xo (hs := by exact bA oF exs rfl (v := (vQ oQ)) rfl)) <| (ai) ?_ ?_ <;> clear h ac <;> intro ac wo h hc1
 ·
  have hd : dM x = (oQ, false) := pt
  refine gz h <| (xo (hs := by exact bA oF exs rfl (v := (vQ oQ)) rfl)) <| (W) ?_; clear h ac wo; intro ac wo h
  exact ret h rfl (.cell (v := (vQ oQ)) rfl (i := 0) rfl aa27 zz27 rfl rfl rfl (.tmp rfl .nil)) rfl (h.retP (by rw [hd] <;> rfl) (by rw [hd]; exact ⟨(df 0 (by decide) og), (df 0 (by decide) og)⟩))
 ·
  have hd : dM x = (x.p, true) := pt
  refine gz h <| (W) ?_; clear h ac wo; intro ac wo h
  exact ret h rfl (.cell (v := (vQ x.p)) rfl (i := 0) rfl aa27 zz27 rfl rfl rfl (.tmp rfl .nil)) rfl (h.retP (by rw [hd] <;> rfl) (by rw [hd]; exact zx.1))
def aQ (q : Qd) (t : GR) : Qd :=
 bif (dM t).2 then
  (aA (a8 q ((dM t).1)))
 else
  (aV (aE q.c0 (an q.c2 (am t.r (an t.p t.p)))) (aY q t.p))
theorem eI (q : Qd) (t : GR) (k : Nat) (hk : (k + 10) ≤ 40) (zq : SzD (k + 10) q) (zt : SzR (k + 10) t) (w0 : World) : Calls Tryz.prog 130 #[(vD q), (vR t)] w0 (dI w0 (vD (aQ q t)) (SzD k (aQ q t))) := by
 refine enter (N := 38) (args := [(vD q), (vR t)]) Tryz.func130 rfl rfl ?_; intro ac h
 have c1 := nr t (k + 10) og zt
 have s1 := ao (c1 w0)
 refine gz h <| (xb) fun b1 => (xb) fun b2 => (xa) fun b3 => (xk c1) <| (xa) fun b4 => (ai) ?_ ?_ <;> clear h ac <;> intro ac wo h hc1
 ·
  have c2 := kh q ((dM t).1) k og zq s1
  have s2 := ao (c2 w0)
  have c3 := gG (a8 q ((dM t).1)) k og s2
  have s3 := ao (c3 w0)
  have hd : aQ q t = (aA (a8 q ((dM t).1))) := pt
  refine gz h <| (xk c2) <| (xk c3) <| (W) ?_; clear h ac wo; intro ac wo h
  exact ret h rfl (.cell (v := (vD (aA (a8 q ((dM t).1))))) rfl (i := 1) rfl aa53 zz53 rfl rfl rfl .nil) rfl (h.retP (by rw [hd] <;> rfl) (by rw [hd]; exact s3))
 ·
  refine gz h <| (W) ?_; clear h ac wo; intro ac wo h
  have s4 := ao ((be t.p t.p (k + 8) og zt.1 zt.1) w0)
  have s5 := ao ((cX t.r (an t.p t.p) (k + 5) og (eW zt og).2 s4) w0)
  replace h := h.emps 1
  refine fo mixed [dv _, dw _ [2], dv _, dw _ [2], dv _, dw _ [2], dv _, dv _, ⟨.nd (.one 8 fun v => ∃ b, v = ptr b 0), [4]⟩, ⟨.det undef, [4]⟩] [⟨_, []⟩, ⟨_, []⟩, ⟨_, []⟩, ⟨_, []⟩, ⟨.emp, [(8, .one 8 fun v => .blk (bK v) (cQ oQ) 27), (9, .one 8 fun v => .blk (bK v) (cQ (am t.r (an t.p t.p))) 27)]⟩] h rfl (by kernel_rfl) ⟨fun _ _ => bk (fa uu71 rfl zz27 rfl rfl rfl (k' := 4)), fun _ _ => iZ _ rfl rfl (jW aa27 zz27 rfl rfl rfl (v := (vQ t.r)) rfl), fun _ _ => bk (fa uu71 rfl zz27 rfl rfl rfl (k' := 0)), fun _ _ => iZ _ rfl rfl (jW aa27 zz27 rfl rfl rfl (v := (vQ t.p)) rfl), fun _ _ => bk (fa uu71 rfl zz27 rfl rfl rfl (k' := 0)), fun _ _ => iZ _ rfl rfl (jW aa27 zz27 rfl rfl rfl (v := (vQ t.p)) rfl), fun _ _ => g8 (gD Tryz.call21 rfl (be t.p t.p (k + 8) og zt.1 zt.1)), fun _ _ => g8 (gD cc22 rfl (cX t.r (an t.p t.p) (k + 5) og (eW zt og).2 s4)), fun _ _ => oU (ψ := fun v => ∃ b, v = ptr b 0) (B := fun v => [.blk (bK v) (cQ oQ) 27]) [.emp] rfl (fun v _ => by simp only [dx, bD] <;> rfl) (fun v hv => by simpa [DF.one, bD] using hv) (kz (gV vv27 rfl)), (fun ξ hφ => by obtain ⟨b5, hb8⟩ := hφ 8 rfl; exact kW [.blk b5 (cQ oQ) 27] [.blk b5 (cQ (am t.r (an t.p t.p))) 27] (congrArg (fun v => [Asn.blk (bK v) (cQ oQ) 27]) hb8) (congrArg (fun v => [Asn.blk (bK v) (cQ (am t.r (an t.p t.p))) 27]) hb8) (oS zz27 (Eq.trans rfl (congrArg some hb8)) rfl rfl rfl rfl rfl rfl)), trivial⟩ ?_
  clear h ac wo; intro ξ ac wo hφ h
  replace h : St w0 38 [(2, (ptr b1 0)), (3, (ptr b2 0)), (4, (ptr b3 0)), (7, ξ 8)] [.blk b4 (cQ ((dM t).1)) 27, .blk b3 (cD oD) 53, .blk b2 (cR t) 71, .blk b1 (cD q) 53, .blk (bK (ξ 8)) (cQ (am t.r (an t.p t.p))) 27] ac wo := h.sub ⟨rfl, rfl, rfl, rfl, trivial⟩
  revert h
  obtain ⟨b5, hb8⟩ : ∃ b, ξ 8 = ptr b 0 := hφ 8
  rw [hb8]; intro h
  clear hb8 hφ ξ
  refine gz h <| (W) ?_; clear h ac wo; intro ac wo h
  have s6 := ao ((be q.c2 (am t.r (an t.p t.p)) (k + 3) og (ij zq og).2.2 s5) w0)
  have s7 := ao ((cd q.c0 (an q.c2 (am t.r (an t.p t.p))) k og (ij zq og).1 s6) w0)
  have s8 := ao ((iC q t.p (k + 2) og zq zt.1) w0)
  have s9 := ao ((cY (aE q.c0 (an q.c2 (am t.r (an t.p t.p)))) (aY q t.p) k og s7 (cO s8 og)) w0)
  have hd : aQ q t = (aV (aE q.c0 (an q.c2 (am t.r (an t.p t.p)))) (aY q t.p)) := pt
  refine gz h <| (dr1 (H := [⟨_, []⟩, ⟨.blk b3 (cD oD) 53, [(12, .con (.blk b3 (cD (aV (aE q.c0 (an q.c2 (am t.r (an t.p t.p)))) (aY q t.p))) 53))]⟩, ⟨_, []⟩, ⟨_, []⟩, ⟨_, []⟩]) (hob := (oK (be q.c2 (am t.r (an t.p t.p)) (k + 3) og (ij zq og).2.2 s5)) <| (oK (cd q.c0 (an q.c2 (am t.r (an t.p t.p))) k og (ij zq og).1 s6)) <| (oK (iC q t.p (k + 2) og zq zt.1)) <| (oK (cY (aE q.c0 (an q.c2 (am t.r (an t.p t.p)))) (aY q t.p) k og s7 (cO s8 og))) <| oE)) <| (W) ?_; clear h ac wo; intro ac wo h
  exact ret h rfl (.cell (v := (vD (aV (aE q.c0 (an q.c2 (am t.r (an t.p t.p)))) (aY q t.p)))) rfl (i := 1) rfl aa53 zz53 rfl rfl rfl .nil) rfl (h.retP (by rw [hd] <;> rfl) (by rw [hd]; exact s9))
def fH (p : Qd) (q : Qd) (t : GR) : Bool :=
 (decide ((aQ (dN p q) t) = (⟨(⟨(⟨false, 0⟩ : GI), (⟨false, 0⟩ : GI)⟩ : GQ), (⟨(⟨false, 0⟩ : GI), (⟨false, 0⟩ : GI)⟩ : GQ), (⟨(⟨false, 0⟩ : GI), (⟨false, 0⟩ : GI)⟩ : GQ)⟩ : Qd)))
theorem iV (p : Qd) (q : Qd) (t : GR) (k : Nat) (hk : (k + 14) ≤ 40) (zp : SzD (k + 14) p) (zq : SzD (k + 14) q) (zt : SzR (k + 14) t) (w0 : World) : Calls Tryz.prog 39 #[(vD p), (vD q), (vR t)] w0 (dI w0 (.bool (fH p q t)) (True)) := by
 refine enter (N := 14) (args := [(vD p), (vD q), (vR t)]) Tryz.func39 rfl rfl ?_; intro ac h
 have s1 := ao ((kL p q (k + 11) og zp zq) w0)
 have s2 := ao ((eI (dN p q) t (k + 1) og s1 (eW zt og)) w0)
 refine gz h <| (xb) fun b1 => (xb) fun b2 => (xb) fun b3 => (dr0 (hob := (oK (kL p q (k + 11) og zp zq)) <| (oK (eI (dN p q) t (k + 1) og s1 (eW zt og))) <| (oX (h := by exact fun _ => bk (bA xF exs rfl (v := (vD oD)) rfl))) <| oE)) <| (W) ?_; clear h ac; intro ac wo h
 exact (rt h) (h.retP (by unfold fH; rfl) trivial)
def eA (a : Iv) (b : Iv) : Bool :=
 ((decide ((ap a.hi b.lo) < 0)) || (((ap a.hi b.lo) == 0) && (a.openHi || b.openLo)))
theorem k8 (a : Iv) (b : Iv) (k : Nat) (hk : (k + 20) ≤ 40) (za : SzV (k + 20) a) (zb : SzV (k + 20) b) (w0 : World) : Calls Tryz.prog 118 #[(vV a), (vV b)] w0 (dI w0 (.bool (eA a b)) (True)) := by
 refine enter (N := 25) (args := [(vV a), (vV b)]) Tryz.func118 rfl rfl ?_; intro ac h
 have p2 := ao ((cP a.hi b.lo k og za.2 zb.1) w0)
 refine gz h <| (xb) fun b1 => (xb) fun b2 => (xk (cP a.hi b.lo k og za.2 zb.1)) <| (W) ?_; clear h ac; intro ac wo h
 exact (rt h) (h.retP (by unfold eA; rfl) trivial)
def aU (i : Iv) : Bool :=
 (decide (i.lo = i.hi))
theorem cC (i : Iv) (w0 : World) : Calls Tryz.prog 150 #[(vV i)] w0 (dI w0 (.bool (aU i)) (True)) := by
 refine enter (N := 8) (args := [(vV i)]) Tryz.func150 rfl rfl ?_; intro ac h
 refine gz h <| (xb) fun b1 => (W) ?_; clear h ac; intro ac wo h
 exact (rt h) (h.retP (by unfold aU; rfl) trivial)
end Go.Sx
