/- Part of piecesMaps. -/
import Derived.Test.YtbenbmdkhcfcfaaGreatDoorProg
import Derived.Test.YtbenbmdkhcfcfaaGreatDoorGara
set_option linter.unusedVariables false
set_option linter.unusedSimpArgs false
open Go.Proofs.Tryz renaming prog → zP, isAgg27 → aa27, sizeOf27 → zz27, runUnderlying71 → uu71, call22 → cc22, isAgg71 → aa71, sizeOf71 → zz71, zeroValue27 → vv27, isAgg53 → aa53, sizeOf53 → zz53, isAgg86 → aa86, sizeOf86 → zz86
namespace Go.Sx
open Go Go.RowKit Go.Proofs
set_option maxRecDepth 100000
set_option maxHeartbeats 40000000
attribute [local irreducible] Code.wp wpList Rd iq ObS Ent
def bJ (x : GR) : GQ :=
 bif x.neg then
  (ao (-1))
 else
  (ao 1)
theorem iT (x : GR) (k : Nat) (hk : k ≤ 40) (zx : SzR k x) (w0 : World) : Calls zP 210 #[(vR x)] w0 (RetP w0 (vQ (bJ x)) (SzQ k (bJ x))) := by
 refine enter (N := 7) Tryz.func210 rfl rfl ?_; intro ac h
 refine gz h <| (xb) fun b1 => (xa) fun b2 => (ai) ?_ ?_ <;> clear h <;> intro _ _ h hc1
 ·
  have c1 := cb (-1) k og  og
  have s1 := aA (c1 w0)
  have hd : bJ x = (ao (-1)) := pt
  refine gz h <| (xk c1) <| (W) ?_; clear h; intro _ _ h
  exact ret h rfl (.cell (v := (vQ (ao (-1)))) rfl (i := 0) rfl aa27 zz27 rfl rfl rfl .nil) rfl (h.retP (by rw [hd] <;> rfl) (by rw [hd]; exact s1))
 ·
  have c2 := cb 1 k og  og
  have s2 := aA (c2 w0)
  have hd : bJ x = (ao 1) := pt
  refine gz h <| (xk c2) <| (W) ?_; clear h; intro _ _ h
  exact ret h rfl (.cell (v := (vQ (ao 1))) rfl (i := 0) rfl aa27 zz27 rfl rfl rfl .nil) rfl (h.retP (by rw [hd] <;> rfl) (by rw [hd]; exact s2))
def fh (a : GQ) (b : GQ) (r : GQ) : Int :=
 bif ((((aR b) * (aR r)) == 0) || ((aR a) == ((aR b) * (aR r)))) then
  (aR a)
 else
  bif ((aR a) == 0) then
   ((aR b) * (aR r))
  else
   ((aR a) * (e8 (aH a a) (aH (aH b b) r)))
theorem jf (a : GQ) (b : GQ) (r : GQ) (k : Nat) (hk : (k + 8) ≤ 40) (za : SzQ (k + 8) a) (zb : SzQ (k + 8) b) (zr : SzQ (k + 8) r) (w0 : World) : Calls zP 211 #[(vQ a), (vQ b), (vQ r)] w0 (RetP w0 (.int .i64 (fh a b r)) ((-1 ≤ (fh a b r) ∧ (fh a b r) ≤ 1))) := by
 refine enter (N := 40) Tryz.func211 rfl rfl ?_; intro ac h
 have p2 := aA ((cG a) w0)
 have p4 := aA ((cG b) w0)
 have p6 := aA ((cG r) w0)
 refine gz h <| (xb) fun b1 => (xb) fun b2 => (xb) fun b3 => (dr0 (hob := (oK (cG a)) <| (oK (cG b)) <| (oK (cG r)) <| (oX (h := by exact fun _ => a6 (mq rfl rfl (r := ((aR b) * (aR r))) (by first | (rw [IntKind.wrap_i64]; omega) | exact iZ og og)))) <| oE)) <| (ai) ?_ ?_ <;> clear h <;> intro _ _ h hc1
 ·
  have hd : fh a b r = (aR a) := pt
  exact (rx h) fun _ _ h => (h.retP (by rw [hd] <;> rfl) (by rw [hd]; exact by first | omega | exact f8 og og))
 ·
  refine gz h <| (ai) ?_ ?_ <;> clear h <;> intro _ _ h hc2
  ·
   have hd2 := eq_of_beq hc2
   have hd : fh a b r = ((aR b) * (aR r)) := pt
   exact (rx h) fun _ _ h => (h.retP (by rw [hd] <;> rfl) (by rw [hd]; exact by first | omega | exact f8 og og))
  ·
   have hd2 := ne_of_beq_false hc2
   refine gz h <| (W) ?_; clear h; intro _ _ h
   have s7 := aA ((ca a a (k + 6) og za za) w0)
   have s8 := aA ((ca b b (k + 6) og zb zb) w0)
   have s9 := aA ((ca (aH b b) r (k + 4) og s8 (fu zr og)) w0)
   have p11 := aA ((kA (aH a a) (aH (aH b b) r) (k + 3) og (fu s7 og) s9) w0)
   have hd : fh a b r = ((aR a) * (e8 (aH a a) (aH (aH b b) r))) := pt
   refine gz h <| (dr0 (hob := (oK (ca a a (k + 6) og za za)) <| (oK (ca b b (k + 6) og zb zb)) <| (oK (ca (aH b b) r (k + 4) og s8 (fu zr og))) <| (oK (kA (aH a a) (aH (aH b b) r) (k + 3) og (fu s7 og) s9)) <| (oX (h := by exact fun _ => a6 (mq rfl rfl (r := ((aR a) * (e8 (aH a a) (aH (aH b b) r)))) (by first | (rw [IntKind.wrap_i64]; omega) | exact iZ og og)))) <| oE)) <| (W) ?_; clear h; intro _ _ h
   exact (rt h) (h.retP (by rw [hd] <;> rfl) (by rw [hd]; exact by first | omega | exact f8 og og))
def ar (x : GR) (y : GR) : Int :=
 bif ((((aR (cz (bJ y))) * (aR y.r)) == 0) || ((fh (aF x.p y.p) (bJ x) x.r) == ((aR (cz (bJ y))) * (aR y.r)))) then
  (fh (aF x.p y.p) (bJ x) x.r)
 else
  bif ((fh (aF x.p y.p) (bJ x) x.r) == 0) then
   ((aR (cz (bJ y))) * (aR y.r))
  else
   ((fh (aF x.p y.p) (bJ x) x.r) * (fh (aF (aV (aH (aF x.p y.p) (aF x.p y.p)) x.r) y.r) (aH (ao 2) (aH (aF x.p y.p) (bJ x))) x.r))
theorem aO (x : GR) (y : GR) (k : Nat) (hk : (k + 20) ≤ 40) (zx : SzR (k + 20) x) (zy : SzR (k + 20) y) (w0 : World) : Calls zP 127 #[(vR x), (vR y)] w0 (RetP w0 (.int .i64 (ar x y)) ((-1 ≤ (ar x y) ∧ (ar x y) ≤ 1))) := by
 refine enter (N := 65) Tryz.func127 rfl rfl ?_; intro ac h
 have s1 := aA ((dP x.p y.p (k + 17) og zx.1 zy.1) w0)
 have s2 := aA ((iT x (k + 20) og zx) w0)
 have s3 := aA ((iT y (k + 20) og zy) w0)
 have s4 := aA ((jp (bJ y) (k + 20) og s3) w0)
 refine gz h <| (xb) fun b1 => (xb) fun b2 => (W) ?_; clear h ac; intro ac wo h
 replace h := h.emps 3
 refine gm mixed [dv _, dw _ [1], dv _, dw _ [0], dv _, dw _ [1], dv _, dw _ [0], dv _, dv _, ⟨.nd (.one 10 fun v => ∃ b, v = ptr b 0), [2]⟩, ⟨.nd (.one 11 fun v => ∃ b, v = ptr b 0), [3]⟩, ⟨.nd (.one 12 fun v => ∃ b, v = ptr b 0), [4]⟩, ⟨.det undef, [2]⟩, ⟨.det undef, [3]⟩, ⟨.det undef, [4]⟩] [⟨_, []⟩, ⟨_, []⟩, ⟨.emp, [(10, .one 10 fun v => .blk (cC v) (cQ oQ) 27), (13, .one 10 fun v => .blk (cC v) (cQ (aF x.p y.p)) 27)]⟩, ⟨.emp, [(11, .one 11 fun v => .blk (cC v) (cQ oQ) 27), (14, .one 11 fun v => .blk (cC v) (cQ (bJ x)) 27)]⟩, ⟨.emp, [(12, .one 12 fun v => .blk (cC v) (cQ oQ) 27), (15, .one 12 fun v => .blk (cC v) (cQ (cz (bJ y))) 27)]⟩] h rfl (by kernel_rfl) ⟨fun _ _ => a6 (fa uu71 rfl zz27 rfl rfl rfl (k' := 0)), fun _ _ => iM _ rfl rfl (iB aa27 zz27 rfl rfl rfl (v := (vQ x.p)) rfl), fun _ _ => a6 (fa uu71 rfl zz27 rfl rfl rfl (k' := 0)), fun _ _ => iM _ rfl rfl (iB aa27 zz27 rfl rfl rfl (v := (vQ y.p)) rfl), fun _ _ => kd (py cc22 rfl (dP x.p y.p (k + 17) og zx.1 zy.1)), fun _ _ => iM _ rfl rfl (iB aa71 zz71 rfl rfl rfl (v := (vR x)) rfl), fun _ _ => kd (py Tryz.call210 rfl (iT x (k + 20) og zx)), fun _ _ => iM _ rfl rfl (iB aa71 zz71 rfl rfl rfl (v := (vR y)) rfl), fun _ _ => kd (py Tryz.call210 rfl (iT y (k + 20) og zy)), fun _ _ => kd (py Tryz.call63 rfl (jp (bJ y) (k + 20) og s3)), fun _ _ => ls (ψ := fun v => ∃ b, v = ptr b 0) (B := fun v => [.blk (cC v) (cQ oQ) 27]) [.emp] rfl (fun v _ => by simp only [dJ, bm] <;> rfl) (fun v hv => by simpa [DF.one, bm] using hv) (jo (ic vv27 rfl)), fun _ _ => ls (ψ := fun v => ∃ b, v = ptr b 0) (B := fun v => [.blk (cC v) (cQ oQ) 27]) [.emp] rfl (fun v _ => by simp only [dJ, bm] <;> rfl) (fun v hv => by simpa [DF.one, bm] using hv) (jo (ic vv27 rfl)), fun _ _ => ls (ψ := fun v => ∃ b, v = ptr b 0) (B := fun v => [.blk (cC v) (cQ oQ) 27]) [.emp] rfl (fun v _ => by simp only [dJ, bm] <;> rfl) (fun v hv => by simpa [DF.one, bm] using hv) (jo (ic vv27 rfl)), (fun ξ hφ => by obtain ⟨b3, hb10⟩ := hφ 10 rfl; exact mR [.blk b3 (cQ oQ) 27] [.blk b3 (cQ (aF x.p y.p)) 27] (congrArg (fun v => [Asn.blk (cC v) (cQ oQ) 27]) hb10) (congrArg (fun v => [Asn.blk (cC v) (cQ (aF x.p y.p)) 27]) hb10) (qm zz27 (Eq.trans rfl (congrArg some hb10)) rfl rfl rfl rfl rfl rfl)), (fun ξ hφ => by obtain ⟨b4, hb11⟩ := hφ 11 rfl; exact mR [.blk b4 (cQ oQ) 27] [.blk b4 (cQ (bJ x)) 27] (congrArg (fun v => [Asn.blk (cC v) (cQ oQ) 27]) hb11) (congrArg (fun v => [Asn.blk (cC v) (cQ (bJ x)) 27]) hb11) (qm zz27 (Eq.trans rfl (congrArg some hb11)) rfl rfl rfl rfl rfl rfl)), (fun ξ hφ => by obtain ⟨b5, hb12⟩ := hφ 12 rfl; exact mR [.blk b5 (cQ oQ) 27] [.blk b5 (cQ (cz (bJ y))) 27] (congrArg (fun v => [Asn.blk (cC v) (cQ oQ) 27]) hb12) (congrArg (fun v => [Asn.blk (cC v) (cQ (cz (bJ y))) 27]) hb12) (qm zz27 (Eq.trans rfl (congrArg some hb12)) rfl rfl rfl rfl rfl rfl)), trivial⟩ ?_
 clear h ac wo; intro ξ ac wo hφ h
 replace h : St w0 65 [(2, (ptr b1 0)), (3, (ptr b2 0)), (5, ξ 10), (6, ξ 11), (7, ξ 12)] [.blk b2 (cR y) 71, .blk b1 (cR x) 71, .blk (cC (ξ 10)) (cQ (aF x.p y.p)) 27, .blk (cC (ξ 11)) (cQ (bJ x)) 27, .blk (cC (ξ 12)) (cQ (cz (bJ y))) 27] ac wo := h.sub ⟨rfl, rfl, rfl, rfl, rfl, trivial⟩
 revert h
 obtain ⟨b3, hb10⟩ : ∃ b, ξ 10 = ptr b 0 := hφ 10
 obtain ⟨b4, hb11⟩ : ∃ b, ξ 11 = ptr b 0 := hφ 11
 obtain ⟨b5, hb12⟩ : ∃ b, ξ 12 = ptr b 0 := hφ 12
 rw [hb10, hb11, hb12]; intro h
 clear hb10 hb11 hb12 hφ ξ
 refine gz h <| (W) ?_; clear h ac wo; intro ac wo h
 have p6 := aA ((jf (aF x.p y.p) (bJ x) x.r (k + 9) og s1 (fu s2 og) (cJ zx og).2) w0)
 have p8 := aA ((cG (cz (bJ y))) w0)
 have p10 := aA ((cG y.r) w0)
 refine gz h <| (dr0 (hob := (oK (jf (aF x.p y.p) (bJ x) x.r (k + 9) og s1 (fu s2 og) (cJ zx og).2)) <| (oK (cG (cz (bJ y)))) <| (oK (cG y.r)) <| (oX (h := by exact fun _ => a6 (mq rfl rfl (r := ((aR (cz (bJ y))) * (aR y.r))) (by first | (rw [IntKind.wrap_i64]; omega) | exact iZ og og)))) <| oE)) <| (ai) ?_ ?_ <;> clear h ac wo <;> intro ac wo h hc1
 ·
  have hd : ar x y = (fh (aF x.p y.p) (bJ x) x.r) := pt
  exact (rx h) fun _ _ h => (h.retP (by rw [hd] <;> rfl) (by rw [hd]; exact by first | omega | exact f8 og og))
 ·
  refine gz h <| (ai) ?_ ?_ <;> clear h ac wo <;> intro ac wo h hc2
  ·
   have hd2 := eq_of_beq hc2
   have hd : ar x y = ((aR (cz (bJ y))) * (aR y.r)) := pt
   exact (rx h) fun _ _ h => (h.retP (by rw [hd] <;> rfl) (by rw [hd]; exact by first | omega | exact f8 og og))
  ·
   have hd2 := ne_of_beq_false hc2
   refine gz h <| (W) ?_; clear h ac wo; intro ac wo h
   have s11 := aA ((ca (aF x.p y.p) (aF x.p y.p) (k + 15) og s1 s1) w0)
   have s12 := aA ((bU (aH (aF x.p y.p) (aF x.p y.p)) x.r (k + 12) og s11 (cJ zx og).2) w0)
   have s13 := aA ((dP (aV (aH (aF x.p y.p) (aF x.p y.p)) x.r) y.r (k + 9) og s12 (cJ zy og).2) w0)
   replace h := h.emps 1
   refine gm mixed [dw _ [2], dw _ [2], dv _, dv _, dw _ [1], dv _, dv _, dw _ [0], dv _, ⟨.nd (.one 9 fun v => ∃ b, v = ptr b 0), [5]⟩, ⟨.det undef, [5]⟩] [⟨_, []⟩, ⟨_, []⟩, ⟨_, []⟩, ⟨_, []⟩, ⟨_, []⟩, ⟨.emp, [(9, .one 9 fun v => .blk (cC v) (cQ oQ) 27), (10, .one 9 fun v => .blk (cC v) (cQ (aF (aV (aH (aF x.p y.p) (aF x.p y.p)) x.r) y.r)) 27)]⟩] h rfl (by kernel_rfl) ⟨fun _ _ => iM _ rfl rfl (iB aa27 zz27 rfl rfl rfl (v := (vQ (aF x.p y.p))) rfl), fun _ _ => iM _ rfl rfl (iB aa27 zz27 rfl rfl rfl (v := (vQ (aF x.p y.p))) rfl), fun _ _ => kd (py Tryz.call21 rfl (ca (aF x.p y.p) (aF x.p y.p) (k + 15) og s1 s1)), fun _ _ => a6 (fa uu71 rfl zz27 rfl rfl rfl (k' := 4)), fun _ _ => iM _ rfl rfl (iB aa27 zz27 rfl rfl rfl (v := (vQ x.r)) rfl), fun _ _ => kd (py Tryz.call20 rfl (bU (aH (aF x.p y.p) (aF x.p y.p)) x.r (k + 12) og s11 (cJ zx og).2)), fun _ _ => a6 (fa uu71 rfl zz27 rfl rfl rfl (k' := 4)), fun _ _ => iM _ rfl rfl (iB aa27 zz27 rfl rfl rfl (v := (vQ y.r)) rfl), fun _ _ => kd (py cc22 rfl (dP (aV (aH (aF x.p y.p) (aF x.p y.p)) x.r) y.r (k + 9) og s12 (cJ zy og).2)), fun _ _ => ls (ψ := fun v => ∃ b, v = ptr b 0) (B := fun v => [.blk (cC v) (cQ oQ) 27]) [.emp] rfl (fun v _ => by simp only [dJ, bm] <;> rfl) (fun v hv => by simpa [DF.one, bm] using hv) (jo (ic vv27 rfl)), (fun ξ hφ => by obtain ⟨b6, hb9⟩ := hφ 9 rfl; exact mR [.blk b6 (cQ oQ) 27] [.blk b6 (cQ (aF (aV (aH (aF x.p y.p) (aF x.p y.p)) x.r) y.r)) 27] (congrArg (fun v => [Asn.blk (cC v) (cQ oQ) 27]) hb9) (congrArg (fun v => [Asn.blk (cC v) (cQ (aF (aV (aH (aF x.p y.p) (aF x.p y.p)) x.r) y.r)) 27]) hb9) (qm zz27 (Eq.trans rfl (congrArg some hb9)) rfl rfl rfl rfl rfl rfl)), trivial⟩ ?_
   clear h ac wo; intro ξ ac wo hφ h
   replace h : St w0 65 [(2, (ptr b1 0)), (5, (ptr b3 0)), (6, (ptr b4 0)), (8, (.int .i64 (fh (aF x.p y.p) (bJ x) x.r))), (10, ξ 9)] [.blk b2 (cR y) 71, .blk b1 (cR x) 71, .blk b3 (cQ (aF x.p y.p)) 27, .blk b4 (cQ (bJ x)) 27, .blk b5 (cQ (cz (bJ y))) 27, .blk (cC (ξ 9)) (cQ (aF (aV (aH (aF x.p y.p) (aF x.p y.p)) x.r) y.r)) 27] ac wo := h.sub ⟨rfl, rfl, rfl, rfl, rfl, trivial⟩
   revert h
   obtain ⟨b6, hb9⟩ : ∃ b, ξ 9 = ptr b 0 := hφ 9
   rw [hb9]; intro h
   clear hb9 hφ ξ
   refine gz h <| (W) ?_; clear h ac wo; intro ac wo h
   have s14 := aA ((cb 2 (k + 20) og  og) w0)
   have s15 := aA ((ca (aF x.p y.p) (bJ x) (k + 15) og s1 (fu s2 og)) w0)
   have s16 := aA ((ca (ao 2) (aH (aF x.p y.p) (bJ x)) (k + 13) og (fu s14 og) s15) w0)
   have p18 := aA ((jf (aF (aV (aH (aF x.p y.p) (aF x.p y.p)) x.r) y.r) (aH (ao 2) (aH (aF x.p y.p) (bJ x))) x.r (k + 1) og s13 (fu s16 og) (cJ zx og).2) w0)
   have hd : ar x y = ((fh (aF x.p y.p) (bJ x) x.r) * (fh (aF (aV (aH (aF x.p y.p) (aF x.p y.p)) x.r) y.r) (aH (ao 2) (aH (aF x.p y.p) (bJ x))) x.r)) := pt
   refine gz h <| (dr0 (hob := (oK (cb 2 (k + 20) og  og)) <| (oK (ca (aF x.p y.p) (bJ x) (k + 15) og s1 (fu s2 og))) <| (oK (ca (ao 2) (aH (aF x.p y.p) (bJ x)) (k + 13) og (fu s14 og) s15)) <| (oK (jf (aF (aV (aH (aF x.p y.p) (aF x.p y.p)) x.r) y.r) (aH (ao 2) (aH (aF x.p y.p) (bJ x))) x.r (k + 1) og s13 (fu s16 og) (cJ zx og).2)) <| (oX (h := by exact fun _ => a6 (mq rfl rfl (r := ((fh (aF x.p y.p) (bJ x) x.r) * (fh (aF (aV (aH (aF x.p y.p) (aF x.p y.p)) x.r) y.r) (aH (ao 2) (aH (aF x.p y.p) (bJ x))) x.r))) (by first | (rw [IntKind.wrap_i64]; omega) | exact iZ og og)))) <| oE)) <| (W) ?_; clear h ac wo; intro ac wo h
   exact (rt h) (h.retP (by rw [hd] <;> rfl) (by rw [hd]; exact by first | omega | exact f8 og og))
def bS (n : Int) : GR :=
 (⟨(ao n), (⟨(⟨false, 0⟩ : GI), (⟨false, 0⟩ : GI)⟩ : GQ), false⟩ : GR)
theorem pC (n : Int) (k : Nat) (hk : k ≤ 40) (hn : -9223372036854775808 ≤ n ∧ n ≤ 9223372036854775807) (w0 : World) : Calls zP 86 #[(.int .i64 n)] w0 (RetP w0 (vR (bS n)) (SzR k (bS n))) := by
 refine enter (N := 6) Tryz.func86 rfl rfl ?_; intro ac h
 have c1 := cb n k og  og
 have s1 := aA (c1 w0)
 refine gz h <| (xa) fun b1 => (xk c1) <| (xo (hs := by exact bM bld71 exs rfl (v := (vR (⟨(ao n), oQ, false⟩ : GR))) rfl)) <| (W) ?_; clear h; intro _ _ h
 exact ret h rfl (.cell (v := (vR (⟨(ao n), oQ, false⟩ : GR))) rfl (i := 0) rfl aa71 zz71 rfl rfl rfl .nil) rfl (h.retP (by unfold bS; rfl) (by unfold bS; exact ⟨s1, ⟨(bQ 0 DC og), (bQ 0 DC og)⟩⟩))
def dR (r : GQ) : GR :=
 (⟨r, (⟨(⟨false, 0⟩ : GI), (⟨false, 0⟩ : GI)⟩ : GQ), false⟩ : GR)
theorem mm (r : GQ) (k : Nat) (hk : k ≤ 40) (zr : SzQ k r) (w0 : World) : Calls zP 88 #[(vQ r)] w0 (RetP w0 (vR (dR r)) (SzR k (dR r))) := by
 refine enter (N := 5) Tryz.func88 rfl rfl ?_; intro ac h
 refine gz h <| (xb) fun b1 => (xa) fun b2 => (xo (hs := by exact bM bld71 exs rfl (v := (vR (⟨r, oQ, false⟩ : GR))) rfl)) <| (W) ?_; clear h; intro _ _ h
 exact ret h rfl (.cell (v := (vR (⟨r, oQ, false⟩ : GR))) rfl (i := 0) rfl aa71 zz71 rfl rfl rfl .nil) rfl (h.retP (by unfold dR; rfl) (by unfold dR; exact ⟨zr, ⟨(bQ 0 DC og), (bQ 0 DC og)⟩⟩))
def br (c0 : GQ) (c1 : GQ) : Qd :=
 (⟨c0, c1, (⟨(⟨false, 0⟩ : GI), (⟨false, 0⟩ : GI)⟩ : GQ)⟩ : Qd)
theorem ig (c0 : GQ) (c1 : GQ) (k : Nat) (hk : k ≤ 40) (zc0 : SzQ k c0) (zc1 : SzQ k c1) (w0 : World) : Calls zP 107 #[(vQ c0), (vQ c1)] w0 (RetP w0 (vD (br c0 c1)) (SzD k (br c0 c1))) := by
 refine enter (N := 8) Tryz.func107 rfl rfl ?_; intro ac h
 refine gz h <| (xb) fun b1 => (xb) fun b2 => (xa) fun b3 => (xo (hs := by exact bM tG exs rfl (v := (vD (⟨c0, c1, oQ⟩ : Qd))) rfl)) <| (W) ?_; clear h; intro _ _ h
 exact ret h rfl (.cell (v := (vD (⟨c0, c1, oQ⟩ : Qd))) rfl (i := 0) rfl aa53 zz53 rfl rfl rfl .nil) rfl (h.retP (by unfold br; rfl) (by unfold br; exact ⟨zc0, zc1, ⟨(bQ 0 DC og), (bQ 0 DC og)⟩⟩))
def eC (q : Qd) (t : GQ) : GQ :=
 (aV q.c0 (aH t (aV q.c1 (aH t q.c2))))
theorem ot (q : Qd) (t : GQ) (k : Nat) (hk : (k + 10) ≤ 40) (zq : SzD (k + 10) q) (zt : SzQ (k + 10) t) (w0 : World) : Calls zP 101 #[(vD q), (vQ t)] w0 (RetP w0 (vQ (eC q t)) (SzQ k (eC q t))) := by
 refine enter (N := 17) Tryz.func101 rfl rfl ?_; intro ac h
 have s1 := aA ((ca t q.c2 (k + 8) og zt zq.2.2) w0)
 have s2 := aA ((bU q.c1 (aH t q.c2) (k + 5) og (dh zq og).2.1 s1) w0)
 have s3 := aA ((ca t (aV q.c1 (aH t q.c2)) (k + 3) og (fu zt og) s2) w0)
 have s4 := aA ((bU q.c0 (aH t (aV q.c1 (aH t q.c2))) k og (dh zq og).1 s3) w0)
 refine gz h <| (xb) fun b1 => (xb) fun b2 => (xa) fun b3 => (dr1 (H := [⟨.blk b3 (cQ oQ) 27, [(12, .con (.blk b3 (cQ (aV q.c0 (aH t (aV q.c1 (aH t q.c2))))) 27))]⟩, ⟨_, []⟩, ⟨_, []⟩]) (hob := (oK (ca t q.c2 (k + 8) og zt zq.2.2)) <| (oK (bU q.c1 (aH t q.c2) (k + 5) og (dh zq og).2.1 s1)) <| (oK (ca t (aV q.c1 (aH t q.c2)) (k + 3) og (fu zt og) s2)) <| (oK (bU q.c0 (aH t (aV q.c1 (aH t q.c2))) k og (dh zq og).1 s3)) <| oE)) <| (W) ?_; clear h; intro _ _ h
 exact ret h rfl (.cell (v := (vQ (aV q.c0 (aH t (aV q.c1 (aH t q.c2)))))) rfl (i := 0) rfl aa27 zz27 rfl rfl rfl .nil) rfl (h.retP (by unfold eC; rfl) (by unfold eC; exact s4))
def dE (q : Qd) (t : GQ) : GQ :=
 (aV q.c1 (aH (aV q.c2 q.c2) t))
theorem kZ (q : Qd) (t : GQ) (k : Nat) (hk : (k + 8) ≤ 40) (zq : SzD (k + 8) q) (zt : SzQ (k + 8) t) (w0 : World) : Calls zP 213 #[(vD q), (vQ t)] w0 (RetP w0 (vQ (dE q t)) (SzQ k (dE q t))) := by
 refine enter (N := 15) Tryz.func213 rfl rfl ?_; intro ac h
 have s1 := aA ((bU q.c2 q.c2 (k + 5) og zq.2.2 zq.2.2) w0)
 have s2 := aA ((ca (aV q.c2 q.c2) t (k + 3) og s1 (fu zt og)) w0)
 have s3 := aA ((bU q.c1 (aH (aV q.c2 q.c2) t) k og (dh zq og).2.1 s2) w0)
 refine gz h <| (xb) fun b1 => (xb) fun b2 => (xa) fun b3 => (dr1 (H := [⟨.blk b3 (cQ oQ) 27, [(10, .con (.blk b3 (cQ (aV q.c1 (aH (aV q.c2 q.c2) t))) 27))]⟩, ⟨_, []⟩, ⟨_, []⟩]) (hob := (oK (bU q.c2 q.c2 (k + 5) og zq.2.2 zq.2.2)) <| (oK (ca (aV q.c2 q.c2) t (k + 3) og s1 (fu zt og))) <| (oK (bU q.c1 (aH (aV q.c2 q.c2) t) k og (dh zq og).2.1 s2)) <| oE)) <| (W) ?_; clear h; intro _ _ h
 exact ret h rfl (.cell (v := (vQ (aV q.c1 (aH (aV q.c2 q.c2) t)))) rfl (i := 0) rfl aa27 zz27 rfl rfl rfl .nil) rfl (h.retP (by unfold dE; rfl) (by unfold dE; exact s3))
def eg (p : Qd) (q : Qd) : Qd :=
 (⟨(aF p.c0 q.c0), (aF p.c1 q.c1), (aF p.c2 q.c2)⟩ : Qd)
theorem lZ (p : Qd) (q : Qd) (k : Nat) (hk : (k + 3) ≤ 40) (zp : SzD (k + 3) p) (zq : SzD (k + 3) q) (w0 : World) : Calls zP 131 #[(vD p), (vD q)] w0 (RetP w0 (vD (eg p q)) (SzD k (eg p q))) := by
 refine enter (N := 21) Tryz.func131 rfl rfl ?_; intro ac h
 have s1 := aA ((dP p.c0 q.c0 k og zp.1 zq.1) w0)
 have s2 := aA ((dP p.c1 q.c1 k og zp.2.1 zq.2.1) w0)
 have s3 := aA ((dP p.c2 q.c2 k og zp.2.2 zq.2.2) w0)
 refine gz h <| (xb) fun b1 => (xb) fun b2 => (xa) fun b3 => (dr1 (H := [⟨.blk b3 (cD oD) 53, [(16, .con (.blk b3 (cD (⟨(aF p.c0 q.c0), (aF p.c1 q.c1), (aF p.c2 q.c2)⟩ : Qd)) 53))]⟩, ⟨_, []⟩, ⟨_, []⟩]) (hob := (oK (dP p.c0 q.c0 k og zp.1 zq.1)) <| (oK (dP p.c1 q.c1 k og zp.2.1 zq.2.1)) <| (oK (dP p.c2 q.c2 k og zp.2.2 zq.2.2)) <| (oX (h := by exact fun _ => a6 (bM tG exs rfl (v := (vD (⟨(aF p.c0 q.c0), (aF p.c1 q.c1), (aF p.c2 q.c2)⟩ : Qd))) rfl))) <| oE)) <| (W) ?_; clear h; intro _ _ h
 exact ret h rfl (.cell (v := (vD (⟨(aF p.c0 q.c0), (aF p.c1 q.c1), (aF p.c2 q.c2)⟩ : Qd))) rfl (i := 0) rfl aa53 zz53 rfl rfl rfl .nil) rfl (h.retP (by unfold eg; rfl) (by unfold eg; exact ⟨s1, s2, s3⟩))
def ef (x : GR) : GQ × Bool :=
 bif (!(decide (x.r = (⟨(⟨false, 0⟩ : GI), (⟨false, 0⟩ : GI)⟩ : GQ)))) then
  ((⟨(⟨false, 0⟩ : GI), (⟨false, 0⟩ : GI)⟩ : GQ), false)
 else
  (x.p, true)
theorem oZ (x : GR) (k : Nat) (hk : k ≤ 40) (zx : SzR k x) (w0 : World) : Calls zP 212 #[(vR x)] w0 (RetP w0 (.tuple #[(vQ ((ef x).1)), (.bool ((ef x).2))]) (SzQ k ((ef x).1))) := by
 refine enter (N := 11) Tryz.func212 rfl rfl ?_; intro ac h
 refine gz h <| (xb) fun b1 => (xa) fun b2 => (xo (hs := by exact bM qc exs rfl (v := (vQ oQ)) rfl)) <| (ai) ?_ ?_ <;> clear h <;> intro _ _ h hc1
 ·
  have hd : ef x = (oQ, false) := pt
  refine gz h <| (xo (hs := by exact bM qc exs rfl (v := (vQ oQ)) rfl)) <| (W) ?_; clear h; intro _ _ h
  exact ret h rfl (.cell (v := (vQ oQ)) rfl (i := 0) rfl aa27 zz27 rfl rfl rfl (.tmp rfl .nil)) rfl (h.retP (by rw [hd] <;> rfl) (by rw [hd]; exact ⟨(bQ 0 DC og), (bQ 0 DC og)⟩))
 ·
  have hd : ef x = (x.p, true) := pt
  refine gz h <| (W) ?_; clear h; intro _ _ h
  exact ret h rfl (.cell (v := (vQ x.p)) rfl (i := 0) rfl aa27 zz27 rfl rfl rfl (.tmp rfl .nil)) rfl (h.retP (by rw [hd] <;> rfl) (by rw [hd]; exact zx.1))
def cv (q : Qd) (t : GR) : Qd :=
 bif (ef t).2 then
  (aG (eC q ((ef t).1)))
 else
  (br (aV q.c0 (aH q.c2 (aF t.r (aH t.p t.p)))) (dE q t.p))
theorem i9 (q : Qd) (t : GR) (k : Nat) (hk : (k + 10) ≤ 40) (zq : SzD (k + 10) q) (zt : SzR (k + 10) t) (w0 : World) : Calls zP 130 #[(vD q), (vR t)] w0 (RetP w0 (vD (cv q t)) (SzD k (cv q t))) := by
 refine enter (N := 38) Tryz.func130 rfl rfl ?_; intro ac h
 have c1 := oZ t (k + 10) og zt
 have s1 := aA (c1 w0)
 refine gz h <| (xb) fun b1 => (xb) fun b2 => (xa) fun b3 => (xk c1) <| (xa) fun b4 => (ai) ?_ ?_ <;> clear h ac <;> intro ac wo h hc1
 ·
  have c2 := ot q ((ef t).1) k og zq s1
  have s2 := aA (c2 w0)
  have c3 := iD (eC q ((ef t).1)) k og s2
  have s3 := aA (c3 w0)
  have hd : cv q t = (aG (eC q ((ef t).1))) := pt
  refine gz h <| (xk c2) <| (xk c3) <| (W) ?_; clear h ac wo; intro ac wo h
  exact ret h rfl (.cell (v := (vD (aG (eC q ((ef t).1))))) rfl (i := 1) rfl aa53 zz53 rfl rfl rfl .nil) rfl (h.retP (by rw [hd] <;> rfl) (by rw [hd]; exact s3))
 ·
  refine gz h <| (W) ?_; clear h ac wo; intro ac wo h
  have s4 := aA ((ca t.p t.p (k + 8) og zt.1 zt.1) w0)
  have s5 := aA ((dP t.r (aH t.p t.p) (k + 5) og (cJ zt og).2 s4) w0)
  replace h := h.emps 1
  refine gm mixed [dv _, dw _ [2], dv _, dw _ [2], dv _, dw _ [2], dv _, dv _, ⟨.nd (.one 8 fun v => ∃ b, v = ptr b 0), [4]⟩, ⟨.det undef, [4]⟩] [⟨_, []⟩, ⟨_, []⟩, ⟨_, []⟩, ⟨_, []⟩, ⟨.emp, [(8, .one 8 fun v => .blk (cC v) (cQ oQ) 27), (9, .one 8 fun v => .blk (cC v) (cQ (aF t.r (aH t.p t.p))) 27)]⟩] h rfl (by kernel_rfl) ⟨fun _ _ => a6 (fa uu71 rfl zz27 rfl rfl rfl (k' := 4)), fun _ _ => iM _ rfl rfl (iB aa27 zz27 rfl rfl rfl (v := (vQ t.r)) rfl), fun _ _ => a6 (fa uu71 rfl zz27 rfl rfl rfl (k' := 0)), fun _ _ => iM _ rfl rfl (iB aa27 zz27 rfl rfl rfl (v := (vQ t.p)) rfl), fun _ _ => a6 (fa uu71 rfl zz27 rfl rfl rfl (k' := 0)), fun _ _ => iM _ rfl rfl (iB aa27 zz27 rfl rfl rfl (v := (vQ t.p)) rfl), fun _ _ => kd (py Tryz.call21 rfl (ca t.p t.p (k + 8) og zt.1 zt.1)), fun _ _ => kd (py cc22 rfl (dP t.r (aH t.p t.p) (k + 5) og (cJ zt og).2 s4)), fun _ _ => ls (ψ := fun v => ∃ b, v = ptr b 0) (B := fun v => [.blk (cC v) (cQ oQ) 27]) [.emp] rfl (fun v _ => by simp only [dJ, bm] <;> rfl) (fun v hv => by simpa [DF.one, bm] using hv) (jo (ic vv27 rfl)), (fun ξ hφ => by obtain ⟨b5, hb8⟩ := hφ 8 rfl; exact mR [.blk b5 (cQ oQ) 27] [.blk b5 (cQ (aF t.r (aH t.p t.p))) 27] (congrArg (fun v => [Asn.blk (cC v) (cQ oQ) 27]) hb8) (congrArg (fun v => [Asn.blk (cC v) (cQ (aF t.r (aH t.p t.p))) 27]) hb8) (qm zz27 (Eq.trans rfl (congrArg some hb8)) rfl rfl rfl rfl rfl rfl)), trivial⟩ ?_
  clear h ac wo; intro ξ ac wo hφ h
  replace h : St w0 38 [(2, (ptr b1 0)), (3, (ptr b2 0)), (4, (ptr b3 0)), (7, ξ 8)] [.blk b4 (cQ ((ef t).1)) 27, .blk b3 (cD oD) 53, .blk b2 (cR t) 71, .blk b1 (cD q) 53, .blk (cC (ξ 8)) (cQ (aF t.r (aH t.p t.p))) 27] ac wo := h.sub ⟨rfl, rfl, rfl, rfl, trivial⟩
  revert h
  obtain ⟨b5, hb8⟩ : ∃ b, ξ 8 = ptr b 0 := hφ 8
  rw [hb8]; intro h
  clear hb8 hφ ξ
  refine gz h <| (W) ?_; clear h ac wo; intro ac wo h
  have s6 := aA ((ca q.c2 (aF t.r (aH t.p t.p)) (k + 3) og (dh zq og).2.2 s5) w0)
  have s7 := aA ((bU q.c0 (aH q.c2 (aF t.r (aH t.p t.p))) k og (dh zq og).1 s6) w0)
  have s8 := aA ((kZ q t.p (k + 2) og zq zt.1) w0)
  have s9 := aA ((ig (aV q.c0 (aH q.c2 (aF t.r (aH t.p t.p)))) (dE q t.p) k og s7 (fu s8 og)) w0)
  have hd : cv q t = (br (aV q.c0 (aH q.c2 (aF t.r (aH t.p t.p)))) (dE q t.p)) := pt
  refine gz h <| (dr1 (H := [⟨_, []⟩, ⟨.blk b3 (cD oD) 53, [(12, .con (.blk b3 (cD (br (aV q.c0 (aH q.c2 (aF t.r (aH t.p t.p)))) (dE q t.p))) 53))]⟩, ⟨_, []⟩, ⟨_, []⟩, ⟨_, []⟩]) (hob := (oK (ca q.c2 (aF t.r (aH t.p t.p)) (k + 3) og (dh zq og).2.2 s5)) <| (oK (bU q.c0 (aH q.c2 (aF t.r (aH t.p t.p))) k og (dh zq og).1 s6)) <| (oK (kZ q t.p (k + 2) og zq zt.1)) <| (oK (ig (aV q.c0 (aH q.c2 (aF t.r (aH t.p t.p)))) (dE q t.p) k og s7 (fu s8 og))) <| oE)) <| (W) ?_; clear h ac wo; intro ac wo h
  exact ret h rfl (.cell (v := (vD (br (aV q.c0 (aH q.c2 (aF t.r (aH t.p t.p)))) (dE q t.p)))) rfl (i := 1) rfl aa53 zz53 rfl rfl rfl .nil) rfl (h.retP (by rw [hd] <;> rfl) (by rw [hd]; exact s9))
def eR (p : Qd) (q : Qd) (t : GR) : Bool :=
 (decide ((cv (eg p q) t) = (⟨(⟨(⟨false, 0⟩ : GI), (⟨false, 0⟩ : GI)⟩ : GQ), (⟨(⟨false, 0⟩ : GI), (⟨false, 0⟩ : GI)⟩ : GQ), (⟨(⟨false, 0⟩ : GI), (⟨false, 0⟩ : GI)⟩ : GQ)⟩ : Qd)))
theorem lE (p : Qd) (q : Qd) (t : GR) (k : Nat) (hk : (k + 14) ≤ 40) (zp : SzD (k + 14) p) (zq : SzD (k + 14) q) (zt : SzR (k + 14) t) (w0 : World) : Calls zP 39 #[(vD p), (vD q), (vR t)] w0 (RetP w0 (.bool (eR p q t)) (True)) := by
 refine enter (N := 14) Tryz.func39 rfl rfl ?_; intro ac h
 have s1 := aA ((lZ p q (k + 11) og zp zq) w0)
 have s2 := aA ((i9 (eg p q) t (k + 1) og s1 (cJ zt og)) w0)
 refine gz h <| (xb) fun b1 => (xb) fun b2 => (xb) fun b3 => (dr0 (hob := (oK (lZ p q (k + 11) og zp zq)) <| (oK (i9 (eg p q) t (k + 1) og s1 (cJ zt og))) <| (oX (h := by exact fun _ => a6 (bM tG exs rfl (v := (vD oD)) rfl))) <| oE)) <| (W) ?_; clear h; intro _ _ h
 exact (rt h) (h.retP (by unfold eR; rfl) trivial)
def dp (a : Iv) (b : Iv) : Bool :=
 ((decide ((ar a.hi b.lo) < 0)) || (((ar a.hi b.lo) == 0) && (a.openHi || b.openLo)))
theorem jr (a : Iv) (b : Iv) (k : Nat) (hk : (k + 20) ≤ 40) (za : SzV (k + 20) a) (zb : SzV (k + 20) b) (w0 : World) : Calls zP 118 #[(vV a), (vV b)] w0 (RetP w0 (.bool (dp a b)) (True)) := by
 refine enter (N := 25) Tryz.func118 rfl rfl ?_; intro ac h
 have p2 := aA ((aO a.hi b.lo k og za.2 zb.1) w0)
 refine gz h <| (xb) fun b1 => (xb) fun b2 => (xk (aO a.hi b.lo k og za.2 zb.1)) <| (W) ?_; clear h; intro _ _ h
 exact (rt h) (h.retP (by unfold dp; rfl) trivial)
def aL (i : Iv) : Bool :=
 (decide (i.lo = i.hi))
theorem cM (i : Iv) (w0 : World) : Calls zP 150 #[(vV i)] w0 (RetP w0 (.bool (aL i)) (True)) := by
 refine enter (N := 8) Tryz.func150 rfl rfl ?_; intro ac h
 refine gz h <| (xb) fun b1 => (W) ?_; clear h; intro _ _ h
 exact (rt h) (h.retP (by unfold aL; rfl) trivial)
def ec (a : Iv) (b : Iv) : Bool :=
 ((decide ((ar a.hi b.hi) < 0)) || (((ar a.hi b.hi) == 0) && (a.openHi || (!b.openHi))))
theorem kD (a : Iv) (b : Iv) (k : Nat) (hk : (k + 20) ≤ 40) (za : SzV (k + 20) a) (zb : SzV (k + 20) b) (w0 : World) : Calls zP 201 #[(vV a), (vV b)] w0 (RetP w0 (.bool (ec a b)) (True)) := by
 refine enter (N := 26) Tryz.func201 rfl rfl ?_; intro ac h
 have p2 := aA ((aO a.hi b.hi k og za.2 zb.2) w0)
 refine gz h <| (xb) fun b1 => (xb) fun b2 => (xk (aO a.hi b.hi k og za.2 zb.2)) <| (W) ?_; clear h; intro _ _ h
 exact (rt h) (h.retP (by unfold ec; rfl) trivial)
def bc (a : Iv) (b : Iv) : Iv × Bool :=
 bif (decide ((ar a.lo b.lo) < 0)) then
  bif (decide ((ar a.hi b.hi) > 0)) then
   ((⟨b.lo, b.hi, b.openLo, b.openHi⟩ : Iv), ((decide ((ar b.lo b.hi) < 0)) || ((((ar b.lo b.hi) == 0) && (!b.openLo)) && (!b.openHi))))
  else
   bif ((ar a.hi b.hi) == 0) then
    ((⟨b.lo, a.hi, b.openLo, (a.openHi || b.openHi)⟩ : Iv), ((decide ((ar b.lo a.hi) < 0)) || ((((ar b.lo a.hi) == 0) && (!b.openLo)) && (!(a.openHi || b.openHi)))))
   else
    ((⟨b.lo, a.hi, b.openLo, a.openHi⟩ : Iv), ((decide ((ar b.lo a.hi) < 0)) || ((((ar b.lo a.hi) == 0) && (!b.openLo)) && (!a.openHi))))
 else
  bif ((ar a.lo b.lo) == 0) then
   bif (decide ((ar a.hi b.hi) > 0)) then
    ((⟨a.lo, b.hi, (a.openLo || b.openLo), b.openHi⟩ : Iv), ((decide ((ar a.lo b.hi) < 0)) || ((((ar a.lo b.hi) == 0) && (!(a.openLo || b.openLo))) && (!b.openHi))))
   else
    bif ((ar a.hi b.hi) == 0) then
     ((⟨a.lo, a.hi, (a.openLo || b.openLo), (a.openHi || b.openHi)⟩ : Iv), ((decide ((ar a.lo a.hi) < 0)) || ((((ar a.lo a.hi) == 0) && (!(a.openLo || b.openLo))) && (!(a.openHi || b.openHi)))))
    else
     ((⟨a.lo, a.hi, (a.openLo || b.openLo), a.openHi⟩ : Iv), ((decide ((ar a.lo a.hi) < 0)) || ((((ar a.lo a.hi) == 0) && (!(a.openLo || b.openLo))) && (!a.openHi))))
  else
   bif (decide ((ar a.hi b.hi) > 0)) then
    ((⟨a.lo, b.hi, a.openLo, b.openHi⟩ : Iv), ((decide ((ar a.lo b.hi) < 0)) || ((((ar a.lo b.hi) == 0) && (!a.openLo)) && (!b.openHi))))
   else
    bif ((ar a.hi b.hi) == 0) then
     ((⟨a.lo, a.hi, a.openLo, (a.openHi || b.openHi)⟩ : Iv), ((decide ((ar a.lo a.hi) < 0)) || ((((ar a.lo a.hi) == 0) && (!a.openLo)) && (!(a.openHi || b.openHi)))))
    else
     (a, ((decide ((ar a.lo a.hi) < 0)) || ((((ar a.lo a.hi) == 0) && (!a.openLo)) && (!a.openHi))))
theorem nc (a : Iv) (b : Iv) (k : Nat) (hk : (k + 20) ≤ 40) (za : SzV (k + 20) a) (zb : SzV (k + 20) b) (w0 : World) : Calls zP 179 #[(vV a), (vV b)] w0 (RetP w0 (.tuple #[(vV ((bc a b).1)), (.bool ((bc a b).2))]) (SzV k ((bc a b).1))) := by
 refine enter (N := 81) Tryz.func179 rfl rfl ?_; intro ac h
 have p2 := aA ((aO a.lo b.lo k og za.1 zb.1) w0)
 refine gz h <| (xb) fun b1 => (xb) fun b2 => (xa) fun b3 => (xa) fun b4 => (xk (aO a.lo b.lo k og za.1 zb.1)) <| (ai) ?_ ?_ <;> clear h <;> intro _ _ h hc1
 ·
  have hd1 := of_decide_eq_true hc1
  refine gz h <| (dr1 (H := [⟨.blk b4 (cV a) 86, [(5, .con (.blk b4 (cV (⟨b.lo, a.hi, a.openLo, a.openHi⟩ : Iv)) 86)), (7, .con (.blk b4 (cV (⟨b.lo, a.hi, b.openLo, a.openHi⟩ : Iv)) 86))]⟩, ⟨_, []⟩, ⟨_, []⟩, ⟨_, []⟩]) (hob := oE)) <| (W) ?_; clear h; intro _ _ h
  have p4 := aA ((aO a.hi b.hi k og za.2 zb.2) w0)
  refine gz h <| (xk (aO a.hi b.hi k og za.2 zb.2)) <| (ai) ?_ ?_ <;> clear h <;> intro _ _ h hc2
  ·
   have hd2 := of_decide_eq_true hc2
   refine gz h <| (dr1 (H := [⟨.blk b4 (cV (⟨b.lo, a.hi, b.openLo, a.openHi⟩ : Iv)) 86, [(5, .con (.blk b4 (cV (⟨b.lo, b.hi, b.openLo, a.openHi⟩ : Iv)) 86)), (7, .con (.blk b4 (cV (⟨b.lo, b.hi, b.openLo, b.openHi⟩ : Iv)) 86))]⟩, ⟨_, []⟩, ⟨_, []⟩, ⟨_, []⟩]) (hob := oE)) <| (W) ?_; clear h; intro _ _ h
   have p6 := aA ((aO b.lo b.hi k og zb.1 zb.2) w0)
   have hd : bc a b = ((⟨b.lo, b.hi, b.openLo, b.openHi⟩ : Iv), ((decide ((ar b.lo b.hi) < 0)) || ((((ar b.lo b.hi) == 0) && (!b.openLo)) && (!b.openHi)))) := pt
   refine gz h <| (xk (aO b.lo b.hi k og zb.1 zb.2)) <| (dr1 (H := [⟨_, []⟩, ⟨.blk b3 (cV (⟨(⟨oQ, oQ, false⟩ : GR), (⟨oQ, oQ, false⟩ : GR), false, false⟩ : Iv)) 86, [(17, .con (.blk b3 (cV (⟨b.lo, b.hi, b.openLo, b.openHi⟩ : Iv)) 86))]⟩, ⟨_, []⟩, ⟨_, []⟩]) (hob := oE)) <| (W) ?_; clear h; intro _ _ h
   exact ret h rfl (.cell (v := (vV (⟨b.lo, b.hi, b.openLo, b.openHi⟩ : Iv))) rfl (i := 1) rfl aa86 zz86 rfl rfl rfl (.tmp rfl .nil)) rfl (h.retP (by rw [hd] <;> rfl) (by rw [hd]; exact ⟨(iI zb og).1, (iI zb og).2⟩))
  ·
   have hd2 := of_decide_eq_false hc2
   refine gz h <| (ai) ?_ ?_ <;> clear h <;> intro _ _ h hc3
   ·
    have hd3 := eq_of_beq hc3
    have p8 := aA ((aO b.lo a.hi k og zb.1 za.2) w0)
    have hd : bc a b = ((⟨b.lo, a.hi, b.openLo, (a.openHi || b.openHi)⟩ : Iv), ((decide ((ar b.lo a.hi) < 0)) || ((((ar b.lo a.hi) == 0) && (!b.openLo)) && (!(a.openHi || b.openHi))))) := pt
    refine gz h <| (xs 0 (cV (⟨b.lo, a.hi, b.openLo, (a.openHi || b.openHi)⟩ : Iv))) <| (xk (aO b.lo a.hi k og zb.1 za.2)) <| (dr1 (H := [⟨_, []⟩, ⟨.blk b3 (cV (⟨(⟨oQ, oQ, false⟩ : GR), (⟨oQ, oQ, false⟩ : GR), false, false⟩ : Iv)) 86, [(17, .con (.blk b3 (cV (⟨b.lo, a.hi, b.openLo, (a.openHi || b.openHi)⟩ : Iv)) 86))]⟩, ⟨_, []⟩, ⟨_, []⟩]) (hob := oE)) <| (W) ?_; clear h; intro _ _ h
    exact ret h rfl (.cell (v := (vV (⟨b.lo, a.hi, b.openLo, (a.openHi || b.openHi)⟩ : Iv))) rfl (i := 1) rfl aa86 zz86 rfl rfl rfl (.tmp rfl .nil)) rfl (h.retP (by rw [hd] <;> rfl) (by rw [hd]; exact ⟨(iI zb og).1, (iI za og).2⟩))
   ·
    have hd3 := ne_of_beq_false hc3
    have p10 := aA ((aO b.lo a.hi k og zb.1 za.2) w0)
    have hd : bc a b = ((⟨b.lo, a.hi, b.openLo, a.openHi⟩ : Iv), ((decide ((ar b.lo a.hi) < 0)) || ((((ar b.lo a.hi) == 0) && (!b.openLo)) && (!a.openHi)))) := pt
    refine gz h <| (xk (aO b.lo a.hi k og zb.1 za.2)) <| (dr1 (H := [⟨_, []⟩, ⟨.blk b3 (cV (⟨(⟨oQ, oQ, false⟩ : GR), (⟨oQ, oQ, false⟩ : GR), false, false⟩ : Iv)) 86, [(17, .con (.blk b3 (cV (⟨b.lo, a.hi, b.openLo, a.openHi⟩ : Iv)) 86))]⟩, ⟨_, []⟩, ⟨_, []⟩]) (hob := oE)) <| (W) ?_; clear h; intro _ _ h
    exact ret h rfl (.cell (v := (vV (⟨b.lo, a.hi, b.openLo, a.openHi⟩ : Iv))) rfl (i := 1) rfl aa86 zz86 rfl rfl rfl (.tmp rfl .nil)) rfl (h.retP (by rw [hd] <;> rfl) (by rw [hd]; exact ⟨(iI zb og).1, (iI za og).2⟩))
 ·
  have hd1 := of_decide_eq_false hc1
  refine gz h <| (ai) ?_ ?_ <;> clear h <;> intro _ _ h hc4
  ·
   have hd4 := eq_of_beq hc4
   have p12 := aA ((aO a.hi b.hi k og za.2 zb.2) w0)
   refine gz h <| (xs 0 (cV (⟨a.lo, a.hi, (a.openLo || b.openLo), a.openHi⟩ : Iv))) <| (xk (aO a.hi b.hi k og za.2 zb.2)) <| (ai) ?_ ?_ <;> clear h <;> intro _ _ h hc5
   ·
    have hd5 := of_decide_eq_true hc5
    refine gz h <| (dr1 (H := [⟨.blk b4 (cV (⟨a.lo, a.hi, (a.openLo || b.openLo), a.openHi⟩ : Iv)) 86, [(5, .con (.blk b4 (cV (⟨a.lo, b.hi, (a.openLo || b.openLo), a.openHi⟩ : Iv)) 86)), (7, .con (.blk b4 (cV (⟨a.lo, b.hi, (a.openLo || b.openLo), b.openHi⟩ : Iv)) 86))]⟩, ⟨_, []⟩, ⟨_, []⟩, ⟨_, []⟩]) (hob := oE)) <| (W) ?_; clear h; intro _ _ h
    have p14 := aA ((aO a.lo b.hi k og za.1 zb.2) w0)
    have hd : bc a b = ((⟨a.lo, b.hi, (a.openLo || b.openLo), b.openHi⟩ : Iv), ((decide ((ar a.lo b.hi) < 0)) || ((((ar a.lo b.hi) == 0) && (!(a.openLo || b.openLo))) && (!b.openHi)))) := pt
    refine gz h <| (xk (aO a.lo b.hi k og za.1 zb.2)) <| (dr1 (H := [⟨_, []⟩, ⟨.blk b3 (cV (⟨(⟨oQ, oQ, false⟩ : GR), (⟨oQ, oQ, false⟩ : GR), false, false⟩ : Iv)) 86, [(17, .con (.blk b3 (cV (⟨a.lo, b.hi, (a.openLo || b.openLo), b.openHi⟩ : Iv)) 86))]⟩, ⟨_, []⟩, ⟨_, []⟩]) (hob := oE)) <| (W) ?_; clear h; intro _ _ h
    exact ret h rfl (.cell (v := (vV (⟨a.lo, b.hi, (a.openLo || b.openLo), b.openHi⟩ : Iv))) rfl (i := 1) rfl aa86 zz86 rfl rfl rfl (.tmp rfl .nil)) rfl (h.retP (by rw [hd] <;> rfl) (by rw [hd]; exact ⟨(iI za og).1, (iI zb og).2⟩))
   ·
    have hd5 := of_decide_eq_false hc5
    refine gz h <| (ai) ?_ ?_ <;> clear h <;> intro _ _ h hc6
    ·
     have hd6 := eq_of_beq hc6
     have p16 := aA ((aO a.lo a.hi k og za.1 za.2) w0)
     have hd : bc a b = ((⟨a.lo, a.hi, (a.openLo || b.openLo), (a.openHi || b.openHi)⟩ : Iv), ((decide ((ar a.lo a.hi) < 0)) || ((((ar a.lo a.hi) == 0) && (!(a.openLo || b.openLo))) && (!(a.openHi || b.openHi))))) := pt
     refine gz h <| (xs 0 (cV (⟨a.lo, a.hi, (a.openLo || b.openLo), (a.openHi || b.openHi)⟩ : Iv))) <| (xk (aO a.lo a.hi k og za.1 za.2)) <| (dr1 (H := [⟨_, []⟩, ⟨.blk b3 (cV (⟨(⟨oQ, oQ, false⟩ : GR), (⟨oQ, oQ, false⟩ : GR), false, false⟩ : Iv)) 86, [(17, .con (.blk b3 (cV (⟨a.lo, a.hi, (a.openLo || b.openLo), (a.openHi || b.openHi)⟩ : Iv)) 86))]⟩, ⟨_, []⟩, ⟨_, []⟩]) (hob := oE)) <| (W) ?_; clear h; intro _ _ h
     exact ret h rfl (.cell (v := (vV (⟨a.lo, a.hi, (a.openLo || b.openLo), (a.openHi || b.openHi)⟩ : Iv))) rfl (i := 1) rfl aa86 zz86 rfl rfl rfl (.tmp rfl .nil)) rfl (h.retP (by rw [hd] <;> rfl) (by rw [hd]; exact ⟨(iI za og).1, (iI za og).2⟩))
    ·
     have hd6 := ne_of_beq_false hc6
     have p18 := aA ((aO a.lo a.hi k og za.1 za.2) w0)
     have hd : bc a b = ((⟨a.lo, a.hi, (a.openLo || b.openLo), a.openHi⟩ : Iv), ((decide ((ar a.lo a.hi) < 0)) || ((((ar a.lo a.hi) == 0) && (!(a.openLo || b.openLo))) && (!a.openHi)))) := pt
     refine gz h <| (xk (aO a.lo a.hi k og za.1 za.2)) <| (dr1 (H := [⟨_, []⟩, ⟨.blk b3 (cV (⟨(⟨oQ, oQ, false⟩ : GR), (⟨oQ, oQ, false⟩ : GR), false, false⟩ : Iv)) 86, [(17, .con (.blk b3 (cV (⟨a.lo, a.hi, (a.openLo || b.openLo), a.openHi⟩ : Iv)) 86))]⟩, ⟨_, []⟩, ⟨_, []⟩]) (hob := oE)) <| (W) ?_; clear h; intro _ _ h
     exact ret h rfl (.cell (v := (vV (⟨a.lo, a.hi, (a.openLo || b.openLo), a.openHi⟩ : Iv))) rfl (i := 1) rfl aa86 zz86 rfl rfl rfl (.tmp rfl .nil)) rfl (h.retP (by rw [hd] <;> rfl) (by rw [hd]; exact ⟨(iI za og).1, (iI za og).2⟩))
  ·
   have hd4 := ne_of_beq_false hc4
   have p20 := aA ((aO a.hi b.hi k og za.2 zb.2) w0)
   refine gz h <| (xk (aO a.hi b.hi k og za.2 zb.2)) <| (ai) ?_ ?_ <;> clear h <;> intro _ _ h hc7
   ·
    have hd7 := of_decide_eq_true hc7
    refine gz h <| (dr1 (H := [⟨.blk b4 (cV a) 86, [(5, .con (.blk b4 (cV (⟨a.lo, b.hi, a.openLo, a.openHi⟩ : Iv)) 86)), (7, .con (.blk b4 (cV (⟨a.lo, b.hi, a.openLo, b.openHi⟩ : Iv)) 86))]⟩, ⟨_, []⟩, ⟨_, []⟩, ⟨_, []⟩]) (hob := oE)) <| (W) ?_; clear h; intro _ _ h
    have p22 := aA ((aO a.lo b.hi k og za.1 zb.2) w0)
    have hd : bc a b = ((⟨a.lo, b.hi, a.openLo, b.openHi⟩ : Iv), ((decide ((ar a.lo b.hi) < 0)) || ((((ar a.lo b.hi) == 0) && (!a.openLo)) && (!b.openHi)))) := pt
    refine gz h <| (xk (aO a.lo b.hi k og za.1 zb.2)) <| (dr1 (H := [⟨_, []⟩, ⟨.blk b3 (cV (⟨(⟨oQ, oQ, false⟩ : GR), (⟨oQ, oQ, false⟩ : GR), false, false⟩ : Iv)) 86, [(17, .con (.blk b3 (cV (⟨a.lo, b.hi, a.openLo, b.openHi⟩ : Iv)) 86))]⟩, ⟨_, []⟩, ⟨_, []⟩]) (hob := oE)) <| (W) ?_; clear h; intro _ _ h
    exact ret h rfl (.cell (v := (vV (⟨a.lo, b.hi, a.openLo, b.openHi⟩ : Iv))) rfl (i := 1) rfl aa86 zz86 rfl rfl rfl (.tmp rfl .nil)) rfl (h.retP (by rw [hd] <;> rfl) (by rw [hd]; exact ⟨(iI za og).1, (iI zb og).2⟩))
   ·
    have hd7 := of_decide_eq_false hc7
    refine gz h <| (ai) ?_ ?_ <;> clear h <;> intro _ _ h hc8
    ·
     have hd8 := eq_of_beq hc8
     have p24 := aA ((aO a.lo a.hi k og za.1 za.2) w0)
     have hd : bc a b = ((⟨a.lo, a.hi, a.openLo, (a.openHi || b.openHi)⟩ : Iv), ((decide ((ar a.lo a.hi) < 0)) || ((((ar a.lo a.hi) == 0) && (!a.openLo)) && (!(a.openHi || b.openHi))))) := pt
     refine gz h <| (xs 0 (cV (⟨a.lo, a.hi, a.openLo, (a.openHi || b.openHi)⟩ : Iv))) <| (xk (aO a.lo a.hi k og za.1 za.2)) <| (dr1 (H := [⟨_, []⟩, ⟨.blk b3 (cV (⟨(⟨oQ, oQ, false⟩ : GR), (⟨oQ, oQ, false⟩ : GR), false, false⟩ : Iv)) 86, [(17, .con (.blk b3 (cV (⟨a.lo, a.hi, a.openLo, (a.openHi || b.openHi)⟩ : Iv)) 86))]⟩, ⟨_, []⟩, ⟨_, []⟩]) (hob := oE)) <| (W) ?_; clear h; intro _ _ h
     exact ret h rfl (.cell (v := (vV (⟨a.lo, a.hi, a.openLo, (a.openHi || b.openHi)⟩ : Iv))) rfl (i := 1) rfl aa86 zz86 rfl rfl rfl (.tmp rfl .nil)) rfl (h.retP (by rw [hd] <;> rfl) (by rw [hd]; exact ⟨(iI za og).1, (iI za og).2⟩))
    ·
     have hd8 := ne_of_beq_false hc8
     have p26 := aA ((aO a.lo a.hi k og za.1 za.2) w0)
     have hd : bc a b = (a, ((decide ((ar a.lo a.hi) < 0)) || ((((ar a.lo a.hi) == 0) && (!a.openLo)) && (!a.openHi)))) := pt
     refine gz h <| (xk (aO a.lo a.hi k og za.1 za.2)) <| (dr1 (H := [⟨_, []⟩, ⟨.blk b3 (cV (⟨(⟨oQ, oQ, false⟩ : GR), (⟨oQ, oQ, false⟩ : GR), false, false⟩ : Iv)) 86, [(17, .con (.blk b3 (cV a) 86))]⟩, ⟨_, []⟩, ⟨_, []⟩]) (hob := oE)) <| (W) ?_; clear h; intro _ _ h
     exact ret h rfl (.cell (v := (vV a)) rfl (i := 1) rfl aa86 zz86 rfl rfl rfl (.tmp rfl .nil)) rfl (h.retP (by rw [hd] <;> rfl) (by rw [hd]; exact (iI za og)))
end Go.Sx
