/- A part of the proof of movingpointSamples. -/
import Derived.Test.YtbenbmdkhcfcfaaGreatDoorW5
import Derived.Shelf.SlSortCmp.WholeK
import Derived.Test.YtbenbmdkhcfcfaaGreatDoorProg
set_option linter.unusedVariables false
set_option linter.unusedSimpArgs false
open Go.Proofs.Tryz renaming isAgg25 → aa25, sizeOf25 → zz25, runUnderlying71 → uu71, sizeOf27 → zz27, isAgg27 → aa27, zeroValue25 → vv25, call97 → cc97, runUnderlying254 → uu254, runUnderlying3 → uu3
namespace Go.Sx
open Go Go.RowKit Go.Proofs
set_option maxRecDepth 100000
set_option maxHeartbeats 40000000
attribute [local irreducible] Code.wp wpList Rd Step ObS Ent
attribute [local irreducible] aq aK ak au ay bA
def ag (a : GQ) : GI :=
 a.num
theorem ip (a : GQ) (za : SzQ 36 a) (w0 : World)  : Calls Tryz.prog 250 #[(vQ a)] w0 (RetP w0 (vI (ag a)) (SzI 36 (ag a))) := by
 refine enter (N := 5) (args := [(vQ a)]) Tryz.func250 rfl rfl ?_; intro ac h
 refine gz h <| (xb) fun b1 => (xa) fun b2 => (W) ?_; clear h ac; intro ac wo h
 exact ret h rfl (.cell (v := (vI a.num)) rfl (i := 0) rfl aa25 zz25 rfl rfl rfl .nil) rfl (h.retP (by unfold ag; rfl) (by unfold ag; exact za.1))
attribute [irreducible] ag
def bk (a : GI) (b : GI) : GI :=
 (aC a (ao b))
theorem iW (a : GI) (b : GI) (za : SzI 28 a) (zb : SzI 28 b) (w0 : World)  : Calls Tryz.prog 252 #[(vI a), (vI b)] w0 (RetP w0 (vI (bk a b)) (SzI 26 (bk a b))) := by
  refine enter (N := 9) (args := [(vI a), (vI b)]) Tryz.func252 rfl rfl ?_; intro ac h
  refine gz h <| (xb) fun b1 => (xb) fun b2 => (xa) fun b3 => (W) ?_; clear h ac; intro ac wo h
  have c1 := cL b 28 og zb
  have s1 := am (c1 w0)
  have s2 := am ((dU a (ao b) 27 og za s1) w0)
  refine gz h <| (dr1 (H := [⟨.blk b3 (cI (⟨false, 0⟩ : GI)) 25, [(4, .con (.blk b3 (cI (aC a (ao b))) 25))]⟩, ⟨.blk b2 (cI b) 25, []⟩, ⟨.blk b1 (cI a) 25, []⟩]) (hob := (oK (c1)) <| (oK (dU a (ao b) 27 og za s1)) <| oE)) <| (W) ?_; clear h ac wo; intro ac wo h
  exact ret h rfl (.cell (v := (vI (aC a (ao b)))) rfl (i := 0) rfl aa25 zz25 rfl rfl rfl .nil) rfl (h.retP (by unfold bk; rfl) (by unfold bk; exact (en s2 og)))
attribute [irreducible] bk
def ax (a : GI) : GI × Int :=
 bif a.neg then
  ((⟨false, 0⟩ : GI), 2)
 else
  ((aA false (bN a.mag)), 0)
theorem iC (a : GI) (ha4 : a.mag < 4) (za : SzI 30 a) (w0 : World)  : Calls Tryz.prog 251 #[(vI a)] w0 (RetP w0 (.tuple #[(vI ((ax a).1)), (.int .i64 ((ax a).2))]) (SzI 29 ((ax a).1))) := by
 refine enter (N := 11) (args := [(vI a)]) Tryz.func251 rfl rfl ?_; intro ac h
 refine gz h <| (xb) fun b1 => (xa) fun b2 => (ai) ?_ ?_ <;> clear h ac <;> intro ac wo h hc1
 ·
  have hq1 := hc1; try simp at hq1
  have hd : ax a = ((⟨false, 0⟩ : GI), 2) := pt
  refine gz h <| (xo (hs := by exact bD lA exs rfl (v := (vI (⟨false, 0⟩ : GI))) rfl)) <| (W) ?_; clear h ac wo; intro ac wo h
  exact ret h rfl (.cell (v := (vI (⟨false, 0⟩ : GI))) rfl (i := 0) rfl aa25 zz25 rfl rfl rfl (.tmp rfl .nil)) rfl (h.retP (by rw [hd] <;> rfl) (by rw [hd]; exact (bn 0 (by decide) og)))
 ·
  have hq1 := hc1; try simp at hq1
  have c1 := pH a.mag ha4 za
  have s1 := Calls.pr (c1 w0)
  have c2 := br false (bN a.mag) 29 og s1
  have s2 := am (c2 w0)
  have hd : ax a = ((aA false (bN a.mag)), 0) := pt
  refine gz h <| (xk (c1)) <| (xk (c2)) <| (W) ?_; clear h ac wo; intro ac wo h
  exact ret h rfl (.cell (v := (vI (aA false (bN a.mag)))) rfl (i := 0) rfl aa25 zz25 rfl rfl rfl (.tmp rfl .nil)) rfl (h.retP (by rw [hd] <;> rfl) (by rw [hd]; exact s2))
attribute [irreducible] ax
def bF (num : GI) (den : GI) : GQ × Int :=
 bif ((bE den) == 0) then
  ((⟨(⟨false, 0⟩ : GI), (⟨false, 0⟩ : GI)⟩ : GQ), 6)
 else
  ((aW num den), 0)
attribute [irreducible] bF
def dB (x : GR) : GI :=
 bif x.neg then
  (aE (bk (ab (ag x.p) (aa x.r)) (aC ((ax (ab (ab (aa x.p) (aa x.p)) (ab (ag x.r) (aa x.r)))).1) (ar 1))) (ab (aa x.p) (aa x.r))).1
 else
  (aE (aC (ab (ag x.p) (aa x.r)) ((ax (ab (ab (aa x.p) (aa x.p)) (ab (ag x.r) (aa x.r)))).1)) (ab (aa x.p) (aa x.r))).1
theorem jj (x : GR) (ht : (ab (ab (aa x.p) (aa x.p)) (ab (ag x.r) (aa x.r))).mag < 4 ∧ SzI 40 (dB x)) (zx : SzR 36 x) (w0 : World)  : Calls Tryz.prog 187 #[(vR x)] w0 (RetP w0 (vI (dB x)) (SzI 40 (dB x))) := by
  refine enter (N := 59) (args := [(vR x)]) Tryz.func187 rfl rfl ?_; intro ac h
  refine gz h <| (xb) fun b1 => (xa) fun b2 => (W) ?_; clear h ac; intro ac wo h
  have c1 := ip x.p zx.1
  have s1 := Calls.pr (c1 w0)
  have s2 := am ((be x.p 36 og zx.1) w0)
  replace h := h.emps 2
  refine d4 mixed [⟨.det (ptr b1 0), []⟩, ⟨.det (vQ x.p), [1]⟩, ⟨.det (vI (ag x.p)), []⟩, ⟨.det (ptr b1 0), []⟩, ⟨.det (vQ x.p), [1]⟩, ⟨.det (vI (aa x.p)), []⟩, ⟨.nd (.one 6 fun v => ∃ b, v = ptr b 0), [2]⟩, ⟨.nd (.one 7 fun v => ∃ b, v = ptr b 0), [3]⟩, ⟨.det undef, [2]⟩, ⟨.det undef, [3]⟩] [⟨.blk b2 (cI (⟨false, 0⟩ : GI)) 25, []⟩, ⟨.blk b1 (cR x) 71, []⟩, ⟨.emp, [(6, .one 6 fun v => .blk (bp v) (cI (⟨false, 0⟩ : GI)) 25), (8, .one 6 fun v => .blk (bp v) (cI (ag x.p)) 25)]⟩, ⟨.emp, [(7, .one 7 fun v => .blk (bp v) (cI (⟨false, 0⟩ : GI)) 25), (9, .one 7 fun v => .blk (bp v) (cI (aa x.p)) 25)]⟩] h rfl (by kernel_rfl) ⟨?_, ?_, ?_, ?_, ?_, ?_, ?_, ?_, ?_, ?_, trivial⟩ ?_
  · intro ξ hφ; exact a7 (fa uu71 rfl zz27 rfl rfl rfl (k' := 0))
  · intro ξ hφ; exact fL [.blk b1 (cR x) 71] rfl rfl (gp aa27 zz27 rfl rfl rfl (v := (vQ x.p)) rfl)
  · intro ξ hφ; exact fT (ef (dH Tryz.call250 rfl) (kk c1))
  · intro ξ hφ; exact a7 (fa uu71 rfl zz27 rfl rfl rfl (k' := 0))
  · intro ξ hφ; exact fL [.blk b1 (cR x) 71] rfl rfl (gp aa27 zz27 rfl rfl rfl (v := (vQ x.p)) rfl)
  · intro ξ hφ; exact fT (ef (dH Tryz.call98 rfl) (kk (be x.p 36 og zx.1)))
  · intro ξ hφ; exact kE (ψ := fun v => ∃ b, v = ptr b 0) (B := fun v => [.blk (bp v) (cI (⟨false, 0⟩ : GI)) 25]) [.emp] rfl (fun v _ => by simp only [cc, bc] <;> rfl) (fun v hv => by simpa [DF.one, bc] using hv) (gC (eL vv25 rfl))
  · intro ξ hφ; exact kE (ψ := fun v => ∃ b, v = ptr b 0) (B := fun v => [.blk (bp v) (cI (⟨false, 0⟩ : GI)) 25]) [.emp] rfl (fun v _ => by simp only [cc, bc] <;> rfl) (fun v hv => by simpa [DF.one, bc] using hv) (gC (eL vv25 rfl))
  · intro ξ hφ; obtain ⟨b3, hb6⟩ := hφ 6 rfl; exact jQ [.blk b3 (cI (⟨false, 0⟩ : GI)) 25] [.blk b3 (cI (ag x.p)) 25] (congrArg (fun v => [Asn.blk (bp v) (cI (⟨false, 0⟩ : GI)) 25]) hb6) (congrArg (fun v => [Asn.blk (bp v) (cI (ag x.p)) 25]) hb6) (k7 zz25 (Eq.trans rfl (congrArg some hb6)) rfl rfl rfl rfl rfl rfl)
  · intro ξ hφ; obtain ⟨b4, hb7⟩ := hφ 7 rfl; exact jQ [.blk b4 (cI (⟨false, 0⟩ : GI)) 25] [.blk b4 (cI (aa x.p)) 25] (congrArg (fun v => [Asn.blk (bp v) (cI (⟨false, 0⟩ : GI)) 25]) hb7) (congrArg (fun v => [Asn.blk (bp v) (cI (aa x.p)) 25]) hb7) (k7 zz25 (Eq.trans rfl (congrArg some hb7)) rfl rfl rfl rfl rfl rfl)
  clear h ac wo; intro ξ ac wo hφ h
  replace h : St w0 59 [(1, (ptr b1 0)), (2, (ptr b2 0)), (3, ξ 6), (4, ξ 7)] [.blk b2 (cI (⟨false, 0⟩ : GI)) 25, .blk b1 (cR x) 71, .blk (bp (ξ 6)) (cI (ag x.p)) 25, .blk (bp (ξ 7)) (cI (aa x.p)) 25] ac wo := (h.pick [0, 1, 2, 3] (by decide)).sub ⟨rfl, rfl, rfl, rfl, trivial⟩
  revert h
  obtain ⟨b3, hb6⟩ : ∃ b, ξ 6 = ptr b 0 := hφ 6
  obtain ⟨b4, hb7⟩ : ∃ b, ξ 7 = ptr b 0 := hφ 7
  rw [hb6, hb7]; intro h
  clear hb6 hb7
  clear hφ ξ
  refine gz h <| (W) ?_; clear h ac wo; intro ac wo h
  have c3 := ip x.r zx.2
  have s3 := Calls.pr (c3 w0)
  have s4 := am ((be x.r 36 og zx.2) w0)
  replace h := h.emps 2
  refine d4 mixed [⟨.det (ptr b1 4), []⟩, ⟨.det (vQ x.r), [1]⟩, ⟨.det (vI (ag x.r)), []⟩, ⟨.det (ptr b1 4), []⟩, ⟨.det (vQ x.r), [1]⟩, ⟨.det (vI (aa x.r)), []⟩, ⟨.nd (.one 6 fun v => ∃ b, v = ptr b 0), [4]⟩, ⟨.nd (.one 7 fun v => ∃ b, v = ptr b 0), [5]⟩, ⟨.det undef, [4]⟩, ⟨.det undef, [5]⟩] [⟨.blk b2 (cI (⟨false, 0⟩ : GI)) 25, []⟩, ⟨.blk b1 (cR x) 71, []⟩, ⟨.blk b3 (cI (ag x.p)) 25, []⟩, ⟨.blk b4 (cI (aa x.p)) 25, []⟩, ⟨.emp, [(6, .one 6 fun v => .blk (bp v) (cI (⟨false, 0⟩ : GI)) 25), (8, .one 6 fun v => .blk (bp v) (cI (ag x.r)) 25)]⟩, ⟨.emp, [(7, .one 7 fun v => .blk (bp v) (cI (⟨false, 0⟩ : GI)) 25), (9, .one 7 fun v => .blk (bp v) (cI (aa x.r)) 25)]⟩] h rfl (by kernel_rfl) ⟨?_, ?_, ?_, ?_, ?_, ?_, ?_, ?_, ?_, ?_, trivial⟩ ?_
  · intro ξ hφ; exact a7 (fa uu71 rfl zz27 rfl rfl rfl (k' := 4))
  · intro ξ hφ; exact fL [.blk b1 (cR x) 71] rfl rfl (gp aa27 zz27 rfl rfl rfl (v := (vQ x.r)) rfl)
  · intro ξ hφ; exact fT (ef (dH Tryz.call250 rfl) (kk c3))
  · intro ξ hφ; exact a7 (fa uu71 rfl zz27 rfl rfl rfl (k' := 4))
  · intro ξ hφ; exact fL [.blk b1 (cR x) 71] rfl rfl (gp aa27 zz27 rfl rfl rfl (v := (vQ x.r)) rfl)
  · intro ξ hφ; exact fT (ef (dH Tryz.call98 rfl) (kk (be x.r 36 og zx.2)))
  · intro ξ hφ; exact kE (ψ := fun v => ∃ b, v = ptr b 0) (B := fun v => [.blk (bp v) (cI (⟨false, 0⟩ : GI)) 25]) [.emp] rfl (fun v _ => by simp only [cc, bc] <;> rfl) (fun v hv => by simpa [DF.one, bc] using hv) (gC (eL vv25 rfl))
  · intro ξ hφ; exact kE (ψ := fun v => ∃ b, v = ptr b 0) (B := fun v => [.blk (bp v) (cI (⟨false, 0⟩ : GI)) 25]) [.emp] rfl (fun v _ => by simp only [cc, bc] <;> rfl) (fun v hv => by simpa [DF.one, bc] using hv) (gC (eL vv25 rfl))
  · intro ξ hφ; obtain ⟨b5, hb6⟩ := hφ 6 rfl; exact jQ [.blk b5 (cI (⟨false, 0⟩ : GI)) 25] [.blk b5 (cI (ag x.r)) 25] (congrArg (fun v => [Asn.blk (bp v) (cI (⟨false, 0⟩ : GI)) 25]) hb6) (congrArg (fun v => [Asn.blk (bp v) (cI (ag x.r)) 25]) hb6) (k7 zz25 (Eq.trans rfl (congrArg some hb6)) rfl rfl rfl rfl rfl rfl)
  · intro ξ hφ; obtain ⟨b6, hb7⟩ := hφ 7 rfl; exact jQ [.blk b6 (cI (⟨false, 0⟩ : GI)) 25] [.blk b6 (cI (aa x.r)) 25] (congrArg (fun v => [Asn.blk (bp v) (cI (⟨false, 0⟩ : GI)) 25]) hb7) (congrArg (fun v => [Asn.blk (bp v) (cI (aa x.r)) 25]) hb7) (k7 zz25 (Eq.trans rfl (congrArg some hb7)) rfl rfl rfl rfl rfl rfl)
  clear h ac wo; intro ξ ac wo hφ h
  replace h : St w0 59 [(1, (ptr b1 0)), (2, (ptr b2 0)), (3, (ptr b3 0)), (4, (ptr b4 0)), (5, ξ 6), (6, ξ 7)] [.blk b2 (cI (⟨false, 0⟩ : GI)) 25, .blk b1 (cR x) 71, .blk b3 (cI (ag x.p)) 25, .blk b4 (cI (aa x.p)) 25, .blk (bp (ξ 6)) (cI (ag x.r)) 25, .blk (bp (ξ 7)) (cI (aa x.r)) 25] ac wo := (h.pick [0, 1, 2, 3, 4, 5] (by decide)).sub ⟨rfl, rfl, rfl, rfl, rfl, rfl, trivial⟩
  revert h
  obtain ⟨b5, hb6⟩ : ∃ b, ξ 6 = ptr b 0 := hφ 6
  obtain ⟨b6, hb7⟩ : ∃ b, ξ 7 = ptr b 0 := hφ 7
  rw [hb6, hb7]; intro h
  clear hb6 hb7
  clear hφ ξ
  refine gz h <| (W) ?_; clear h ac wo; intro ac wo h
  have s5 := am ((bo (aa x.p) (aa x.p) 35 og s2 s2) w0)
  have s6 := am ((bo (ag x.r) (aa x.r) 35 og s3 s4) w0)
  have s7 := am ((bo (ab (aa x.p) (aa x.p)) (ab (ag x.r) (aa x.r)) 34 og s5 s6) w0)
  have s8 := Calls.pr ((fun w_ hB_ hS_ => iC (ab (ab (aa x.p) (aa x.p)) (ab (ag x.r) (aa x.r))) (ht.1) (en s7 og) w_ ) _ h.bel h.sep)
  replace h := h.emps 1
  refine d4 mixed [⟨.det (vI (aa x.p)), [3]⟩, ⟨.det (vI (aa x.p)), [3]⟩, ⟨.det (vI (ab (aa x.p) (aa x.p))), []⟩, ⟨.det (vI (ag x.r)), [4]⟩, ⟨.det (vI (aa x.r)), [5]⟩, ⟨.det (vI (ab (ag x.r) (aa x.r))), []⟩, ⟨.det (vI (ab (ab (aa x.p) (aa x.p)) (ab (ag x.r) (aa x.r)))), []⟩, ⟨.det (.tuple #[(vI ((ax (ab (ab (aa x.p) (aa x.p)) (ab (ag x.r) (aa x.r)))).1)), (.int .i64 ((ax (ab (ab (aa x.p) (aa x.p)) (ab (ag x.r) (aa x.r)))).2))]), []⟩, ⟨.det (.tuple #[(vI ((ax (ab (ab (aa x.p) (aa x.p)) (ab (ag x.r) (aa x.r)))).1)), (.int .i64 ((ax (ab (ab (aa x.p) (aa x.p)) (ab (ag x.r) (aa x.r)))).2))]), []⟩, ⟨.det (vI ((ax (ab (ab (aa x.p) (aa x.p)) (ab (ag x.r) (aa x.r)))).1)), []⟩, ⟨.det (.int .i64 ((ax (ab (ab (aa x.p) (aa x.p)) (ab (ag x.r) (aa x.r)))).2)), []⟩, ⟨.nd (.one 11 fun v => ∃ b, v = ptr b 0), [6]⟩, ⟨.det undef, [6]⟩, ⟨.det (.int .i64 ((ax (ab (ab (aa x.p) (aa x.p)) (ab (ag x.r) (aa x.r)))).2)), []⟩] [⟨.blk b2 (cI (⟨false, 0⟩ : GI)) 25, []⟩, ⟨.blk b1 (cR x) 71, []⟩, ⟨.blk b3 (cI (ag x.p)) 25, []⟩, ⟨.blk b4 (cI (aa x.p)) 25, []⟩, ⟨.blk b5 (cI (ag x.r)) 25, []⟩, ⟨.blk b6 (cI (aa x.r)) 25, []⟩, ⟨.emp, [(11, .one 11 fun v => .blk (bp v) (cI (⟨false, 0⟩ : GI)) 25), (12, .one 11 fun v => .blk (bp v) (cI ((ax (ab (ab (aa x.p) (aa x.p)) (ab (ag x.r) (aa x.r)))).1)) 25)]⟩] h rfl (by kernel_rfl) ⟨?_, ?_, ?_, ?_, ?_, ?_, ?_, ?_, ?_, ?_, ?_, ?_, ?_, ?_, trivial⟩ ?_
  · intro ξ hφ; exact fL [.blk b4 (cI (aa x.p)) 25] rfl rfl (gp aa25 zz25 rfl rfl rfl (v := (vI (aa x.p))) rfl)
  · intro ξ hφ; exact fL [.blk b4 (cI (aa x.p)) 25] rfl rfl (gp aa25 zz25 rfl rfl rfl (v := (vI (aa x.p))) rfl)
  · intro ξ hφ; exact fT (ef (vs := [(vI (aa x.p)), (vI (aa x.p))]) (dH cc97 rfl) (fun w_ hB_ hS_ => (bo (aa x.p) (aa x.p) 35 og s2 s2) w_))
  · intro ξ hφ; exact fL [.blk b5 (cI (ag x.r)) 25] rfl rfl (gp aa25 zz25 rfl rfl rfl (v := (vI (ag x.r))) rfl)
  · intro ξ hφ; exact fL [.blk b6 (cI (aa x.r)) 25] rfl rfl (gp aa25 zz25 rfl rfl rfl (v := (vI (aa x.r))) rfl)
  · intro ξ hφ; exact fT (ef (dH cc97 rfl) (kk (bo (ag x.r) (aa x.r) 35 og s3 s4)))
  · intro ξ hφ; exact fT (ef (dH cc97 rfl) (kk (bo (ab (aa x.p) (aa x.p)) (ab (ag x.r) (aa x.r)) 34 og s5 s6)))
  · intro ξ hφ; exact fT (ef (dH Tryz.call251 rfl) (kk (iC (ab (ab (aa x.p) (aa x.p)) (ab (ag x.r) (aa x.r))) (ht.1) (en s7 og))))
  · intro ξ hφ; exact a7 (ap rfl)
  · intro ξ hφ; exact a7 (bU rfl rfl)
  · intro ξ hφ; exact a7 (bU rfl rfl)
  · intro ξ hφ; exact kE (ψ := fun v => ∃ b, v = ptr b 0) (B := fun v => [.blk (bp v) (cI (⟨false, 0⟩ : GI)) 25]) [.emp] rfl (fun v _ => by simp only [cc, bc] <;> rfl) (fun v hv => by simpa [DF.one, bc] using hv) (gC (eL vv25 rfl))
  · intro ξ hφ; obtain ⟨b7, hb11⟩ := hφ 11 rfl; exact jQ [.blk b7 (cI (⟨false, 0⟩ : GI)) 25] [.blk b7 (cI ((ax (ab (ab (aa x.p) (aa x.p)) (ab (ag x.r) (aa x.r)))).1)) 25] (congrArg (fun v => [Asn.blk (bp v) (cI (⟨false, 0⟩ : GI)) 25]) hb11) (congrArg (fun v => [Asn.blk (bp v) (cI ((ax (ab (ab (aa x.p) (aa x.p)) (ab (ag x.r) (aa x.r)))).1)) 25]) hb11) (k7 zz25 (Eq.trans rfl (congrArg some hb11)) rfl rfl rfl rfl rfl rfl)
  · intro ξ hφ; exact a7 (aw rfl)
  clear h ac wo; intro ξ ac wo hφ h
  replace h : St w0 59 [(1, (ptr b1 0)), (2, (ptr b2 0)), (3, (ptr b3 0)), (4, (ptr b4 0)), (6, (ptr b6 0)), (7, ξ 11)] [.blk b2 (cI (⟨false, 0⟩ : GI)) 25, .blk b1 (cR x) 71, .blk b3 (cI (ag x.p)) 25, .blk b4 (cI (aa x.p)) 25, .blk b5 (cI (ag x.r)) 25, .blk b6 (cI (aa x.r)) 25, .blk (bp (ξ 11)) (cI ((ax (ab (ab (aa x.p) (aa x.p)) (ab (ag x.r) (aa x.r)))).1)) 25] ac wo := (h.pick [0, 1, 2, 3, 4, 5, 6] (by decide)).sub ⟨rfl, rfl, rfl, rfl, rfl, rfl, trivial⟩
  revert h
  obtain ⟨b7, hb11⟩ : ∃ b, ξ 11 = ptr b 0 := hφ 11
  rw [hb11]; intro h
  clear hb11
  clear hφ ξ
  have c9 := bo (ag x.p) (aa x.r) 35 og s1 s4
  have s9 := am (c9 w0)
  refine gz h <| (xk (c9)) <| (xa) fun b8 => (ai) ?_ ?_ <;> clear h ac wo <;> intro ac wo h hc1
  ·
    have hq1 := hc1; try simp at hq1
    have s10 := am ((dC 1 40 og  og) w0)
    have s11 := am ((dU ((ax (ab (ab (aa x.p) (aa x.p)) (ab (ag x.r) (aa x.r)))).1) (ar 1) 28 og s8 (en s10 og)) w0)
    have s12 := Calls.pr ((fun w_ hB_ hS_ => iW (ab (ag x.p) (aa x.r)) (aC ((ax (ab (ab (aa x.p) (aa x.p)) (ab (ag x.r) (aa x.r)))).1) (ar 1)) (en s9 og) s11 w_ ) _ h.bel h.sep)
    refine gz h <| (dr1 (H := [⟨.blk b8 (cI (ab (ag x.p) (aa x.r))) 25, [(5, .con (.blk b8 (cI (bk (ab (ag x.p) (aa x.r)) (aC ((ax (ab (ab (aa x.p) (aa x.p)) (ab (ag x.r) (aa x.r)))).1) (ar 1)))) 25))]⟩, ⟨.blk b2 (cI (⟨false, 0⟩ : GI)) 25, []⟩, ⟨.blk b1 (cR x) 71, []⟩, ⟨.blk b3 (cI (ag x.p)) 25, []⟩, ⟨.blk b4 (cI (aa x.p)) 25, []⟩, ⟨.blk b5 (cI (ag x.r)) 25, []⟩, ⟨.blk b6 (cI (aa x.r)) 25, []⟩, ⟨.blk b7 (cI ((ax (ab (ab (aa x.p) (aa x.p)) (ab (ag x.r) (aa x.r)))).1)) 25, []⟩]) (hob := (oX (h := by exact fun _ => fT (ef (vs := [(.int .i64 1)]) (dH Tryz.call93 rfl) (fun w_ hB_ hS_ => (dC 1 40 og  og) w_)))) <| (oK (dU ((ax (ab (ab (aa x.p) (aa x.p)) (ab (ag x.r) (aa x.r)))).1) (ar 1) 28 og s8 (en s10 og))) <| (oK (iW (ab (ag x.p) (aa x.r)) (aC ((ax (ab (ab (aa x.p) (aa x.p)) (ab (ag x.r) (aa x.r)))).1) (ar 1)) (en s9 og) s11)) <| oE)) <| (W) ?_; clear h ac wo; intro ac wo h
    have c13 := bo (aa x.p) (aa x.r) 35 og s2 s4
    have s13 := am (c13 w0)
    have s14 := am ((dZ (bk (ab (ag x.p) (aa x.r)) (aC ((ax (ab (ab (aa x.p) (aa x.p)) (ab (ag x.r) (aa x.r)))).1) (ar 1))) (ab (aa x.p) (aa x.r)) 25 og s12 (en s13 og)) w0)
    replace h := h.emps 2
    refine d4 mixed [⟨.det (vI (bk (ab (ag x.p) (aa x.r)) (aC ((ax (ab (ab (aa x.p) (aa x.p)) (ab (ag x.r) (aa x.r)))).1) (ar 1)))), [0]⟩, ⟨.det (vI (aa x.p)), [4]⟩, ⟨.det (vI (aa x.r)), [6]⟩, ⟨.det (vI (ab (aa x.p) (aa x.r))), []⟩, ⟨.det (.tuple #[(vI ((aE (bk (ab (ag x.p) (aa x.r)) (aC ((ax (ab (ab (aa x.p) (aa x.p)) (ab (ag x.r) (aa x.r)))).1) (ar 1))) (ab (aa x.p) (aa x.r))).1)), (vI ((aE (bk (ab (ag x.p) (aa x.r)) (aC ((ax (ab (ab (aa x.p) (aa x.p)) (ab (ag x.r) (aa x.r)))).1) (ar 1))) (ab (aa x.p) (aa x.r))).2.1)), (.int .i64 ((aE (bk (ab (ag x.p) (aa x.r)) (aC ((ax (ab (ab (aa x.p) (aa x.p)) (ab (ag x.r) (aa x.r)))).1) (ar 1))) (ab (aa x.p) (aa x.r))).2.2))]), []⟩, ⟨.det (.tuple #[(vI ((aE (bk (ab (ag x.p) (aa x.r)) (aC ((ax (ab (ab (aa x.p) (aa x.p)) (ab (ag x.r) (aa x.r)))).1) (ar 1))) (ab (aa x.p) (aa x.r))).1)), (vI ((aE (bk (ab (ag x.p) (aa x.r)) (aC ((ax (ab (ab (aa x.p) (aa x.p)) (ab (ag x.r) (aa x.r)))).1) (ar 1))) (ab (aa x.p) (aa x.r))).2.1)), (.int .i64 ((aE (bk (ab (ag x.p) (aa x.r)) (aC ((ax (ab (ab (aa x.p) (aa x.p)) (ab (ag x.r) (aa x.r)))).1) (ar 1))) (ab (aa x.p) (aa x.r))).2.2))]), []⟩, ⟨.det (vI ((aE (bk (ab (ag x.p) (aa x.r)) (aC ((ax (ab (ab (aa x.p) (aa x.p)) (ab (ag x.r) (aa x.r)))).1) (ar 1))) (ab (aa x.p) (aa x.r))).1)), []⟩, ⟨.det (vI ((aE (bk (ab (ag x.p) (aa x.r)) (aC ((ax (ab (ab (aa x.p) (aa x.p)) (ab (ag x.r) (aa x.r)))).1) (ar 1))) (ab (aa x.p) (aa x.r))).2.1)), []⟩, ⟨.det (.int .i64 ((aE (bk (ab (ag x.p) (aa x.r)) (aC ((ax (ab (ab (aa x.p) (aa x.p)) (ab (ag x.r) (aa x.r)))).1) (ar 1))) (ab (aa x.p) (aa x.r))).2.2)), []⟩, ⟨.nd (.one 9 fun v => ∃ b, v = ptr b 0), [8]⟩, ⟨.nd (.one 10 fun v => ∃ b, v = ptr b 0), [9]⟩, ⟨.det undef, [8]⟩, ⟨.det undef, [9]⟩, ⟨.det (.int .i64 ((aE (bk (ab (ag x.p) (aa x.r)) (aC ((ax (ab (ab (aa x.p) (aa x.p)) (ab (ag x.r) (aa x.r)))).1) (ar 1))) (ab (aa x.p) (aa x.r))).2.2)), []⟩] [⟨.blk b8 (cI (bk (ab (ag x.p) (aa x.r)) (aC ((ax (ab (ab (aa x.p) (aa x.p)) (ab (ag x.r) (aa x.r)))).1) (ar 1)))) 25, []⟩, ⟨.blk b2 (cI (⟨false, 0⟩ : GI)) 25, []⟩, ⟨.blk b1 (cR x) 71, []⟩, ⟨.blk b3 (cI (ag x.p)) 25, []⟩, ⟨.blk b4 (cI (aa x.p)) 25, []⟩, ⟨.blk b5 (cI (ag x.r)) 25, []⟩, ⟨.blk b6 (cI (aa x.r)) 25, []⟩, ⟨.blk b7 (cI ((ax (ab (ab (aa x.p) (aa x.p)) (ab (ag x.r) (aa x.r)))).1)) 25, []⟩, ⟨.emp, [(9, .one 9 fun v => .blk (bp v) (cI (⟨false, 0⟩ : GI)) 25), (11, .one 9 fun v => .blk (bp v) (cI ((aE (bk (ab (ag x.p) (aa x.r)) (aC ((ax (ab (ab (aa x.p) (aa x.p)) (ab (ag x.r) (aa x.r)))).1) (ar 1))) (ab (aa x.p) (aa x.r))).1)) 25)]⟩, ⟨.emp, [(10, .one 10 fun v => .blk (bp v) (cI (⟨false, 0⟩ : GI)) 25), (12, .one 10 fun v => .blk (bp v) (cI ((aE (bk (ab (ag x.p) (aa x.r)) (aC ((ax (ab (ab (aa x.p) (aa x.p)) (ab (ag x.r) (aa x.r)))).1) (ar 1))) (ab (aa x.p) (aa x.r))).2.1)) 25)]⟩] h rfl (by kernel_rfl) ⟨?_, ?_, ?_, ?_, ?_, ?_, ?_, ?_, ?_, ?_, ?_, ?_, ?_, ?_, trivial⟩ ?_
    · intro ξ hφ; exact fL [.blk b8 (cI (bk (ab (ag x.p) (aa x.r)) (aC ((ax (ab (ab (aa x.p) (aa x.p)) (ab (ag x.r) (aa x.r)))).1) (ar 1)))) 25] rfl rfl (gp aa25 zz25 rfl rfl rfl (v := (vI (bk (ab (ag x.p) (aa x.r)) (aC ((ax (ab (ab (aa x.p) (aa x.p)) (ab (ag x.r) (aa x.r)))).1) (ar 1))))) rfl)
    · intro ξ hφ; exact fL [.blk b4 (cI (aa x.p)) 25] rfl rfl (gp aa25 zz25 rfl rfl rfl (v := (vI (aa x.p))) rfl)
    · intro ξ hφ; exact fL [.blk b6 (cI (aa x.r)) 25] rfl rfl (gp aa25 zz25 rfl rfl rfl (v := (vI (aa x.r))) rfl)
    · intro ξ hφ; exact fT (ef (dH cc97 rfl) (kk c13))
    · intro ξ hφ; exact fT (ef (dH Tryz.call253 rfl) (kk (dZ (bk (ab (ag x.p) (aa x.r)) (aC ((ax (ab (ab (aa x.p) (aa x.p)) (ab (ag x.r) (aa x.r)))).1) (ar 1))) (ab (aa x.p) (aa x.r)) 25 og s12 (en s13 og))))
    · intro ξ hφ; exact a7 (ap rfl)
    · intro ξ hφ; exact a7 (bU rfl rfl)
    · intro ξ hφ; exact a7 (bU rfl rfl)
    · intro ξ hφ; exact a7 (bU rfl rfl)
    · intro ξ hφ; exact kE (ψ := fun v => ∃ b, v = ptr b 0) (B := fun v => [.blk (bp v) (cI (⟨false, 0⟩ : GI)) 25]) [.emp] rfl (fun v _ => by simp only [cc, bc] <;> rfl) (fun v hv => by simpa [DF.one, bc] using hv) (gC (eL vv25 rfl))
    · intro ξ hφ; exact kE (ψ := fun v => ∃ b, v = ptr b 0) (B := fun v => [.blk (bp v) (cI (⟨false, 0⟩ : GI)) 25]) [.emp] rfl (fun v _ => by simp only [cc, bc] <;> rfl) (fun v hv => by simpa [DF.one, bc] using hv) (gC (eL vv25 rfl))
    · intro ξ hφ; obtain ⟨b9, hb9⟩ := hφ 9 rfl; exact jQ [.blk b9 (cI (⟨false, 0⟩ : GI)) 25] [.blk b9 (cI ((aE (bk (ab (ag x.p) (aa x.r)) (aC ((ax (ab (ab (aa x.p) (aa x.p)) (ab (ag x.r) (aa x.r)))).1) (ar 1))) (ab (aa x.p) (aa x.r))).1)) 25] (congrArg (fun v => [Asn.blk (bp v) (cI (⟨false, 0⟩ : GI)) 25]) hb9) (congrArg (fun v => [Asn.blk (bp v) (cI ((aE (bk (ab (ag x.p) (aa x.r)) (aC ((ax (ab (ab (aa x.p) (aa x.p)) (ab (ag x.r) (aa x.r)))).1) (ar 1))) (ab (aa x.p) (aa x.r))).1)) 25]) hb9) (k7 zz25 (Eq.trans rfl (congrArg some hb9)) rfl rfl rfl rfl rfl rfl)
    · intro ξ hφ; obtain ⟨b10, hb10⟩ := hφ 10 rfl; exact jQ [.blk b10 (cI (⟨false, 0⟩ : GI)) 25] [.blk b10 (cI ((aE (bk (ab (ag x.p) (aa x.r)) (aC ((ax (ab (ab (aa x.p) (aa x.p)) (ab (ag x.r) (aa x.r)))).1) (ar 1))) (ab (aa x.p) (aa x.r))).2.1)) 25] (congrArg (fun v => [Asn.blk (bp v) (cI (⟨false, 0⟩ : GI)) 25]) hb10) (congrArg (fun v => [Asn.blk (bp v) (cI ((aE (bk (ab (ag x.p) (aa x.r)) (aC ((ax (ab (ab (aa x.p) (aa x.p)) (ab (ag x.r) (aa x.r)))).1) (ar 1))) (ab (aa x.p) (aa x.r))).2.1)) 25]) hb10) (k7 zz25 (Eq.trans rfl (congrArg some hb10)) rfl rfl rfl rfl rfl rfl)
    · intro ξ hφ; exact a7 (aw rfl)
    clear h ac wo; intro ξ ac wo hφ h
    replace h : St w0 59 [(2, (ptr b2 0)), (10, ξ 9)] [.blk b8 (cI (bk (ab (ag x.p) (aa x.r)) (aC ((ax (ab (ab (aa x.p) (aa x.p)) (ab (ag x.r) (aa x.r)))).1) (ar 1)))) 25, .blk b2 (cI (⟨false, 0⟩ : GI)) 25, .blk b1 (cR x) 71, .blk b3 (cI (ag x.p)) 25, .blk b4 (cI (aa x.p)) 25, .blk b5 (cI (ag x.r)) 25, .blk b6 (cI (aa x.r)) 25, .blk b7 (cI ((ax (ab (ab (aa x.p) (aa x.p)) (ab (ag x.r) (aa x.r)))).1)) 25, .blk (bp (ξ 9)) (cI ((aE (bk (ab (ag x.p) (aa x.r)) (aC ((ax (ab (ab (aa x.p) (aa x.p)) (ab (ag x.r) (aa x.r)))).1) (ar 1))) (ab (aa x.p) (aa x.r))).1)) 25, .blk (bp (ξ 10)) (cI ((aE (bk (ab (ag x.p) (aa x.r)) (aC ((ax (ab (ab (aa x.p) (aa x.p)) (ab (ag x.r) (aa x.r)))).1) (ar 1))) (ab (aa x.p) (aa x.r))).2.1)) 25] ac wo := (h.pick [0, 1, 2, 3, 4, 5, 6, 7, 8, 9] (by decide)).sub ⟨rfl, rfl, trivial⟩
    revert h
    obtain ⟨b9, hb9⟩ : ∃ b, ξ 9 = ptr b 0 := hφ 9
    obtain ⟨b10, hb10⟩ : ∃ b, ξ 10 = ptr b 0 := hφ 10
    rw [hb9, hb10]; intro h
    clear hb9 hb10
    clear hφ ξ
    have hd : dB x = (aE (bk (ab (ag x.p) (aa x.r)) (aC ((ax (ab (ab (aa x.p) (aa x.p)) (ab (ag x.r) (aa x.r)))).1) (ar 1))) (ab (aa x.p) (aa x.r))).1 := pt
    refine gz h <| (W) ?_; clear h ac wo; intro ac wo h
    exact ret h rfl (.cell (v := (vI ((aE (bk (ab (ag x.p) (aa x.r)) (aC ((ax (ab (ab (aa x.p) (aa x.p)) (ab (ag x.r) (aa x.r)))).1) (ar 1))) (ab (aa x.p) (aa x.r))).1))) rfl (i := 1) rfl aa25 zz25 rfl rfl rfl .nil) rfl (h.retP (by rw [hd] <;> rfl) (by rw [hd]; exact (by rw [← hd]; exact ht.2)))
  ·
    have hq1 := hc1; try simp at hq1
    have c15 := dU (ab (ag x.p) (aa x.r)) ((ax (ab (ab (aa x.p) (aa x.p)) (ab (ag x.r) (aa x.r)))).1) 28 og (en s9 og) s8
    have s15 := am (c15 w0)
    refine gz h <| (xk (c15)) <| (W) ?_; clear h ac wo; intro ac wo h
    have c16 := bo (aa x.p) (aa x.r) 35 og s2 s4
    have s16 := am (c16 w0)
    have s17 := am ((dZ (aC (ab (ag x.p) (aa x.r)) ((ax (ab (ab (aa x.p) (aa x.p)) (ab (ag x.r) (aa x.r)))).1)) (ab (aa x.p) (aa x.r)) 27 og s15 (en s16 og)) w0)
    replace h := h.emps 2
    refine d4 mixed [⟨.det (vI (aC (ab (ag x.p) (aa x.r)) ((ax (ab (ab (aa x.p) (aa x.p)) (ab (ag x.r) (aa x.r)))).1))), [0]⟩, ⟨.det (vI (aa x.p)), [4]⟩, ⟨.det (vI (aa x.r)), [6]⟩, ⟨.det (vI (ab (aa x.p) (aa x.r))), []⟩, ⟨.det (.tuple #[(vI ((aE (aC (ab (ag x.p) (aa x.r)) ((ax (ab (ab (aa x.p) (aa x.p)) (ab (ag x.r) (aa x.r)))).1)) (ab (aa x.p) (aa x.r))).1)), (vI ((aE (aC (ab (ag x.p) (aa x.r)) ((ax (ab (ab (aa x.p) (aa x.p)) (ab (ag x.r) (aa x.r)))).1)) (ab (aa x.p) (aa x.r))).2.1)), (.int .i64 ((aE (aC (ab (ag x.p) (aa x.r)) ((ax (ab (ab (aa x.p) (aa x.p)) (ab (ag x.r) (aa x.r)))).1)) (ab (aa x.p) (aa x.r))).2.2))]), []⟩, ⟨.det (.tuple #[(vI ((aE (aC (ab (ag x.p) (aa x.r)) ((ax (ab (ab (aa x.p) (aa x.p)) (ab (ag x.r) (aa x.r)))).1)) (ab (aa x.p) (aa x.r))).1)), (vI ((aE (aC (ab (ag x.p) (aa x.r)) ((ax (ab (ab (aa x.p) (aa x.p)) (ab (ag x.r) (aa x.r)))).1)) (ab (aa x.p) (aa x.r))).2.1)), (.int .i64 ((aE (aC (ab (ag x.p) (aa x.r)) ((ax (ab (ab (aa x.p) (aa x.p)) (ab (ag x.r) (aa x.r)))).1)) (ab (aa x.p) (aa x.r))).2.2))]), []⟩, ⟨.det (vI ((aE (aC (ab (ag x.p) (aa x.r)) ((ax (ab (ab (aa x.p) (aa x.p)) (ab (ag x.r) (aa x.r)))).1)) (ab (aa x.p) (aa x.r))).1)), []⟩, ⟨.det (vI ((aE (aC (ab (ag x.p) (aa x.r)) ((ax (ab (ab (aa x.p) (aa x.p)) (ab (ag x.r) (aa x.r)))).1)) (ab (aa x.p) (aa x.r))).2.1)), []⟩, ⟨.det (.int .i64 ((aE (aC (ab (ag x.p) (aa x.r)) ((ax (ab (ab (aa x.p) (aa x.p)) (ab (ag x.r) (aa x.r)))).1)) (ab (aa x.p) (aa x.r))).2.2)), []⟩, ⟨.nd (.one 9 fun v => ∃ b, v = ptr b 0), [8]⟩, ⟨.nd (.one 10 fun v => ∃ b, v = ptr b 0), [9]⟩, ⟨.det undef, [8]⟩, ⟨.det undef, [9]⟩, ⟨.det (.int .i64 ((aE (aC (ab (ag x.p) (aa x.r)) ((ax (ab (ab (aa x.p) (aa x.p)) (ab (ag x.r) (aa x.r)))).1)) (ab (aa x.p) (aa x.r))).2.2)), []⟩] [⟨.blk b8 (cI (aC (ab (ag x.p) (aa x.r)) ((ax (ab (ab (aa x.p) (aa x.p)) (ab (ag x.r) (aa x.r)))).1))) 25, []⟩, ⟨.blk b2 (cI (⟨false, 0⟩ : GI)) 25, []⟩, ⟨.blk b1 (cR x) 71, []⟩, ⟨.blk b3 (cI (ag x.p)) 25, []⟩, ⟨.blk b4 (cI (aa x.p)) 25, []⟩, ⟨.blk b5 (cI (ag x.r)) 25, []⟩, ⟨.blk b6 (cI (aa x.r)) 25, []⟩, ⟨.blk b7 (cI ((ax (ab (ab (aa x.p) (aa x.p)) (ab (ag x.r) (aa x.r)))).1)) 25, []⟩, ⟨.emp, [(9, .one 9 fun v => .blk (bp v) (cI (⟨false, 0⟩ : GI)) 25), (11, .one 9 fun v => .blk (bp v) (cI ((aE (aC (ab (ag x.p) (aa x.r)) ((ax (ab (ab (aa x.p) (aa x.p)) (ab (ag x.r) (aa x.r)))).1)) (ab (aa x.p) (aa x.r))).1)) 25)]⟩, ⟨.emp, [(10, .one 10 fun v => .blk (bp v) (cI (⟨false, 0⟩ : GI)) 25), (12, .one 10 fun v => .blk (bp v) (cI ((aE (aC (ab (ag x.p) (aa x.r)) ((ax (ab (ab (aa x.p) (aa x.p)) (ab (ag x.r) (aa x.r)))).1)) (ab (aa x.p) (aa x.r))).2.1)) 25)]⟩] h rfl (by kernel_rfl) ⟨?_, ?_, ?_, ?_, ?_, ?_, ?_, ?_, ?_, ?_, ?_, ?_, ?_, ?_, trivial⟩ ?_
    · intro ξ hφ; exact fL [.blk b8 (cI (aC (ab (ag x.p) (aa x.r)) ((ax (ab (ab (aa x.p) (aa x.p)) (ab (ag x.r) (aa x.r)))).1))) 25] rfl rfl (gp aa25 zz25 rfl rfl rfl (v := (vI (aC (ab (ag x.p) (aa x.r)) ((ax (ab (ab (aa x.p) (aa x.p)) (ab (ag x.r) (aa x.r)))).1)))) rfl)
    · intro ξ hφ; exact fL [.blk b4 (cI (aa x.p)) 25] rfl rfl (gp aa25 zz25 rfl rfl rfl (v := (vI (aa x.p))) rfl)
    · intro ξ hφ; exact fL [.blk b6 (cI (aa x.r)) 25] rfl rfl (gp aa25 zz25 rfl rfl rfl (v := (vI (aa x.r))) rfl)
    · intro ξ hφ; exact fT (ef (dH cc97 rfl) (kk c16))
    · intro ξ hφ; exact fT (ef (dH Tryz.call253 rfl) (kk (dZ (aC (ab (ag x.p) (aa x.r)) ((ax (ab (ab (aa x.p) (aa x.p)) (ab (ag x.r) (aa x.r)))).1)) (ab (aa x.p) (aa x.r)) 27 og s15 (en s16 og))))
    · intro ξ hφ; exact a7 (ap rfl)
    · intro ξ hφ; exact a7 (bU rfl rfl)
    · intro ξ hφ; exact a7 (bU rfl rfl)
    · intro ξ hφ; exact a7 (bU rfl rfl)
    · intro ξ hφ; exact kE (ψ := fun v => ∃ b, v = ptr b 0) (B := fun v => [.blk (bp v) (cI (⟨false, 0⟩ : GI)) 25]) [.emp] rfl (fun v _ => by simp only [cc, bc] <;> rfl) (fun v hv => by simpa [DF.one, bc] using hv) (gC (eL vv25 rfl))
    · intro ξ hφ; exact kE (ψ := fun v => ∃ b, v = ptr b 0) (B := fun v => [.blk (bp v) (cI (⟨false, 0⟩ : GI)) 25]) [.emp] rfl (fun v _ => by simp only [cc, bc] <;> rfl) (fun v hv => by simpa [DF.one, bc] using hv) (gC (eL vv25 rfl))
    · intro ξ hφ; obtain ⟨b11, hb9⟩ := hφ 9 rfl; exact jQ [.blk b11 (cI (⟨false, 0⟩ : GI)) 25] [.blk b11 (cI ((aE (aC (ab (ag x.p) (aa x.r)) ((ax (ab (ab (aa x.p) (aa x.p)) (ab (ag x.r) (aa x.r)))).1)) (ab (aa x.p) (aa x.r))).1)) 25] (congrArg (fun v => [Asn.blk (bp v) (cI (⟨false, 0⟩ : GI)) 25]) hb9) (congrArg (fun v => [Asn.blk (bp v) (cI ((aE (aC (ab (ag x.p) (aa x.r)) ((ax (ab (ab (aa x.p) (aa x.p)) (ab (ag x.r) (aa x.r)))).1)) (ab (aa x.p) (aa x.r))).1)) 25]) hb9) (k7 zz25 (Eq.trans rfl (congrArg some hb9)) rfl rfl rfl rfl rfl rfl)
    · intro ξ hφ; obtain ⟨b12, hb10⟩ := hφ 10 rfl; exact jQ [.blk b12 (cI (⟨false, 0⟩ : GI)) 25] [.blk b12 (cI ((aE (aC (ab (ag x.p) (aa x.r)) ((ax (ab (ab (aa x.p) (aa x.p)) (ab (ag x.r) (aa x.r)))).1)) (ab (aa x.p) (aa x.r))).2.1)) 25] (congrArg (fun v => [Asn.blk (bp v) (cI (⟨false, 0⟩ : GI)) 25]) hb10) (congrArg (fun v => [Asn.blk (bp v) (cI ((aE (aC (ab (ag x.p) (aa x.r)) ((ax (ab (ab (aa x.p) (aa x.p)) (ab (ag x.r) (aa x.r)))).1)) (ab (aa x.p) (aa x.r))).2.1)) 25]) hb10) (k7 zz25 (Eq.trans rfl (congrArg some hb10)) rfl rfl rfl rfl rfl rfl)
    · intro ξ hφ; exact a7 (aw rfl)
    clear h ac wo; intro ξ ac wo hφ h
    replace h : St w0 59 [(2, (ptr b2 0)), (10, ξ 9)] [.blk b8 (cI (aC (ab (ag x.p) (aa x.r)) ((ax (ab (ab (aa x.p) (aa x.p)) (ab (ag x.r) (aa x.r)))).1))) 25, .blk b2 (cI (⟨false, 0⟩ : GI)) 25, .blk b1 (cR x) 71, .blk b3 (cI (ag x.p)) 25, .blk b4 (cI (aa x.p)) 25, .blk b5 (cI (ag x.r)) 25, .blk b6 (cI (aa x.r)) 25, .blk b7 (cI ((ax (ab (ab (aa x.p) (aa x.p)) (ab (ag x.r) (aa x.r)))).1)) 25, .blk (bp (ξ 9)) (cI ((aE (aC (ab (ag x.p) (aa x.r)) ((ax (ab (ab (aa x.p) (aa x.p)) (ab (ag x.r) (aa x.r)))).1)) (ab (aa x.p) (aa x.r))).1)) 25, .blk (bp (ξ 10)) (cI ((aE (aC (ab (ag x.p) (aa x.r)) ((ax (ab (ab (aa x.p) (aa x.p)) (ab (ag x.r) (aa x.r)))).1)) (ab (aa x.p) (aa x.r))).2.1)) 25] ac wo := (h.pick [0, 1, 2, 3, 4, 5, 6, 7, 8, 9] (by decide)).sub ⟨rfl, rfl, trivial⟩
    revert h
    obtain ⟨b11, hb9⟩ : ∃ b, ξ 9 = ptr b 0 := hφ 9
    obtain ⟨b12, hb10⟩ : ∃ b, ξ 10 = ptr b 0 := hφ 10
    rw [hb9, hb10]; intro h
    clear hb9 hb10
    clear hφ ξ
    have hd : dB x = (aE (aC (ab (ag x.p) (aa x.r)) ((ax (ab (ab (aa x.p) (aa x.p)) (ab (ag x.r) (aa x.r)))).1)) (ab (aa x.p) (aa x.r))).1 := pt
    refine gz h <| (W) ?_; clear h ac wo; intro ac wo h
    exact ret h rfl (.cell (v := (vI ((aE (aC (ab (ag x.p) (aa x.r)) ((ax (ab (ab (aa x.p) (aa x.p)) (ab (ag x.r) (aa x.r)))).1)) (ab (aa x.p) (aa x.r))).1))) rfl (i := 1) rfl aa25 zz25 rfl rfl rfl .nil) rfl (h.retP (by rw [hd] <;> rfl) (by rw [hd]; exact (by rw [← hd]; exact ht.2)))
attribute [irreducible] dB
end Go.Sx
namespace Go.Sx
open Go Go.RowKit Go.Proofs
set_option maxRecDepth 100000
set_option maxHeartbeats 40000000
attribute [local irreducible] Code.wp wpList Rd Step ObS Ent
attribute [local irreducible] aq aK ak au ay bA
attribute [local irreducible] aD aL aj av aP ah ab aa aW bE
theorem mE (num den : GI) (znum : SzI 36 num) (zden : SzI 36 den) (w0 : World) : Calls Tryz.prog 92 #[(vI num), (vI den)] w0 (RetP w0 (.tuple #[(vQ ((bF num den).1)), (.int .i64 ((bF num den).2))]) (SzQ 35 ((bF num den).1))) := by
 refine enter (N := 13) (args := [(vI num), (vI den)]) Tryz.func92 rfl rfl ?_; intro ac h
 have p2 := am ((cz den) w0)
 refine gz h <| (xb) fun b1 => (xb) fun b2 => (xa) fun b3 => (xk (cz den)) <| (ai) ?_ ?_ <;> clear h ac <;> intro ac wo h hc1
 ·
  have hd : bF num den = (oQ, 6) := by unfold bF; rw [hc1]; rfl
  rw [hd]
  refine gz h <| (xo (hs := by exact bD kb exs rfl (v := (vQ oQ)) rfl)) <| (W) ?_; clear h ac wo; intro ac wo h
  exact q6 0 h (h.retP (u := .tuple #[vQ oQ, .int .i64 6]) rfl ⟨(bn 0 (by decide) og), (bn 0 (by decide) og)⟩)
 ·
  have c3 := cJ num den 35 og znum zden
  have hd : bF num den = ((aW num den), 0) := by unfold bF; rw [hc1]; rfl
  rw [hd]
  refine gz h <| (xk (c3)) <| (W) ?_; clear h ac wo; intro ac wo h
  exact q6 0 h (h.retP (u := .tuple #[vQ (aW num den), .int .i64 0]) rfl (am (c3 w0)))
def bm (a b : GQ) : GQ × Int := bF (ab a.num (aa b)) (ab (aa a) b.num)
theorem kz (a b : GQ) (za : SzQ 37 a) (zb : SzQ 37 b) (w0 : World) : Calls Tryz.prog 189 #[vQ a, vQ b] w0 (RetP w0 (.tuple #[vQ (bm a b).1, .int .i64 (bm a b).2]) (SzQ 35 (bm a b).1)) := by
 refine enter (N := 19) (args := [vQ a, vQ b]) Tryz.func189 rfl rfl ?_; intro ac h
 have s1 := am ((be b 37 og zb) w0)
 have s2 := am ((bo a.num (aa b) 36 og za.1 s1) w0)
 have s3 := am ((be a 37 og za) w0)
 have s4 := am ((bo (aa a) b.num 36 og s3 zb.1) w0)
 have s5 := am ((mE (ab a.num (aa b)) (ab (aa a) b.num) s2 s4) w0)
 refine gz h <| (xb) fun b1 => (xb) fun b2 => (xa) fun b3 => (dr1 (H := [⟨.blk b3 (cQ oQ) 27, [(13, .con (.blk b3 (cQ (bF (ab a.num (aa b)) (ab (aa a) b.num)).1) 27))]⟩, ⟨_, []⟩, ⟨_, []⟩]) (hob := (oK (be b 37 og zb)) <| (oK (bo a.num (aa b) 36 og za.1 s1)) <| (oK (be a 37 og za)) <| (oK (bo (aa a) b.num 36 og s3 zb.1)) <| (oK (mE (ab a.num (aa b)) (ab (aa a) b.num) s2 s4)) <| oE)) <| (W) ?_; clear h ac; intro ac wo h
 exact q6 0 h (h.retP (u := .tuple #[vQ (bm a b).1, .int .i64 (bm a b).2]) rfl s5)
attribute [irreducible] bm
def bG (t v u w : GQ) : Qd × Int :=
 bif (bm (ah w v) (ah u t)).2 != 0 then (⟨oQ, oQ, oQ⟩, (bm (ah w v) (ah u t)).2)
 else (aH (ah v (aj (bm (ah w v) (ah u t)).1 t)) (bm (ah w v) (ah u t)).1, 0)
theorem dX (t v u w : GQ) (zt : SzQ 40 t) (zv : SzQ 40 v) (zu : SzQ 40 u) (zw : SzQ 40 w) (w0 : World) : Calls Tryz.prog 89 #[vQ t, vQ v, vQ u, vQ w] w0 (RetP w0 (.tuple #[vD (bG t v u w).1, .int .i64 (bG t v u w).2]) (SzD 30 (bG t v u w).1)) := by
 refine enter (N := 33) (args := [vQ t, vQ v, vQ u, vQ w]) Tryz.func89 rfl rfl ?_; intro ac h
 have c1 := bu w v 37 og zw zv
 have c2 := bu u t 37 og zu zt
 have c3 := kz (ah w v) (ah u t) (am (c1 w0)) (am (c2 w0))
 have s3 := am (c3 w0)
 have c4 := aT (bm (ah w v) (ah u t)).1 t 33 og s3 (bM zt og)
 have s4 := am (c4 w0)
 have c5 := bu v (aj (bm (ah w v) (ah u t)).1 t) 30 og (bM zv og) s4
 have s5 := am (c5 w0)
 have c6 := cb (ah v (aj (bm (ah w v) (ah u t)).1 t)) (bm (ah w v) (ah u t)).1 30 og s5 (bM s3 og)
 have s6 := am (c6 w0)
 refine gz h <| (xb) fun b1 => (xb) fun b2 => (xb) fun b3 => (xb) fun b4 => (xa) fun b5 => (W) ?_; clear h ac; intro ac wo h
 replace h := h.emps 1
 refine d4 mixed [dw _ [1], dw _ [3], dv _, dw _ [2], dw _ [4], dv _, dv _, dv _, dv _, dv _, ⟨.nd (.one 10 fun x => ∃ b, x = ptr b 0), [5]⟩, dw undef [5], dv _] [⟨_, []⟩, ⟨_, []⟩, ⟨_, []⟩, ⟨_, []⟩, ⟨_, []⟩, ⟨.emp, [(10, .one 10 fun x => .blk (bp x) (cQ oQ) 27), (11, .one 10 fun x => .blk (bp x) (cQ (bm (ah w v) (ah u t)).1) 27)]⟩] h rfl (by kernel_rfl) ⟨oA obA, oA obA, oA fun _ => fT (fg Tryz.call22 rfl c1), oA obA, oA obA, oA fun _ => fT (fg Tryz.call22 rfl c2), oA fun _ => fT (fg Tryz.call189 rfl c3), oA obA, oA obA, oA obA, fun _ _ => lc 5 rfl (fun _ => rfl), fun ξ hφ => la (u := vQ (bm (ah w v) (ah u t)).1) 5 (hφ 10 rfl) rfl rfl rfl rfl rfl rfl rfl, oA obA, trivial⟩ ?_
 clear h ac wo; intro ξ ac wo hφ h
 obtain ⟨b6, hb6⟩ : ∃ b, ξ 10 = ptr b 0 := hφ 10
 replace h : St w0 33 [(4, ptr b1 0), (5, ptr b2 0), (6, ptr b3 0), (7, ptr b4 0), (8, ptr b5 0), (10, ξ 10), (11, .int .i64 (bm (ah w v) (ah u t)).2)] [.blk b5 (cD ⟨oQ, oQ, oQ⟩) 53, .blk b4 (cQ w) 27, .blk b3 (cQ u) 27, .blk b2 (cQ v) 27, .blk b1 (cQ t) 27, .blk (bp (ξ 10)) (cQ (bm (ah w v) (ah u t)).1) 27] ac wo := h.sub ⟨rfl, rfl, rfl, rfl, rfl, rfl, rfl, trivial⟩
 rw [hb6] at h
 clear hb6 hφ ξ
 refine gz h <| (ai) ?_ ?_ <;> clear h ac wo <;> intro ac wo h hc1
 ·
  have hd : bG t v u w = (⟨oQ, oQ, oQ⟩, (bm (ah w v) (ah u t)).2) := by unfold bG; rw [hc1]; rfl
  refine gz h <| (xo (hs := by exact bD qY exs rfl (v := vD ⟨oQ, oQ, oQ⟩) rfl)) <| (W) ?_; clear h ac wo; intro ac wo h
  rw [hd]; exact q6 0 h (h.retP (u := .tuple #[vD ⟨oQ, oQ, oQ⟩, .int .i64 (bm (ah w v) (ah u t)).2]) rfl ⟨⟨bn 0 (by decide) og, bn 0 (by decide) og⟩, ⟨bn 0 (by decide) og, bn 0 (by decide) og⟩, ⟨bn 0 (by decide) og, bn 0 (by decide) og⟩⟩)
 ·
  have hd : bG t v u w = (aH (ah v (aj (bm (ah w v) (ah u t)).1 t)) (bm (ah w v) (ah u t)).1, 0) := by unfold bG; rw [hc1]; rfl
  refine gz h <| (dr1 (H := [⟨.blk b5 (cD ⟨oQ, oQ, oQ⟩) 53, [(7, .con (.blk b5 (cD (aH (ah v (aj (bm (ah w v) (ah u t)).1 t)) (bm (ah w v) (ah u t)).1)) 53))]⟩, ⟨_, []⟩, ⟨_, []⟩, ⟨_, []⟩, ⟨_, []⟩, ⟨_, []⟩]) (hob := (oK c4) <| (oK c5) <| (oK c6) <| oE)) <| (W) ?_; clear h ac wo; intro ac wo h
  rw [hd]; exact q6 0 h (h.retP (u := .tuple #[vD (aH (ah v (aj (bm (ah w v) (ah u t)).1 t)) (bm (ah w v) (ah u t)).1), .int .i64 0]) rfl s6)
attribute [irreducible] bG
def lnOf (x y : Qd) : Ln := ⟨x.c0, x.c1, y.c0, y.c1⟩
def cP (a b : Smp) : Ln := lnOf (bG a.t a.p.x b.t b.p.x).1 (bG a.t a.p.y b.t b.p.y).1
def StO (a b : Smp) : Prop := tu 40 a ∧ tu 40 b
theorem lF (a b : Smp) (z : StO a b) (w0 : World) : Calls Tryz.prog 90 #[vSm a, vSm b] w0 (RetP w0 (vN (cP a b)) (SzN 30 (cP a b))) := by
 refine enter (N := 46) (args := [vSm a, vSm b]) Tryz.func90 rfl rfl ?_; intro ac h
 have c1 := dX a.t a.p.x b.t b.p.x z.1.1 z.1.2.1 z.2.1 z.2.2.1
 have s1 := am (c1 w0)
 have c2 := dX a.t a.p.y b.t b.p.y z.1.1 z.1.2.2 z.2.1 z.2.2.2
 have s2 := am (c2 w0)
 refine gz h <| (xb) fun b1 => (xb) fun b2 => (xa) fun b3 => (xk c1) <| (xa) fun b4 => (xk c2) <| (xa) fun b5 => (W) ?_; clear h ac; intro ac wo h
 exact rtc 2 h (h.retP (u := vN (cP a b)) rfl ⟨s1.1, s1.2.1, s2.1, s2.2.1⟩)
def gV (p : Pnt) : Ln := ⟨p.x, oQ, p.y, oQ⟩
theorem pC (p : Pnt) (k : Nat) (hk : k ≤ 40) (z : qj k p) (w0 : World) : Calls Tryz.prog 91 #[vPt p] w0 (RetP w0 (vN (gV p)) (SzN k (gV p))) := by
 refine enter (N := 8) (args := [vPt p]) Tryz.func91 rfl rfl ?_; intro ac h
 refine gz h <| (xb) fun b1 => (xa) fun b2 => (W) ?_; clear h ac; intro ac wo h
 exact rtc 0 h (h.retP (u := vN (gV p)) rfl ⟨z.1, ⟨bn 0 (by decide) og, bn 0 (by decide) og⟩, z.2, ⟨bn 0 (by decide) og, bn 0 (by decide) og⟩⟩)
def lxs (f : Ln) : Qd := aH f.x0 f.x1
def lys (f : Ln) : Qd := aH f.y0 f.y1
theorem lxs_ct (f : Ln) (k : Nat) (hk : k ≤ 40) (z : SzN k f) (w0 : World) : Calls Tryz.prog 102 #[vN f] w0 (RetP w0 (vD (lxs f)) (SzD k (lxs f))) := by
 refine enter (N := 8) (args := [vN f]) Tryz.func102 rfl rfl ?_; intro ac h
 have c1 := cb f.x0 f.x1 k hk z.1 z.2.1
 refine gz h <| (xb) fun b1 => (xa) fun b2 => (xk c1) <| (W) ?_; clear h ac; intro ac wo h
 exact rtc 0 h (h.retP (u := vD (lxs f)) rfl (am (c1 w0)))
theorem lys_ct (f : Ln) (k : Nat) (hk : k ≤ 40) (z : SzN k f) (w0 : World) : Calls Tryz.prog 103 #[vN f] w0 (RetP w0 (vD (lys f)) (SzD k (lys f))) := by
 refine enter (N := 8) (args := [vN f]) Tryz.func103 rfl rfl ?_; intro ac h
 have c1 := cb f.y0 f.y1 k hk z.2.2.1 z.2.2.2
 refine gz h <| (xb) fun b1 => (xa) fun b2 => (xk c1) <| (W) ?_; clear h ac; intro ac wo h
 exact rtc 0 h (h.retP (u := vD (lys f)) rfl (am (c1 w0)))
def jh (t x y : Int) : Smp := ⟨ak t, ⟨ak x, ak y⟩⟩
end Go.Sx
namespace Go.Sx
theorem p7 (q : GQ) : (an q).p = q ∧ (an q).r = zQ ∧ (an q).neg = false := by unfold an; exact ⟨rfl, rfl, rfl⟩
theorem fr_ok {q : GQ} (h : QOk q) : ROk (an q) := by
  obtain ⟨e1, e2, e3⟩ := p7 q
  unfold ROk
  rw [e1, e2, e3]
  exact ⟨h, gm.1, Or.inl ⟨gm.2, rfl⟩⟩
theorem fr_rv (q : GQ) (k : Nat) : rv (an q) k = aX q := by
  obtain ⟨e1, e2, e3⟩ := p7 q
  unfold rv
  rw [e1, e2, gm.2, pE]; grind
theorem fr_cmp {p q : GQ} (hp : QOk p) (hq : QOk q) : aq (an p) (an q) = rsg (aX p - aX q) :=
  (kR (fr_ok hp) (fr_ok hq)).uniq ((Sg.const _).congr fun k => by rw [fr_rv, fr_rv])
def inZ (n : Nat) : GR := an (ak (n : Int))
theorem si {n d : GI} (hn : IOk n) (hd : d6 d ≠ 0) : QOk (bF n d).1 ∧ aX (bF n d).1 = (d6 n : Rat) / (d6 d : Rat) := by
  have h : (bE d == 0) = false := by
    rw [hG]
    simp
    exact hd
  have e : bF n d = (aW n d, 0) := by unfold bF; rw [h]; rfl
  rw [e]
  exact mS hn hd
theorem div_ok {a b : GQ} (ha : QOk a) (hb : QOk b) (h : aX b ≠ 0) : QOk (bm a b).1 ∧ aX (bm a b).1 = aX a / aX b ∧ (bm a b).2 = 0 := by
  obtain ⟨da, _⟩ := ia ha
  obtain ⟨db, _⟩ := ia hb
  have pa := mj ha
  have pb := mj hb
  have hbn : d6 b.num ≠ 0 := fun e => h (by unfold aX; rw [e]; grind)
  have hd : d6 (ab (aa a) b.num) ≠ 0 := by
    rw [hH, da]
    refine Int.mul_ne_zero ?_ hbn
    have := ha.pos
    omega
  have h2 : (bE (ab (aa a) b.num) == 0) = false := by
    rw [hG]; simp; exact hd
  obtain ⟨o, v⟩ := si (qm a.num (aa b)) hd
  unfold bm
  refine ⟨o, ?_, by unfold bF; rw [h2]; rfl⟩
  rw [v, hH, hH, da, db]
  have hb2 : (d6 b.num : Rat) ≠ 0 := fun e => hbn (by exact_mod_cast e)
  unfold aX
  push_cast
  grind
theorem lV {t v u w : GQ} (ht : QOk t) (hv : QOk v) (hu : QOk u) (hw : QOk w) (h : aX t ≠ aX u) :
    ∃ c s, (bG t v u w).1 = aH c s ∧ QOk c ∧ QOk s ∧ aX s = (aX w - aX v) / (aX u - aX t) ∧ aX c = aX v - (aX w - aX v) / (aX u - aX t) * aX t := by
  obtain ⟨a1, a2⟩ := eN hw hv
  obtain ⟨b1, b2⟩ := eN hu ht
  obtain ⟨d1, d2, d3⟩ := div_ok a1 b1 (by rw [b2]; grind)
  obtain ⟨m1, m2⟩ := eC d1 ht
  obtain ⟨c1, c2⟩ := eN hv m1
  refine ⟨_, _, ?_, c1, d1, by rw [d2, a2, b2], by rw [c2, m2, d2, a2, b2]⟩
  unfold bG
  rw [d3]; rfl
theorem lE {a b : Smp} (ha : QOk a.t ∧ QOk a.p.x ∧ QOk a.p.y) (hb : QOk b.t ∧ QOk b.p.x ∧ QOk b.p.y) (h : aX a.t ≠ aX b.t) :
    LOk (cP a b) ∧ aX (cP a b).x1 = (aX b.p.x - aX a.p.x) / (aX b.t - aX a.t) ∧ aX (cP a b).x0 = aX a.p.x - (aX b.p.x - aX a.p.x) / (aX b.t - aX a.t) * aX a.t ∧
      aX (cP a b).y1 = (aX b.p.y - aX a.p.y) / (aX b.t - aX a.t) ∧ aX (cP a b).y0 = aX a.p.y - (aX b.p.y - aX a.p.y) / (aX b.t - aX a.t) * aX a.t := by
  obtain ⟨c, s, e1, k1, k2, k3, k4⟩ := lV ha.1 ha.2.1 hb.1 hb.2.1 h
  obtain ⟨c', s', e1', k1', k2', k3', k4'⟩ := lV ha.1 ha.2.2 hb.1 hb.2.2 h
  obtain ⟨_, l1, l2, _⟩ := gK k1 k2
  obtain ⟨_, l1', l2', _⟩ := gK k1' k2'
  unfold cP lnOf LOk
  rw [e1, e1']
  simp only [l1, l2, l1', l2']
  exact ⟨⟨k1, k2, k1', k2'⟩, k3, k4, k3', k4'⟩
structure Stq where
  time : Nat
  x : Nat
  y : Nat
  kind : Nat
  deriving DecidableEq
instance yW6_1 : Inhabited Stq := ⟨⟨0, 0, 0, 0⟩⟩
section
variable [K : Key]
class KeyZ : Prop where
  z : ∀ n, n ≤ 64 → Tm (inZ n)
variable [KeyZ]
omit [KeyZ] in
omit [KeyZ] in
end
end Go.Sx
namespace Go.Sx
open Go Go.RowKit Go.Proofs
set_option maxRecDepth 100000
set_option maxHeartbeats 40000000
attribute [local irreducible] Code.wp wpList Rd Step ObS Ent
attribute [local irreducible] aq aK ak au ay bA
theorem ku (t x y : Int) (k : Nat) (hk : k ≤ 40) (ht : -9223372036854775808 ≤ t ∧ t ≤ 9223372036854775807) (hx : -9223372036854775808 ≤ x ∧ x ≤ 9223372036854775807) (hy : -9223372036854775808 ≤ y ∧ y ≤ 9223372036854775807) (w0 : World) : Calls Tryz.prog 15 #[.int .i64 t, .int .i64 x, .int .i64 y] w0 (RetP w0 (vSm (jh t x y)) (tu k (jh t x y))) := by
 refine enter (N := 15) (args := [.int .i64 t, .int .i64 x, .int .i64 y]) Tryz.func15 rfl rfl ?_; intro ac h
 have c1 := bL t k hk ht
 have c2 := bL x k hk hx
 have c3 := bL y k hk hy
 refine gz h <| (xa) fun b1 => (xk c1) <| (xk c2) <| (xk c3) <| (W) ?_; clear h ac; intro ac wo h
 exact rtc 0 h (h.retP (u := vSm (jh t x y)) rfl ⟨am (c1 w0), am (c2 w0), am (c3 w0)⟩)
def exampleS : List Smp := [jh 0 0 0, jh 2 4 0, jh 4 4 6]
theorem qN (w0 : World) : Calls Tryz.prog 83 #[] w0 (RetR w0 31 exampleS True) := by
 refine enter (N := 5) (args := []) Tryz.func83 rfl rfl ?_; intro ac h
 refine gz h <| (xk (ku 0 0 0 40 (by omega) (by omega) (by omega) (by omega))) <| (xk (ku 2 4 0 40 (by omega) (by omega) (by omega) (by omega))) <| (xk (ku 4 4 6 40 (by omega) (by omega) (by omega) (by omega))) <| (W) ?_; clear h ac; intro ac wo h
 refine nw h (cX (α := Smp) (xs := [.tmp 1, .tmp 2, .tmp 3]) (vs := [vSm (jh 0 0 0), vSm (jh 2 4 0), vSm (jh 4 4 6)]) exampleS slt23 rfl rfl rfl (by decide)) rfl ?_; clear h ac wo; intro s1 ac wo _ h
 refine gz h <| (W) ?_; clear h ac wo; intro ac wo h
 exact (rt h) (h.retR 0 rfl trivial)
def bH (a : GI) : Int := if a.neg then -(a.mag : Int) else a.mag
theorem ig (a : GI) (hm : a.mag < 4611686018427387904) (w0 : World) : Calls Tryz.prog 186 #[vI a] w0 (RetP w0 (.tuple #[.int .i64 (bH a), .bool true]) True) := by
 refine enter (N := 35) (args := [vI a]) Tryz.func186 rfl rfl ?_; intro ac h
 have e : cx a.mag = (a.mag, true) := by rw [l6, if_pos (by omega)]
 have c1 : ∀ w0, Calls Tryz.prog 249 #[(.string (bs a.mag))] w0 (RetP w0 (.tuple #[(.int .u64 (a.mag : Int)), (.bool true)]) True) := fun w0 => by
  have := fY a.mag w0
  rw [e] at this; exact this
 refine gz h <| (xb) fun b1 => (xk c1) <| (ai) ?_ ?_ <;> clear h ac <;> intro ac wo h hc1
 · cases hc1
 refine gz h <| (ai) ?_ ?_ <;> clear h ac wo <;> intro ac wo h hc2
 ·
  obtain ⟨h1, h2⟩ := Bool.and_eq_true_iff.mp hc2
  have e3 : bH a = -(a.mag : Int) := by unfold bH; rw [if_pos h1]
  rw [e3]
  refine gz h <| (xo (hs := by exact r_neg rfl (r := IntKind.u64.wrap (-(a.mag : Int))) rfl)) <| (xo (hs := by exact aZ uu254 uu3 rfl (r := -(a.mag : Int)) (by rw [IntKind.wrap_u64, IntKind.wrap_i64]; omega))) <| (W) ?_; clear h ac wo; intro ac wo h
  exact (rt h) (h.retP rfl trivial)
 ·
  have h1 : a.neg = false := by
   have : decide ((a.mag : Int) ≤ 9223372036854775808) = true := decide_eq_true (by omega)
   rw [this, Bool.and_true] at hc2; exact hc2
  have e3 : bH a = (a.mag : Int) := by unfold bH; rw [h1]; rfl
  rw [e3]
  refine gz h <| (ai) ?_ ?_ <;> clear h ac wo <;> intro ac wo h hc3
  · refine gz h <| (xo (hs := by exact aZ uu254 uu3 rfl (r := (a.mag : Int)) (by rw [IntKind.wrap_i64]; omega))) <| (W) ?_; clear h ac wo; intro ac wo h
    exact (rt h) (h.retP rfl trivial)
  · have : decide ((a.mag : Int) ≤ 9223372036854775807) = true := decide_eq_true (by omega)
    rw [this, h1] at hc3; cases hc3
def d7 (x : GR) : GR := ⟨aP x.p, x.r, !decide (x.r = oQ) && !x.neg⟩
theorem oJ (x : GR) (k : Nat) (hk : k ≤ 40) (z : SzR k x) (w0 : World) : Calls Tryz.prog 254 #[vR x] w0 (RetP w0 (vR (d7 x)) (SzR k (d7 x))) := by
 refine enter (N := 18) (args := [vR x]) Tryz.func254 rfl rfl ?_; intro ac h
 have c1 := dI x.p k hk z.1
 refine gz h <| (xb) fun b1 => (xa) fun b2 => (dr1 (H := [⟨.blk b2 (cR ⟨oQ, oQ, false⟩) 71, [(15, .con (.blk b2 (cR ⟨aP x.p, x.r, !decide (x.r = oQ) && !x.neg⟩) 71))]⟩, ⟨_, []⟩]) (hob := (oK c1) <| (oX (h := by exact fun _ => a7 (bD kb exs rfl (v := vQ oQ) rfl))) <| (oX (h := by exact fun _ => a7 (bD qW exs rfl (v := vR ⟨aP x.p, x.r, !decide (x.r = oQ) && !x.neg⟩) rfl))) <| oE)) <| (W) ?_; clear h ac; intro ac wo h
 exact rtc 0 h (h.retP (u := vR (d7 x)) rfl ⟨am (c1 w0), z.2⟩)
attribute [irreducible] d7
def eO (x : GR) : GI := ao (dB (d7 x))
def Sm (r : GQ) : Prop := r.num.mag < 4 ∧ r.den = ⟨false, 0⟩
def eh (p q r : GQ) : GR × Int :=
 bif decide (au r < 0) then (⟨oQ, oQ, false⟩, 2)
 else bif (cj r).2 then (⟨av p (aj q (cj r).1), oQ, false⟩, 0)
 else (⟨p, aj (aj q q) r, decide (au q < 0)⟩, 0)
theorem nj (p q r : GQ) (k : Nat) (hk : k ≤ 10) (zp : SzQ (k + 6) p) (zq : SzQ (k + 6) q) (zr : SzQ (k + 6) r) (hr : Sm r) (z3 : SzQ 30 r) (w0 : World) : Calls Tryz.prog 143 #[vQ p, vQ q, vQ r] w0 (RetP w0 (.tuple #[vR (eh p q r).1, .int .i64 (eh p q r).2]) (SzR k (eh p q r).1)) := by
 refine enter (N := 36) (args := [vQ p, vQ q, vQ r]) Tryz.func143 rfl rfl ?_; intro ac h
 have c1 := bS r
 have s1 := am (c1 w0)
 have c2 := j4 r hr z3
 have s2 := am (c2 w0)
 refine gz h <| (xb) fun b1 => (xb) fun b2 => (xb) fun b3 => (xa) fun b4 => (xk c1) <| (ai) ?_ ?_ <;> clear h ac <;> intro ac wo h hc1
 ·
  have hd : eh p q r = (⟨oQ, oQ, false⟩, 2) := by unfold eh; rw [hc1]; rfl
  rw [hd]
  refine gz h <| (xo (hs := by exact bD qW exs rfl (v := vR ⟨oQ, oQ, false⟩) rfl)) <| (W) ?_; clear h ac wo; intro ac wo h
  exact q6 0 h (h.retP (u := .tuple #[vR ⟨oQ, oQ, false⟩, .int .i64 2]) rfl ⟨⟨bn 0 (by decide) og, bn 0 (by decide) og⟩, ⟨bn 0 (by decide) og, bn 0 (by decide) og⟩⟩)
 ·
  refine gz h <| (xk c2) <| (xa) fun b5 => (ai) ?_ ?_ <;> clear h ac wo <;> intro ac wo h hc2
  ·
   have hd : eh p q r = (⟨av p (aj q (cj r).1), oQ, false⟩, 0) := by unfold eh; rw [hc1, hc2]; rfl
   rw [hd]
   have c3 := aT q (cj r).1 (k + 4) og zq (bM s2 og)
   have s3 := am (c3 w0)
   have c4 := bq p (aj q (cj r).1) (k + 1) og (bM zp og) s3
   have s4 := am (c4 w0)
   refine gz h <| (dr1 (H := [⟨_, []⟩, ⟨.blk b4 (cR ⟨oQ, oQ, false⟩) 71, [(6, .con (.blk b4 (cR ⟨av p (aj q (cj r).1), oQ, false⟩) 71))]⟩, ⟨_, []⟩, ⟨_, []⟩, ⟨_, []⟩]) (hob := (oK c3) <| (oK c4) <| (oX (h := by exact fun _ => a7 (bD qW exs rfl (v := vR ⟨av p (aj q (cj r).1), oQ, false⟩) rfl))) <| oE)) <| (W) ?_; clear h ac wo; intro ac wo h
   exact q6 1 h (h.retP (u := .tuple #[vR ⟨av p (aj q (cj r).1), oQ, false⟩, .int .i64 0]) rfl ⟨bM s4 og, ⟨bn 0 (by decide) og, bn 0 (by decide) og⟩⟩)
  ·
   have hd : eh p q r = (⟨p, aj (aj q q) r, decide (au q < 0)⟩, 0) := by unfold eh; rw [hc1, hc2]; rfl
   rw [hd]
   have c3 := aT q q (k + 4) og zq zq
   have s3 := am (c3 w0)
   have c4 := aT (aj q q) r (k + 2) og s3 (bM zr og)
   have s4 := am (c4 w0)
   have c5 := bS q
   refine gz h <| (dr1 (H := [⟨_, []⟩, ⟨.blk b4 (cR ⟨oQ, oQ, false⟩) 71, [(10, .con (.blk b4 (cR ⟨p, aj (aj q q) r, decide (au q < 0)⟩) 71))]⟩, ⟨_, []⟩, ⟨_, []⟩, ⟨_, []⟩]) (hob := (oK c3) <| (oK c4) <| (oK c5) <| (oX (h := by exact fun _ => a7 (bD qW exs rfl (v := vR ⟨p, aj (aj q q) r, decide (au q < 0)⟩) rfl))) <| oE)) <| (W) ?_; clear h ac wo; intro ac wo h
   exact q6 1 h (h.retP (u := .tuple #[vR ⟨p, aj (aj q q) r, decide (au q < 0)⟩, .int .i64 0]) rfl ⟨bM zp og, bM s4 og⟩)
attribute [irreducible] eh
theorem nl (x : GR) (hf : ∀ w0, Calls Tryz.prog 187 #[vR (d7 x)] w0 (RetP w0 (vI (dB (d7 x))) (SzI 40 (dB (d7 x))))) (z : SzR 36 x) (w0 : World) : Calls Tryz.prog 188 #[vR x] w0 (RetP w0 (vI (eO x)) (SzI 40 (eO x))) := by
 refine enter (N := 7) (args := [vR x]) Tryz.func188 rfl rfl ?_; intro ac h
 have c1 := oJ x 36 og z
 have c3 := cL (dB (d7 x)) 40 og (am (hf w0))
 refine gz h <| (xb) fun b1 => (xa) fun b2 => (xk c1) <| (xk hf) <| (xk c3) <| (W) ?_; clear h ac; intro ac wo h
 exact rtc 0 h (h.retP (u := vI (eO x)) rfl (am (c3 w0)))
end Go.Sx
namespace Go.Sx
def kB [K : Key] (b : Bd) : Nat := 2 * tk b.at_ + (bif b.behind then 1 else 0)
theorem bb (b : Bool) : (bif b then 1 else 0 : Nat) ≤ 1 := by cases b <;> decide
theorem kB_inj [K : Key] {a b : Bd} (ha : Tm a.at_) (hb : Tm b.at_) (h : kB a = kB b) : a = b := by
  unfold kB at h
  have h1 := bb a.behind
  have h2 := bb b.behind
  have e : tk a.at_ = tk b.at_ := by omega
  have e2 := (ha.inj hb).1 e
  have e3 : a.behind = b.behind := by
    rw [e] at h
    cases ha : a.behind <;> cases hb : b.behind <;> rw [ha, hb] at h <;> simp at h <;> rfl
  obtain ⟨x, y⟩ := a
  obtain ⟨z, w⟩ := b
  simp only at e2 e3
  rw [e2, e3]
theorem pf (i : Iv) : ch i = ⟨i.lo, i.openLo⟩ := by unfold ch; rfl
theorem pl (i : Iv) : bV i = ⟨i.hi, !i.openHi⟩ := by unfold bV; rfl
theorem kB_first [K : Key] (i : Iv) : kB (ch i) = dV i := by rw [pf]; rfl
theorem kB_last [K : Key] (i : Iv) : (kB (bV i) : Int) = dM i + 1 := by
  unfold kB bV dM
  simp only
  cases i.openHi <;> simp <;> omega
theorem Wv.bd [K : Key] {i : Iv} (h : Wv i) : kB (ch i) < kB (bV i) := by
  have h1 := h.le
  have h2 := kB_last i
  rw [kB_first]; omega
theorem iv_ext [K : Key] {i j : Iv} (hi : Tv i) (hj : Tv j) (h1 : kB (ch i) = kB (ch j)) (h2 : kB (bV i) = kB (bV j)) : i = j := by
  have e1 := kB_inj (a := ch i) (b := ch j) (by rw [pf]; exact hi.1) (by rw [pf]; exact hj.1) h1
  have e2 := kB_inj (a := bV i) (b := bV j) (by rw [pl]; exact hi.2) (by rw [pl]; exact hj.2) h2
  rw [pf, pf, Bd.mk.injEq] at e1
  rw [pl, pl, Bd.mk.injEq] at e2
  obtain ⟨lo, hi', ol, oh⟩ := i
  obtain ⟨lo2, hi2, ol2, oh2⟩ := j
  simp only at e1 e2
  obtain ⟨rfl, rfl⟩ := e1
  obtain ⟨rfl, e3⟩ := e2
  rw [show oh = oh2 by cases oh <;> cases oh2 <;> first | rfl | cases e3]
end Go.Sx
namespace Go.Sx
def inI [K : Key] (i : Iv) (x : Nat) : Prop := kB (ch i) ≤ x ∧ x < kB (bV i)
def inP [K : Key] (p : List Iv) (x : Nat) : Prop := ∃ i ∈ p, inI i x
structure Cn [K : Key] (p : List Iv) : Prop where
  wv : ∀ i ∈ p, Wv i
  sep : p.Pairwise fun i j => kB (bV i) < kB (ch j)
theorem sr [K : Key] (x : Nat) : ¬ inP [] x := fun ⟨_, h, _⟩ => by cases h
theorem eE [K : Key] {i : Iv} {p : List Iv} {x : Nat} : inP (i :: p) x ↔ inI i x ∨ inP p x := by
  constructor
  · rintro ⟨j, hj, h⟩
    rcases List.mem_cons.1 hj with rfl | hj
    · exact .inl h
    · exact .inr ⟨j, hj, h⟩
  · rintro (h | ⟨j, hj, h⟩)
    · exact ⟨i, List.mem_cons_self .., h⟩
    · exact ⟨j, List.mem_cons_of_mem _ hj, h⟩
theorem Cn.nil [K : Key] : Cn [] := ⟨fun _ h => (by cases h), List.Pairwise.nil⟩
theorem Cn.tail [K : Key] {i : Iv} {p : List Iv} (h : Cn (i :: p)) : Cn p ∧ (∀ j ∈ p, kB (bV i) < kB (ch j)) ∧ Wv i := by
  have h2 := List.pairwise_cons.1 h.sep
  exact ⟨⟨fun j hj => h.wv j (List.mem_cons_of_mem _ hj), h2.2⟩, h2.1, h.wv i (List.mem_cons_self ..)⟩
theorem Cn.behind [K : Key] {i : Iv} {p : List Iv} (h : Cn (i :: p)) {x : Nat} (hx : inP p x) : kB (bV i) < x := by
  obtain ⟨j, hj, h1, _⟩ := hx
  have := h.tail.2.1 j hj
  omega
theorem Cn.ext [K : Key] : ∀ {p q : List Iv}, Cn p → Cn q → (∀ x, inP p x ↔ inP q x) → p = q
  | [], [], _, _, _ => rfl
  | [], j :: q, _, hq, h => absurd ((h _).2 (eE.2 (.inl ⟨Nat.le_refl _, (hq.tail.2.2).bd⟩))) (sr _)
  | i :: p, [], hp, _, h => absurd ((h _).1 (eE.2 (.inl ⟨Nat.le_refl _, (hp.tail.2.2).bd⟩))) (sr _)
  | i :: p, j :: q, hp, hq, h => by
    have wi := hp.tail.2.2
    have wj := hq.tail.2.2
    have bi := wi.bd
    have bj := wj.bd
    have f1 : kB (ch j) ≤ kB (ch i) := by
      rcases eE.1 ((h _).1 (eE.2 (.inl ⟨Nat.le_refl _, bi⟩))) with h1 | h1
      · exact h1.1
      · have := hq.behind h1; omega
    have f2 : kB (ch i) ≤ kB (ch j) := by
      rcases eE.1 ((h _).2 (eE.2 (.inl ⟨Nat.le_refl _, bj⟩))) with h1 | h1
      · exact h1.1
      · have := hp.behind h1; omega
    have l1 : ¬ kB (bV i) < kB (bV j) := fun hl => by
      rcases eE.1 ((h (kB (bV i))).2 (eE.2 (.inl ⟨by omega, hl⟩))) with h1 | h1
      · have := h1.2; omega
      · have := hp.behind h1; omega
    have l2 : ¬ kB (bV j) < kB (bV i) := fun hl => by
      rcases eE.1 ((h (kB (bV j))).1 (eE.2 (.inl ⟨by omega, hl⟩))) with h1 | h1
      · have := h1.2; omega
      · have := hq.behind h1; omega
    have e : i = j := iv_ext wi.1 wj.1 (by omega) (by omega)
    subst e
    rw [Cn.ext hp.tail.1 hq.tail.1 fun x => ⟨fun hx => ?_, fun hx => ?_⟩]
    · rcases eE.1 ((h x).1 (eE.2 (.inr hx))) with h1 | h1
      · have := hp.behind hx; have := h1.2; omega
      · exact h1
    · rcases eE.1 ((h x).2 (eE.2 (.inr hx))) with h1 | h1
      · have := hq.behind hx; have := h1.2; omega
      · exact h1
def sm [K : Key] (c : Ev → Int) : List Ev → Nat → Int
  | [], _ => 0
  | e :: r, x => (if kB e.at_ ≤ x then c e else 0) + sm c r x
def rs (c : Ev → Int) : List Ev → Int
  | [] => 0
  | e :: r => c e + rs c r
variable {c : Ev → Int}
end Go.Sx
namespace Go.Sx
set_option maxRecDepth 100000
section
variable {a b : List Iv}
theorem wv_sz [K : Key] (h : ∀ i ∈ a, Wv i) : All (SzV 30) a := fun i hi => ⟨dN (tm_sz (h i hi).1.1) (by omega), dN (tm_sz (h i hi).1.2) (by omega)⟩
theorem Cn.sz [K : Key] (h : Cn a) : All (SzV 30) a := wv_sz h.wv
end
end Go.Sx
namespace Go.Sx
def qa (n : Nat) : GQ := (bF (ar (n : Int)) (ar 4)).1
def two : GQ := ak 2
def gX (p : Nat) : GR := ⟨qa p, two, false⟩
section
variable [K : Key]
class KeyG (p q : Nat) : Prop where
  a : Tm (an (qa p))
  b : Tm (an (qa (p + q)))
  x : Tm (gX p)
omit K in
class KeyB : Prop where
  b : ∀ t, Tm t → Bq 100 t.p
variable [KeyZ] [KeyB]
omit [KeyZ] in
omit [KeyZ] in
end
end Go.Sx
