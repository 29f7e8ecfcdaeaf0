/- A part of the proof of movingpointChecks. -/
import Derived.Test.YtbenbmdkhcfcfaaGreatDoorJ1
import Derived.Shelf.SlSortCmp.WholeK
import Derived.Test.YtbenbmdkhcfcfaaGreatDoorProg
set_option linter.unusedVariables false
set_option linter.unusedSimpArgs false
open Go.Proofs.Tryz renaming isAgg25 → aa25, sizeOf25 → zz25, runUnderlying71 → uu71, sizeOf27 → zz27, isAgg27 → aa27, zeroValue25 → vv25, call97 → cc97, runUnderlying254 → uu254, runUnderlying3 → uu3
namespace Go.Sx
open Go Go.RowKit Go.Proofs
set_option maxRecDepth 100000
set_option maxHeartbeats 40000000
attribute [local irreducible] Code.wp wpList Rd Step ObS Ent
attribute [local irreducible] ao aM ak ar aA bD
def ag (a : GQ) : GI :=
 a.num
theorem iG (a : GQ) (za : SzQ 36 a) (w0 : World)  : Calls Tryz.prog 250 #[(vQ a)] w0 (cq w0 (vI (ag a)) (SzI 36 (ag a))) := by
 refine enter (N := 5) (args := [(vQ a)]) Tryz.func250 rfl rfl ?_; intro ac h
 refine gz h <| (xb) fun b1 => (xa) fun b2 => (W) ?_; clear h ac; intro ac wo h
 exact ret h rfl (.cell (v := (vI a.num)) rfl (i := 0) rfl aa25 zz25 rfl rfl rfl .nil) rfl (h.retP (by unfold ag; rfl) (by unfold ag; exact za.1))
attribute [irreducible] ag
def bm (a : GI) (b : GI) : GI :=
 (aE a (an b))
theorem ji (a : GI) (b : GI) (za : SzI 28 a) (zb : SzI 28 b) (w0 : World)  : Calls Tryz.prog 252 #[(vI a), (vI b)] w0 (cq w0 (vI (bm a b)) (SzI 26 (bm a b))) := by
  refine enter (N := 9) (args := [(vI a), (vI b)]) Tryz.func252 rfl rfl ?_; intro ac h
  refine gz h <| (xb) fun b1 => (xb) fun b2 => (xa) fun b3 => (W) ?_; clear h ac; intro ac wo h
  have c1 := cO b 28 og zb
  have s1 := am (c1 w0)
  have s2 := am ((dY a (an b) 27 og za s1) w0)
  refine gz h <| (dr1 (H := [⟨.blk b3 (cI (⟨false, 0⟩ : GI)) 25, [(4, .con (.blk b3 (cI (aE a (an b))) 25))]⟩, ⟨.blk b2 (cI b) 25, []⟩, ⟨.blk b1 (cI a) 25, []⟩]) (hob := (oK (c1)) <| (oK (dY a (an b) 27 og za s1)) <| oE)) <| (W) ?_; clear h ac wo; intro ac wo h
  exact ret h rfl (.cell (v := (vI (aE a (an b)))) rfl (i := 0) rfl aa25 zz25 rfl rfl rfl .nil) rfl (h.retP (by unfold bm; rfl) (by unfold bm; exact (eC s2 og)))
attribute [irreducible] bm
def ax (a : GI) : GI × Int :=
 bif a.neg then
  ((⟨false, 0⟩ : GI), 2)
 else
  ((aC false (bJ a.mag)), 0)
theorem iT (a : GI) (ha4 : a.mag < 4) (za : SzI 30 a) (w0 : World)  : Calls Tryz.prog 251 #[(vI a)] w0 (cq w0 (.tuple #[(vI ((ax a).1)), (.int .i64 ((ax a).2))]) (SzI 29 ((ax a).1))) := by
 refine enter (N := 11) (args := [(vI a)]) Tryz.func251 rfl rfl ?_; intro ac h
 refine gz h <| (xb) fun b1 => (xa) fun b2 => (ai) ?_ ?_ <;> clear h ac <;> intro ac wo h hc1
 ·
  have hq1 := hc1; try simp at hq1
  have hd : ax a = ((⟨false, 0⟩ : GI), 2) := pt
  refine gz h <| (xo (hs := by exact bF lO exs rfl (v := (vI (⟨false, 0⟩ : GI))) rfl)) <| (W) ?_; clear h ac wo; intro ac wo h
  exact ret h rfl (.cell (v := (vI (⟨false, 0⟩ : GI))) rfl (i := 0) rfl aa25 zz25 rfl rfl rfl (.tmp rfl .nil)) rfl (h.retP (by rw [hd] <;> rfl) (by rw [hd]; exact (bZ 0 (by decide) og)))
 ·
  have hq1 := hc1; try simp at hq1
  have c1 := root4_ct a.mag ha4 za
  have s1 := Calls.pr (c1 w0)
  have c2 := bq false (bJ a.mag) 29 og s1
  have s2 := am (c2 w0)
  have hd : ax a = ((aC false (bJ a.mag)), 0) := pt
  refine gz h <| (xk (c1)) <| (xk (c2)) <| (W) ?_; clear h ac wo; intro ac wo h
  exact ret h rfl (.cell (v := (vI (aC false (bJ a.mag)))) rfl (i := 0) rfl aa25 zz25 rfl rfl rfl (.tmp rfl .nil)) rfl (h.retP (by rw [hd] <;> rfl) (by rw [hd]; exact s2))
attribute [irreducible] ax
def bU (num : GI) (den : GI) : GQ × Int :=
 bif ((bK den) == 0) then
  ((⟨(⟨false, 0⟩ : GI), (⟨false, 0⟩ : GI)⟩ : GQ), 6)
 else
  ((aX num den), 0)
attribute [irreducible] bU
def dG (x : GR) : GI :=
 bif x.neg then
  (aF (bm (ab (ag x.p) (aa x.r)) (aE ((ax (ab (ab (aa x.p) (aa x.p)) (ab (ag x.r) (aa x.r)))).1) (aw 1))) (ab (aa x.p) (aa x.r))).1
 else
  (aF (aE (ab (ag x.p) (aa x.r)) ((ax (ab (ab (aa x.p) (aa x.p)) (ab (ag x.r) (aa x.r)))).1)) (ab (aa x.p) (aa x.r))).1
theorem jB (x : GR) (ht : (ab (ab (aa x.p) (aa x.p)) (ab (ag x.r) (aa x.r))).mag < 4 ∧ SzI 40 (dG x)) (zx : SzR 36 x) (w0 : World)  : Calls Tryz.prog 187 #[(vR x)] w0 (cq w0 (vI (dG x)) (SzI 40 (dG x))) := by
  refine enter (N := 59) (args := [(vR x)]) Tryz.func187 rfl rfl ?_; intro ac h
  refine gz h <| (xb) fun b1 => (xa) fun b2 => (W) ?_; clear h ac; intro ac wo h
  have c1 := iG x.p zx.1
  have s1 := Calls.pr (c1 w0)
  have s2 := am ((bh x.p 36 og zx.1) w0)
  replace h := h.emps 2
  refine eV mixed [⟨.det (ptr b1 0), []⟩, ⟨.det (vQ x.p), [1]⟩, ⟨.det (vI (ag x.p)), []⟩, ⟨.det (ptr b1 0), []⟩, ⟨.det (vQ x.p), [1]⟩, ⟨.det (vI (aa x.p)), []⟩, ⟨.nd (.one 6 fun v => ∃ b, v = ptr b 0), [2]⟩, ⟨.nd (.one 7 fun v => ∃ b, v = ptr b 0), [3]⟩, ⟨.det undef, [2]⟩, ⟨.det undef, [3]⟩] [⟨.blk b2 (cI (⟨false, 0⟩ : GI)) 25, []⟩, ⟨.blk b1 (cR x) 71, []⟩, ⟨.emp, [(6, .one 6 fun v => .blk (bC v) (cI (⟨false, 0⟩ : GI)) 25), (8, .one 6 fun v => .blk (bC v) (cI (ag x.p)) 25)]⟩, ⟨.emp, [(7, .one 7 fun v => .blk (bC v) (cI (⟨false, 0⟩ : GI)) 25), (9, .one 7 fun v => .blk (bC v) (cI (aa x.p)) 25)]⟩] h rfl (by kernel_rfl) ⟨?_, ?_, ?_, ?_, ?_, ?_, ?_, ?_, ?_, ?_, trivial⟩ ?_
  · intro ξ hφ; exact ba (fa uu71 rfl zz27 rfl rfl rfl (k' := 0))
  · intro ξ hφ; exact fY [.blk b1 (cR x) 71] rfl rfl (ir aa27 zz27 rfl rfl rfl (v := (vQ x.p)) rfl)
  · intro ξ hφ; exact hH (d6 (dR Tryz.call250 rfl) (kk c1))
  · intro ξ hφ; exact ba (fa uu71 rfl zz27 rfl rfl rfl (k' := 0))
  · intro ξ hφ; exact fY [.blk b1 (cR x) 71] rfl rfl (ir aa27 zz27 rfl rfl rfl (v := (vQ x.p)) rfl)
  · intro ξ hφ; exact hH (d6 (dR Tryz.call98 rfl) (kk (bh x.p 36 og zx.1)))
  · intro ξ hφ; exact lW (ψ := fun v => ∃ b, v = ptr b 0) (B := fun v => [.blk (bC v) (cI (⟨false, 0⟩ : GI)) 25]) [.emp] rfl (fun v _ => by simp only [cp, bp] <;> rfl) (fun v hv => by simpa [DF.one, bp] using hv) (iz (eS vv25 rfl))
  · intro ξ hφ; exact lW (ψ := fun v => ∃ b, v = ptr b 0) (B := fun v => [.blk (bC v) (cI (⟨false, 0⟩ : GI)) 25]) [.emp] rfl (fun v _ => by simp only [cp, bp] <;> rfl) (fun v hv => by simpa [DF.one, bp] using hv) (iz (eS vv25 rfl))
  · intro ξ hφ; obtain ⟨b3, hb6⟩ := hφ 6 rfl; exact kt [.blk b3 (cI (⟨false, 0⟩ : GI)) 25] [.blk b3 (cI (ag x.p)) 25] (congrArg (fun v => [Asn.blk (bC v) (cI (⟨false, 0⟩ : GI)) 25]) hb6) (congrArg (fun v => [Asn.blk (bC v) (cI (ag x.p)) 25]) hb6) (lC zz25 (Eq.trans rfl (congrArg some hb6)) rfl rfl rfl rfl rfl rfl)
  · intro ξ hφ; obtain ⟨b4, hb7⟩ := hφ 7 rfl; exact kt [.blk b4 (cI (⟨false, 0⟩ : GI)) 25] [.blk b4 (cI (aa x.p)) 25] (congrArg (fun v => [Asn.blk (bC v) (cI (⟨false, 0⟩ : GI)) 25]) hb7) (congrArg (fun v => [Asn.blk (bC v) (cI (aa x.p)) 25]) hb7) (lC zz25 (Eq.trans rfl (congrArg some hb7)) rfl rfl rfl rfl rfl rfl)
  clear h ac wo; intro ξ ac wo hφ h
  replace h : St w0 59 [(1, (ptr b1 0)), (2, (ptr b2 0)), (3, ξ 6), (4, ξ 7)] [.blk b2 (cI (⟨false, 0⟩ : GI)) 25, .blk b1 (cR x) 71, .blk (bC (ξ 6)) (cI (ag x.p)) 25, .blk (bC (ξ 7)) (cI (aa x.p)) 25] ac wo := (h.pick [0, 1, 2, 3] (by decide)).sub ⟨rfl, rfl, rfl, rfl, trivial⟩
  revert h
  obtain ⟨b3, hb6⟩ : ∃ b, ξ 6 = ptr b 0 := hφ 6
  obtain ⟨b4, hb7⟩ : ∃ b, ξ 7 = ptr b 0 := hφ 7
  rw [hb6, hb7]; intro h
  clear hb6 hb7
  clear hφ ξ
  refine gz h <| (W) ?_; clear h ac wo; intro ac wo h
  have c3 := iG x.r zx.2
  have s3 := Calls.pr (c3 w0)
  have s4 := am ((bh x.r 36 og zx.2) w0)
  replace h := h.emps 2
  refine eV mixed [⟨.det (ptr b1 4), []⟩, ⟨.det (vQ x.r), [1]⟩, ⟨.det (vI (ag x.r)), []⟩, ⟨.det (ptr b1 4), []⟩, ⟨.det (vQ x.r), [1]⟩, ⟨.det (vI (aa x.r)), []⟩, ⟨.nd (.one 6 fun v => ∃ b, v = ptr b 0), [4]⟩, ⟨.nd (.one 7 fun v => ∃ b, v = ptr b 0), [5]⟩, ⟨.det undef, [4]⟩, ⟨.det undef, [5]⟩] [⟨.blk b2 (cI (⟨false, 0⟩ : GI)) 25, []⟩, ⟨.blk b1 (cR x) 71, []⟩, ⟨.blk b3 (cI (ag x.p)) 25, []⟩, ⟨.blk b4 (cI (aa x.p)) 25, []⟩, ⟨.emp, [(6, .one 6 fun v => .blk (bC v) (cI (⟨false, 0⟩ : GI)) 25), (8, .one 6 fun v => .blk (bC v) (cI (ag x.r)) 25)]⟩, ⟨.emp, [(7, .one 7 fun v => .blk (bC v) (cI (⟨false, 0⟩ : GI)) 25), (9, .one 7 fun v => .blk (bC v) (cI (aa x.r)) 25)]⟩] h rfl (by kernel_rfl) ⟨?_, ?_, ?_, ?_, ?_, ?_, ?_, ?_, ?_, ?_, trivial⟩ ?_
  · intro ξ hφ; exact ba (fa uu71 rfl zz27 rfl rfl rfl (k' := 4))
  · intro ξ hφ; exact fY [.blk b1 (cR x) 71] rfl rfl (ir aa27 zz27 rfl rfl rfl (v := (vQ x.r)) rfl)
  · intro ξ hφ; exact hH (d6 (dR Tryz.call250 rfl) (kk c3))
  · intro ξ hφ; exact ba (fa uu71 rfl zz27 rfl rfl rfl (k' := 4))
  · intro ξ hφ; exact fY [.blk b1 (cR x) 71] rfl rfl (ir aa27 zz27 rfl rfl rfl (v := (vQ x.r)) rfl)
  · intro ξ hφ; exact hH (d6 (dR Tryz.call98 rfl) (kk (bh x.r 36 og zx.2)))
  · intro ξ hφ; exact lW (ψ := fun v => ∃ b, v = ptr b 0) (B := fun v => [.blk (bC v) (cI (⟨false, 0⟩ : GI)) 25]) [.emp] rfl (fun v _ => by simp only [cp, bp] <;> rfl) (fun v hv => by simpa [DF.one, bp] using hv) (iz (eS vv25 rfl))
  · intro ξ hφ; exact lW (ψ := fun v => ∃ b, v = ptr b 0) (B := fun v => [.blk (bC v) (cI (⟨false, 0⟩ : GI)) 25]) [.emp] rfl (fun v _ => by simp only [cp, bp] <;> rfl) (fun v hv => by simpa [DF.one, bp] using hv) (iz (eS vv25 rfl))
  · intro ξ hφ; obtain ⟨b5, hb6⟩ := hφ 6 rfl; exact kt [.blk b5 (cI (⟨false, 0⟩ : GI)) 25] [.blk b5 (cI (ag x.r)) 25] (congrArg (fun v => [Asn.blk (bC v) (cI (⟨false, 0⟩ : GI)) 25]) hb6) (congrArg (fun v => [Asn.blk (bC v) (cI (ag x.r)) 25]) hb6) (lC zz25 (Eq.trans rfl (congrArg some hb6)) rfl rfl rfl rfl rfl rfl)
  · intro ξ hφ; obtain ⟨b6, hb7⟩ := hφ 7 rfl; exact kt [.blk b6 (cI (⟨false, 0⟩ : GI)) 25] [.blk b6 (cI (aa x.r)) 25] (congrArg (fun v => [Asn.blk (bC v) (cI (⟨false, 0⟩ : GI)) 25]) hb7) (congrArg (fun v => [Asn.blk (bC v) (cI (aa x.r)) 25]) hb7) (lC zz25 (Eq.trans rfl (congrArg some hb7)) rfl rfl rfl rfl rfl rfl)
  clear h ac wo; intro ξ ac wo hφ h
  replace h : St w0 59 [(1, (ptr b1 0)), (2, (ptr b2 0)), (3, (ptr b3 0)), (4, (ptr b4 0)), (5, ξ 6), (6, ξ 7)] [.blk b2 (cI (⟨false, 0⟩ : GI)) 25, .blk b1 (cR x) 71, .blk b3 (cI (ag x.p)) 25, .blk b4 (cI (aa x.p)) 25, .blk (bC (ξ 6)) (cI (ag x.r)) 25, .blk (bC (ξ 7)) (cI (aa x.r)) 25] ac wo := (h.pick [0, 1, 2, 3, 4, 5] (by decide)).sub ⟨rfl, rfl, rfl, rfl, rfl, rfl, trivial⟩
  revert h
  obtain ⟨b5, hb6⟩ : ∃ b, ξ 6 = ptr b 0 := hφ 6
  obtain ⟨b6, hb7⟩ : ∃ b, ξ 7 = ptr b 0 := hφ 7
  rw [hb6, hb7]; intro h
  clear hb6 hb7
  clear hφ ξ
  refine gz h <| (W) ?_; clear h ac wo; intro ac wo h
  have s5 := am ((bo (aa x.p) (aa x.p) 35 og s2 s2) w0)
  have s6 := am ((bo (ag x.r) (aa x.r) 35 og s3 s4) w0)
  have s7 := am ((bo (ab (aa x.p) (aa x.p)) (ab (ag x.r) (aa x.r)) 34 og s5 s6) w0)
  have s8 := Calls.pr ((fun w_ hB_ hS_ => iT (ab (ab (aa x.p) (aa x.p)) (ab (ag x.r) (aa x.r))) (ht.1) (eC s7 og) w_ ) _ h.bel h.sep)
  replace h := h.emps 1
  refine eV mixed [⟨.det (vI (aa x.p)), [3]⟩, ⟨.det (vI (aa x.p)), [3]⟩, ⟨.det (vI (ab (aa x.p) (aa x.p))), []⟩, ⟨.det (vI (ag x.r)), [4]⟩, ⟨.det (vI (aa x.r)), [5]⟩, ⟨.det (vI (ab (ag x.r) (aa x.r))), []⟩, ⟨.det (vI (ab (ab (aa x.p) (aa x.p)) (ab (ag x.r) (aa x.r)))), []⟩, ⟨.det (.tuple #[(vI ((ax (ab (ab (aa x.p) (aa x.p)) (ab (ag x.r) (aa x.r)))).1)), (.int .i64 ((ax (ab (ab (aa x.p) (aa x.p)) (ab (ag x.r) (aa x.r)))).2))]), []⟩, ⟨.det (.tuple #[(vI ((ax (ab (ab (aa x.p) (aa x.p)) (ab (ag x.r) (aa x.r)))).1)), (.int .i64 ((ax (ab (ab (aa x.p) (aa x.p)) (ab (ag x.r) (aa x.r)))).2))]), []⟩, ⟨.det (vI ((ax (ab (ab (aa x.p) (aa x.p)) (ab (ag x.r) (aa x.r)))).1)), []⟩, ⟨.det (.int .i64 ((ax (ab (ab (aa x.p) (aa x.p)) (ab (ag x.r) (aa x.r)))).2)), []⟩, ⟨.nd (.one 11 fun v => ∃ b, v = ptr b 0), [6]⟩, ⟨.det undef, [6]⟩, ⟨.det (.int .i64 ((ax (ab (ab (aa x.p) (aa x.p)) (ab (ag x.r) (aa x.r)))).2)), []⟩] [⟨.blk b2 (cI (⟨false, 0⟩ : GI)) 25, []⟩, ⟨.blk b1 (cR x) 71, []⟩, ⟨.blk b3 (cI (ag x.p)) 25, []⟩, ⟨.blk b4 (cI (aa x.p)) 25, []⟩, ⟨.blk b5 (cI (ag x.r)) 25, []⟩, ⟨.blk b6 (cI (aa x.r)) 25, []⟩, ⟨.emp, [(11, .one 11 fun v => .blk (bC v) (cI (⟨false, 0⟩ : GI)) 25), (12, .one 11 fun v => .blk (bC v) (cI ((ax (ab (ab (aa x.p) (aa x.p)) (ab (ag x.r) (aa x.r)))).1)) 25)]⟩] h rfl (by kernel_rfl) ⟨?_, ?_, ?_, ?_, ?_, ?_, ?_, ?_, ?_, ?_, ?_, ?_, ?_, ?_, trivial⟩ ?_
  · intro ξ hφ; exact fY [.blk b4 (cI (aa x.p)) 25] rfl rfl (ir aa25 zz25 rfl rfl rfl (v := (vI (aa x.p))) rfl)
  · intro ξ hφ; exact fY [.blk b4 (cI (aa x.p)) 25] rfl rfl (ir aa25 zz25 rfl rfl rfl (v := (vI (aa x.p))) rfl)
  · intro ξ hφ; exact hH (d6 (vs := [(vI (aa x.p)), (vI (aa x.p))]) (dR cc97 rfl) (fun w_ hB_ hS_ => (bo (aa x.p) (aa x.p) 35 og s2 s2) w_))
  · intro ξ hφ; exact fY [.blk b5 (cI (ag x.r)) 25] rfl rfl (ir aa25 zz25 rfl rfl rfl (v := (vI (ag x.r))) rfl)
  · intro ξ hφ; exact fY [.blk b6 (cI (aa x.r)) 25] rfl rfl (ir aa25 zz25 rfl rfl rfl (v := (vI (aa x.r))) rfl)
  · intro ξ hφ; exact hH (d6 (dR cc97 rfl) (kk (bo (ag x.r) (aa x.r) 35 og s3 s4)))
  · intro ξ hφ; exact hH (d6 (dR cc97 rfl) (kk (bo (ab (aa x.p) (aa x.p)) (ab (ag x.r) (aa x.r)) 34 og s5 s6)))
  · intro ξ hφ; exact hH (d6 (dR Tryz.call251 rfl) (kk (iT (ab (ab (aa x.p) (aa x.p)) (ab (ag x.r) (aa x.r))) (ht.1) (eC s7 og))))
  · intro ξ hφ; exact ba (aq rfl)
  · intro ξ hφ; exact ba (cd rfl rfl)
  · intro ξ hφ; exact ba (cd rfl rfl)
  · intro ξ hφ; exact lW (ψ := fun v => ∃ b, v = ptr b 0) (B := fun v => [.blk (bC v) (cI (⟨false, 0⟩ : GI)) 25]) [.emp] rfl (fun v _ => by simp only [cp, bp] <;> rfl) (fun v hv => by simpa [DF.one, bp] using hv) (iz (eS vv25 rfl))
  · intro ξ hφ; obtain ⟨b7, hb11⟩ := hφ 11 rfl; exact kt [.blk b7 (cI (⟨false, 0⟩ : GI)) 25] [.blk b7 (cI ((ax (ab (ab (aa x.p) (aa x.p)) (ab (ag x.r) (aa x.r)))).1)) 25] (congrArg (fun v => [Asn.blk (bC v) (cI (⟨false, 0⟩ : GI)) 25]) hb11) (congrArg (fun v => [Asn.blk (bC v) (cI ((ax (ab (ab (aa x.p) (aa x.p)) (ab (ag x.r) (aa x.r)))).1)) 25]) hb11) (lC zz25 (Eq.trans rfl (congrArg some hb11)) rfl rfl rfl rfl rfl rfl)
  · intro ξ hφ; exact ba (az rfl)
  clear h ac wo; intro ξ ac wo hφ h
  replace h : St w0 59 [(1, (ptr b1 0)), (2, (ptr b2 0)), (3, (ptr b3 0)), (4, (ptr b4 0)), (6, (ptr b6 0)), (7, ξ 11)] [.blk b2 (cI (⟨false, 0⟩ : GI)) 25, .blk b1 (cR x) 71, .blk b3 (cI (ag x.p)) 25, .blk b4 (cI (aa x.p)) 25, .blk b5 (cI (ag x.r)) 25, .blk b6 (cI (aa x.r)) 25, .blk (bC (ξ 11)) (cI ((ax (ab (ab (aa x.p) (aa x.p)) (ab (ag x.r) (aa x.r)))).1)) 25] ac wo := (h.pick [0, 1, 2, 3, 4, 5, 6] (by decide)).sub ⟨rfl, rfl, rfl, rfl, rfl, rfl, trivial⟩
  revert h
  obtain ⟨b7, hb11⟩ : ∃ b, ξ 11 = ptr b 0 := hφ 11
  rw [hb11]; intro h
  clear hb11
  clear hφ ξ
  have c9 := bo (ag x.p) (aa x.r) 35 og s1 s4
  have s9 := am (c9 w0)
  refine gz h <| (xk (c9)) <| (xa) fun b8 => (ai) ?_ ?_ <;> clear h ac wo <;> intro ac wo h hc1
  ·
    have hq1 := hc1; try simp at hq1
    have s10 := am ((eJ 1 40 og  og) w0)
    have s11 := am ((dY ((ax (ab (ab (aa x.p) (aa x.p)) (ab (ag x.r) (aa x.r)))).1) (aw 1) 28 og s8 (eC s10 og)) w0)
    have s12 := Calls.pr ((fun w_ hB_ hS_ => ji (ab (ag x.p) (aa x.r)) (aE ((ax (ab (ab (aa x.p) (aa x.p)) (ab (ag x.r) (aa x.r)))).1) (aw 1)) (eC s9 og) s11 w_ ) _ h.bel h.sep)
    refine gz h <| (dr1 (H := [⟨.blk b8 (cI (ab (ag x.p) (aa x.r))) 25, [(5, .con (.blk b8 (cI (bm (ab (ag x.p) (aa x.r)) (aE ((ax (ab (ab (aa x.p) (aa x.p)) (ab (ag x.r) (aa x.r)))).1) (aw 1)))) 25))]⟩, ⟨.blk b2 (cI (⟨false, 0⟩ : GI)) 25, []⟩, ⟨.blk b1 (cR x) 71, []⟩, ⟨.blk b3 (cI (ag x.p)) 25, []⟩, ⟨.blk b4 (cI (aa x.p)) 25, []⟩, ⟨.blk b5 (cI (ag x.r)) 25, []⟩, ⟨.blk b6 (cI (aa x.r)) 25, []⟩, ⟨.blk b7 (cI ((ax (ab (ab (aa x.p) (aa x.p)) (ab (ag x.r) (aa x.r)))).1)) 25, []⟩]) (hob := (oX (h := by exact fun _ => hH (d6 (vs := [(.int .i64 1)]) (dR Tryz.call93 rfl) (fun w_ hB_ hS_ => (eJ 1 40 og  og) w_)))) <| (oK (dY ((ax (ab (ab (aa x.p) (aa x.p)) (ab (ag x.r) (aa x.r)))).1) (aw 1) 28 og s8 (eC s10 og))) <| (oK (ji (ab (ag x.p) (aa x.r)) (aE ((ax (ab (ab (aa x.p) (aa x.p)) (ab (ag x.r) (aa x.r)))).1) (aw 1)) (eC s9 og) s11)) <| oE)) <| (W) ?_; clear h ac wo; intro ac wo h
    have c13 := bo (aa x.p) (aa x.r) 35 og s2 s4
    have s13 := am (c13 w0)
    have s14 := am ((d9 (bm (ab (ag x.p) (aa x.r)) (aE ((ax (ab (ab (aa x.p) (aa x.p)) (ab (ag x.r) (aa x.r)))).1) (aw 1))) (ab (aa x.p) (aa x.r)) 25 og s12 (eC s13 og)) w0)
    replace h := h.emps 2
    refine eV mixed [⟨.det (vI (bm (ab (ag x.p) (aa x.r)) (aE ((ax (ab (ab (aa x.p) (aa x.p)) (ab (ag x.r) (aa x.r)))).1) (aw 1)))), [0]⟩, ⟨.det (vI (aa x.p)), [4]⟩, ⟨.det (vI (aa x.r)), [6]⟩, ⟨.det (vI (ab (aa x.p) (aa x.r))), []⟩, ⟨.det (.tuple #[(vI ((aF (bm (ab (ag x.p) (aa x.r)) (aE ((ax (ab (ab (aa x.p) (aa x.p)) (ab (ag x.r) (aa x.r)))).1) (aw 1))) (ab (aa x.p) (aa x.r))).1)), (vI ((aF (bm (ab (ag x.p) (aa x.r)) (aE ((ax (ab (ab (aa x.p) (aa x.p)) (ab (ag x.r) (aa x.r)))).1) (aw 1))) (ab (aa x.p) (aa x.r))).2.1)), (.int .i64 ((aF (bm (ab (ag x.p) (aa x.r)) (aE ((ax (ab (ab (aa x.p) (aa x.p)) (ab (ag x.r) (aa x.r)))).1) (aw 1))) (ab (aa x.p) (aa x.r))).2.2))]), []⟩, ⟨.det (.tuple #[(vI ((aF (bm (ab (ag x.p) (aa x.r)) (aE ((ax (ab (ab (aa x.p) (aa x.p)) (ab (ag x.r) (aa x.r)))).1) (aw 1))) (ab (aa x.p) (aa x.r))).1)), (vI ((aF (bm (ab (ag x.p) (aa x.r)) (aE ((ax (ab (ab (aa x.p) (aa x.p)) (ab (ag x.r) (aa x.r)))).1) (aw 1))) (ab (aa x.p) (aa x.r))).2.1)), (.int .i64 ((aF (bm (ab (ag x.p) (aa x.r)) (aE ((ax (ab (ab (aa x.p) (aa x.p)) (ab (ag x.r) (aa x.r)))).1) (aw 1))) (ab (aa x.p) (aa x.r))).2.2))]), []⟩, ⟨.det (vI ((aF (bm (ab (ag x.p) (aa x.r)) (aE ((ax (ab (ab (aa x.p) (aa x.p)) (ab (ag x.r) (aa x.r)))).1) (aw 1))) (ab (aa x.p) (aa x.r))).1)), []⟩, ⟨.det (vI ((aF (bm (ab (ag x.p) (aa x.r)) (aE ((ax (ab (ab (aa x.p) (aa x.p)) (ab (ag x.r) (aa x.r)))).1) (aw 1))) (ab (aa x.p) (aa x.r))).2.1)), []⟩, ⟨.det (.int .i64 ((aF (bm (ab (ag x.p) (aa x.r)) (aE ((ax (ab (ab (aa x.p) (aa x.p)) (ab (ag x.r) (aa x.r)))).1) (aw 1))) (ab (aa x.p) (aa x.r))).2.2)), []⟩, ⟨.nd (.one 9 fun v => ∃ b, v = ptr b 0), [8]⟩, ⟨.nd (.one 10 fun v => ∃ b, v = ptr b 0), [9]⟩, ⟨.det undef, [8]⟩, ⟨.det undef, [9]⟩, ⟨.det (.int .i64 ((aF (bm (ab (ag x.p) (aa x.r)) (aE ((ax (ab (ab (aa x.p) (aa x.p)) (ab (ag x.r) (aa x.r)))).1) (aw 1))) (ab (aa x.p) (aa x.r))).2.2)), []⟩] [⟨.blk b8 (cI (bm (ab (ag x.p) (aa x.r)) (aE ((ax (ab (ab (aa x.p) (aa x.p)) (ab (ag x.r) (aa x.r)))).1) (aw 1)))) 25, []⟩, ⟨.blk b2 (cI (⟨false, 0⟩ : GI)) 25, []⟩, ⟨.blk b1 (cR x) 71, []⟩, ⟨.blk b3 (cI (ag x.p)) 25, []⟩, ⟨.blk b4 (cI (aa x.p)) 25, []⟩, ⟨.blk b5 (cI (ag x.r)) 25, []⟩, ⟨.blk b6 (cI (aa x.r)) 25, []⟩, ⟨.blk b7 (cI ((ax (ab (ab (aa x.p) (aa x.p)) (ab (ag x.r) (aa x.r)))).1)) 25, []⟩, ⟨.emp, [(9, .one 9 fun v => .blk (bC v) (cI (⟨false, 0⟩ : GI)) 25), (11, .one 9 fun v => .blk (bC v) (cI ((aF (bm (ab (ag x.p) (aa x.r)) (aE ((ax (ab (ab (aa x.p) (aa x.p)) (ab (ag x.r) (aa x.r)))).1) (aw 1))) (ab (aa x.p) (aa x.r))).1)) 25)]⟩, ⟨.emp, [(10, .one 10 fun v => .blk (bC v) (cI (⟨false, 0⟩ : GI)) 25), (12, .one 10 fun v => .blk (bC v) (cI ((aF (bm (ab (ag x.p) (aa x.r)) (aE ((ax (ab (ab (aa x.p) (aa x.p)) (ab (ag x.r) (aa x.r)))).1) (aw 1))) (ab (aa x.p) (aa x.r))).2.1)) 25)]⟩] h rfl (by kernel_rfl) ⟨?_, ?_, ?_, ?_, ?_, ?_, ?_, ?_, ?_, ?_, ?_, ?_, ?_, ?_, trivial⟩ ?_
    · intro ξ hφ; exact fY [.blk b8 (cI (bm (ab (ag x.p) (aa x.r)) (aE ((ax (ab (ab (aa x.p) (aa x.p)) (ab (ag x.r) (aa x.r)))).1) (aw 1)))) 25] rfl rfl (ir aa25 zz25 rfl rfl rfl (v := (vI (bm (ab (ag x.p) (aa x.r)) (aE ((ax (ab (ab (aa x.p) (aa x.p)) (ab (ag x.r) (aa x.r)))).1) (aw 1))))) rfl)
    · intro ξ hφ; exact fY [.blk b4 (cI (aa x.p)) 25] rfl rfl (ir aa25 zz25 rfl rfl rfl (v := (vI (aa x.p))) rfl)
    · intro ξ hφ; exact fY [.blk b6 (cI (aa x.r)) 25] rfl rfl (ir aa25 zz25 rfl rfl rfl (v := (vI (aa x.r))) rfl)
    · intro ξ hφ; exact hH (d6 (dR cc97 rfl) (kk c13))
    · intro ξ hφ; exact hH (d6 (dR Tryz.call253 rfl) (kk (d9 (bm (ab (ag x.p) (aa x.r)) (aE ((ax (ab (ab (aa x.p) (aa x.p)) (ab (ag x.r) (aa x.r)))).1) (aw 1))) (ab (aa x.p) (aa x.r)) 25 og s12 (eC s13 og))))
    · intro ξ hφ; exact ba (aq rfl)
    · intro ξ hφ; exact ba (cd rfl rfl)
    · intro ξ hφ; exact ba (cd rfl rfl)
    · intro ξ hφ; exact ba (cd rfl rfl)
    · intro ξ hφ; exact lW (ψ := fun v => ∃ b, v = ptr b 0) (B := fun v => [.blk (bC v) (cI (⟨false, 0⟩ : GI)) 25]) [.emp] rfl (fun v _ => by simp only [cp, bp] <;> rfl) (fun v hv => by simpa [DF.one, bp] using hv) (iz (eS vv25 rfl))
    · intro ξ hφ; exact lW (ψ := fun v => ∃ b, v = ptr b 0) (B := fun v => [.blk (bC v) (cI (⟨false, 0⟩ : GI)) 25]) [.emp] rfl (fun v _ => by simp only [cp, bp] <;> rfl) (fun v hv => by simpa [DF.one, bp] using hv) (iz (eS vv25 rfl))
    · intro ξ hφ; obtain ⟨b9, hb9⟩ := hφ 9 rfl; exact kt [.blk b9 (cI (⟨false, 0⟩ : GI)) 25] [.blk b9 (cI ((aF (bm (ab (ag x.p) (aa x.r)) (aE ((ax (ab (ab (aa x.p) (aa x.p)) (ab (ag x.r) (aa x.r)))).1) (aw 1))) (ab (aa x.p) (aa x.r))).1)) 25] (congrArg (fun v => [Asn.blk (bC v) (cI (⟨false, 0⟩ : GI)) 25]) hb9) (congrArg (fun v => [Asn.blk (bC v) (cI ((aF (bm (ab (ag x.p) (aa x.r)) (aE ((ax (ab (ab (aa x.p) (aa x.p)) (ab (ag x.r) (aa x.r)))).1) (aw 1))) (ab (aa x.p) (aa x.r))).1)) 25]) hb9) (lC zz25 (Eq.trans rfl (congrArg some hb9)) rfl rfl rfl rfl rfl rfl)
    · intro ξ hφ; obtain ⟨b10, hb10⟩ := hφ 10 rfl; exact kt [.blk b10 (cI (⟨false, 0⟩ : GI)) 25] [.blk b10 (cI ((aF (bm (ab (ag x.p) (aa x.r)) (aE ((ax (ab (ab (aa x.p) (aa x.p)) (ab (ag x.r) (aa x.r)))).1) (aw 1))) (ab (aa x.p) (aa x.r))).2.1)) 25] (congrArg (fun v => [Asn.blk (bC v) (cI (⟨false, 0⟩ : GI)) 25]) hb10) (congrArg (fun v => [Asn.blk (bC v) (cI ((aF (bm (ab (ag x.p) (aa x.r)) (aE ((ax (ab (ab (aa x.p) (aa x.p)) (ab (ag x.r) (aa x.r)))).1) (aw 1))) (ab (aa x.p) (aa x.r))).2.1)) 25]) hb10) (lC zz25 (Eq.trans rfl (congrArg some hb10)) rfl rfl rfl rfl rfl rfl)
    · intro ξ hφ; exact ba (az rfl)
    clear h ac wo; intro ξ ac wo hφ h
    replace h : St w0 59 [(2, (ptr b2 0)), (10, ξ 9)] [.blk b8 (cI (bm (ab (ag x.p) (aa x.r)) (aE ((ax (ab (ab (aa x.p) (aa x.p)) (ab (ag x.r) (aa x.r)))).1) (aw 1)))) 25, .blk b2 (cI (⟨false, 0⟩ : GI)) 25, .blk b1 (cR x) 71, .blk b3 (cI (ag x.p)) 25, .blk b4 (cI (aa x.p)) 25, .blk b5 (cI (ag x.r)) 25, .blk b6 (cI (aa x.r)) 25, .blk b7 (cI ((ax (ab (ab (aa x.p) (aa x.p)) (ab (ag x.r) (aa x.r)))).1)) 25, .blk (bC (ξ 9)) (cI ((aF (bm (ab (ag x.p) (aa x.r)) (aE ((ax (ab (ab (aa x.p) (aa x.p)) (ab (ag x.r) (aa x.r)))).1) (aw 1))) (ab (aa x.p) (aa x.r))).1)) 25, .blk (bC (ξ 10)) (cI ((aF (bm (ab (ag x.p) (aa x.r)) (aE ((ax (ab (ab (aa x.p) (aa x.p)) (ab (ag x.r) (aa x.r)))).1) (aw 1))) (ab (aa x.p) (aa x.r))).2.1)) 25] ac wo := (h.pick [0, 1, 2, 3, 4, 5, 6, 7, 8, 9] (by decide)).sub ⟨rfl, rfl, trivial⟩
    revert h
    obtain ⟨b9, hb9⟩ : ∃ b, ξ 9 = ptr b 0 := hφ 9
    obtain ⟨b10, hb10⟩ : ∃ b, ξ 10 = ptr b 0 := hφ 10
    rw [hb9, hb10]; intro h
    clear hb9 hb10
    clear hφ ξ
    have hd : dG x = (aF (bm (ab (ag x.p) (aa x.r)) (aE ((ax (ab (ab (aa x.p) (aa x.p)) (ab (ag x.r) (aa x.r)))).1) (aw 1))) (ab (aa x.p) (aa x.r))).1 := pt
    refine gz h <| (W) ?_; clear h ac wo; intro ac wo h
    exact ret h rfl (.cell (v := (vI ((aF (bm (ab (ag x.p) (aa x.r)) (aE ((ax (ab (ab (aa x.p) (aa x.p)) (ab (ag x.r) (aa x.r)))).1) (aw 1))) (ab (aa x.p) (aa x.r))).1))) rfl (i := 1) rfl aa25 zz25 rfl rfl rfl .nil) rfl (h.retP (by rw [hd] <;> rfl) (by rw [hd]; exact (by rw [← hd]; exact ht.2)))
  ·
    have hq1 := hc1; try simp at hq1
    have c15 := dY (ab (ag x.p) (aa x.r)) ((ax (ab (ab (aa x.p) (aa x.p)) (ab (ag x.r) (aa x.r)))).1) 28 og (eC s9 og) s8
    have s15 := am (c15 w0)
    refine gz h <| (xk (c15)) <| (W) ?_; clear h ac wo; intro ac wo h
    have c16 := bo (aa x.p) (aa x.r) 35 og s2 s4
    have s16 := am (c16 w0)
    have s17 := am ((d9 (aE (ab (ag x.p) (aa x.r)) ((ax (ab (ab (aa x.p) (aa x.p)) (ab (ag x.r) (aa x.r)))).1)) (ab (aa x.p) (aa x.r)) 27 og s15 (eC s16 og)) w0)
    replace h := h.emps 2
    refine eV mixed [⟨.det (vI (aE (ab (ag x.p) (aa x.r)) ((ax (ab (ab (aa x.p) (aa x.p)) (ab (ag x.r) (aa x.r)))).1))), [0]⟩, ⟨.det (vI (aa x.p)), [4]⟩, ⟨.det (vI (aa x.r)), [6]⟩, ⟨.det (vI (ab (aa x.p) (aa x.r))), []⟩, ⟨.det (.tuple #[(vI ((aF (aE (ab (ag x.p) (aa x.r)) ((ax (ab (ab (aa x.p) (aa x.p)) (ab (ag x.r) (aa x.r)))).1)) (ab (aa x.p) (aa x.r))).1)), (vI ((aF (aE (ab (ag x.p) (aa x.r)) ((ax (ab (ab (aa x.p) (aa x.p)) (ab (ag x.r) (aa x.r)))).1)) (ab (aa x.p) (aa x.r))).2.1)), (.int .i64 ((aF (aE (ab (ag x.p) (aa x.r)) ((ax (ab (ab (aa x.p) (aa x.p)) (ab (ag x.r) (aa x.r)))).1)) (ab (aa x.p) (aa x.r))).2.2))]), []⟩, ⟨.det (.tuple #[(vI ((aF (aE (ab (ag x.p) (aa x.r)) ((ax (ab (ab (aa x.p) (aa x.p)) (ab (ag x.r) (aa x.r)))).1)) (ab (aa x.p) (aa x.r))).1)), (vI ((aF (aE (ab (ag x.p) (aa x.r)) ((ax (ab (ab (aa x.p) (aa x.p)) (ab (ag x.r) (aa x.r)))).1)) (ab (aa x.p) (aa x.r))).2.1)), (.int .i64 ((aF (aE (ab (ag x.p) (aa x.r)) ((ax (ab (ab (aa x.p) (aa x.p)) (ab (ag x.r) (aa x.r)))).1)) (ab (aa x.p) (aa x.r))).2.2))]), []⟩, ⟨.det (vI ((aF (aE (ab (ag x.p) (aa x.r)) ((ax (ab (ab (aa x.p) (aa x.p)) (ab (ag x.r) (aa x.r)))).1)) (ab (aa x.p) (aa x.r))).1)), []⟩, ⟨.det (vI ((aF (aE (ab (ag x.p) (aa x.r)) ((ax (ab (ab (aa x.p) (aa x.p)) (ab (ag x.r) (aa x.r)))).1)) (ab (aa x.p) (aa x.r))).2.1)), []⟩, ⟨.det (.int .i64 ((aF (aE (ab (ag x.p) (aa x.r)) ((ax (ab (ab (aa x.p) (aa x.p)) (ab (ag x.r) (aa x.r)))).1)) (ab (aa x.p) (aa x.r))).2.2)), []⟩, ⟨.nd (.one 9 fun v => ∃ b, v = ptr b 0), [8]⟩, ⟨.nd (.one 10 fun v => ∃ b, v = ptr b 0), [9]⟩, ⟨.det undef, [8]⟩, ⟨.det undef, [9]⟩, ⟨.det (.int .i64 ((aF (aE (ab (ag x.p) (aa x.r)) ((ax (ab (ab (aa x.p) (aa x.p)) (ab (ag x.r) (aa x.r)))).1)) (ab (aa x.p) (aa x.r))).2.2)), []⟩] [⟨.blk b8 (cI (aE (ab (ag x.p) (aa x.r)) ((ax (ab (ab (aa x.p) (aa x.p)) (ab (ag x.r) (aa x.r)))).1))) 25, []⟩, ⟨.blk b2 (cI (⟨false, 0⟩ : GI)) 25, []⟩, ⟨.blk b1 (cR x) 71, []⟩, ⟨.blk b3 (cI (ag x.p)) 25, []⟩, ⟨.blk b4 (cI (aa x.p)) 25, []⟩, ⟨.blk b5 (cI (ag x.r)) 25, []⟩, ⟨.blk b6 (cI (aa x.r)) 25, []⟩, ⟨.blk b7 (cI ((ax (ab (ab (aa x.p) (aa x.p)) (ab (ag x.r) (aa x.r)))).1)) 25, []⟩, ⟨.emp, [(9, .one 9 fun v => .blk (bC v) (cI (⟨false, 0⟩ : GI)) 25), (11, .one 9 fun v => .blk (bC v) (cI ((aF (aE (ab (ag x.p) (aa x.r)) ((ax (ab (ab (aa x.p) (aa x.p)) (ab (ag x.r) (aa x.r)))).1)) (ab (aa x.p) (aa x.r))).1)) 25)]⟩, ⟨.emp, [(10, .one 10 fun v => .blk (bC v) (cI (⟨false, 0⟩ : GI)) 25), (12, .one 10 fun v => .blk (bC v) (cI ((aF (aE (ab (ag x.p) (aa x.r)) ((ax (ab (ab (aa x.p) (aa x.p)) (ab (ag x.r) (aa x.r)))).1)) (ab (aa x.p) (aa x.r))).2.1)) 25)]⟩] h rfl (by kernel_rfl) ⟨?_, ?_, ?_, ?_, ?_, ?_, ?_, ?_, ?_, ?_, ?_, ?_, ?_, ?_, trivial⟩ ?_
    · intro ξ hφ; exact fY [.blk b8 (cI (aE (ab (ag x.p) (aa x.r)) ((ax (ab (ab (aa x.p) (aa x.p)) (ab (ag x.r) (aa x.r)))).1))) 25] rfl rfl (ir aa25 zz25 rfl rfl rfl (v := (vI (aE (ab (ag x.p) (aa x.r)) ((ax (ab (ab (aa x.p) (aa x.p)) (ab (ag x.r) (aa x.r)))).1)))) rfl)
    · intro ξ hφ; exact fY [.blk b4 (cI (aa x.p)) 25] rfl rfl (ir aa25 zz25 rfl rfl rfl (v := (vI (aa x.p))) rfl)
    · intro ξ hφ; exact fY [.blk b6 (cI (aa x.r)) 25] rfl rfl (ir aa25 zz25 rfl rfl rfl (v := (vI (aa x.r))) rfl)
    · intro ξ hφ; exact hH (d6 (dR cc97 rfl) (kk c16))
    · intro ξ hφ; exact hH (d6 (dR Tryz.call253 rfl) (kk (d9 (aE (ab (ag x.p) (aa x.r)) ((ax (ab (ab (aa x.p) (aa x.p)) (ab (ag x.r) (aa x.r)))).1)) (ab (aa x.p) (aa x.r)) 27 og s15 (eC s16 og))))
    · intro ξ hφ; exact ba (aq rfl)
    · intro ξ hφ; exact ba (cd rfl rfl)
    · intro ξ hφ; exact ba (cd rfl rfl)
    · intro ξ hφ; exact ba (cd rfl rfl)
    · intro ξ hφ; exact lW (ψ := fun v => ∃ b, v = ptr b 0) (B := fun v => [.blk (bC v) (cI (⟨false, 0⟩ : GI)) 25]) [.emp] rfl (fun v _ => by simp only [cp, bp] <;> rfl) (fun v hv => by simpa [DF.one, bp] using hv) (iz (eS vv25 rfl))
    · intro ξ hφ; exact lW (ψ := fun v => ∃ b, v = ptr b 0) (B := fun v => [.blk (bC v) (cI (⟨false, 0⟩ : GI)) 25]) [.emp] rfl (fun v _ => by simp only [cp, bp] <;> rfl) (fun v hv => by simpa [DF.one, bp] using hv) (iz (eS vv25 rfl))
    · intro ξ hφ; obtain ⟨b11, hb9⟩ := hφ 9 rfl; exact kt [.blk b11 (cI (⟨false, 0⟩ : GI)) 25] [.blk b11 (cI ((aF (aE (ab (ag x.p) (aa x.r)) ((ax (ab (ab (aa x.p) (aa x.p)) (ab (ag x.r) (aa x.r)))).1)) (ab (aa x.p) (aa x.r))).1)) 25] (congrArg (fun v => [Asn.blk (bC v) (cI (⟨false, 0⟩ : GI)) 25]) hb9) (congrArg (fun v => [Asn.blk (bC v) (cI ((aF (aE (ab (ag x.p) (aa x.r)) ((ax (ab (ab (aa x.p) (aa x.p)) (ab (ag x.r) (aa x.r)))).1)) (ab (aa x.p) (aa x.r))).1)) 25]) hb9) (lC zz25 (Eq.trans rfl (congrArg some hb9)) rfl rfl rfl rfl rfl rfl)
    · intro ξ hφ; obtain ⟨b12, hb10⟩ := hφ 10 rfl; exact kt [.blk b12 (cI (⟨false, 0⟩ : GI)) 25] [.blk b12 (cI ((aF (aE (ab (ag x.p) (aa x.r)) ((ax (ab (ab (aa x.p) (aa x.p)) (ab (ag x.r) (aa x.r)))).1)) (ab (aa x.p) (aa x.r))).2.1)) 25] (congrArg (fun v => [Asn.blk (bC v) (cI (⟨false, 0⟩ : GI)) 25]) hb10) (congrArg (fun v => [Asn.blk (bC v) (cI ((aF (aE (ab (ag x.p) (aa x.r)) ((ax (ab (ab (aa x.p) (aa x.p)) (ab (ag x.r) (aa x.r)))).1)) (ab (aa x.p) (aa x.r))).2.1)) 25]) hb10) (lC zz25 (Eq.trans rfl (congrArg some hb10)) rfl rfl rfl rfl rfl rfl)
    · intro ξ hφ; exact ba (az rfl)
    clear h ac wo; intro ξ ac wo hφ h
    replace h : St w0 59 [(2, (ptr b2 0)), (10, ξ 9)] [.blk b8 (cI (aE (ab (ag x.p) (aa x.r)) ((ax (ab (ab (aa x.p) (aa x.p)) (ab (ag x.r) (aa x.r)))).1))) 25, .blk b2 (cI (⟨false, 0⟩ : GI)) 25, .blk b1 (cR x) 71, .blk b3 (cI (ag x.p)) 25, .blk b4 (cI (aa x.p)) 25, .blk b5 (cI (ag x.r)) 25, .blk b6 (cI (aa x.r)) 25, .blk b7 (cI ((ax (ab (ab (aa x.p) (aa x.p)) (ab (ag x.r) (aa x.r)))).1)) 25, .blk (bC (ξ 9)) (cI ((aF (aE (ab (ag x.p) (aa x.r)) ((ax (ab (ab (aa x.p) (aa x.p)) (ab (ag x.r) (aa x.r)))).1)) (ab (aa x.p) (aa x.r))).1)) 25, .blk (bC (ξ 10)) (cI ((aF (aE (ab (ag x.p) (aa x.r)) ((ax (ab (ab (aa x.p) (aa x.p)) (ab (ag x.r) (aa x.r)))).1)) (ab (aa x.p) (aa x.r))).2.1)) 25] ac wo := (h.pick [0, 1, 2, 3, 4, 5, 6, 7, 8, 9] (by decide)).sub ⟨rfl, rfl, trivial⟩
    revert h
    obtain ⟨b11, hb9⟩ : ∃ b, ξ 9 = ptr b 0 := hφ 9
    obtain ⟨b12, hb10⟩ : ∃ b, ξ 10 = ptr b 0 := hφ 10
    rw [hb9, hb10]; intro h
    clear hb9 hb10
    clear hφ ξ
    have hd : dG x = (aF (aE (ab (ag x.p) (aa x.r)) ((ax (ab (ab (aa x.p) (aa x.p)) (ab (ag x.r) (aa x.r)))).1)) (ab (aa x.p) (aa x.r))).1 := pt
    refine gz h <| (W) ?_; clear h ac wo; intro ac wo h
    exact ret h rfl (.cell (v := (vI ((aF (aE (ab (ag x.p) (aa x.r)) ((ax (ab (ab (aa x.p) (aa x.p)) (ab (ag x.r) (aa x.r)))).1)) (ab (aa x.p) (aa x.r))).1))) rfl (i := 1) rfl aa25 zz25 rfl rfl rfl .nil) rfl (h.retP (by rw [hd] <;> rfl) (by rw [hd]; exact (by rw [← hd]; exact ht.2)))
attribute [irreducible] dG
end Go.Sx
namespace Go.Sx
open Go Go.RowKit Go.Proofs
set_option maxRecDepth 100000
set_option maxHeartbeats 40000000
attribute [local irreducible] Code.wp wpList Rd Step ObS Ent
attribute [local irreducible] ao aM ak ar aA bD
attribute [local irreducible] aI aN aj au aR ah ab aa aX bK
theorem qq (num den : GI) (znum : SzI 36 num) (zden : SzI 36 den) (w0 : World) : Calls Tryz.prog 92 #[(vI num), (vI den)] w0 (cq w0 (.tuple #[(vQ ((bU num den).1)), (.int .i64 ((bU num den).2))]) (SzQ 35 ((bU num den).1))) := by
 refine enter (N := 13) (args := [(vI num), (vI den)]) Tryz.func92 rfl rfl ?_; intro ac h
 have p2 := am ((cJ den) w0)
 refine gz h <| (xb) fun b1 => (xb) fun b2 => (xa) fun b3 => (xk (cJ den)) <| (ai) ?_ ?_ <;> clear h ac <;> intro ac wo h hc1
 ·
  have hd : bU num den = (oQ, 6) := by unfold bU; rw [hc1]; rfl
  rw [hd]
  refine gz h <| (xo (hs := by exact bF kx exs rfl (v := (vQ oQ)) rfl)) <| (W) ?_; clear h ac wo; intro ac wo h
  exact rtc2 0 h (h.retP (u := .tuple #[vQ oQ, .int .i64 6]) rfl ⟨(bZ 0 (by decide) og), (bZ 0 (by decide) og)⟩)
 ·
  have c3 := cM num den 35 og znum zden
  have hd : bU num den = ((aX num den), 0) := by unfold bU; rw [hc1]; rfl
  rw [hd]
  refine gz h <| (xk (c3)) <| (W) ?_; clear h ac wo; intro ac wo h
  exact rtc2 0 h (h.retP (u := .tuple #[vQ (aX num den), .int .i64 0]) rfl (am (c3 w0)))
def bn (a b : GQ) : GQ × Int := bU (ab a.num (aa b)) (ab (aa a) b.num)
theorem kW (a b : GQ) (za : SzQ 37 a) (zb : SzQ 37 b) (w0 : World) : Calls Tryz.prog 189 #[vQ a, vQ b] w0 (cq w0 (.tuple #[vQ (bn a b).1, .int .i64 (bn a b).2]) (SzQ 35 (bn a b).1)) := by
 refine enter (N := 19) (args := [vQ a, vQ b]) Tryz.func189 rfl rfl ?_; intro ac h
 have s1 := am ((bh b 37 og zb) w0)
 have s2 := am ((bo a.num (aa b) 36 og za.1 s1) w0)
 have s3 := am ((bh a 37 og za) w0)
 have s4 := am ((bo (aa a) b.num 36 og s3 zb.1) w0)
 have s5 := am ((qq (ab a.num (aa b)) (ab (aa a) b.num) s2 s4) w0)
 refine gz h <| (xb) fun b1 => (xb) fun b2 => (xa) fun b3 => (dr1 (H := [⟨.blk b3 (cQ oQ) 27, [(13, .con (.blk b3 (cQ (bU (ab a.num (aa b)) (ab (aa a) b.num)).1) 27))]⟩, ⟨_, []⟩, ⟨_, []⟩]) (hob := (oK (bh b 37 og zb)) <| (oK (bo a.num (aa b) 36 og za.1 s1)) <| (oK (bh a 37 og za)) <| (oK (bo (aa a) b.num 36 og s3 zb.1)) <| (oK (qq (ab a.num (aa b)) (ab (aa a) b.num) s2 s4)) <| oE)) <| (W) ?_; clear h ac; intro ac wo h
 exact rtc2 0 h (h.retP (u := .tuple #[vQ (bn a b).1, .int .i64 (bn a b).2]) rfl s5)
attribute [irreducible] bn
def bI (t v u w : GQ) : Qd × Int :=
 bif (bn (ah w v) (ah u t)).2 != 0 then (⟨oQ, oQ, oQ⟩, (bn (ah w v) (ah u t)).2)
 else (aG (ah v (aj (bn (ah w v) (ah u t)).1 t)) (bn (ah w v) (ah u t)).1, 0)
theorem fR (t v u w : GQ) (zt : SzQ 40 t) (zv : SzQ 40 v) (zu : SzQ 40 u) (zw : SzQ 40 w) (w0 : World) : Calls Tryz.prog 89 #[vQ t, vQ v, vQ u, vQ w] w0 (cq w0 (.tuple #[vD (bI t v u w).1, .int .i64 (bI t v u w).2]) (SzD 30 (bI t v u w).1)) := by
 refine enter (N := 33) (args := [vQ t, vQ v, vQ u, vQ w]) Tryz.func89 rfl rfl ?_; intro ac h
 have c1 := bO w v 37 og zw zv
 have c2 := bO u t 37 og zu zt
 have c3 := kW (ah w v) (ah u t) (am (c1 w0)) (am (c2 w0))
 have s3 := am (c3 w0)
 have c4 := a7 (bn (ah w v) (ah u t)).1 t 33 og s3 (cn zt og)
 have s4 := am (c4 w0)
 have c5 := bO v (aj (bn (ah w v) (ah u t)).1 t) 30 og (cn zv og) s4
 have s5 := am (c5 w0)
 have c6 := cc (ah v (aj (bn (ah w v) (ah u t)).1 t)) (bn (ah w v) (ah u t)).1 30 og s5 (cn s3 og)
 have s6 := am (c6 w0)
 refine gz h <| (xb) fun b1 => (xb) fun b2 => (xb) fun b3 => (xb) fun b4 => (xa) fun b5 => (W) ?_; clear h ac; intro ac wo h
 replace h := h.emps 1
 refine eV mixed [dw _ [1], dw _ [3], dv _, dw _ [2], dw _ [4], dv _, dv _, dv _, dv _, dv _, ⟨.nd (.one 10 fun x => ∃ b, x = ptr b 0), [5]⟩, dw undef [5], dv _] [⟨_, []⟩, ⟨_, []⟩, ⟨_, []⟩, ⟨_, []⟩, ⟨_, []⟩, ⟨.emp, [(10, .one 10 fun x => .blk (bC x) (cQ oQ) 27), (11, .one 10 fun x => .blk (bC x) (cQ (bn (ah w v) (ah u t)).1) 27)]⟩] h rfl (by kernel_rfl) ⟨oA obA, oA obA, oA fun _ => hH (gI Tryz.call22 rfl c1), oA obA, oA obA, oA fun _ => hH (gI Tryz.call22 rfl c2), oA fun _ => hH (gI Tryz.call189 rfl c3), oA obA, oA obA, oA obA, fun _ _ => pm 5 rfl (fun _ => rfl), fun ξ hφ => pk (u := vQ (bn (ah w v) (ah u t)).1) 5 (hφ 10 rfl) rfl rfl rfl rfl rfl rfl rfl, oA obA, trivial⟩ ?_
 clear h ac wo; intro ξ ac wo hφ h
 obtain ⟨b6, hb6⟩ : ∃ b, ξ 10 = ptr b 0 := hφ 10
 replace h : St w0 33 [(4, ptr b1 0), (5, ptr b2 0), (6, ptr b3 0), (7, ptr b4 0), (8, ptr b5 0), (10, ξ 10), (11, .int .i64 (bn (ah w v) (ah u t)).2)] [.blk b5 (cD ⟨oQ, oQ, oQ⟩) 53, .blk b4 (cQ w) 27, .blk b3 (cQ u) 27, .blk b2 (cQ v) 27, .blk b1 (cQ t) 27, .blk (bC (ξ 10)) (cQ (bn (ah w v) (ah u t)).1) 27] ac wo := h.sub ⟨rfl, rfl, rfl, rfl, rfl, rfl, rfl, trivial⟩
 rw [hb6] at h
 clear hb6 hφ ξ
 refine gz h <| (ai) ?_ ?_ <;> clear h ac wo <;> intro ac wo h hc1
 ·
  have hd : bI t v u w = (⟨oQ, oQ, oQ⟩, (bn (ah w v) (ah u t)).2) := by unfold bI; rw [hc1]; rfl
  refine gz h <| (xo (hs := by exact bF rA exs rfl (v := vD ⟨oQ, oQ, oQ⟩) rfl)) <| (W) ?_; clear h ac wo; intro ac wo h
  rw [hd]; exact rtc2 0 h (h.retP (u := .tuple #[vD ⟨oQ, oQ, oQ⟩, .int .i64 (bn (ah w v) (ah u t)).2]) rfl ⟨⟨bZ 0 (by decide) og, bZ 0 (by decide) og⟩, ⟨bZ 0 (by decide) og, bZ 0 (by decide) og⟩, ⟨bZ 0 (by decide) og, bZ 0 (by decide) og⟩⟩)
 ·
  have hd : bI t v u w = (aG (ah v (aj (bn (ah w v) (ah u t)).1 t)) (bn (ah w v) (ah u t)).1, 0) := by unfold bI; rw [hc1]; rfl
  refine gz h <| (dr1 (H := [⟨.blk b5 (cD ⟨oQ, oQ, oQ⟩) 53, [(7, .con (.blk b5 (cD (aG (ah v (aj (bn (ah w v) (ah u t)).1 t)) (bn (ah w v) (ah u t)).1)) 53))]⟩, ⟨_, []⟩, ⟨_, []⟩, ⟨_, []⟩, ⟨_, []⟩, ⟨_, []⟩]) (hob := (oK c4) <| (oK c5) <| (oK c6) <| oE)) <| (W) ?_; clear h ac wo; intro ac wo h
  rw [hd]; exact rtc2 0 h (h.retP (u := .tuple #[vD (aG (ah v (aj (bn (ah w v) (ah u t)).1 t)) (bn (ah w v) (ah u t)).1), .int .i64 0]) rfl s6)
attribute [irreducible] bI
def lnOf (x y : Qd) : Ln := ⟨x.c0, x.c1, y.c0, y.c1⟩
def dH (a b : Smp) : Ln := lnOf (bI a.t a.p.x b.t b.p.x).1 (bI a.t a.p.y b.t b.p.y).1
def ja (p : Pnt) : Ln := ⟨p.x, oQ, p.y, oQ⟩
def lxs (f : Ln) : Qd := aG f.x0 f.x1
def lys (f : Ln) : Qd := aG f.y0 f.y1
theorem lxs_ct (f : Ln) (k : Nat) (hk : k ≤ 40) (z : SzN k f) (w0 : World) : Calls Tryz.prog 102 #[vN f] w0 (cq w0 (vD (lxs f)) (SzD k (lxs f))) := by
 refine enter (N := 8) (args := [vN f]) Tryz.func102 rfl rfl ?_; intro ac h
 have c1 := cc f.x0 f.x1 k hk z.1 z.2.1
 refine gz h <| (xb) fun b1 => (xa) fun b2 => (xk c1) <| (W) ?_; clear h ac; intro ac wo h
 exact rtc 0 h (h.retP (u := vD (lxs f)) rfl (am (c1 w0)))
theorem lys_ct (f : Ln) (k : Nat) (hk : k ≤ 40) (z : SzN k f) (w0 : World) : Calls Tryz.prog 103 #[vN f] w0 (cq w0 (vD (lys f)) (SzD k (lys f))) := by
 refine enter (N := 8) (args := [vN f]) Tryz.func103 rfl rfl ?_; intro ac h
 have c1 := cc f.y0 f.y1 k hk z.2.2.1 z.2.2.2
 refine gz h <| (xb) fun b1 => (xa) fun b2 => (xk c1) <| (W) ?_; clear h ac; intro ac wo h
 exact rtc 0 h (h.retP (u := vD (lys f)) rfl (am (c1 w0)))
def jz (t x y : Int) : Smp := ⟨ak t, ⟨ak x, ak y⟩⟩
end Go.Sx
namespace Go.Sx
theorem sV (q : GQ) : (ay q).p = q ∧ (ay q).r = zQ ∧ (ay q).neg = false := by unfold ay; exact ⟨rfl, rfl, rfl⟩
theorem fr_ok {q : GQ} (h : QOk q) : ROk (ay q) := by
  obtain ⟨e1, e2, e3⟩ := sV q
  unfold ROk
  rw [e1, e2, e3]
  exact ⟨h, gD.1, Or.inl ⟨gD.2, rfl⟩⟩
theorem fr_rv (q : GQ) (k : Nat) : rv (ay q) k = a6 q := by
  obtain ⟨e1, e2, e3⟩ := sV q
  unfold rv
  rw [e1, e2, gD.2, qd]; grind
theorem fr_cmp {p q : GQ} (hp : QOk p) (hq : QOk q) : ao (ay p) (ay q) = rsg (a6 p - a6 q) :=
  (lj (fr_ok hp) (fr_ok hq)).uniq ((Sg.const _).congr fun k => by rw [fr_rv, fr_rv])
def inZ (n : Nat) : GR := ay (ak (n : Int))
theorem make_ok {n d : GI} (hn : IOk n) (hd : eA d ≠ 0) : QOk (bU n d).1 ∧ a6 (bU n d).1 = (eA n : Rat) / (eA d : Rat) := by
  have h : (bK d == 0) = false := by
    rw [i9]
    simp
    exact hd
  have e : bU n d = (aX n d, 0) := by unfold bU; rw [h]; rfl
  rw [e]
  exact ng hn hd
theorem div_ok {a b : GQ} (ha : QOk a) (hb : QOk b) (h : a6 b ≠ 0) : QOk (bn a b).1 ∧ a6 (bn a b).1 = a6 a / a6 b ∧ (bn a b).2 = 0 := by
  obtain ⟨da, _⟩ := iq ha
  obtain ⟨db, _⟩ := iq hb
  have pa := mD ha
  have pb := mD hb
  have hbn : eA b.num ≠ 0 := fun e => h (by unfold a6; rw [e]; grind)
  have hd : eA (ab (aa a) b.num) ≠ 0 := by
    rw [ip, da]
    refine Int.mul_ne_zero ?_ hbn
    have := ha.pos
    omega
  have h2 : (bK (ab (aa a) b.num) == 0) = false := by
    rw [i9]; simp; exact hd
  obtain ⟨o, v⟩ := make_ok (qL a.num (aa b)) hd
  unfold bn
  refine ⟨o, ?_, by unfold bU; rw [h2]; rfl⟩
  rw [v, ip, ip, da, db]
  have hb2 : (eA b.num : Rat) ≠ 0 := fun e => hbn (by exact_mod_cast e)
  unfold a6
  push_cast
  grind
theorem ml {t v u w : GQ} (ht : QOk t) (hv : QOk v) (hu : QOk u) (hw : QOk w) (h : a6 t ≠ a6 u) :
    ∃ c s, (bI t v u w).1 = aG c s ∧ QOk c ∧ QOk s ∧ a6 s = (a6 w - a6 v) / (a6 u - a6 t) ∧ a6 c = a6 v - (a6 w - a6 v) / (a6 u - a6 t) * a6 t := by
  obtain ⟨a1, a2⟩ := eW hw hv
  obtain ⟨b1, b2⟩ := eW hu ht
  obtain ⟨d1, d2, d3⟩ := div_ok a1 b1 (by rw [b2]; grind)
  obtain ⟨m1, m2⟩ := eI d1 ht
  obtain ⟨c1, c2⟩ := eW hv m1
  refine ⟨_, _, ?_, c1, d1, by rw [d2, a2, b2], by rw [c2, m2, d2, a2, b2]⟩
  unfold bI
  rw [d3]; rfl
theorem lS {a b : Smp} (ha : QOk a.t ∧ QOk a.p.x ∧ QOk a.p.y) (hb : QOk b.t ∧ QOk b.p.x ∧ QOk b.p.y) (h : a6 a.t ≠ a6 b.t) :
    LOk (dH a b) ∧ a6 (dH a b).x1 = (a6 b.p.x - a6 a.p.x) / (a6 b.t - a6 a.t) ∧ a6 (dH a b).x0 = a6 a.p.x - (a6 b.p.x - a6 a.p.x) / (a6 b.t - a6 a.t) * a6 a.t ∧
      a6 (dH a b).y1 = (a6 b.p.y - a6 a.p.y) / (a6 b.t - a6 a.t) ∧ a6 (dH a b).y0 = a6 a.p.y - (a6 b.p.y - a6 a.p.y) / (a6 b.t - a6 a.t) * a6 a.t := by
  obtain ⟨c, s, e1, k1, k2, k3, k4⟩ := ml ha.1 ha.2.1 hb.1 hb.2.1 h
  obtain ⟨c', s', e1', k1', k2', k3', k4'⟩ := ml ha.1 ha.2.2 hb.1 hb.2.2 h
  obtain ⟨_, l1, l2, _⟩ := gW k1 k2
  obtain ⟨_, l1', l2', _⟩ := gW k1' k2'
  unfold dH lnOf LOk
  rw [e1, e1']
  simp only [l1, l2, l1', l2']
  exact ⟨⟨k1, k2, k1', k2'⟩, k3, k4, k3', k4'⟩
structure Stq where
  time : Nat
  x : Nat
  y : Nat
  kind : Nat
  deriving DecidableEq
instance yJ2_1 : Inhabited Stq := ⟨⟨0, 0, 0, 0⟩⟩
section
variable [K : Key]
class KeyZ : Prop where
  z : ∀ n, n ≤ 64 → Tm (inZ n)
variable [KeyZ]
omit [KeyZ] in
omit [KeyZ] in
end
end Go.Sx
namespace Go.Sx
open Go Go.RowKit Go.Proofs
set_option maxRecDepth 100000
set_option maxHeartbeats 40000000
attribute [local irreducible] Code.wp wpList Rd Step ObS Ent
attribute [local irreducible] ao aM ak ar aA bD
theorem kP (t x y : Int) (k : Nat) (hk : k ≤ 40) (ht : -9223372036854775808 ≤ t ∧ t ≤ 9223372036854775807) (hx : -9223372036854775808 ≤ x ∧ x ≤ 9223372036854775807) (hy : -9223372036854775808 ≤ y ∧ y ≤ 9223372036854775807) (w0 : World) : Calls Tryz.prog 15 #[.int .i64 t, .int .i64 x, .int .i64 y] w0 (cq w0 (vSm (jz t x y)) (SzSm k (jz t x y))) := by
 refine enter (N := 15) (args := [.int .i64 t, .int .i64 x, .int .i64 y]) Tryz.func15 rfl rfl ?_; intro ac h
 have c1 := bP t k hk ht
 have c2 := bP x k hk hx
 have c3 := bP y k hk hy
 refine gz h <| (xa) fun b1 => (xk c1) <| (xk c2) <| (xk c3) <| (W) ?_; clear h ac; intro ac wo h
 exact rtc 0 h (h.retP (u := vSm (jz t x y)) rfl ⟨am (c1 w0), am (c2 w0), am (c3 w0)⟩)
def exampleS : List Smp := [jz 0 0 0, jz 2 4 0, jz 4 4 6]
theorem ri (w0 : World) : Calls Tryz.prog 83 #[] w0 (RetR w0 31 exampleS True) := by
 refine enter (N := 5) (args := []) Tryz.func83 rfl rfl ?_; intro ac h
 refine gz h <| (xk (kP 0 0 0 40 (by omega) (by omega) (by omega) (by omega))) <| (xk (kP 2 4 0 40 (by omega) (by omega) (by omega) (by omega))) <| (xk (kP 4 4 6 40 (by omega) (by omega) (by omega) (by omega))) <| (W) ?_; clear h ac; intro ac wo h
 refine nw h (cY (α := Smp) (xs := [.tmp 1, .tmp 2, .tmp 3]) (vs := [vSm (jz 0 0 0), vSm (jz 2 4 0), vSm (jz 4 4 6)]) exampleS slt23 rfl rfl rfl (by decide)) rfl ?_; clear h ac wo; intro s1 ac wo _ h
 refine gz h <| (W) ?_; clear h ac wo; intro ac wo h
 exact (rt h) (h.retR 0 rfl trivial)
def bu (a : GI) : Int := if a.neg then -(a.mag : Int) else a.mag
theorem iw (a : GI) (hm : a.mag < 4611686018427387904) (w0 : World) : Calls Tryz.prog 186 #[vI a] w0 (cq w0 (.tuple #[.int .i64 (bu a), .bool true]) True) := by
 refine enter (N := 35) (args := [vI a]) Tryz.func186 rfl rfl ?_; intro ac h
 have e : cG a.mag = (a.mag, true) := by rw [mq, if_pos (by omega)]
 have c1 : ∀ w0, Calls Tryz.prog 249 #[(.string (bs a.mag))] w0 (cq w0 (.tuple #[(.int .u64 (a.mag : Int)), (.bool true)]) True) := fun w0 => by
  have := gc a.mag w0
  rw [e] at this; exact this
 refine gz h <| (xb) fun b1 => (xk c1) <| (ai) ?_ ?_ <;> clear h ac <;> intro ac wo h hc1
 · cases hc1
 refine gz h <| (ai) ?_ ?_ <;> clear h ac wo <;> intro ac wo h hc2
 ·
  obtain ⟨h1, h2⟩ := Bool.and_eq_true_iff.mp hc2
  have e3 : bu a = -(a.mag : Int) := by unfold bu; rw [if_pos h1]
  rw [e3]
  refine gz h <| (xo (hs := by exact r_neg rfl (r := IntKind.u64.wrap (-(a.mag : Int))) rfl)) <| (xo (hs := by exact a8 uu254 uu3 rfl (r := -(a.mag : Int)) (by rw [IntKind.wrap_u64, IntKind.wrap_i64]; omega))) <| (W) ?_; clear h ac wo; intro ac wo h
  exact (rt h) (h.retP rfl trivial)
 ·
  have h1 : a.neg = false := by
   have : decide ((a.mag : Int) ≤ 9223372036854775808) = true := decide_eq_true (by omega)
   rw [this, Bool.and_true] at hc2; exact hc2
  have e3 : bu a = (a.mag : Int) := by unfold bu; rw [h1]; rfl
  rw [e3]
  refine gz h <| (ai) ?_ ?_ <;> clear h ac wo <;> intro ac wo h hc3
  · refine gz h <| (xo (hs := by exact a8 uu254 uu3 rfl (r := (a.mag : Int)) (by rw [IntKind.wrap_i64]; omega))) <| (W) ?_; clear h ac wo; intro ac wo h
    exact (rt h) (h.retP rfl trivial)
  · have : decide ((a.mag : Int) ≤ 9223372036854775807) = true := decide_eq_true (by omega)
    rw [this, h1] at hc3; cases hc3
def ee (x : GR) : GR := ⟨aR x.p, x.r, !decide (x.r = oQ) && !x.neg⟩
theorem o9 (x : GR) (k : Nat) (hk : k ≤ 40) (z : SzR k x) (w0 : World) : Calls Tryz.prog 254 #[vR x] w0 (cq w0 (vR (ee x)) (SzR k (ee x))) := by
 refine enter (N := 18) (args := [vR x]) Tryz.func254 rfl rfl ?_; intro ac h
 have c1 := dO x.p k hk z.1
 refine gz h <| (xb) fun b1 => (xa) fun b2 => (dr1 (H := [⟨.blk b2 (cR ⟨oQ, oQ, false⟩) 71, [(15, .con (.blk b2 (cR ⟨aR x.p, x.r, !decide (x.r = oQ) && !x.neg⟩) 71))]⟩, ⟨_, []⟩]) (hob := (oK c1) <| (oX (h := by exact fun _ => ba (bF kx exs rfl (v := vQ oQ) rfl))) <| (oX (h := by exact fun _ => ba (bF rz exs rfl (v := vR ⟨aR x.p, x.r, !decide (x.r = oQ) && !x.neg⟩) rfl))) <| oE)) <| (W) ?_; clear h ac; intro ac wo h
 exact rtc 0 h (h.retP (u := vR (ee x)) rfl ⟨am (c1 w0), z.2⟩)
attribute [irreducible] ee
def e6 (x : GR) : GI := an (dG (ee x))
def Sm (_ : GQ) : Prop := True
def em (p q r : GQ) : GR × Int :=
 bif decide (ar r < 0) then (⟨oQ, oQ, false⟩, 2)
 else bif (bQ r).2 then (⟨au p (aj q (bQ r).1), oQ, false⟩, 0)
 else (⟨p, aj (aj q q) r, decide (ar q < 0)⟩, 0)
theorem nC (p q r : GQ) (k : Nat) (hk : k ≤ 10) (zp : SzQ (k + 6) p) (zq : SzQ (k + 6) q) (zr : SzQ (k + 6) r) (hr : Sm r) (z3 : SzQ 30 r) (w0 : World) : Calls Tryz.prog 143 #[vQ p, vQ q, vQ r] w0 (cq w0 (.tuple #[vR (em p q r).1, .int .i64 (em p q r).2]) (SzR k (em p q r).1)) := by
 refine enter (N := 36) (args := [vQ p, vQ q, vQ r]) Tryz.func143 rfl rfl ?_; intro ac h
 have c1 := bN r
 have s1 := am (c1 w0)
 have c2 := gL r z3
 have s2 := am (c2 w0)
 refine gz h <| (xb) fun b1 => (xb) fun b2 => (xb) fun b3 => (xa) fun b4 => (xk c1) <| (ai) ?_ ?_ <;> clear h ac <;> intro ac wo h hc1
 ·
  have hd : em p q r = (⟨oQ, oQ, false⟩, 2) := by unfold em; rw [hc1]; rfl
  rw [hd]
  refine gz h <| (xo (hs := by exact bF rz exs rfl (v := vR ⟨oQ, oQ, false⟩) rfl)) <| (W) ?_; clear h ac wo; intro ac wo h
  exact rtc2 0 h (h.retP (u := .tuple #[vR ⟨oQ, oQ, false⟩, .int .i64 2]) rfl ⟨⟨bZ 0 (by decide) og, bZ 0 (by decide) og⟩, ⟨bZ 0 (by decide) og, bZ 0 (by decide) og⟩⟩)
 ·
  refine gz h <| (xk c2) <| (xa) fun b5 => (ai) ?_ ?_ <;> clear h ac wo <;> intro ac wo h hc2
  ·
   have hd : em p q r = (⟨au p (aj q (bQ r).1), oQ, false⟩, 0) := by unfold em; rw [hc1, hc2]; rfl
   rw [hd]
   have c3 := a7 q (bQ r).1 (k + 4) og zq (cn s2 og)
   have s3 := am (c3 w0)
   have c4 := bL p (aj q (bQ r).1) (k + 1) og (cn zp og) s3
   have s4 := am (c4 w0)
   refine gz h <| (dr1 (H := [⟨_, []⟩, ⟨.blk b4 (cR ⟨oQ, oQ, false⟩) 71, [(6, .con (.blk b4 (cR ⟨au p (aj q (bQ r).1), oQ, false⟩) 71))]⟩, ⟨_, []⟩, ⟨_, []⟩, ⟨_, []⟩]) (hob := (oK c3) <| (oK c4) <| (oX (h := by exact fun _ => ba (bF rz exs rfl (v := vR ⟨au p (aj q (bQ r).1), oQ, false⟩) rfl))) <| oE)) <| (W) ?_; clear h ac wo; intro ac wo h
   exact rtc2 1 h (h.retP (u := .tuple #[vR ⟨au p (aj q (bQ r).1), oQ, false⟩, .int .i64 0]) rfl ⟨cn s4 og, ⟨bZ 0 (by decide) og, bZ 0 (by decide) og⟩⟩)
  ·
   have hd : em p q r = (⟨p, aj (aj q q) r, decide (ar q < 0)⟩, 0) := by unfold em; rw [hc1, hc2]; rfl
   rw [hd]
   have c3 := a7 q q (k + 4) og zq zq
   have s3 := am (c3 w0)
   have c4 := a7 (aj q q) r (k + 2) og s3 (cn zr og)
   have s4 := am (c4 w0)
   have c5 := bN q
   refine gz h <| (dr1 (H := [⟨_, []⟩, ⟨.blk b4 (cR ⟨oQ, oQ, false⟩) 71, [(10, .con (.blk b4 (cR ⟨p, aj (aj q q) r, decide (ar q < 0)⟩) 71))]⟩, ⟨_, []⟩, ⟨_, []⟩, ⟨_, []⟩]) (hob := (oK c3) <| (oK c4) <| (oK c5) <| (oX (h := by exact fun _ => ba (bF rz exs rfl (v := vR ⟨p, aj (aj q q) r, decide (ar q < 0)⟩) rfl))) <| oE)) <| (W) ?_; clear h ac wo; intro ac wo h
   exact rtc2 1 h (h.retP (u := .tuple #[vR ⟨p, aj (aj q q) r, decide (ar q < 0)⟩, .int .i64 0]) rfl ⟨cn zp og, cn s4 og⟩)
attribute [irreducible] em
theorem nD (x : GR) (hf : ∀ w0, Calls Tryz.prog 187 #[vR (ee x)] w0 (cq w0 (vI (dG (ee x))) (SzI 40 (dG (ee x))))) (z : SzR 36 x) (w0 : World) : Calls Tryz.prog 188 #[vR x] w0 (cq w0 (vI (e6 x)) (SzI 40 (e6 x))) := by
 refine enter (N := 7) (args := [vR x]) Tryz.func188 rfl rfl ?_; intro ac h
 have c1 := o9 x 36 og z
 have c3 := cO (dG (ee x)) 40 og (am (hf w0))
 refine gz h <| (xb) fun b1 => (xa) fun b2 => (xk c1) <| (xk hf) <| (xk c3) <| (W) ?_; clear h ac; intro ac wo h
 exact rtc 0 h (h.retP (u := vI (e6 x)) rfl (am (c3 w0)))
end Go.Sx
namespace Go.Sx
def kB [K : Key] (b : Bd) : Nat := 2 * tk b.at_ + (bif b.behind then 1 else 0)
theorem bb (b : Bool) : (bif b then 1 else 0 : Nat) ≤ 1 := by cases b <;> decide
theorem kB_inj [K : Key] {a b : Bd} (ha : Tm a.at_) (hb : Tm b.at_) (h : kB a = kB b) : a = b := by
  unfold kB at h
  have h1 := bb a.behind
  have h2 := bb b.behind
  have e : tk a.at_ = tk b.at_ := by omega
  have e2 := (ha.inj hb).1 e
  have e3 : a.behind = b.behind := by
    rw [e] at h
    cases ha : a.behind <;> cases hb : b.behind <;> rw [ha, hb] at h <;> simp at h <;> rfl
  obtain ⟨x, y⟩ := a
  obtain ⟨z, w⟩ := b
  simp only at e2 e3
  rw [e2, e3]
theorem pf (i : Iv) : bG i = ⟨i.lo, i.openLo⟩ := by unfold bG; rfl
theorem pl (i : Iv) : bB i = ⟨i.hi, !i.openHi⟩ := by unfold bB; rfl
theorem kB_first [K : Key] (i : Iv) : kB (bG i) = dZ i := by rw [pf]; rfl
theorem kB_last [K : Key] (i : Iv) : (kB (bB i) : Int) = dS i + 1 := by
  unfold kB bB dS
  simp only
  cases i.openHi <;> simp <;> omega
theorem Wv.bd [K : Key] {i : Iv} (h : Wv i) : kB (bG i) < kB (bB i) := by
  have h1 := h.le
  have h2 := kB_last i
  rw [kB_first]; omega
theorem iv_ext [K : Key] {i j : Iv} (hi : Tv i) (hj : Tv j) (h1 : kB (bG i) = kB (bG j)) (h2 : kB (bB i) = kB (bB j)) : i = j := by
  have e1 := kB_inj (a := bG i) (b := bG j) (by rw [pf]; exact hi.1) (by rw [pf]; exact hj.1) h1
  have e2 := kB_inj (a := bB i) (b := bB j) (by rw [pl]; exact hi.2) (by rw [pl]; exact hj.2) h2
  rw [pf, pf, Bd.mk.injEq] at e1
  rw [pl, pl, Bd.mk.injEq] at e2
  obtain ⟨lo, hi', ol, oh⟩ := i
  obtain ⟨lo2, hi2, ol2, oh2⟩ := j
  simp only at e1 e2
  obtain ⟨rfl, rfl⟩ := e1
  obtain ⟨rfl, e3⟩ := e2
  rw [show oh = oh2 by cases oh <;> cases oh2 <;> first | rfl | cases e3]
end Go.Sx
namespace Go.Sx
def inI [K : Key] (i : Iv) (x : Nat) : Prop := kB (bG i) ≤ x ∧ x < kB (bB i)
def inP [K : Key] (p : List Iv) (x : Nat) : Prop := ∃ i ∈ p, inI i x
structure Cn [K : Key] (p : List Iv) : Prop where
  wv : ∀ i ∈ p, Wv i
  sep : p.Pairwise fun i j => kB (bB i) < kB (bG j)
theorem sQ [K : Key] (x : Nat) : ¬ inP [] x := fun ⟨_, h, _⟩ => by cases h
theorem eL [K : Key] {i : Iv} {p : List Iv} {x : Nat} : inP (i :: p) x ↔ inI i x ∨ inP p x := by
  constructor
  · rintro ⟨j, hj, h⟩
    rcases List.mem_cons.1 hj with rfl | hj
    · exact .inl h
    · exact .inr ⟨j, hj, h⟩
  · rintro (h | ⟨j, hj, h⟩)
    · exact ⟨i, List.mem_cons_self .., h⟩
    · exact ⟨j, List.mem_cons_of_mem _ hj, h⟩
theorem Cn.nil [K : Key] : Cn [] := ⟨fun _ h => (by cases h), List.Pairwise.nil⟩
theorem Cn.tail [K : Key] {i : Iv} {p : List Iv} (h : Cn (i :: p)) : Cn p ∧ (∀ j ∈ p, kB (bB i) < kB (bG j)) ∧ Wv i := by
  have h2 := List.pairwise_cons.1 h.sep
  exact ⟨⟨fun j hj => h.wv j (List.mem_cons_of_mem _ hj), h2.2⟩, h2.1, h.wv i (List.mem_cons_self ..)⟩
theorem Cn.behind [K : Key] {i : Iv} {p : List Iv} (h : Cn (i :: p)) {x : Nat} (hx : inP p x) : kB (bB i) < x := by
  obtain ⟨j, hj, h1, _⟩ := hx
  have := h.tail.2.1 j hj
  omega
theorem Cn.ext [K : Key] : ∀ {p q : List Iv}, Cn p → Cn q → (∀ x, inP p x ↔ inP q x) → p = q
  | [], [], _, _, _ => rfl
  | [], j :: q, _, hq, h => absurd ((h _).2 (eL.2 (.inl ⟨Nat.le_refl _, (hq.tail.2.2).bd⟩))) (sQ _)
  | i :: p, [], hp, _, h => absurd ((h _).1 (eL.2 (.inl ⟨Nat.le_refl _, (hp.tail.2.2).bd⟩))) (sQ _)
  | i :: p, j :: q, hp, hq, h => by
    have wi := hp.tail.2.2
    have wj := hq.tail.2.2
    have bi := wi.bd
    have bj := wj.bd
    have f1 : kB (bG j) ≤ kB (bG i) := by
      rcases eL.1 ((h _).1 (eL.2 (.inl ⟨Nat.le_refl _, bi⟩))) with h1 | h1
      · exact h1.1
      · have := hq.behind h1; omega
    have f2 : kB (bG i) ≤ kB (bG j) := by
      rcases eL.1 ((h _).2 (eL.2 (.inl ⟨Nat.le_refl _, bj⟩))) with h1 | h1
      · exact h1.1
      · have := hp.behind h1; omega
    have l1 : ¬ kB (bB i) < kB (bB j) := fun hl => by
      rcases eL.1 ((h (kB (bB i))).2 (eL.2 (.inl ⟨by omega, hl⟩))) with h1 | h1
      · have := h1.2; omega
      · have := hp.behind h1; omega
    have l2 : ¬ kB (bB j) < kB (bB i) := fun hl => by
      rcases eL.1 ((h (kB (bB j))).1 (eL.2 (.inl ⟨by omega, hl⟩))) with h1 | h1
      · have := h1.2; omega
      · have := hq.behind h1; omega
    have e : i = j := iv_ext wi.1 wj.1 (by omega) (by omega)
    subst e
    rw [Cn.ext hp.tail.1 hq.tail.1 fun x => ⟨fun hx => ?_, fun hx => ?_⟩]
    · rcases eL.1 ((h x).1 (eL.2 (.inr hx))) with h1 | h1
      · have := hp.behind hx; have := h1.2; omega
      · exact h1
    · rcases eL.1 ((h x).2 (eL.2 (.inr hx))) with h1 | h1
      · have := hq.behind hx; have := h1.2; omega
      · exact h1
def sm [K : Key] (c : Ev → Int) : List Ev → Nat → Int
  | [], _ => 0
  | e :: r, x => (if kB e.at_ ≤ x then c e else 0) + sm c r x
def rs (c : Ev → Int) : List Ev → Int
  | [] => 0
  | e :: r => c e + rs c r
variable {c : Ev → Int}
end Go.Sx
namespace Go.Sx
set_option maxRecDepth 100000
section
variable {a b : List Iv}
theorem wv_sz [K : Key] (h : ∀ i ∈ a, Wv i) : All (SzV 30) a := fun i hi => ⟨dL (tm_sz (h i hi).1.1) (by omega), dL (tm_sz (h i hi).1.2) (by omega)⟩
theorem Cn.sz [K : Key] (h : Cn a) : All (SzV 30) a := wv_sz h.wv
end
end Go.Sx
namespace Go.Sx
def qa (n : Nat) : GQ := (bU (aw (n : Int)) (aw 4)).1
def two : GQ := ak 2
def gX (p : Nat) : GR := ⟨qa p, two, false⟩
section
variable [K : Key]
class KeyG (p q : Nat) : Prop where
  a : Tm (ay (qa p))
  b : Tm (ay (qa (p + q)))
  x : Tm (gX p)
omit K in
class KeyB : Prop where
  b : ∀ t, Tm t → Bq 100 t.p
variable [KeyZ] [KeyB]
omit [KeyZ] in
omit [KeyZ] in
end
end Go.Sx
