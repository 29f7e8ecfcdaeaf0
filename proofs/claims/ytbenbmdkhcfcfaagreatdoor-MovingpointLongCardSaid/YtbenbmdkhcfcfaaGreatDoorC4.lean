/- A part of the proof of movingpointLong. -/
import Derived.Test.YtbenbmdkhcfcfaaGreatDoorC3
import Derived.Shelf.SlSortCmp.WholeK
import Derived.Test.YtbenbmdkhcfcfaaGreatDoorProg
set_option linter.unusedVariables false
set_option linter.unusedSimpArgs false
open Go.Proofs.Tryz renaming isAgg25 → aa25, sizeOf25 → zz25, runUnderlying71 → uu71, sizeOf27 → zz27, isAgg27 → aa27, zeroValue25 → vv25, call97 → cc97, runUnderlying254 → uu254, runUnderlying3 → uu3
namespace Go.Sx
open Go Go.RowKit Go.Proofs
set_option maxRecDepth 100000
set_option maxHeartbeats 40000000
attribute [local irreducible] Code.wp wpList Rd Step ObS Ent
attribute [local irreducible] ar aO am au aA bG
def ah (a : GQ) : GI :=
 a.num
theorem ji (a : GQ) (za : SzQ 36 a) (w0 : World)  : Calls Tryz.prog 250 #[(vQ a)] w0 (dH w0 (vI (ah a)) (SzI 36 (ah a))) := by
 refine enter (N := 5) (args := [(vQ a)]) Tryz.func250 rfl rfl ?_; intro ac h
 refine gz h <| (xb) fun b1 => (xa) fun b2 => (W) ?_; clear h ac; intro ac wo h
 exact ret h rfl (.cell (v := (vI a.num)) rfl (i := 0) rfl aa25 zz25 rfl rfl rfl .nil) rfl (h.retP (by unfold ah; rfl) (by unfold ah; exact za.1))
attribute [irreducible] ah
def br (a : GI) (b : GI) : GI :=
 (aF a (ap b))
theorem jO (a : GI) (b : GI) (za : SzI 28 a) (zb : SzI 28 b) (w0 : World)  : Calls Tryz.prog 252 #[(vI a), (vI b)] w0 (dH w0 (vI (br a b)) (SzI 26 (br a b))) := by
  refine enter (N := 9) (args := [(vI a), (vI b)]) Tryz.func252 rfl rfl ?_; intro ac h
  refine gz h <| (xb) fun b1 => (xb) fun b2 => (xa) fun b3 => (W) ?_; clear h ac; intro ac wo h
  have c1 := di b 28 og zb
  have s1 := an (c1 w0)
  have s2 := an ((eC a (ap b) 27 og za s1) w0)
  refine gz h <| (dr1 (H := [⟨.blk b3 (cI (⟨false, 0⟩ : GI)) 25, [(4, .con (.blk b3 (cI (aF a (ap b))) 25))]⟩, ⟨.blk b2 (cI b) 25, []⟩, ⟨.blk b1 (cI a) 25, []⟩]) (hob := (oK (c1)) <| (oK (eC a (ap b) 27 og za s1)) <| oE)) <| (W) ?_; clear h ac wo; intro ac wo h
  exact ret h rfl (.cell (v := (vI (aF a (ap b)))) rfl (i := 0) rfl aa25 zz25 rfl rfl rfl .nil) rfl (h.retP (by unfold br; rfl) (by unfold br; exact (e6 s2 og)))
attribute [irreducible] br
def ay (a : GI) : GI × Int :=
 bif a.neg then
  ((⟨false, 0⟩ : GI), 2)
 else
  ((aD false (bW a.mag)), 0)
theorem jv (a : GI) (ha4 : a.mag < 4) (za : SzI 30 a) (w0 : World)  : Calls Tryz.prog 251 #[(vI a)] w0 (dH w0 (.tuple #[(vI ((ay a).1)), (.int .i64 ((ay a).2))]) (SzI 29 ((ay a).1))) := by
 refine enter (N := 11) (args := [(vI a)]) Tryz.func251 rfl rfl ?_; intro ac h
 refine gz h <| (xb) fun b1 => (xa) fun b2 => (ai) ?_ ?_ <;> clear h ac <;> intro ac wo h hc1
 ·
  have hq1 := hc1; try simp at hq1
  have hd : ay a = ((⟨false, 0⟩ : GI), 2) := pt
  refine gz h <| (xo (hs := by exact bP mo exs rfl (v := (vI (⟨false, 0⟩ : GI))) rfl)) <| (W) ?_; clear h ac wo; intro ac wo h
  exact ret h rfl (.cell (v := (vI (⟨false, 0⟩ : GI))) rfl (i := 0) rfl aa25 zz25 rfl rfl rfl (.tmp rfl .nil)) rfl (h.retP (by rw [hd] <;> rfl) (by rw [hd]; exact (cg 0 (by decide) og)))
 ·
  have hq1 := hc1; try simp at hq1
  have c1 := qE a.mag ha4 za
  have s1 := Calls.pr (c1 w0)
  have c2 := bD false (bW a.mag) 29 og s1
  have s2 := an (c2 w0)
  have hd : ay a = ((aD false (bW a.mag)), 0) := pt
  refine gz h <| (xk (c1)) <| (xk (c2)) <| (W) ?_; clear h ac wo; intro ac wo h
  exact ret h rfl (.cell (v := (vI (aD false (bW a.mag)))) rfl (i := 0) rfl aa25 zz25 rfl rfl rfl (.tmp rfl .nil)) rfl (h.retP (by rw [hd] <;> rfl) (by rw [hd]; exact s2))
attribute [irreducible] ay
def ca (num : GI) (den : GI) : GQ × Int :=
 bif ((bL den) == 0) then
  ((⟨(⟨false, 0⟩ : GI), (⟨false, 0⟩ : GI)⟩ : GQ), 6)
 else
  ((a6 num den), 0)
attribute [irreducible] ca
def dS (x : GR) : GI :=
 bif x.neg then
  (aG (br (ae (ah x.p) (aa x.r)) (aF ((ay (ae (ae (aa x.p) (aa x.p)) (ae (ah x.r) (aa x.r)))).1) (aw 1))) (ae (aa x.p) (aa x.r))).1
 else
  (aG (aF (ae (ah x.p) (aa x.r)) ((ay (ae (ae (aa x.p) (aa x.p)) (ae (ah x.r) (aa x.r)))).1)) (ae (aa x.p) (aa x.r))).1
theorem j9 (x : GR) (ht : (ae (ae (aa x.p) (aa x.p)) (ae (ah x.r) (aa x.r))).mag < 4 ∧ SzI 40 (dS x)) (zx : SzR 36 x) (w0 : World)  : Calls Tryz.prog 187 #[(vR x)] w0 (dH w0 (vI (dS x)) (SzI 40 (dS x))) := by
  refine enter (N := 59) (args := [(vR x)]) Tryz.func187 rfl rfl ?_; intro ac h
  refine gz h <| (xb) fun b1 => (xa) fun b2 => (W) ?_; clear h ac; intro ac wo h
  have c1 := ji x.p zx.1
  have s1 := Calls.pr (c1 w0)
  have s2 := an ((bp x.p 36 og zx.1) w0)
  replace h := h.emps 2
  refine fK mixed [⟨.det (ptr b1 0), []⟩, ⟨.det (vQ x.p), [1]⟩, ⟨.det (vI (ah x.p)), []⟩, ⟨.det (ptr b1 0), []⟩, ⟨.det (vQ x.p), [1]⟩, ⟨.det (vI (aa x.p)), []⟩, ⟨.nd (.one 6 fun v => ∃ b, v = ptr b 0), [2]⟩, ⟨.nd (.one 7 fun v => ∃ b, v = ptr b 0), [3]⟩, ⟨.det undef, [2]⟩, ⟨.det undef, [3]⟩] [⟨.blk b2 (cI (⟨false, 0⟩ : GI)) 25, []⟩, ⟨.blk b1 (cR x) 71, []⟩, ⟨.emp, [(6, .one 6 fun v => .blk (bF v) (cI (⟨false, 0⟩ : GI)) 25), (8, .one 6 fun v => .blk (bF v) (cI (ah x.p)) 25)]⟩, ⟨.emp, [(7, .one 7 fun v => .blk (bF v) (cI (⟨false, 0⟩ : GI)) 25), (9, .one 7 fun v => .blk (bF v) (cI (aa x.p)) 25)]⟩] h rfl (by kernel_rfl) ⟨?_, ?_, ?_, ?_, ?_, ?_, ?_, ?_, ?_, ?_, trivial⟩ ?_
  · intro ξ hφ; exact bm (fa uu71 rfl zz27 rfl rfl rfl (k' := 0))
  · intro ξ hφ; exact g9 [.blk b1 (cR x) 71] rfl rfl (i0 aa27 zz27 rfl rfl rfl (v := (vQ x.p)) rfl)
  · intro ξ hφ; exact iS (fO (cO Tryz.call250 rfl) (kk c1))
  · intro ξ hφ; exact bm (fa uu71 rfl zz27 rfl rfl rfl (k' := 0))
  · intro ξ hφ; exact g9 [.blk b1 (cR x) 71] rfl rfl (i0 aa27 zz27 rfl rfl rfl (v := (vQ x.p)) rfl)
  · intro ξ hφ; exact iS (fO (cO Tryz.call98 rfl) (kk (bp x.p 36 og zx.1)))
  · intro ξ hφ; exact ng (ψ := fun v => ∃ b, v = ptr b 0) (B := fun v => [.blk (bF v) (cI (⟨false, 0⟩ : GI)) 25]) [.emp] rfl (fun v _ => by simp only [cH, bB] <;> rfl) (fun v hv => by simpa [DF.one, bB] using hv) (ja (fE vv25 rfl))
  · intro ξ hφ; exact ng (ψ := fun v => ∃ b, v = ptr b 0) (B := fun v => [.blk (bF v) (cI (⟨false, 0⟩ : GI)) 25]) [.emp] rfl (fun v _ => by simp only [cH, bB] <;> rfl) (fun v hv => by simpa [DF.one, bB] using hv) (ja (fE vv25 rfl))
  · intro ξ hφ; obtain ⟨b3, hb6⟩ := hφ 6 rfl; exact jT [.blk b3 (cI (⟨false, 0⟩ : GI)) 25] [.blk b3 (cI (ah x.p)) 25] (congrArg (fun v => [Asn.blk (bF v) (cI (⟨false, 0⟩ : GI)) 25]) hb6) (congrArg (fun v => [Asn.blk (bF v) (cI (ah x.p)) 25]) hb6) (mb zz25 (Eq.trans rfl (congrArg some hb6)) rfl rfl rfl rfl rfl rfl)
  · intro ξ hφ; obtain ⟨b4, hb7⟩ := hφ 7 rfl; exact jT [.blk b4 (cI (⟨false, 0⟩ : GI)) 25] [.blk b4 (cI (aa x.p)) 25] (congrArg (fun v => [Asn.blk (bF v) (cI (⟨false, 0⟩ : GI)) 25]) hb7) (congrArg (fun v => [Asn.blk (bF v) (cI (aa x.p)) 25]) hb7) (mb zz25 (Eq.trans rfl (congrArg some hb7)) rfl rfl rfl rfl rfl rfl)
  clear h ac wo; intro ξ ac wo hφ h
  replace h : St w0 59 [(1, (ptr b1 0)), (2, (ptr b2 0)), (3, ξ 6), (4, ξ 7)] [.blk b2 (cI (⟨false, 0⟩ : GI)) 25, .blk b1 (cR x) 71, .blk (bF (ξ 6)) (cI (ah x.p)) 25, .blk (bF (ξ 7)) (cI (aa x.p)) 25] ac wo := (h.pick [0, 1, 2, 3] (by decide)).sub ⟨rfl, rfl, rfl, rfl, trivial⟩
  revert h
  obtain ⟨b3, hb6⟩ : ∃ b, ξ 6 = ptr b 0 := hφ 6
  obtain ⟨b4, hb7⟩ : ∃ b, ξ 7 = ptr b 0 := hφ 7
  rw [hb6, hb7]; intro h
  clear hb6 hb7
  clear hφ ξ
  refine gz h <| (W) ?_; clear h ac wo; intro ac wo h
  have c3 := ji x.r zx.2
  have s3 := Calls.pr (c3 w0)
  have s4 := an ((bp x.r 36 og zx.2) w0)
  replace h := h.emps 2
  refine fK mixed [⟨.det (ptr b1 4), []⟩, ⟨.det (vQ x.r), [1]⟩, ⟨.det (vI (ah x.r)), []⟩, ⟨.det (ptr b1 4), []⟩, ⟨.det (vQ x.r), [1]⟩, ⟨.det (vI (aa x.r)), []⟩, ⟨.nd (.one 6 fun v => ∃ b, v = ptr b 0), [4]⟩, ⟨.nd (.one 7 fun v => ∃ b, v = ptr b 0), [5]⟩, ⟨.det undef, [4]⟩, ⟨.det undef, [5]⟩] [⟨.blk b2 (cI (⟨false, 0⟩ : GI)) 25, []⟩, ⟨.blk b1 (cR x) 71, []⟩, ⟨.blk b3 (cI (ah x.p)) 25, []⟩, ⟨.blk b4 (cI (aa x.p)) 25, []⟩, ⟨.emp, [(6, .one 6 fun v => .blk (bF v) (cI (⟨false, 0⟩ : GI)) 25), (8, .one 6 fun v => .blk (bF v) (cI (ah x.r)) 25)]⟩, ⟨.emp, [(7, .one 7 fun v => .blk (bF v) (cI (⟨false, 0⟩ : GI)) 25), (9, .one 7 fun v => .blk (bF v) (cI (aa x.r)) 25)]⟩] h rfl (by kernel_rfl) ⟨?_, ?_, ?_, ?_, ?_, ?_, ?_, ?_, ?_, ?_, trivial⟩ ?_
  · intro ξ hφ; exact bm (fa uu71 rfl zz27 rfl rfl rfl (k' := 4))
  · intro ξ hφ; exact g9 [.blk b1 (cR x) 71] rfl rfl (i0 aa27 zz27 rfl rfl rfl (v := (vQ x.r)) rfl)
  · intro ξ hφ; exact iS (fO (cO Tryz.call250 rfl) (kk c3))
  · intro ξ hφ; exact bm (fa uu71 rfl zz27 rfl rfl rfl (k' := 4))
  · intro ξ hφ; exact g9 [.blk b1 (cR x) 71] rfl rfl (i0 aa27 zz27 rfl rfl rfl (v := (vQ x.r)) rfl)
  · intro ξ hφ; exact iS (fO (cO Tryz.call98 rfl) (kk (bp x.r 36 og zx.2)))
  · intro ξ hφ; exact ng (ψ := fun v => ∃ b, v = ptr b 0) (B := fun v => [.blk (bF v) (cI (⟨false, 0⟩ : GI)) 25]) [.emp] rfl (fun v _ => by simp only [cH, bB] <;> rfl) (fun v hv => by simpa [DF.one, bB] using hv) (ja (fE vv25 rfl))
  · intro ξ hφ; exact ng (ψ := fun v => ∃ b, v = ptr b 0) (B := fun v => [.blk (bF v) (cI (⟨false, 0⟩ : GI)) 25]) [.emp] rfl (fun v _ => by simp only [cH, bB] <;> rfl) (fun v hv => by simpa [DF.one, bB] using hv) (ja (fE vv25 rfl))
  · intro ξ hφ; obtain ⟨b5, hb6⟩ := hφ 6 rfl; exact jT [.blk b5 (cI (⟨false, 0⟩ : GI)) 25] [.blk b5 (cI (ah x.r)) 25] (congrArg (fun v => [Asn.blk (bF v) (cI (⟨false, 0⟩ : GI)) 25]) hb6) (congrArg (fun v => [Asn.blk (bF v) (cI (ah x.r)) 25]) hb6) (mb zz25 (Eq.trans rfl (congrArg some hb6)) rfl rfl rfl rfl rfl rfl)
  · intro ξ hφ; obtain ⟨b6, hb7⟩ := hφ 7 rfl; exact jT [.blk b6 (cI (⟨false, 0⟩ : GI)) 25] [.blk b6 (cI (aa x.r)) 25] (congrArg (fun v => [Asn.blk (bF v) (cI (⟨false, 0⟩ : GI)) 25]) hb7) (congrArg (fun v => [Asn.blk (bF v) (cI (aa x.r)) 25]) hb7) (mb zz25 (Eq.trans rfl (congrArg some hb7)) rfl rfl rfl rfl rfl rfl)
  clear h ac wo; intro ξ ac wo hφ h
  replace h : St w0 59 [(1, (ptr b1 0)), (2, (ptr b2 0)), (3, (ptr b3 0)), (4, (ptr b4 0)), (5, ξ 6), (6, ξ 7)] [.blk b2 (cI (⟨false, 0⟩ : GI)) 25, .blk b1 (cR x) 71, .blk b3 (cI (ah x.p)) 25, .blk b4 (cI (aa x.p)) 25, .blk (bF (ξ 6)) (cI (ah x.r)) 25, .blk (bF (ξ 7)) (cI (aa x.r)) 25] ac wo := (h.pick [0, 1, 2, 3, 4, 5] (by decide)).sub ⟨rfl, rfl, rfl, rfl, rfl, rfl, trivial⟩
  revert h
  obtain ⟨b5, hb6⟩ : ∃ b, ξ 6 = ptr b 0 := hφ 6
  obtain ⟨b6, hb7⟩ : ∃ b, ξ 7 = ptr b 0 := hφ 7
  rw [hb6, hb7]; intro h
  clear hb6 hb7
  clear hφ ξ
  refine gz h <| (W) ?_; clear h ac wo; intro ac wo h
  have s5 := an ((bv (aa x.p) (aa x.p) 35 og s2 s2) w0)
  have s6 := an ((bv (ah x.r) (aa x.r) 35 og s3 s4) w0)
  have s7 := an ((bv (ae (aa x.p) (aa x.p)) (ae (ah x.r) (aa x.r)) 34 og s5 s6) w0)
  have s8 := Calls.pr ((fun w_ hB_ hS_ => jv (ae (ae (aa x.p) (aa x.p)) (ae (ah x.r) (aa x.r))) (ht.1) (e6 s7 og) w_ ) _ h.bel h.sep)
  replace h := h.emps 1
  refine fK mixed [⟨.det (vI (aa x.p)), [3]⟩, ⟨.det (vI (aa x.p)), [3]⟩, ⟨.det (vI (ae (aa x.p) (aa x.p))), []⟩, ⟨.det (vI (ah x.r)), [4]⟩, ⟨.det (vI (aa x.r)), [5]⟩, ⟨.det (vI (ae (ah x.r) (aa x.r))), []⟩, ⟨.det (vI (ae (ae (aa x.p) (aa x.p)) (ae (ah x.r) (aa x.r)))), []⟩, ⟨.det (.tuple #[(vI ((ay (ae (ae (aa x.p) (aa x.p)) (ae (ah x.r) (aa x.r)))).1)), (.int .i64 ((ay (ae (ae (aa x.p) (aa x.p)) (ae (ah x.r) (aa x.r)))).2))]), []⟩, ⟨.det (.tuple #[(vI ((ay (ae (ae (aa x.p) (aa x.p)) (ae (ah x.r) (aa x.r)))).1)), (.int .i64 ((ay (ae (ae (aa x.p) (aa x.p)) (ae (ah x.r) (aa x.r)))).2))]), []⟩, ⟨.det (vI ((ay (ae (ae (aa x.p) (aa x.p)) (ae (ah x.r) (aa x.r)))).1)), []⟩, ⟨.det (.int .i64 ((ay (ae (ae (aa x.p) (aa x.p)) (ae (ah x.r) (aa x.r)))).2)), []⟩, ⟨.nd (.one 11 fun v => ∃ b, v = ptr b 0), [6]⟩, ⟨.det undef, [6]⟩, ⟨.det (.int .i64 ((ay (ae (ae (aa x.p) (aa x.p)) (ae (ah x.r) (aa x.r)))).2)), []⟩] [⟨.blk b2 (cI (⟨false, 0⟩ : GI)) 25, []⟩, ⟨.blk b1 (cR x) 71, []⟩, ⟨.blk b3 (cI (ah x.p)) 25, []⟩, ⟨.blk b4 (cI (aa x.p)) 25, []⟩, ⟨.blk b5 (cI (ah x.r)) 25, []⟩, ⟨.blk b6 (cI (aa x.r)) 25, []⟩, ⟨.emp, [(11, .one 11 fun v => .blk (bF v) (cI (⟨false, 0⟩ : GI)) 25), (12, .one 11 fun v => .blk (bF v) (cI ((ay (ae (ae (aa x.p) (aa x.p)) (ae (ah x.r) (aa x.r)))).1)) 25)]⟩] h rfl (by kernel_rfl) ⟨?_, ?_, ?_, ?_, ?_, ?_, ?_, ?_, ?_, ?_, ?_, ?_, ?_, ?_, trivial⟩ ?_
  · intro ξ hφ; exact g9 [.blk b4 (cI (aa x.p)) 25] rfl rfl (i0 aa25 zz25 rfl rfl rfl (v := (vI (aa x.p))) rfl)
  · intro ξ hφ; exact g9 [.blk b4 (cI (aa x.p)) 25] rfl rfl (i0 aa25 zz25 rfl rfl rfl (v := (vI (aa x.p))) rfl)
  · intro ξ hφ; exact iS (fO (vs := [(vI (aa x.p)), (vI (aa x.p))]) (cO cc97 rfl) (fun w_ hB_ hS_ => (bv (aa x.p) (aa x.p) 35 og s2 s2) w_))
  · intro ξ hφ; exact g9 [.blk b5 (cI (ah x.r)) 25] rfl rfl (i0 aa25 zz25 rfl rfl rfl (v := (vI (ah x.r))) rfl)
  · intro ξ hφ; exact g9 [.blk b6 (cI (aa x.r)) 25] rfl rfl (i0 aa25 zz25 rfl rfl rfl (v := (vI (aa x.r))) rfl)
  · intro ξ hφ; exact iS (fO (cO cc97 rfl) (kk (bv (ah x.r) (aa x.r) 35 og s3 s4)))
  · intro ξ hφ; exact iS (fO (cO cc97 rfl) (kk (bv (ae (aa x.p) (aa x.p)) (ae (ah x.r) (aa x.r)) 34 og s5 s6)))
  · intro ξ hφ; exact iS (fO (cO Tryz.call251 rfl) (kk (jv (ae (ae (aa x.p) (aa x.p)) (ae (ah x.r) (aa x.r))) (ht.1) (e6 s7 og))))
  · intro ξ hφ; exact bm (aq rfl)
  · intro ξ hφ; exact bm (cm rfl rfl)
  · intro ξ hφ; exact bm (cm rfl rfl)
  · intro ξ hφ; exact ng (ψ := fun v => ∃ b, v = ptr b 0) (B := fun v => [.blk (bF v) (cI (⟨false, 0⟩ : GI)) 25]) [.emp] rfl (fun v _ => by simp only [cH, bB] <;> rfl) (fun v hv => by simpa [DF.one, bB] using hv) (ja (fE vv25 rfl))
  · intro ξ hφ; obtain ⟨b7, hb11⟩ := hφ 11 rfl; exact jT [.blk b7 (cI (⟨false, 0⟩ : GI)) 25] [.blk b7 (cI ((ay (ae (ae (aa x.p) (aa x.p)) (ae (ah x.r) (aa x.r)))).1)) 25] (congrArg (fun v => [Asn.blk (bF v) (cI (⟨false, 0⟩ : GI)) 25]) hb11) (congrArg (fun v => [Asn.blk (bF v) (cI ((ay (ae (ae (aa x.p) (aa x.p)) (ae (ah x.r) (aa x.r)))).1)) 25]) hb11) (mb zz25 (Eq.trans rfl (congrArg some hb11)) rfl rfl rfl rfl rfl rfl)
  · intro ξ hφ; exact bm (az rfl)
  clear h ac wo; intro ξ ac wo hφ h
  replace h : St w0 59 [(1, (ptr b1 0)), (2, (ptr b2 0)), (3, (ptr b3 0)), (4, (ptr b4 0)), (6, (ptr b6 0)), (7, ξ 11)] [.blk b2 (cI (⟨false, 0⟩ : GI)) 25, .blk b1 (cR x) 71, .blk b3 (cI (ah x.p)) 25, .blk b4 (cI (aa x.p)) 25, .blk b5 (cI (ah x.r)) 25, .blk b6 (cI (aa x.r)) 25, .blk (bF (ξ 11)) (cI ((ay (ae (ae (aa x.p) (aa x.p)) (ae (ah x.r) (aa x.r)))).1)) 25] ac wo := (h.pick [0, 1, 2, 3, 4, 5, 6] (by decide)).sub ⟨rfl, rfl, rfl, rfl, rfl, rfl, trivial⟩
  revert h
  obtain ⟨b7, hb11⟩ : ∃ b, ξ 11 = ptr b 0 := hφ 11
  rw [hb11]; intro h
  clear hb11
  clear hφ ξ
  have c9 := bv (ah x.p) (aa x.r) 35 og s1 s4
  have s9 := an (c9 w0)
  refine gz h <| (xk (c9)) <| (xa) fun b8 => (ai) ?_ ?_ <;> clear h ac wo <;> intro ac wo h hc1
  ·
    have hq1 := hc1; try simp at hq1
    have s10 := an ((fj 1 40 og  og) w0)
    have s11 := an ((eC ((ay (ae (ae (aa x.p) (aa x.p)) (ae (ah x.r) (aa x.r)))).1) (aw 1) 28 og s8 (e6 s10 og)) w0)
    have s12 := Calls.pr ((fun w_ hB_ hS_ => jO (ae (ah x.p) (aa x.r)) (aF ((ay (ae (ae (aa x.p) (aa x.p)) (ae (ah x.r) (aa x.r)))).1) (aw 1)) (e6 s9 og) s11 w_ ) _ h.bel h.sep)
    refine gz h <| (dr1 (H := [⟨.blk b8 (cI (ae (ah x.p) (aa x.r))) 25, [(5, .con (.blk b8 (cI (br (ae (ah x.p) (aa x.r)) (aF ((ay (ae (ae (aa x.p) (aa x.p)) (ae (ah x.r) (aa x.r)))).1) (aw 1)))) 25))]⟩, ⟨.blk b2 (cI (⟨false, 0⟩ : GI)) 25, []⟩, ⟨.blk b1 (cR x) 71, []⟩, ⟨.blk b3 (cI (ah x.p)) 25, []⟩, ⟨.blk b4 (cI (aa x.p)) 25, []⟩, ⟨.blk b5 (cI (ah x.r)) 25, []⟩, ⟨.blk b6 (cI (aa x.r)) 25, []⟩, ⟨.blk b7 (cI ((ay (ae (ae (aa x.p) (aa x.p)) (ae (ah x.r) (aa x.r)))).1)) 25, []⟩]) (hob := (oX (h := by exact fun _ => iS (fO (vs := [(.int .i64 1)]) (cO Tryz.call93 rfl) (fun w_ hB_ hS_ => (fj 1 40 og  og) w_)))) <| (oK (eC ((ay (ae (ae (aa x.p) (aa x.p)) (ae (ah x.r) (aa x.r)))).1) (aw 1) 28 og s8 (e6 s10 og))) <| (oK (jO (ae (ah x.p) (aa x.r)) (aF ((ay (ae (ae (aa x.p) (aa x.p)) (ae (ah x.r) (aa x.r)))).1) (aw 1)) (e6 s9 og) s11)) <| oE)) <| (W) ?_; clear h ac wo; intro ac wo h
    have c13 := bv (aa x.p) (aa x.r) 35 og s2 s4
    have s13 := an (c13 w0)
    have s14 := an ((eL (br (ae (ah x.p) (aa x.r)) (aF ((ay (ae (ae (aa x.p) (aa x.p)) (ae (ah x.r) (aa x.r)))).1) (aw 1))) (ae (aa x.p) (aa x.r)) 25 og s12 (e6 s13 og)) w0)
    replace h := h.emps 2
    refine fK mixed [⟨.det (vI (br (ae (ah x.p) (aa x.r)) (aF ((ay (ae (ae (aa x.p) (aa x.p)) (ae (ah x.r) (aa x.r)))).1) (aw 1)))), [0]⟩, ⟨.det (vI (aa x.p)), [4]⟩, ⟨.det (vI (aa x.r)), [6]⟩, ⟨.det (vI (ae (aa x.p) (aa x.r))), []⟩, ⟨.det (.tuple #[(vI ((aG (br (ae (ah x.p) (aa x.r)) (aF ((ay (ae (ae (aa x.p) (aa x.p)) (ae (ah x.r) (aa x.r)))).1) (aw 1))) (ae (aa x.p) (aa x.r))).1)), (vI ((aG (br (ae (ah x.p) (aa x.r)) (aF ((ay (ae (ae (aa x.p) (aa x.p)) (ae (ah x.r) (aa x.r)))).1) (aw 1))) (ae (aa x.p) (aa x.r))).2.1)), (.int .i64 ((aG (br (ae (ah x.p) (aa x.r)) (aF ((ay (ae (ae (aa x.p) (aa x.p)) (ae (ah x.r) (aa x.r)))).1) (aw 1))) (ae (aa x.p) (aa x.r))).2.2))]), []⟩, ⟨.det (.tuple #[(vI ((aG (br (ae (ah x.p) (aa x.r)) (aF ((ay (ae (ae (aa x.p) (aa x.p)) (ae (ah x.r) (aa x.r)))).1) (aw 1))) (ae (aa x.p) (aa x.r))).1)), (vI ((aG (br (ae (ah x.p) (aa x.r)) (aF ((ay (ae (ae (aa x.p) (aa x.p)) (ae (ah x.r) (aa x.r)))).1) (aw 1))) (ae (aa x.p) (aa x.r))).2.1)), (.int .i64 ((aG (br (ae (ah x.p) (aa x.r)) (aF ((ay (ae (ae (aa x.p) (aa x.p)) (ae (ah x.r) (aa x.r)))).1) (aw 1))) (ae (aa x.p) (aa x.r))).2.2))]), []⟩, ⟨.det (vI ((aG (br (ae (ah x.p) (aa x.r)) (aF ((ay (ae (ae (aa x.p) (aa x.p)) (ae (ah x.r) (aa x.r)))).1) (aw 1))) (ae (aa x.p) (aa x.r))).1)), []⟩, ⟨.det (vI ((aG (br (ae (ah x.p) (aa x.r)) (aF ((ay (ae (ae (aa x.p) (aa x.p)) (ae (ah x.r) (aa x.r)))).1) (aw 1))) (ae (aa x.p) (aa x.r))).2.1)), []⟩, ⟨.det (.int .i64 ((aG (br (ae (ah x.p) (aa x.r)) (aF ((ay (ae (ae (aa x.p) (aa x.p)) (ae (ah x.r) (aa x.r)))).1) (aw 1))) (ae (aa x.p) (aa x.r))).2.2)), []⟩, ⟨.nd (.one 9 fun v => ∃ b, v = ptr b 0), [8]⟩, ⟨.nd (.one 10 fun v => ∃ b, v = ptr b 0), [9]⟩, ⟨.det undef, [8]⟩, ⟨.det undef, [9]⟩, ⟨.det (.int .i64 ((aG (br (ae (ah x.p) (aa x.r)) (aF ((ay (ae (ae (aa x.p) (aa x.p)) (ae (ah x.r) (aa x.r)))).1) (aw 1))) (ae (aa x.p) (aa x.r))).2.2)), []⟩] [⟨.blk b8 (cI (br (ae (ah x.p) (aa x.r)) (aF ((ay (ae (ae (aa x.p) (aa x.p)) (ae (ah x.r) (aa x.r)))).1) (aw 1)))) 25, []⟩, ⟨.blk b2 (cI (⟨false, 0⟩ : GI)) 25, []⟩, ⟨.blk b1 (cR x) 71, []⟩, ⟨.blk b3 (cI (ah x.p)) 25, []⟩, ⟨.blk b4 (cI (aa x.p)) 25, []⟩, ⟨.blk b5 (cI (ah x.r)) 25, []⟩, ⟨.blk b6 (cI (aa x.r)) 25, []⟩, ⟨.blk b7 (cI ((ay (ae (ae (aa x.p) (aa x.p)) (ae (ah x.r) (aa x.r)))).1)) 25, []⟩, ⟨.emp, [(9, .one 9 fun v => .blk (bF v) (cI (⟨false, 0⟩ : GI)) 25), (11, .one 9 fun v => .blk (bF v) (cI ((aG (br (ae (ah x.p) (aa x.r)) (aF ((ay (ae (ae (aa x.p) (aa x.p)) (ae (ah x.r) (aa x.r)))).1) (aw 1))) (ae (aa x.p) (aa x.r))).1)) 25)]⟩, ⟨.emp, [(10, .one 10 fun v => .blk (bF v) (cI (⟨false, 0⟩ : GI)) 25), (12, .one 10 fun v => .blk (bF v) (cI ((aG (br (ae (ah x.p) (aa x.r)) (aF ((ay (ae (ae (aa x.p) (aa x.p)) (ae (ah x.r) (aa x.r)))).1) (aw 1))) (ae (aa x.p) (aa x.r))).2.1)) 25)]⟩] h rfl (by kernel_rfl) ⟨?_, ?_, ?_, ?_, ?_, ?_, ?_, ?_, ?_, ?_, ?_, ?_, ?_, ?_, trivial⟩ ?_
    · intro ξ hφ; exact g9 [.blk b8 (cI (br (ae (ah x.p) (aa x.r)) (aF ((ay (ae (ae (aa x.p) (aa x.p)) (ae (ah x.r) (aa x.r)))).1) (aw 1)))) 25] rfl rfl (i0 aa25 zz25 rfl rfl rfl (v := (vI (br (ae (ah x.p) (aa x.r)) (aF ((ay (ae (ae (aa x.p) (aa x.p)) (ae (ah x.r) (aa x.r)))).1) (aw 1))))) rfl)
    · intro ξ hφ; exact g9 [.blk b4 (cI (aa x.p)) 25] rfl rfl (i0 aa25 zz25 rfl rfl rfl (v := (vI (aa x.p))) rfl)
    · intro ξ hφ; exact g9 [.blk b6 (cI (aa x.r)) 25] rfl rfl (i0 aa25 zz25 rfl rfl rfl (v := (vI (aa x.r))) rfl)
    · intro ξ hφ; exact iS (fO (cO cc97 rfl) (kk c13))
    · intro ξ hφ; exact iS (fO (cO Tryz.call253 rfl) (kk (eL (br (ae (ah x.p) (aa x.r)) (aF ((ay (ae (ae (aa x.p) (aa x.p)) (ae (ah x.r) (aa x.r)))).1) (aw 1))) (ae (aa x.p) (aa x.r)) 25 og s12 (e6 s13 og))))
    · intro ξ hφ; exact bm (aq rfl)
    · intro ξ hφ; exact bm (cm rfl rfl)
    · intro ξ hφ; exact bm (cm rfl rfl)
    · intro ξ hφ; exact bm (cm rfl rfl)
    · intro ξ hφ; exact ng (ψ := fun v => ∃ b, v = ptr b 0) (B := fun v => [.blk (bF v) (cI (⟨false, 0⟩ : GI)) 25]) [.emp] rfl (fun v _ => by simp only [cH, bB] <;> rfl) (fun v hv => by simpa [DF.one, bB] using hv) (ja (fE vv25 rfl))
    · intro ξ hφ; exact ng (ψ := fun v => ∃ b, v = ptr b 0) (B := fun v => [.blk (bF v) (cI (⟨false, 0⟩ : GI)) 25]) [.emp] rfl (fun v _ => by simp only [cH, bB] <;> rfl) (fun v hv => by simpa [DF.one, bB] using hv) (ja (fE vv25 rfl))
    · intro ξ hφ; obtain ⟨b9, hb9⟩ := hφ 9 rfl; exact jT [.blk b9 (cI (⟨false, 0⟩ : GI)) 25] [.blk b9 (cI ((aG (br (ae (ah x.p) (aa x.r)) (aF ((ay (ae (ae (aa x.p) (aa x.p)) (ae (ah x.r) (aa x.r)))).1) (aw 1))) (ae (aa x.p) (aa x.r))).1)) 25] (congrArg (fun v => [Asn.blk (bF v) (cI (⟨false, 0⟩ : GI)) 25]) hb9) (congrArg (fun v => [Asn.blk (bF v) (cI ((aG (br (ae (ah x.p) (aa x.r)) (aF ((ay (ae (ae (aa x.p) (aa x.p)) (ae (ah x.r) (aa x.r)))).1) (aw 1))) (ae (aa x.p) (aa x.r))).1)) 25]) hb9) (mb zz25 (Eq.trans rfl (congrArg some hb9)) rfl rfl rfl rfl rfl rfl)
    · intro ξ hφ; obtain ⟨b10, hb10⟩ := hφ 10 rfl; exact jT [.blk b10 (cI (⟨false, 0⟩ : GI)) 25] [.blk b10 (cI ((aG (br (ae (ah x.p) (aa x.r)) (aF ((ay (ae (ae (aa x.p) (aa x.p)) (ae (ah x.r) (aa x.r)))).1) (aw 1))) (ae (aa x.p) (aa x.r))).2.1)) 25] (congrArg (fun v => [Asn.blk (bF v) (cI (⟨false, 0⟩ : GI)) 25]) hb10) (congrArg (fun v => [Asn.blk (bF v) (cI ((aG (br (ae (ah x.p) (aa x.r)) (aF ((ay (ae (ae (aa x.p) (aa x.p)) (ae (ah x.r) (aa x.r)))).1) (aw 1))) (ae (aa x.p) (aa x.r))).2.1)) 25]) hb10) (mb zz25 (Eq.trans rfl (congrArg some hb10)) rfl rfl rfl rfl rfl rfl)
    · intro ξ hφ; exact bm (az rfl)
    clear h ac wo; intro ξ ac wo hφ h
    replace h : St w0 59 [(2, (ptr b2 0)), (10, ξ 9)] [.blk b8 (cI (br (ae (ah x.p) (aa x.r)) (aF ((ay (ae (ae (aa x.p) (aa x.p)) (ae (ah x.r) (aa x.r)))).1) (aw 1)))) 25, .blk b2 (cI (⟨false, 0⟩ : GI)) 25, .blk b1 (cR x) 71, .blk b3 (cI (ah x.p)) 25, .blk b4 (cI (aa x.p)) 25, .blk b5 (cI (ah x.r)) 25, .blk b6 (cI (aa x.r)) 25, .blk b7 (cI ((ay (ae (ae (aa x.p) (aa x.p)) (ae (ah x.r) (aa x.r)))).1)) 25, .blk (bF (ξ 9)) (cI ((aG (br (ae (ah x.p) (aa x.r)) (aF ((ay (ae (ae (aa x.p) (aa x.p)) (ae (ah x.r) (aa x.r)))).1) (aw 1))) (ae (aa x.p) (aa x.r))).1)) 25, .blk (bF (ξ 10)) (cI ((aG (br (ae (ah x.p) (aa x.r)) (aF ((ay (ae (ae (aa x.p) (aa x.p)) (ae (ah x.r) (aa x.r)))).1) (aw 1))) (ae (aa x.p) (aa x.r))).2.1)) 25] ac wo := (h.pick [0, 1, 2, 3, 4, 5, 6, 7, 8, 9] (by decide)).sub ⟨rfl, rfl, trivial⟩
    revert h
    obtain ⟨b9, hb9⟩ : ∃ b, ξ 9 = ptr b 0 := hφ 9
    obtain ⟨b10, hb10⟩ : ∃ b, ξ 10 = ptr b 0 := hφ 10
    rw [hb9, hb10]; intro h
    clear hb9 hb10
    clear hφ ξ
    have hd : dS x = (aG (br (ae (ah x.p) (aa x.r)) (aF ((ay (ae (ae (aa x.p) (aa x.p)) (ae (ah x.r) (aa x.r)))).1) (aw 1))) (ae (aa x.p) (aa x.r))).1 := pt
    refine gz h <| (W) ?_; clear h ac wo; intro ac wo h
    exact ret h rfl (.cell (v := (vI ((aG (br (ae (ah x.p) (aa x.r)) (aF ((ay (ae (ae (aa x.p) (aa x.p)) (ae (ah x.r) (aa x.r)))).1) (aw 1))) (ae (aa x.p) (aa x.r))).1))) rfl (i := 1) rfl aa25 zz25 rfl rfl rfl .nil) rfl (h.retP (by rw [hd] <;> rfl) (by rw [hd]; exact (by rw [← hd]; exact ht.2)))
  ·
    have hq1 := hc1; try simp at hq1
    have c15 := eC (ae (ah x.p) (aa x.r)) ((ay (ae (ae (aa x.p) (aa x.p)) (ae (ah x.r) (aa x.r)))).1) 28 og (e6 s9 og) s8
    have s15 := an (c15 w0)
    refine gz h <| (xk (c15)) <| (W) ?_; clear h ac wo; intro ac wo h
    have c16 := bv (aa x.p) (aa x.r) 35 og s2 s4
    have s16 := an (c16 w0)
    have s17 := an ((eL (aF (ae (ah x.p) (aa x.r)) ((ay (ae (ae (aa x.p) (aa x.p)) (ae (ah x.r) (aa x.r)))).1)) (ae (aa x.p) (aa x.r)) 27 og s15 (e6 s16 og)) w0)
    replace h := h.emps 2
    refine fK mixed [⟨.det (vI (aF (ae (ah x.p) (aa x.r)) ((ay (ae (ae (aa x.p) (aa x.p)) (ae (ah x.r) (aa x.r)))).1))), [0]⟩, ⟨.det (vI (aa x.p)), [4]⟩, ⟨.det (vI (aa x.r)), [6]⟩, ⟨.det (vI (ae (aa x.p) (aa x.r))), []⟩, ⟨.det (.tuple #[(vI ((aG (aF (ae (ah x.p) (aa x.r)) ((ay (ae (ae (aa x.p) (aa x.p)) (ae (ah x.r) (aa x.r)))).1)) (ae (aa x.p) (aa x.r))).1)), (vI ((aG (aF (ae (ah x.p) (aa x.r)) ((ay (ae (ae (aa x.p) (aa x.p)) (ae (ah x.r) (aa x.r)))).1)) (ae (aa x.p) (aa x.r))).2.1)), (.int .i64 ((aG (aF (ae (ah x.p) (aa x.r)) ((ay (ae (ae (aa x.p) (aa x.p)) (ae (ah x.r) (aa x.r)))).1)) (ae (aa x.p) (aa x.r))).2.2))]), []⟩, ⟨.det (.tuple #[(vI ((aG (aF (ae (ah x.p) (aa x.r)) ((ay (ae (ae (aa x.p) (aa x.p)) (ae (ah x.r) (aa x.r)))).1)) (ae (aa x.p) (aa x.r))).1)), (vI ((aG (aF (ae (ah x.p) (aa x.r)) ((ay (ae (ae (aa x.p) (aa x.p)) (ae (ah x.r) (aa x.r)))).1)) (ae (aa x.p) (aa x.r))).2.1)), (.int .i64 ((aG (aF (ae (ah x.p) (aa x.r)) ((ay (ae (ae (aa x.p) (aa x.p)) (ae (ah x.r) (aa x.r)))).1)) (ae (aa x.p) (aa x.r))).2.2))]), []⟩, ⟨.det (vI ((aG (aF (ae (ah x.p) (aa x.r)) ((ay (ae (ae (aa x.p) (aa x.p)) (ae (ah x.r) (aa x.r)))).1)) (ae (aa x.p) (aa x.r))).1)), []⟩, ⟨.det (vI ((aG (aF (ae (ah x.p) (aa x.r)) ((ay (ae (ae (aa x.p) (aa x.p)) (ae (ah x.r) (aa x.r)))).1)) (ae (aa x.p) (aa x.r))).2.1)), []⟩, ⟨.det (.int .i64 ((aG (aF (ae (ah x.p) (aa x.r)) ((ay (ae (ae (aa x.p) (aa x.p)) (ae (ah x.r) (aa x.r)))).1)) (ae (aa x.p) (aa x.r))).2.2)), []⟩, ⟨.nd (.one 9 fun v => ∃ b, v = ptr b 0), [8]⟩, ⟨.nd (.one 10 fun v => ∃ b, v = ptr b 0), [9]⟩, ⟨.det undef, [8]⟩, ⟨.det undef, [9]⟩, ⟨.det (.int .i64 ((aG (aF (ae (ah x.p) (aa x.r)) ((ay (ae (ae (aa x.p) (aa x.p)) (ae (ah x.r) (aa x.r)))).1)) (ae (aa x.p) (aa x.r))).2.2)), []⟩] [⟨.blk b8 (cI (aF (ae (ah x.p) (aa x.r)) ((ay (ae (ae (aa x.p) (aa x.p)) (ae (ah x.r) (aa x.r)))).1))) 25, []⟩, ⟨.blk b2 (cI (⟨false, 0⟩ : GI)) 25, []⟩, ⟨.blk b1 (cR x) 71, []⟩, ⟨.blk b3 (cI (ah x.p)) 25, []⟩, ⟨.blk b4 (cI (aa x.p)) 25, []⟩, ⟨.blk b5 (cI (ah x.r)) 25, []⟩, ⟨.blk b6 (cI (aa x.r)) 25, []⟩, ⟨.blk b7 (cI ((ay (ae (ae (aa x.p) (aa x.p)) (ae (ah x.r) (aa x.r)))).1)) 25, []⟩, ⟨.emp, [(9, .one 9 fun v => .blk (bF v) (cI (⟨false, 0⟩ : GI)) 25), (11, .one 9 fun v => .blk (bF v) (cI ((aG (aF (ae (ah x.p) (aa x.r)) ((ay (ae (ae (aa x.p) (aa x.p)) (ae (ah x.r) (aa x.r)))).1)) (ae (aa x.p) (aa x.r))).1)) 25)]⟩, ⟨.emp, [(10, .one 10 fun v => .blk (bF v) (cI (⟨false, 0⟩ : GI)) 25), (12, .one 10 fun v => .blk (bF v) (cI ((aG (aF (ae (ah x.p) (aa x.r)) ((ay (ae (ae (aa x.p) (aa x.p)) (ae (ah x.r) (aa x.r)))).1)) (ae (aa x.p) (aa x.r))).2.1)) 25)]⟩] h rfl (by kernel_rfl) ⟨?_, ?_, ?_, ?_, ?_, ?_, ?_, ?_, ?_, ?_, ?_, ?_, ?_, ?_, trivial⟩ ?_
    · intro ξ hφ; exact g9 [.blk b8 (cI (aF (ae (ah x.p) (aa x.r)) ((ay (ae (ae (aa x.p) (aa x.p)) (ae (ah x.r) (aa x.r)))).1))) 25] rfl rfl (i0 aa25 zz25 rfl rfl rfl (v := (vI (aF (ae (ah x.p) (aa x.r)) ((ay (ae (ae (aa x.p) (aa x.p)) (ae (ah x.r) (aa x.r)))).1)))) rfl)
    · intro ξ hφ; exact g9 [.blk b4 (cI (aa x.p)) 25] rfl rfl (i0 aa25 zz25 rfl rfl rfl (v := (vI (aa x.p))) rfl)
    · intro ξ hφ; exact g9 [.blk b6 (cI (aa x.r)) 25] rfl rfl (i0 aa25 zz25 rfl rfl rfl (v := (vI (aa x.r))) rfl)
    · intro ξ hφ; exact iS (fO (cO cc97 rfl) (kk c16))
    · intro ξ hφ; exact iS (fO (cO Tryz.call253 rfl) (kk (eL (aF (ae (ah x.p) (aa x.r)) ((ay (ae (ae (aa x.p) (aa x.p)) (ae (ah x.r) (aa x.r)))).1)) (ae (aa x.p) (aa x.r)) 27 og s15 (e6 s16 og))))
    · intro ξ hφ; exact bm (aq rfl)
    · intro ξ hφ; exact bm (cm rfl rfl)
    · intro ξ hφ; exact bm (cm rfl rfl)
    · intro ξ hφ; exact bm (cm rfl rfl)
    · intro ξ hφ; exact ng (ψ := fun v => ∃ b, v = ptr b 0) (B := fun v => [.blk (bF v) (cI (⟨false, 0⟩ : GI)) 25]) [.emp] rfl (fun v _ => by simp only [cH, bB] <;> rfl) (fun v hv => by simpa [DF.one, bB] using hv) (ja (fE vv25 rfl))
    · intro ξ hφ; exact ng (ψ := fun v => ∃ b, v = ptr b 0) (B := fun v => [.blk (bF v) (cI (⟨false, 0⟩ : GI)) 25]) [.emp] rfl (fun v _ => by simp only [cH, bB] <;> rfl) (fun v hv => by simpa [DF.one, bB] using hv) (ja (fE vv25 rfl))
    · intro ξ hφ; obtain ⟨b11, hb9⟩ := hφ 9 rfl; exact jT [.blk b11 (cI (⟨false, 0⟩ : GI)) 25] [.blk b11 (cI ((aG (aF (ae (ah x.p) (aa x.r)) ((ay (ae (ae (aa x.p) (aa x.p)) (ae (ah x.r) (aa x.r)))).1)) (ae (aa x.p) (aa x.r))).1)) 25] (congrArg (fun v => [Asn.blk (bF v) (cI (⟨false, 0⟩ : GI)) 25]) hb9) (congrArg (fun v => [Asn.blk (bF v) (cI ((aG (aF (ae (ah x.p) (aa x.r)) ((ay (ae (ae (aa x.p) (aa x.p)) (ae (ah x.r) (aa x.r)))).1)) (ae (aa x.p) (aa x.r))).1)) 25]) hb9) (mb zz25 (Eq.trans rfl (congrArg some hb9)) rfl rfl rfl rfl rfl rfl)
    · intro ξ hφ; obtain ⟨b12, hb10⟩ := hφ 10 rfl; exact jT [.blk b12 (cI (⟨false, 0⟩ : GI)) 25] [.blk b12 (cI ((aG (aF (ae (ah x.p) (aa x.r)) ((ay (ae (ae (aa x.p) (aa x.p)) (ae (ah x.r) (aa x.r)))).1)) (ae (aa x.p) (aa x.r))).2.1)) 25] (congrArg (fun v => [Asn.blk (bF v) (cI (⟨false, 0⟩ : GI)) 25]) hb10) (congrArg (fun v => [Asn.blk (bF v) (cI ((aG (aF (ae (ah x.p) (aa x.r)) ((ay (ae (ae (aa x.p) (aa x.p)) (ae (ah x.r) (aa x.r)))).1)) (ae (aa x.p) (aa x.r))).2.1)) 25]) hb10) (mb zz25 (Eq.trans rfl (congrArg some hb10)) rfl rfl rfl rfl rfl rfl)
    · intro ξ hφ; exact bm (az rfl)
    clear h ac wo; intro ξ ac wo hφ h
    replace h : St w0 59 [(2, (ptr b2 0)), (10, ξ 9)] [.blk b8 (cI (aF (ae (ah x.p) (aa x.r)) ((ay (ae (ae (aa x.p) (aa x.p)) (ae (ah x.r) (aa x.r)))).1))) 25, .blk b2 (cI (⟨false, 0⟩ : GI)) 25, .blk b1 (cR x) 71, .blk b3 (cI (ah x.p)) 25, .blk b4 (cI (aa x.p)) 25, .blk b5 (cI (ah x.r)) 25, .blk b6 (cI (aa x.r)) 25, .blk b7 (cI ((ay (ae (ae (aa x.p) (aa x.p)) (ae (ah x.r) (aa x.r)))).1)) 25, .blk (bF (ξ 9)) (cI ((aG (aF (ae (ah x.p) (aa x.r)) ((ay (ae (ae (aa x.p) (aa x.p)) (ae (ah x.r) (aa x.r)))).1)) (ae (aa x.p) (aa x.r))).1)) 25, .blk (bF (ξ 10)) (cI ((aG (aF (ae (ah x.p) (aa x.r)) ((ay (ae (ae (aa x.p) (aa x.p)) (ae (ah x.r) (aa x.r)))).1)) (ae (aa x.p) (aa x.r))).2.1)) 25] ac wo := (h.pick [0, 1, 2, 3, 4, 5, 6, 7, 8, 9] (by decide)).sub ⟨rfl, rfl, trivial⟩
    revert h
    obtain ⟨b11, hb9⟩ : ∃ b, ξ 9 = ptr b 0 := hφ 9
    obtain ⟨b12, hb10⟩ : ∃ b, ξ 10 = ptr b 0 := hφ 10
    rw [hb9, hb10]; intro h
    clear hb9 hb10
    clear hφ ξ
    have hd : dS x = (aG (aF (ae (ah x.p) (aa x.r)) ((ay (ae (ae (aa x.p) (aa x.p)) (ae (ah x.r) (aa x.r)))).1)) (ae (aa x.p) (aa x.r))).1 := pt
    refine gz h <| (W) ?_; clear h ac wo; intro ac wo h
    exact ret h rfl (.cell (v := (vI ((aG (aF (ae (ah x.p) (aa x.r)) ((ay (ae (ae (aa x.p) (aa x.p)) (ae (ah x.r) (aa x.r)))).1)) (ae (aa x.p) (aa x.r))).1))) rfl (i := 1) rfl aa25 zz25 rfl rfl rfl .nil) rfl (h.retP (by rw [hd] <;> rfl) (by rw [hd]; exact (by rw [← hd]; exact ht.2)))
attribute [irreducible] dS
end Go.Sx
namespace Go.Sx
open Go Go.RowKit Go.Proofs
set_option maxRecDepth 100000
set_option maxHeartbeats 40000000
attribute [local irreducible] Code.wp wpList Rd Step ObS Ent
attribute [local irreducible] ar aO am au aA bG
attribute [local irreducible] aN aT ak ax aU aj ae aa a6 bL
theorem qN (num den : GI) (znum : SzI 36 num) (zden : SzI 36 den) (w0 : World) : Calls Tryz.prog 92 #[(vI num), (vI den)] w0 (dH w0 (.tuple #[(vQ ((ca num den).1)), (.int .i64 ((ca num den).2))]) (SzQ 35 ((ca num den).1))) := by
 refine enter (N := 13) (args := [(vI num), (vI den)]) Tryz.func92 rfl rfl ?_; intro ac h
 have p2 := an ((c8 den) w0)
 refine gz h <| (xb) fun b1 => (xb) fun b2 => (xa) fun b3 => (xk (c8 den)) <| (ai) ?_ ?_ <;> clear h ac <;> intro ac wo h hc1
 ·
  have hd : ca num den = (oQ, 6) := by unfold ca; rw [hc1]; rfl
  rw [hd]
  refine gz h <| (xo (hs := by exact bP lj exs rfl (v := (vQ oQ)) rfl)) <| (W) ?_; clear h ac wo; intro ac wo h
  exact rtc2 0 h (h.retP (u := .tuple #[vQ oQ, .int .i64 6]) rfl ⟨(cg 0 (by decide) og), (cg 0 (by decide) og)⟩)
 ·
  have c3 := dg num den 35 og znum zden
  have hd : ca num den = ((a6 num den), 0) := by unfold ca; rw [hc1]; rfl
  rw [hd]
  refine gz h <| (xk (c3)) <| (W) ?_; clear h ac wo; intro ac wo h
  exact rtc2 0 h (h.retP (u := .tuple #[vQ (a6 num den), .int .i64 0]) rfl (an (c3 w0)))
def bt (a b : GQ) : GQ × Int := ca (ae a.num (aa b)) (ae (aa a) b.num)
theorem lI (a b : GQ) (za : SzQ 37 a) (zb : SzQ 37 b) (w0 : World) : Calls Tryz.prog 189 #[vQ a, vQ b] w0 (dH w0 (.tuple #[vQ (bt a b).1, .int .i64 (bt a b).2]) (SzQ 35 (bt a b).1)) := by
 refine enter (N := 19) (args := [vQ a, vQ b]) Tryz.func189 rfl rfl ?_; intro ac h
 have s1 := an ((bp b 37 og zb) w0)
 have s2 := an ((bv a.num (aa b) 36 og za.1 s1) w0)
 have s3 := an ((bp a 37 og za) w0)
 have s4 := an ((bv (aa a) b.num 36 og s3 zb.1) w0)
 have s5 := an ((qN (ae a.num (aa b)) (ae (aa a) b.num) s2 s4) w0)
 refine gz h <| (xb) fun b1 => (xb) fun b2 => (xa) fun b3 => (dr1 (H := [⟨.blk b3 (cQ oQ) 27, [(13, .con (.blk b3 (cQ (ca (ae a.num (aa b)) (ae (aa a) b.num)).1) 27))]⟩, ⟨_, []⟩, ⟨_, []⟩]) (hob := (oK (bp b 37 og zb)) <| (oK (bv a.num (aa b) 36 og za.1 s1)) <| (oK (bp a 37 og za)) <| (oK (bv (aa a) b.num 36 og s3 zb.1)) <| (oK (qN (ae a.num (aa b)) (ae (aa a) b.num) s2 s4)) <| oE)) <| (W) ?_; clear h ac; intro ac wo h
 exact rtc2 0 h (h.retP (u := .tuple #[vQ (bt a b).1, .int .i64 (bt a b).2]) rfl s5)
attribute [irreducible] bt
def bJ (t v u w : GQ) : Qd × Int :=
 bif (bt (aj w v) (aj u t)).2 != 0 then (⟨oQ, oQ, oQ⟩, (bt (aj w v) (aj u t)).2)
 else (aM (aj v (ak (bt (aj w v) (aj u t)).1 t)) (bt (aj w v) (aj u t)).1, 0)
theorem eF (t v u w : GQ) (zt : SzQ 40 t) (zv : SzQ 40 v) (zu : SzQ 40 u) (zw : SzQ 40 w) (w0 : World) : Calls Tryz.prog 89 #[vQ t, vQ v, vQ u, vQ w] w0 (dH w0 (.tuple #[vD (bJ t v u w).1, .int .i64 (bJ t v u w).2]) (SzD 30 (bJ t v u w).1)) := by
 refine enter (N := 33) (args := [vQ t, vQ v, vQ u, vQ w]) Tryz.func89 rfl rfl ?_; intro ac h
 have c1 := bU w v 37 og zw zv
 have c2 := bU u t 37 og zu zt
 have c3 := lI (aj w v) (aj u t) (an (c1 w0)) (an (c2 w0))
 have s3 := an (c3 w0)
 have c4 := be (bt (aj w v) (aj u t)).1 t 33 og s3 (cv zt og)
 have s4 := an (c4 w0)
 have c5 := bU v (ak (bt (aj w v) (aj u t)).1 t) 30 og (cv zv og) s4
 have s5 := an (c5 w0)
 have c6 := ck (aj v (ak (bt (aj w v) (aj u t)).1 t)) (bt (aj w v) (aj u t)).1 30 og s5 (cv s3 og)
 have s6 := an (c6 w0)
 refine gz h <| (xb) fun b1 => (xb) fun b2 => (xb) fun b3 => (xb) fun b4 => (xa) fun b5 => (W) ?_; clear h ac; intro ac wo h
 replace h := h.emps 1
 refine fK mixed [dw _ [1], dw _ [3], dv _, dw _ [2], dw _ [4], dv _, dv _, dv _, dv _, dv _, ⟨.nd (.one 10 fun x => ∃ b, x = ptr b 0), [5]⟩, dw undef [5], dv _] [⟨_, []⟩, ⟨_, []⟩, ⟨_, []⟩, ⟨_, []⟩, ⟨_, []⟩, ⟨.emp, [(10, .one 10 fun x => .blk (bF x) (cQ oQ) 27), (11, .one 10 fun x => .blk (bF x) (cQ (bt (aj w v) (aj u t)).1) 27)]⟩] h rfl (by kernel_rfl) ⟨oA obA, oA obA, oA fun _ => iS (iE Tryz.call22 rfl c1), oA obA, oA obA, oA fun _ => iS (iE Tryz.call22 rfl c2), oA fun _ => iS (iE Tryz.call189 rfl c3), oA obA, oA obA, oA obA, fun _ _ => pU 5 rfl (fun _ => rfl), fun ξ hφ => pS (u := vQ (bt (aj w v) (aj u t)).1) 5 (hφ 10 rfl) rfl rfl rfl rfl rfl rfl rfl, oA obA, trivial⟩ ?_
 clear h ac wo; intro ξ ac wo hφ h
 obtain ⟨b6, hb6⟩ : ∃ b, ξ 10 = ptr b 0 := hφ 10
 replace h : St w0 33 [(4, ptr b1 0), (5, ptr b2 0), (6, ptr b3 0), (7, ptr b4 0), (8, ptr b5 0), (10, ξ 10), (11, .int .i64 (bt (aj w v) (aj u t)).2)] [.blk b5 (cD ⟨oQ, oQ, oQ⟩) 53, .blk b4 (cQ w) 27, .blk b3 (cQ u) 27, .blk b2 (cQ v) 27, .blk b1 (cQ t) 27, .blk (bF (ξ 10)) (cQ (bt (aj w v) (aj u t)).1) 27] ac wo := h.sub ⟨rfl, rfl, rfl, rfl, rfl, rfl, rfl, trivial⟩
 rw [hb6] at h
 clear hb6 hφ ξ
 refine gz h <| (ai) ?_ ?_ <;> clear h ac wo <;> intro ac wo h hc1
 ·
  have hd : bJ t v u w = (⟨oQ, oQ, oQ⟩, (bt (aj w v) (aj u t)).2) := by unfold bJ; rw [hc1]; rfl
  refine gz h <| (xo (hs := by exact bP rY exs rfl (v := vD ⟨oQ, oQ, oQ⟩) rfl)) <| (W) ?_; clear h ac wo; intro ac wo h
  rw [hd]; exact rtc2 0 h (h.retP (u := .tuple #[vD ⟨oQ, oQ, oQ⟩, .int .i64 (bt (aj w v) (aj u t)).2]) rfl ⟨⟨cg 0 (by decide) og, cg 0 (by decide) og⟩, ⟨cg 0 (by decide) og, cg 0 (by decide) og⟩, ⟨cg 0 (by decide) og, cg 0 (by decide) og⟩⟩)
 ·
  have hd : bJ t v u w = (aM (aj v (ak (bt (aj w v) (aj u t)).1 t)) (bt (aj w v) (aj u t)).1, 0) := by unfold bJ; rw [hc1]; rfl
  refine gz h <| (dr1 (H := [⟨.blk b5 (cD ⟨oQ, oQ, oQ⟩) 53, [(7, .con (.blk b5 (cD (aM (aj v (ak (bt (aj w v) (aj u t)).1 t)) (bt (aj w v) (aj u t)).1)) 53))]⟩, ⟨_, []⟩, ⟨_, []⟩, ⟨_, []⟩, ⟨_, []⟩, ⟨_, []⟩]) (hob := (oK c4) <| (oK c5) <| (oK c6) <| oE)) <| (W) ?_; clear h ac wo; intro ac wo h
  rw [hd]; exact rtc2 0 h (h.retP (u := .tuple #[vD (aM (aj v (ak (bt (aj w v) (aj u t)).1 t)) (bt (aj w v) (aj u t)).1), .int .i64 0]) rfl s6)
attribute [irreducible] bJ
def lnOf (x y : Qd) : Ln := ⟨x.c0, x.c1, y.c0, y.c1⟩
def dN (a b : Smp) : Ln := lnOf (bJ a.t a.p.x b.t b.p.x).1 (bJ a.t a.p.y b.t b.p.y).1
def StO (a b : Smp) : Prop := SzSm 40 a ∧ SzSm 40 b
theorem rj (a b : Smp) (z : StO a b) (w0 : World) : Calls Tryz.prog 90 #[vSm a, vSm b] w0 (dH w0 (vN (dN a b)) (SzN 30 (dN a b))) := by
 refine enter (N := 46) (args := [vSm a, vSm b]) Tryz.func90 rfl rfl ?_; intro ac h
 have c1 := eF a.t a.p.x b.t b.p.x z.1.1 z.1.2.1 z.2.1 z.2.2.1
 have s1 := an (c1 w0)
 have c2 := eF a.t a.p.y b.t b.p.y z.1.1 z.1.2.2 z.2.1 z.2.2.2
 have s2 := an (c2 w0)
 refine gz h <| (xb) fun b1 => (xb) fun b2 => (xa) fun b3 => (xk c1) <| (xa) fun b4 => (xk c2) <| (xa) fun b5 => (W) ?_; clear h ac; intro ac wo h
 exact rtc 2 h (h.retP (u := vN (dN a b)) rfl ⟨s1.1, s1.2.1, s2.1, s2.2.1⟩)
def kw (p : Pnt) : Ln := ⟨p.x, oQ, p.y, oQ⟩
def lxs (f : Ln) : Qd := aM f.x0 f.x1
def lys (f : Ln) : Qd := aM f.y0 f.y1
theorem lxs_ct (f : Ln) (k : Nat) (hk : k ≤ 40) (z : SzN k f) (w0 : World) : Calls Tryz.prog 102 #[vN f] w0 (dH w0 (vD (lxs f)) (SzD k (lxs f))) := by
 refine enter (N := 8) (args := [vN f]) Tryz.func102 rfl rfl ?_; intro ac h
 have c1 := ck f.x0 f.x1 k hk z.1 z.2.1
 refine gz h <| (xb) fun b1 => (xa) fun b2 => (xk c1) <| (W) ?_; clear h ac; intro ac wo h
 exact rtc 0 h (h.retP (u := vD (lxs f)) rfl (an (c1 w0)))
theorem lys_ct (f : Ln) (k : Nat) (hk : k ≤ 40) (z : SzN k f) (w0 : World) : Calls Tryz.prog 103 #[vN f] w0 (dH w0 (vD (lys f)) (SzD k (lys f))) := by
 refine enter (N := 8) (args := [vN f]) Tryz.func103 rfl rfl ?_; intro ac h
 have c1 := ck f.y0 f.y1 k hk z.2.2.1 z.2.2.2
 refine gz h <| (xb) fun b1 => (xa) fun b2 => (xk c1) <| (W) ?_; clear h ac; intro ac wo h
 exact rtc 0 h (h.retP (u := vD (lys f)) rfl (an (c1 w0)))
def fH (t x y : Int) : Smp := ⟨am t, ⟨am x, am y⟩⟩
end Go.Sx
namespace Go.Sx
theorem qY (q : GQ) : (ao q).p = q ∧ (ao q).r = zQ ∧ (ao q).neg = false := by unfold ao; exact ⟨rfl, rfl, rfl⟩
theorem fr_ok {q : GQ} (h : QOk q) : ROk (ao q) := by
  obtain ⟨e1, e2, e3⟩ := qY q
  unfold ROk
  rw [e1, e2, e3]
  exact ⟨h, it.1, Or.inl ⟨it.2, rfl⟩⟩
theorem fr_rv (q : GQ) (k : Nat) : rv (ao q) k = ba q := by
  obtain ⟨e1, e2, e3⟩ := qY q
  unfold rv
  rw [e1, e2, it.2, qC]; grind
theorem fr_cmp {p q : GQ} (hp : QOk p) (hq : QOk q) : ar (ao p) (ao q) = rsg (ba p - ba q) :=
  (lS (fr_ok hp) (fr_ok hq)).uniq ((Sg.const _).congr fun k => by rw [fr_rv, fr_rv])
def inZ (n : Nat) : GR := ao (am (n : Int))
theorem tC {n d : GI} (hn : IOk n) (hd : fb d ≠ 0) : QOk (ca n d).1 ∧ ba (ca n d).1 = (fb n : Rat) / (fb d : Rat) := by
  have h : (bL d == 0) = false := by
    rw [jG]
    simp
    exact hd
  have e : ca n d = (a6 n d, 0) := by unfold ca; rw [h]; rfl
  rw [e]
  exact nK hn hd
theorem div_ok {a b : GQ} (ha : QOk a) (hb : QOk b) (h : ba b ≠ 0) : QOk (bt a b).1 ∧ ba (bt a b).1 = ba a / ba b ∧ (bt a b).2 = 0 := by
  obtain ⟨da, _⟩ := iZ ha
  obtain ⟨db, _⟩ := iZ hb
  have pa := m8 ha
  have pb := m8 hb
  have hbn : fb b.num ≠ 0 := fun e => h (by unfold ba; rw [e]; grind)
  have hd : fb (ae (aa a) b.num) ≠ 0 := by
    rw [iY, da]
    refine Int.mul_ne_zero ?_ hbn
    have := ha.pos
    omega
  have h2 : (bL (ae (aa a) b.num) == 0) = false := by
    rw [jG]; simp; exact hd
  obtain ⟨o, v⟩ := tC (rb a.num (aa b)) hd
  unfold bt
  refine ⟨o, ?_, by unfold ca; rw [h2]; rfl⟩
  rw [v, iY, iY, da, db]
  have hb2 : (fb b.num : Rat) ≠ 0 := fun e => hbn (by exact_mod_cast e)
  unfold ba
  push_cast
  grind
theorem mK {t v u w : GQ} (ht : QOk t) (hv : QOk v) (hu : QOk u) (hw : QOk w) (h : ba t ≠ ba u) :
    ∃ c s, (bJ t v u w).1 = aM c s ∧ QOk c ∧ QOk s ∧ ba s = (ba w - ba v) / (ba u - ba t) ∧ ba c = ba v - (ba w - ba v) / (ba u - ba t) * ba t := by
  obtain ⟨a1, a2⟩ := fG hw hv
  obtain ⟨b1, b2⟩ := fG hu ht
  obtain ⟨d1, d2, d3⟩ := div_ok a1 b1 (by rw [b2]; grind)
  obtain ⟨m1, m2⟩ := fi d1 ht
  obtain ⟨c1, c2⟩ := fG hv m1
  refine ⟨_, _, ?_, c1, d1, by rw [d2, a2, b2], by rw [c2, m2, d2, a2, b2]⟩
  unfold bJ
  rw [d3]; rfl
theorem ku {a b : Smp} (ha : QOk a.t ∧ QOk a.p.x ∧ QOk a.p.y) (hb : QOk b.t ∧ QOk b.p.x ∧ QOk b.p.y) (h : ba a.t ≠ ba b.t) :
    LOk (dN a b) ∧ ba (dN a b).x1 = (ba b.p.x - ba a.p.x) / (ba b.t - ba a.t) ∧ ba (dN a b).x0 = ba a.p.x - (ba b.p.x - ba a.p.x) / (ba b.t - ba a.t) * ba a.t ∧
      ba (dN a b).y1 = (ba b.p.y - ba a.p.y) / (ba b.t - ba a.t) ∧ ba (dN a b).y0 = ba a.p.y - (ba b.p.y - ba a.p.y) / (ba b.t - ba a.t) * ba a.t := by
  obtain ⟨c, s, e1, k1, k2, k3, k4⟩ := mK ha.1 ha.2.1 hb.1 hb.2.1 h
  obtain ⟨c', s', e1', k1', k2', k3', k4'⟩ := mK ha.1 ha.2.2 hb.1 hb.2.2 h
  obtain ⟨_, l1, l2, _⟩ := iK k1 k2
  obtain ⟨_, l1', l2', _⟩ := iK k1' k2'
  unfold dN lnOf LOk
  rw [e1, e1']
  simp only [l1, l2, l1', l2']
  exact ⟨⟨k1, k2, k1', k2'⟩, k3, k4, k3', k4'⟩
theorem ll (t x y : Int) : (QOk (fH t x y).t ∧ QOk (fH t x y).p.x ∧ QOk (fH t x y).p.y) ∧ ba (fH t x y).t = (t : Rat) ∧ ba (fH t x y).p.x = (x : Rat) ∧ ba (fH t x y).p.y = (y : Rat) := by
  unfold fH
  exact ⟨⟨(cM t).1, (cM x).1, (cM y).1⟩, (cM t).2, (cM x).2, (cM y).2⟩
structure Stq where
  time : Nat
  x : Nat
  y : Nat
  kind : Nat
  deriving DecidableEq
instance yC4_1 : Inhabited Stq := ⟨⟨0, 0, 0, 0⟩⟩
section
variable [K : Key]
class KeyZ : Prop where
  z : ∀ n, n ≤ 64 → Tm (inZ n)
variable [KeyZ]
omit [KeyZ] in
omit [KeyZ] in
end
end Go.Sx
namespace Go.Sx
open Go Go.RowKit Go.Proofs
set_option maxRecDepth 100000
set_option maxHeartbeats 40000000
attribute [local irreducible] Code.wp wpList Rd Step ObS Ent
attribute [local irreducible] ar aO am au aA bG
theorem j7 (t x y : Int) (k : Nat) (hk : k ≤ 40) (ht : -9223372036854775808 ≤ t ∧ t ≤ 9223372036854775807) (hx : -9223372036854775808 ≤ x ∧ x ≤ 9223372036854775807) (hy : -9223372036854775808 ≤ y ∧ y ≤ 9223372036854775807) (w0 : World) : Calls Tryz.prog 15 #[.int .i64 t, .int .i64 x, .int .i64 y] w0 (dH w0 (vSm (fH t x y)) (SzSm k (fH t x y))) := by
 refine enter (N := 15) (args := [.int .i64 t, .int .i64 x, .int .i64 y]) Tryz.func15 rfl rfl ?_; intro ac h
 have c1 := bV t k hk ht
 have c2 := bV x k hk hx
 have c3 := bV y k hk hy
 refine gz h <| (xa) fun b1 => (xk c1) <| (xk c2) <| (xk c3) <| (W) ?_; clear h ac; intro ac wo h
 exact rtc 0 h (h.retP (u := vSm (fH t x y)) rfl ⟨an (c1 w0), an (c2 w0), an (c3 w0)⟩)
def exampleS : List Smp := [fH 0 0 0, fH 2 4 0, fH 4 4 6]
theorem rO (w0 : World) : Calls Tryz.prog 83 #[] w0 (RetR w0 31 exampleS True) := by
 refine enter (N := 5) (args := []) Tryz.func83 rfl rfl ?_; intro ac h
 refine gz h <| (xk (j7 0 0 0 40 (by omega) (by omega) (by omega) (by omega))) <| (xk (j7 2 4 0 40 (by omega) (by omega) (by omega) (by omega))) <| (xk (j7 4 4 6 40 (by omega) (by omega) (by omega) (by omega))) <| (W) ?_; clear h ac; intro ac wo h
 refine nw h (cA (α := Smp) (xs := [.tmp 1, .tmp 2, .tmp 3]) (vs := [vSm (fH 0 0 0), vSm (fH 2 4 0), vSm (fH 4 4 6)]) exampleS slt23 rfl rfl rfl (by decide)) rfl ?_; clear h ac wo; intro s1 ac wo _ h
 refine gz h <| (W) ?_; clear h ac wo; intro ac wo h
 exact (rt h) (h.retR 0 rfl trivial)
def bN (a : GI) : Int := if a.neg then -(a.mag : Int) else a.mag
theorem i4 (a : GI) (hm : a.mag < 4611686018427387904) (w0 : World) : Calls Tryz.prog 186 #[vI a] w0 (dH w0 (.tuple #[.int .i64 (bN a), .bool true]) True) := by
 refine enter (N := 35) (args := [vI a]) Tryz.func186 rfl rfl ?_; intro ac h
 have e : cY a.mag = (a.mag, true) := by rw [mN, if_pos (by omega)]
 have c1 : ∀ w0, Calls Tryz.prog 249 #[(.string (bs a.mag))] w0 (dH w0 (.tuple #[(.int .u64 (a.mag : Int)), (.bool true)]) True) := fun w0 => by
  have := ic a.mag w0
  rw [e] at this; exact this
 refine gz h <| (xb) fun b1 => (xk c1) <| (ai) ?_ ?_ <;> clear h ac <;> intro ac wo h hc1
 · cases hc1
 refine gz h <| (ai) ?_ ?_ <;> clear h ac wo <;> intro ac wo h hc2
 ·
  obtain ⟨h1, h2⟩ := Bool.and_eq_true_iff.mp hc2
  have e3 : bN a = -(a.mag : Int) := by unfold bN; rw [if_pos h1]
  rw [e3]
  refine gz h <| (xo (hs := by exact r_neg rfl (r := IntKind.u64.wrap (-(a.mag : Int))) rfl)) <| (xo (hs := by exact aV uu254 uu3 rfl (r := -(a.mag : Int)) (by rw [IntKind.wrap_u64, IntKind.wrap_i64]; omega))) <| (W) ?_; clear h ac wo; intro ac wo h
  exact (rt h) (h.retP rfl trivial)
 ·
  have h1 : a.neg = false := by
   have : decide ((a.mag : Int) ≤ 9223372036854775808) = true := decide_eq_true (by omega)
   rw [this, Bool.and_true] at hc2; exact hc2
  have e3 : bN a = (a.mag : Int) := by unfold bN; rw [h1]; rfl
  rw [e3]
  refine gz h <| (ai) ?_ ?_ <;> clear h ac wo <;> intro ac wo h hc3
  · refine gz h <| (xo (hs := by exact aV uu254 uu3 rfl (r := (a.mag : Int)) (by rw [IntKind.wrap_i64]; omega))) <| (W) ?_; clear h ac wo; intro ac wo h
    exact (rt h) (h.retP rfl trivial)
  · have : decide ((a.mag : Int) ≤ 9223372036854775807) = true := decide_eq_true (by omega)
    rw [this, h1] at hc3; cases hc3
def eP (x : GR) : GR := ⟨aU x.p, x.r, !decide (x.r = oQ) && !x.neg⟩
theorem pJ (x : GR) (k : Nat) (hk : k ≤ 40) (z : SzR k x) (w0 : World) : Calls Tryz.prog 254 #[vR x] w0 (dH w0 (vR (eP x)) (SzR k (eP x))) := by
 refine enter (N := 18) (args := [vR x]) Tryz.func254 rfl rfl ?_; intro ac h
 have c1 := d4 x.p k hk z.1
 refine gz h <| (xb) fun b1 => (xa) fun b2 => (dr1 (H := [⟨.blk b2 (cR ⟨oQ, oQ, false⟩) 71, [(15, .con (.blk b2 (cR ⟨aU x.p, x.r, !decide (x.r = oQ) && !x.neg⟩) 71))]⟩, ⟨_, []⟩]) (hob := (oK c1) <| (oX (h := by exact fun _ => bm (bP lj exs rfl (v := vQ oQ) rfl))) <| (oX (h := by exact fun _ => bm (bP rX exs rfl (v := vR ⟨aU x.p, x.r, !decide (x.r = oQ) && !x.neg⟩) rfl))) <| oE)) <| (W) ?_; clear h ac; intro ac wo h
 exact rtc 0 h (h.retP (u := vR (eP x)) rfl ⟨an (c1 w0), z.2⟩)
attribute [irreducible] eP
def fI (x : GR) : GI := ap (dS (eP x))
def Sm (r : GQ) : Prop := r.num.mag < 4 ∧ r.den = ⟨false, 0⟩
def eV (p q r : GQ) : GR × Int :=
 bif decide (au r < 0) then (⟨oQ, oQ, false⟩, 2)
 else bif (cw r).2 then (⟨ax p (ak q (cw r).1), oQ, false⟩, 0)
 else (⟨p, ak (ak q q) r, decide (au q < 0)⟩, 0)
theorem oe (p q r : GQ) (k : Nat) (hk : k ≤ 10) (zp : SzQ (k + 6) p) (zq : SzQ (k + 6) q) (zr : SzQ (k + 6) r) (hr : Sm r) (z3 : SzQ 30 r) (w0 : World) : Calls Tryz.prog 143 #[vQ p, vQ q, vQ r] w0 (dH w0 (.tuple #[vR (eV p q r).1, .int .i64 (eV p q r).2]) (SzR k (eV p q r).1)) := by
 refine enter (N := 36) (args := [vQ p, vQ q, vQ r]) Tryz.func143 rfl rfl ?_; intro ac h
 have c1 := ce r
 have s1 := an (c1 w0)
 have c2 := k9 r hr z3
 have s2 := an (c2 w0)
 refine gz h <| (xb) fun b1 => (xb) fun b2 => (xb) fun b3 => (xa) fun b4 => (xk c1) <| (ai) ?_ ?_ <;> clear h ac <;> intro ac wo h hc1
 ·
  have hd : eV p q r = (⟨oQ, oQ, false⟩, 2) := by unfold eV; rw [hc1]; rfl
  rw [hd]
  refine gz h <| (xo (hs := by exact bP rX exs rfl (v := vR ⟨oQ, oQ, false⟩) rfl)) <| (W) ?_; clear h ac wo; intro ac wo h
  exact rtc2 0 h (h.retP (u := .tuple #[vR ⟨oQ, oQ, false⟩, .int .i64 2]) rfl ⟨⟨cg 0 (by decide) og, cg 0 (by decide) og⟩, ⟨cg 0 (by decide) og, cg 0 (by decide) og⟩⟩)
 ·
  refine gz h <| (xk c2) <| (xa) fun b5 => (ai) ?_ ?_ <;> clear h ac wo <;> intro ac wo h hc2
  ·
   have hd : eV p q r = (⟨ax p (ak q (cw r).1), oQ, false⟩, 0) := by unfold eV; rw [hc1, hc2]; rfl
   rw [hd]
   have c3 := be q (cw r).1 (k + 4) og zq (cv s2 og)
   have s3 := an (c3 w0)
   have c4 := bM p (ak q (cw r).1) (k + 1) og (cv zp og) s3
   have s4 := an (c4 w0)
   refine gz h <| (dr1 (H := [⟨_, []⟩, ⟨.blk b4 (cR ⟨oQ, oQ, false⟩) 71, [(6, .con (.blk b4 (cR ⟨ax p (ak q (cw r).1), oQ, false⟩) 71))]⟩, ⟨_, []⟩, ⟨_, []⟩, ⟨_, []⟩]) (hob := (oK c3) <| (oK c4) <| (oX (h := by exact fun _ => bm (bP rX exs rfl (v := vR ⟨ax p (ak q (cw r).1), oQ, false⟩) rfl))) <| oE)) <| (W) ?_; clear h ac wo; intro ac wo h
   exact rtc2 1 h (h.retP (u := .tuple #[vR ⟨ax p (ak q (cw r).1), oQ, false⟩, .int .i64 0]) rfl ⟨cv s4 og, ⟨cg 0 (by decide) og, cg 0 (by decide) og⟩⟩)
  ·
   have hd : eV p q r = (⟨p, ak (ak q q) r, decide (au q < 0)⟩, 0) := by unfold eV; rw [hc1, hc2]; rfl
   rw [hd]
   have c3 := be q q (k + 4) og zq zq
   have s3 := an (c3 w0)
   have c4 := be (ak q q) r (k + 2) og s3 (cv zr og)
   have s4 := an (c4 w0)
   have c5 := ce q
   refine gz h <| (dr1 (H := [⟨_, []⟩, ⟨.blk b4 (cR ⟨oQ, oQ, false⟩) 71, [(10, .con (.blk b4 (cR ⟨p, ak (ak q q) r, decide (au q < 0)⟩) 71))]⟩, ⟨_, []⟩, ⟨_, []⟩, ⟨_, []⟩]) (hob := (oK c3) <| (oK c4) <| (oK c5) <| (oX (h := by exact fun _ => bm (bP rX exs rfl (v := vR ⟨p, ak (ak q q) r, decide (au q < 0)⟩) rfl))) <| oE)) <| (W) ?_; clear h ac wo; intro ac wo h
   exact rtc2 1 h (h.retP (u := .tuple #[vR ⟨p, ak (ak q q) r, decide (au q < 0)⟩, .int .i64 0]) rfl ⟨cv zp og, cv s4 og⟩)
attribute [irreducible] eV
theorem oi (x : GR) (hf : ∀ w0, Calls Tryz.prog 187 #[vR (eP x)] w0 (dH w0 (vI (dS (eP x))) (SzI 40 (dS (eP x))))) (z : SzR 36 x) (w0 : World) : Calls Tryz.prog 188 #[vR x] w0 (dH w0 (vI (fI x)) (SzI 40 (fI x))) := by
 refine enter (N := 7) (args := [vR x]) Tryz.func188 rfl rfl ?_; intro ac h
 have c1 := pJ x 36 og z
 have c3 := di (dS (eP x)) 40 og (an (hf w0))
 refine gz h <| (xb) fun b1 => (xa) fun b2 => (xk c1) <| (xk hf) <| (xk c3) <| (W) ?_; clear h ac; intro ac wo h
 exact rtc 0 h (h.retP (u := vI (fI x)) rfl (an (c3 w0)))
end Go.Sx
namespace Go.Sx
def kB [K : Key] (b : Bd) : Nat := 2 * tk b.at_ + (bif b.behind then 1 else 0)
theorem bb (b : Bool) : (bif b then 1 else 0 : Nat) ≤ 1 := by cases b <;> decide
theorem kB_inj [K : Key] {a b : Bd} (ha : Tm a.at_) (hb : Tm b.at_) (h : kB a = kB b) : a = b := by
  unfold kB at h
  have h1 := bb a.behind
  have h2 := bb b.behind
  have e : tk a.at_ = tk b.at_ := by omega
  have e2 := (ha.inj hb).1 e
  have e3 : a.behind = b.behind := by
    rw [e] at h
    cases ha : a.behind <;> cases hb : b.behind <;> rw [ha, hb] at h <;> simp at h <;> rfl
  obtain ⟨x, y⟩ := a
  obtain ⟨z, w⟩ := b
  simp only at e2 e3
  rw [e2, e3]
theorem pf (i : Iv) : cu i = ⟨i.lo, i.openLo⟩ := by unfold cu; rfl
theorem pl (i : Iv) : cf i = ⟨i.hi, !i.openHi⟩ := by unfold cf; rfl
theorem kB_first [K : Key] (i : Iv) : kB (cu i) = d8 i := by rw [pf]; rfl
theorem kB_last [K : Key] (i : Iv) : (kB (cf i) : Int) = dU i + 1 := by
  unfold kB cf dU
  simp only
  cases i.openHi <;> simp <;> omega
theorem Wv.bd [K : Key] {i : Iv} (h : Wv i) : kB (cu i) < kB (cf i) := by
  have h1 := h.le
  have h2 := kB_last i
  rw [kB_first]; omega
theorem iv_ext [K : Key] {i j : Iv} (hi : Tv i) (hj : Tv j) (h1 : kB (cu i) = kB (cu j)) (h2 : kB (cf i) = kB (cf j)) : i = j := by
  have e1 := kB_inj (a := cu i) (b := cu j) (by rw [pf]; exact hi.1) (by rw [pf]; exact hj.1) h1
  have e2 := kB_inj (a := cf i) (b := cf j) (by rw [pl]; exact hi.2) (by rw [pl]; exact hj.2) h2
  rw [pf, pf, Bd.mk.injEq] at e1
  rw [pl, pl, Bd.mk.injEq] at e2
  obtain ⟨lo, hi', ol, oh⟩ := i
  obtain ⟨lo2, hi2, ol2, oh2⟩ := j
  simp only at e1 e2
  obtain ⟨rfl, rfl⟩ := e1
  obtain ⟨rfl, e3⟩ := e2
  rw [show oh = oh2 by cases oh <;> cases oh2 <;> first | rfl | cases e3]
end Go.Sx
namespace Go.Sx
def inI [K : Key] (i : Iv) (x : Nat) : Prop := kB (cu i) ≤ x ∧ x < kB (cf i)
def inP [K : Key] (p : List Iv) (x : Nat) : Prop := ∃ i ∈ p, inI i x
structure Cn [K : Key] (p : List Iv) : Prop where
  wv : ∀ i ∈ p, Wv i
  sep : p.Pairwise fun i j => kB (cf i) < kB (cu j)
theorem tG [K : Key] (x : Nat) : ¬ inP [] x := fun ⟨_, h, _⟩ => by cases h
theorem fl [K : Key] {i : Iv} {p : List Iv} {x : Nat} : inP (i :: p) x ↔ inI i x ∨ inP p x := by
  constructor
  · rintro ⟨j, hj, h⟩
    rcases List.mem_cons.1 hj with rfl | hj
    · exact .inl h
    · exact .inr ⟨j, hj, h⟩
  · rintro (h | ⟨j, hj, h⟩)
    · exact ⟨i, List.mem_cons_self .., h⟩
    · exact ⟨j, List.mem_cons_of_mem _ hj, h⟩
theorem Cn.nil [K : Key] : Cn [] := ⟨fun _ h => (by cases h), List.Pairwise.nil⟩
theorem Cn.tail [K : Key] {i : Iv} {p : List Iv} (h : Cn (i :: p)) : Cn p ∧ (∀ j ∈ p, kB (cf i) < kB (cu j)) ∧ Wv i := by
  have h2 := List.pairwise_cons.1 h.sep
  exact ⟨⟨fun j hj => h.wv j (List.mem_cons_of_mem _ hj), h2.2⟩, h2.1, h.wv i (List.mem_cons_self ..)⟩
theorem Cn.behind [K : Key] {i : Iv} {p : List Iv} (h : Cn (i :: p)) {x : Nat} (hx : inP p x) : kB (cf i) < x := by
  obtain ⟨j, hj, h1, _⟩ := hx
  have := h.tail.2.1 j hj
  omega
theorem Cn.ext [K : Key] : ∀ {p q : List Iv}, Cn p → Cn q → (∀ x, inP p x ↔ inP q x) → p = q
  | [], [], _, _, _ => rfl
  | [], j :: q, _, hq, h => absurd ((h _).2 (fl.2 (.inl ⟨Nat.le_refl _, (hq.tail.2.2).bd⟩))) (tG _)
  | i :: p, [], hp, _, h => absurd ((h _).1 (fl.2 (.inl ⟨Nat.le_refl _, (hp.tail.2.2).bd⟩))) (tG _)
  | i :: p, j :: q, hp, hq, h => by
    have wi := hp.tail.2.2
    have wj := hq.tail.2.2
    have bi := wi.bd
    have bj := wj.bd
    have f1 : kB (cu j) ≤ kB (cu i) := by
      rcases fl.1 ((h _).1 (fl.2 (.inl ⟨Nat.le_refl _, bi⟩))) with h1 | h1
      · exact h1.1
      · have := hq.behind h1; omega
    have f2 : kB (cu i) ≤ kB (cu j) := by
      rcases fl.1 ((h _).2 (fl.2 (.inl ⟨Nat.le_refl _, bj⟩))) with h1 | h1
      · exact h1.1
      · have := hp.behind h1; omega
    have l1 : ¬ kB (cf i) < kB (cf j) := fun hl => by
      rcases fl.1 ((h (kB (cf i))).2 (fl.2 (.inl ⟨by omega, hl⟩))) with h1 | h1
      · have := h1.2; omega
      · have := hp.behind h1; omega
    have l2 : ¬ kB (cf j) < kB (cf i) := fun hl => by
      rcases fl.1 ((h (kB (cf j))).1 (fl.2 (.inl ⟨by omega, hl⟩))) with h1 | h1
      · have := h1.2; omega
      · have := hq.behind h1; omega
    have e : i = j := iv_ext wi.1 wj.1 (by omega) (by omega)
    subst e
    rw [Cn.ext hp.tail.1 hq.tail.1 fun x => ⟨fun hx => ?_, fun hx => ?_⟩]
    · rcases fl.1 ((h x).1 (fl.2 (.inr hx))) with h1 | h1
      · have := hp.behind hx; have := h1.2; omega
      · exact h1
    · rcases fl.1 ((h x).2 (fl.2 (.inr hx))) with h1 | h1
      · have := hq.behind hx; have := h1.2; omega
      · exact h1
def sm [K : Key] (c : Ev → Int) : List Ev → Nat → Int
  | [], _ => 0
  | e :: r, x => (if kB e.at_ ≤ x then c e else 0) + sm c r x
def rs (c : Ev → Int) : List Ev → Int
  | [] => 0
  | e :: r => c e + rs c r
variable {c : Ev → Int}
end Go.Sx
namespace Go.Sx
set_option maxRecDepth 100000
section
variable {a b : List Iv}
theorem wv_sz [K : Key] (h : ∀ i ∈ a, Wv i) : All (SzV 30) a := fun i hi => ⟨dY (tm_sz (h i hi).1.1) (by omega), dY (tm_sz (h i hi).1.2) (by omega)⟩
theorem Cn.sz [K : Key] (h : Cn a) : All (SzV 30) a := wv_sz h.wv
end
end Go.Sx
namespace Go.Sx
def qa (n : Nat) : GQ := (ca (aw (n : Int)) (aw 4)).1
def two : GQ := am 2
def gX (p : Nat) : GR := ⟨qa p, two, false⟩
section
variable [K : Key]
class KeyG (p q : Nat) : Prop where
  a : Tm (ao (qa p))
  b : Tm (ao (qa (p + q)))
  x : Tm (gX p)
omit K in
class KeyB : Prop where
  b : ∀ t, Tm t → Bq 100 t.p
variable [KeyZ] [KeyB]
omit [KeyZ] in
omit [KeyZ] in
end
end Go.Sx
