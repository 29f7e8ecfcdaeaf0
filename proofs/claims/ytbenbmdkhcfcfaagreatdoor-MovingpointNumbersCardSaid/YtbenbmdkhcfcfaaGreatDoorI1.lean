/- A part of the proof of movingpointNumbers. -/
import Derived.Test.YtbenbmdkhcfcfaaGreatDoorH9
set_option linter.unusedVariables false
set_option linter.unusedSimpArgs false
open Go.Proofs.Tryz renaming isAgg25 → aa25, sizeOf25 → zz25, runUnderlying71 → uu71, sizeOf27 → zz27, isAgg27 → aa27, zeroValue25 → vv25, call97 → cc97
namespace Go.Sx
open Go Go.RowKit Go.Proofs
set_option maxRecDepth 100000
set_option maxHeartbeats 40000000
attribute [local irreducible] Code.wp wpList Rd Step ObS Ent
attribute [local irreducible] ap aN ak au aA bO
def aj (a : GQ) : GI :=
 a.num
theorem k6 (a : GQ) (za : SzQ 36 a) (w0 : World)  : Calls Tryz.prog 250 #[(vQ a)] w0 (dI w0 (vI (aj a)) (SzI 36 (aj a))) := by
 refine enter (N := 5) (args := [(vQ a)]) Tryz.func250 rfl rfl ?_; intro ac h
 refine gz h <| (xb) fun b1 => (xa) fun b2 => (W) ?_; clear h ac; intro ac wo h
 exact ret h rfl (.cell (v := (vI a.num)) rfl (i := 0) rfl aa25 zz25 rfl rfl rfl .nil) rfl (h.retP (by unfold aj; rfl) (by unfold aj; exact za.1))
attribute [irreducible] aj
def bI (a : GI) (b : GI) : GI :=
 (aK a (aq b))
theorem lV (a : GI) (b : GI) (za : SzI 28 a) (zb : SzI 28 b) (w0 : World)  : Calls Tryz.prog 252 #[(vI a), (vI b)] w0 (dI w0 (vI (bI a b)) (SzI 26 (bI a b))) := by
  refine enter (N := 9) (args := [(vI a), (vI b)]) Tryz.func252 rfl rfl ?_; intro ac h
  refine gz h <| (xb) fun b1 => (xb) fun b2 => (xa) fun b3 => (W) ?_; clear h ac; intro ac wo h
  have c1 := d7 b 28 og zb
  have s1 := ao (c1 w0)
  have s2 := ao ((fI a (aq b) 27 og za s1) w0)
  refine gz h <| (dr1 (H := [⟨.blk b3 (cI (⟨false, 0⟩ : GI)) 25, [(4, .con (.blk b3 (cI (aK a (aq b))) 25))]⟩, ⟨.blk b2 (cI b) 25, []⟩, ⟨.blk b1 (cI a) 25, []⟩]) (hob := (oK (c1)) <| (oK (fI a (aq b) 27 og za s1)) <| oE)) <| (W) ?_; clear h ac wo; intro ac wo h
  exact ret h rfl (.cell (v := (vI (aK a (aq b)))) rfl (i := 0) rfl aa25 zz25 rfl rfl rfl .nil) rfl (h.retP (by unfold bI; rfl) (by unfold bI; exact (gh s2 og)))
attribute [irreducible] bI
def aC (a : GI) : GI × Int :=
 bif a.neg then
  ((⟨false, 0⟩ : GI), 2)
 else
  ((aH false (cw a.mag)), 0)
theorem lx (a : GI) (ha4 : a.mag < 4) (za : SzI 30 a) (w0 : World)  : Calls Tryz.prog 251 #[(vI a)] w0 (dI w0 (.tuple #[(vI ((aC a).1)), (.int .i64 ((aC a).2))]) (SzI 29 ((aC a).1))) := by
 refine enter (N := 11) (args := [(vI a)]) Tryz.func251 rfl rfl ?_; intro ac h
 refine gz h <| (xb) fun b1 => (xa) fun b2 => (ai) ?_ ?_ <;> clear h ac <;> intro ac wo h hc1
 ·
  have hq1 := hc1; try simp at hq1
  have hd : aC a = ((⟨false, 0⟩ : GI), 2) := pt
  refine gz h <| (xo (hs := by exact bA pj exs rfl (v := (vI (⟨false, 0⟩ : GI))) rfl)) <| (W) ?_; clear h ac wo; intro ac wo h
  exact ret h rfl (.cell (v := (vI (⟨false, 0⟩ : GI))) rfl (i := 0) rfl aa25 zz25 rfl rfl rfl (.tmp rfl .nil)) rfl (h.retP (by rw [hd] <;> rfl) (by rw [hd]; exact (df 0 (by decide) og)))
 ·
  have hq1 := hc1; try simp at hq1
  have c1 := tH a.mag ha4 za
  have s1 := Calls.pr (c1 w0)
  have c2 := bW false (cw a.mag) 29 og s1
  have s2 := ao (c2 w0)
  have hd : aC a = ((aH false (cw a.mag)), 0) := pt
  refine gz h <| (xk (c1)) <| (xk (c2)) <| (W) ?_; clear h ac wo; intro ac wo h
  exact ret h rfl (.cell (v := (vI (aH false (cw a.mag)))) rfl (i := 0) rfl aa25 zz25 rfl rfl rfl (.tmp rfl .nil)) rfl (h.retP (by rw [hd] <;> rfl) (by rw [hd]; exact s2))
attribute [irreducible] aC
def cK (num : GI) (den : GI) : GQ × Int :=
 bif ((cz den) == 0) then
  ((⟨(⟨false, 0⟩ : GI), (⟨false, 0⟩ : GI)⟩ : GQ), 6)
 else
  ((bo num den), 0)
attribute [irreducible] cK
def eR (x : GR) : GI :=
 bif x.neg then
  (aM (bI (ab (aj x.p) (aa x.r)) (aK ((aC (ab (ab (aa x.p) (aa x.p)) (ab (aj x.r) (aa x.r)))).1) (ay 1))) (ab (aa x.p) (aa x.r))).1
 else
  (aM (aK (ab (aj x.p) (aa x.r)) ((aC (ab (ab (aa x.p) (aa x.p)) (ab (aj x.r) (aa x.r)))).1)) (ab (aa x.p) (aa x.r))).1
theorem mn (x : GR) (ht : (ab (ab (aa x.p) (aa x.p)) (ab (aj x.r) (aa x.r))).mag < 4 ∧ SzI 40 (eR x)) (zx : SzR 36 x) (w0 : World)  : Calls Tryz.prog 187 #[(vR x)] w0 (dI w0 (vI (eR x)) (SzI 40 (eR x))) := by
  refine enter (N := 59) (args := [(vR x)]) Tryz.func187 rfl rfl ?_; intro ac h
  refine gz h <| (xb) fun b1 => (xa) fun b2 => (W) ?_; clear h ac; intro ac wo h
  have c1 := k6 x.p zx.1
  have s1 := Calls.pr (c1 w0)
  have s2 := ao ((bE x.p 36 og zx.1) w0)
  replace h := h.emps 2
  refine fo mixed [⟨.det (ptr b1 0), []⟩, ⟨.det (vQ x.p), [1]⟩, ⟨.det (vI (aj x.p)), []⟩, ⟨.det (ptr b1 0), []⟩, ⟨.det (vQ x.p), [1]⟩, ⟨.det (vI (aa x.p)), []⟩, ⟨.nd (.one 6 fun v => ∃ b, v = ptr b 0), [2]⟩, ⟨.nd (.one 7 fun v => ∃ b, v = ptr b 0), [3]⟩, ⟨.det undef, [2]⟩, ⟨.det undef, [3]⟩] [⟨.blk b2 (cI (⟨false, 0⟩ : GI)) 25, []⟩, ⟨.blk b1 (cR x) 71, []⟩, ⟨.emp, [(6, .one 6 fun v => .blk (bK v) (cI (⟨false, 0⟩ : GI)) 25), (8, .one 6 fun v => .blk (bK v) (cI (aj x.p)) 25)]⟩, ⟨.emp, [(7, .one 7 fun v => .blk (bK v) (cI (⟨false, 0⟩ : GI)) 25), (9, .one 7 fun v => .blk (bK v) (cI (aa x.p)) 25)]⟩] h rfl (by kernel_rfl) ⟨?_, ?_, ?_, ?_, ?_, ?_, ?_, ?_, ?_, ?_, trivial⟩ ?_
  · intro ξ hφ; exact bk (fa uu71 rfl zz27 rfl rfl rfl (k' := 0))
  · intro ξ hφ; exact iZ [.blk b1 (cR x) 71] rfl rfl (jW aa27 zz27 rfl rfl rfl (v := (vQ x.p)) rfl)
  · intro ξ hφ; exact g8 (fu (ch Tryz.call250 rfl) (kk c1))
  · intro ξ hφ; exact bk (fa uu71 rfl zz27 rfl rfl rfl (k' := 0))
  · intro ξ hφ; exact iZ [.blk b1 (cR x) 71] rfl rfl (jW aa27 zz27 rfl rfl rfl (v := (vQ x.p)) rfl)
  · intro ξ hφ; exact g8 (fu (ch Tryz.call98 rfl) (kk (bE x.p 36 og zx.1)))
  · intro ξ hφ; exact oU (ψ := fun v => ∃ b, v = ptr b 0) (B := fun v => [.blk (bK v) (cI (⟨false, 0⟩ : GI)) 25]) [.emp] rfl (fun v _ => by simp only [dx, bD] <;> rfl) (fun v hv => by simpa [DF.one, bD] using hv) (kz (gV vv25 rfl))
  · intro ξ hφ; exact oU (ψ := fun v => ∃ b, v = ptr b 0) (B := fun v => [.blk (bK v) (cI (⟨false, 0⟩ : GI)) 25]) [.emp] rfl (fun v _ => by simp only [dx, bD] <;> rfl) (fun v hv => by simpa [DF.one, bD] using hv) (kz (gV vv25 rfl))
  · intro ξ hφ; obtain ⟨b3, hb6⟩ := hφ 6 rfl; exact kW [.blk b3 (cI (⟨false, 0⟩ : GI)) 25] [.blk b3 (cI (aj x.p)) 25] (congrArg (fun v => [Asn.blk (bK v) (cI (⟨false, 0⟩ : GI)) 25]) hb6) (congrArg (fun v => [Asn.blk (bK v) (cI (aj x.p)) 25]) hb6) (oS zz25 (Eq.trans rfl (congrArg some hb6)) rfl rfl rfl rfl rfl rfl)
  · intro ξ hφ; obtain ⟨b4, hb7⟩ := hφ 7 rfl; exact kW [.blk b4 (cI (⟨false, 0⟩ : GI)) 25] [.blk b4 (cI (aa x.p)) 25] (congrArg (fun v => [Asn.blk (bK v) (cI (⟨false, 0⟩ : GI)) 25]) hb7) (congrArg (fun v => [Asn.blk (bK v) (cI (aa x.p)) 25]) hb7) (oS zz25 (Eq.trans rfl (congrArg some hb7)) rfl rfl rfl rfl rfl rfl)
  clear h ac wo; intro ξ ac wo hφ h
  replace h : St w0 59 [(1, (ptr b1 0)), (2, (ptr b2 0)), (3, ξ 6), (4, ξ 7)] [.blk b2 (cI (⟨false, 0⟩ : GI)) 25, .blk b1 (cR x) 71, .blk (bK (ξ 6)) (cI (aj x.p)) 25, .blk (bK (ξ 7)) (cI (aa x.p)) 25] ac wo := (h.pick [0, 1, 2, 3] (by decide)).sub ⟨rfl, rfl, rfl, rfl, trivial⟩
  revert h
  obtain ⟨b3, hb6⟩ : ∃ b, ξ 6 = ptr b 0 := hφ 6
  obtain ⟨b4, hb7⟩ : ∃ b, ξ 7 = ptr b 0 := hφ 7
  rw [hb6, hb7]; intro h
  clear hb6 hb7
  clear hφ ξ
  refine gz h <| (W) ?_; clear h ac wo; intro ac wo h
  have c3 := k6 x.r zx.2
  have s3 := Calls.pr (c3 w0)
  have s4 := ao ((bE x.r 36 og zx.2) w0)
  replace h := h.emps 2
  refine fo mixed [⟨.det (ptr b1 4), []⟩, ⟨.det (vQ x.r), [1]⟩, ⟨.det (vI (aj x.r)), []⟩, ⟨.det (ptr b1 4), []⟩, ⟨.det (vQ x.r), [1]⟩, ⟨.det (vI (aa x.r)), []⟩, ⟨.nd (.one 6 fun v => ∃ b, v = ptr b 0), [4]⟩, ⟨.nd (.one 7 fun v => ∃ b, v = ptr b 0), [5]⟩, ⟨.det undef, [4]⟩, ⟨.det undef, [5]⟩] [⟨.blk b2 (cI (⟨false, 0⟩ : GI)) 25, []⟩, ⟨.blk b1 (cR x) 71, []⟩, ⟨.blk b3 (cI (aj x.p)) 25, []⟩, ⟨.blk b4 (cI (aa x.p)) 25, []⟩, ⟨.emp, [(6, .one 6 fun v => .blk (bK v) (cI (⟨false, 0⟩ : GI)) 25), (8, .one 6 fun v => .blk (bK v) (cI (aj x.r)) 25)]⟩, ⟨.emp, [(7, .one 7 fun v => .blk (bK v) (cI (⟨false, 0⟩ : GI)) 25), (9, .one 7 fun v => .blk (bK v) (cI (aa x.r)) 25)]⟩] h rfl (by kernel_rfl) ⟨?_, ?_, ?_, ?_, ?_, ?_, ?_, ?_, ?_, ?_, trivial⟩ ?_
  · intro ξ hφ; exact bk (fa uu71 rfl zz27 rfl rfl rfl (k' := 4))
  · intro ξ hφ; exact iZ [.blk b1 (cR x) 71] rfl rfl (jW aa27 zz27 rfl rfl rfl (v := (vQ x.r)) rfl)
  · intro ξ hφ; exact g8 (fu (ch Tryz.call250 rfl) (kk c3))
  · intro ξ hφ; exact bk (fa uu71 rfl zz27 rfl rfl rfl (k' := 4))
  · intro ξ hφ; exact iZ [.blk b1 (cR x) 71] rfl rfl (jW aa27 zz27 rfl rfl rfl (v := (vQ x.r)) rfl)
  · intro ξ hφ; exact g8 (fu (ch Tryz.call98 rfl) (kk (bE x.r 36 og zx.2)))
  · intro ξ hφ; exact oU (ψ := fun v => ∃ b, v = ptr b 0) (B := fun v => [.blk (bK v) (cI (⟨false, 0⟩ : GI)) 25]) [.emp] rfl (fun v _ => by simp only [dx, bD] <;> rfl) (fun v hv => by simpa [DF.one, bD] using hv) (kz (gV vv25 rfl))
  · intro ξ hφ; exact oU (ψ := fun v => ∃ b, v = ptr b 0) (B := fun v => [.blk (bK v) (cI (⟨false, 0⟩ : GI)) 25]) [.emp] rfl (fun v _ => by simp only [dx, bD] <;> rfl) (fun v hv => by simpa [DF.one, bD] using hv) (kz (gV vv25 rfl))
  · intro ξ hφ; obtain ⟨b5, hb6⟩ := hφ 6 rfl; exact kW [.blk b5 (cI (⟨false, 0⟩ : GI)) 25] [.blk b5 (cI (aj x.r)) 25] (congrArg (fun v => [Asn.blk (bK v) (cI (⟨false, 0⟩ : GI)) 25]) hb6) (congrArg (fun v => [Asn.blk (bK v) (cI (aj x.r)) 25]) hb6) (oS zz25 (Eq.trans rfl (congrArg some hb6)) rfl rfl rfl rfl rfl rfl)
  · intro ξ hφ; obtain ⟨b6, hb7⟩ := hφ 7 rfl; exact kW [.blk b6 (cI (⟨false, 0⟩ : GI)) 25] [.blk b6 (cI (aa x.r)) 25] (congrArg (fun v => [Asn.blk (bK v) (cI (⟨false, 0⟩ : GI)) 25]) hb7) (congrArg (fun v => [Asn.blk (bK v) (cI (aa x.r)) 25]) hb7) (oS zz25 (Eq.trans rfl (congrArg some hb7)) rfl rfl rfl rfl rfl rfl)
  clear h ac wo; intro ξ ac wo hφ h
  replace h : St w0 59 [(1, (ptr b1 0)), (2, (ptr b2 0)), (3, (ptr b3 0)), (4, (ptr b4 0)), (5, ξ 6), (6, ξ 7)] [.blk b2 (cI (⟨false, 0⟩ : GI)) 25, .blk b1 (cR x) 71, .blk b3 (cI (aj x.p)) 25, .blk b4 (cI (aa x.p)) 25, .blk (bK (ξ 6)) (cI (aj x.r)) 25, .blk (bK (ξ 7)) (cI (aa x.r)) 25] ac wo := (h.pick [0, 1, 2, 3, 4, 5] (by decide)).sub ⟨rfl, rfl, rfl, rfl, rfl, rfl, trivial⟩
  revert h
  obtain ⟨b5, hb6⟩ : ∃ b, ξ 6 = ptr b 0 := hφ 6
  obtain ⟨b6, hb7⟩ : ∃ b, ξ 7 = ptr b 0 := hφ 7
  rw [hb6, hb7]; intro h
  clear hb6 hb7
  clear hφ ξ
  refine gz h <| (W) ?_; clear h ac wo; intro ac wo h
  have s5 := ao ((bM (aa x.p) (aa x.p) 35 og s2 s2) w0)
  have s6 := ao ((bM (aj x.r) (aa x.r) 35 og s3 s4) w0)
  have s7 := ao ((bM (ab (aa x.p) (aa x.p)) (ab (aj x.r) (aa x.r)) 34 og s5 s6) w0)
  have s8 := Calls.pr ((fun w_ hB_ hS_ => lx (ab (ab (aa x.p) (aa x.p)) (ab (aj x.r) (aa x.r))) (ht.1) (gh s7 og) w_ ) _ h.bel h.sep)
  replace h := h.emps 1
  refine fo mixed [⟨.det (vI (aa x.p)), [3]⟩, ⟨.det (vI (aa x.p)), [3]⟩, ⟨.det (vI (ab (aa x.p) (aa x.p))), []⟩, ⟨.det (vI (aj x.r)), [4]⟩, ⟨.det (vI (aa x.r)), [5]⟩, ⟨.det (vI (ab (aj x.r) (aa x.r))), []⟩, ⟨.det (vI (ab (ab (aa x.p) (aa x.p)) (ab (aj x.r) (aa x.r)))), []⟩, ⟨.det (.tuple #[(vI ((aC (ab (ab (aa x.p) (aa x.p)) (ab (aj x.r) (aa x.r)))).1)), (.int .i64 ((aC (ab (ab (aa x.p) (aa x.p)) (ab (aj x.r) (aa x.r)))).2))]), []⟩, ⟨.det (.tuple #[(vI ((aC (ab (ab (aa x.p) (aa x.p)) (ab (aj x.r) (aa x.r)))).1)), (.int .i64 ((aC (ab (ab (aa x.p) (aa x.p)) (ab (aj x.r) (aa x.r)))).2))]), []⟩, ⟨.det (vI ((aC (ab (ab (aa x.p) (aa x.p)) (ab (aj x.r) (aa x.r)))).1)), []⟩, ⟨.det (.int .i64 ((aC (ab (ab (aa x.p) (aa x.p)) (ab (aj x.r) (aa x.r)))).2)), []⟩, ⟨.nd (.one 11 fun v => ∃ b, v = ptr b 0), [6]⟩, ⟨.det undef, [6]⟩, ⟨.det (.int .i64 ((aC (ab (ab (aa x.p) (aa x.p)) (ab (aj x.r) (aa x.r)))).2)), []⟩] [⟨.blk b2 (cI (⟨false, 0⟩ : GI)) 25, []⟩, ⟨.blk b1 (cR x) 71, []⟩, ⟨.blk b3 (cI (aj x.p)) 25, []⟩, ⟨.blk b4 (cI (aa x.p)) 25, []⟩, ⟨.blk b5 (cI (aj x.r)) 25, []⟩, ⟨.blk b6 (cI (aa x.r)) 25, []⟩, ⟨.emp, [(11, .one 11 fun v => .blk (bK v) (cI (⟨false, 0⟩ : GI)) 25), (12, .one 11 fun v => .blk (bK v) (cI ((aC (ab (ab (aa x.p) (aa x.p)) (ab (aj x.r) (aa x.r)))).1)) 25)]⟩] h rfl (by kernel_rfl) ⟨?_, ?_, ?_, ?_, ?_, ?_, ?_, ?_, ?_, ?_, ?_, ?_, ?_, ?_, trivial⟩ ?_
  · intro ξ hφ; exact iZ [.blk b4 (cI (aa x.p)) 25] rfl rfl (jW aa25 zz25 rfl rfl rfl (v := (vI (aa x.p))) rfl)
  · intro ξ hφ; exact iZ [.blk b4 (cI (aa x.p)) 25] rfl rfl (jW aa25 zz25 rfl rfl rfl (v := (vI (aa x.p))) rfl)
  · intro ξ hφ; exact g8 (fu (vs := [(vI (aa x.p)), (vI (aa x.p))]) (ch cc97 rfl) (fun w_ hB_ hS_ => (bM (aa x.p) (aa x.p) 35 og s2 s2) w_))
  · intro ξ hφ; exact iZ [.blk b5 (cI (aj x.r)) 25] rfl rfl (jW aa25 zz25 rfl rfl rfl (v := (vI (aj x.r))) rfl)
  · intro ξ hφ; exact iZ [.blk b6 (cI (aa x.r)) 25] rfl rfl (jW aa25 zz25 rfl rfl rfl (v := (vI (aa x.r))) rfl)
  · intro ξ hφ; exact g8 (fu (ch cc97 rfl) (kk (bM (aj x.r) (aa x.r) 35 og s3 s4)))
  · intro ξ hφ; exact g8 (fu (ch cc97 rfl) (kk (bM (ab (aa x.p) (aa x.p)) (ab (aj x.r) (aa x.r)) 34 og s5 s6)))
  · intro ξ hφ; exact g8 (fu (ch Tryz.call251 rfl) (kk (lx (ab (ab (aa x.p) (aa x.p)) (ab (aj x.r) (aa x.r))) (ht.1) (gh s7 og))))
  · intro ξ hφ; exact bk (ax rfl)
  · intro ξ hφ; exact bk (dA rfl rfl)
  · intro ξ hφ; exact bk (dA rfl rfl)
  · intro ξ hφ; exact oU (ψ := fun v => ∃ b, v = ptr b 0) (B := fun v => [.blk (bK v) (cI (⟨false, 0⟩ : GI)) 25]) [.emp] rfl (fun v _ => by simp only [dx, bD] <;> rfl) (fun v hv => by simpa [DF.one, bD] using hv) (kz (gV vv25 rfl))
  · intro ξ hφ; obtain ⟨b7, hb11⟩ := hφ 11 rfl; exact kW [.blk b7 (cI (⟨false, 0⟩ : GI)) 25] [.blk b7 (cI ((aC (ab (ab (aa x.p) (aa x.p)) (ab (aj x.r) (aa x.r)))).1)) 25] (congrArg (fun v => [Asn.blk (bK v) (cI (⟨false, 0⟩ : GI)) 25]) hb11) (congrArg (fun v => [Asn.blk (bK v) (cI ((aC (ab (ab (aa x.p) (aa x.p)) (ab (aj x.r) (aa x.r)))).1)) 25]) hb11) (oS zz25 (Eq.trans rfl (congrArg some hb11)) rfl rfl rfl rfl rfl rfl)
  · intro ξ hφ; exact bk (aD rfl)
  clear h ac wo; intro ξ ac wo hφ h
  replace h : St w0 59 [(1, (ptr b1 0)), (2, (ptr b2 0)), (3, (ptr b3 0)), (4, (ptr b4 0)), (6, (ptr b6 0)), (7, ξ 11)] [.blk b2 (cI (⟨false, 0⟩ : GI)) 25, .blk b1 (cR x) 71, .blk b3 (cI (aj x.p)) 25, .blk b4 (cI (aa x.p)) 25, .blk b5 (cI (aj x.r)) 25, .blk b6 (cI (aa x.r)) 25, .blk (bK (ξ 11)) (cI ((aC (ab (ab (aa x.p) (aa x.p)) (ab (aj x.r) (aa x.r)))).1)) 25] ac wo := (h.pick [0, 1, 2, 3, 4, 5, 6] (by decide)).sub ⟨rfl, rfl, rfl, rfl, rfl, rfl, trivial⟩
  revert h
  obtain ⟨b7, hb11⟩ : ∃ b, ξ 11 = ptr b 0 := hφ 11
  rw [hb11]; intro h
  clear hb11
  clear hφ ξ
  have c9 := bM (aj x.p) (aa x.r) 35 og s1 s4
  have s9 := ao (c9 w0)
  refine gz h <| (xk (c9)) <| (xa) fun b8 => (ai) ?_ ?_ <;> clear h ac wo <;> intro ac wo h hc1
  ·
    have hq1 := hc1; try simp at hq1
    have s10 := ao ((eU 1 40 og  og) w0)
    have s11 := ao ((fI ((aC (ab (ab (aa x.p) (aa x.p)) (ab (aj x.r) (aa x.r)))).1) (ay 1) 28 og s8 (gh s10 og)) w0)
    have s12 := Calls.pr ((fun w_ hB_ hS_ => lV (ab (aj x.p) (aa x.r)) (aK ((aC (ab (ab (aa x.p) (aa x.p)) (ab (aj x.r) (aa x.r)))).1) (ay 1)) (gh s9 og) s11 w_ ) _ h.bel h.sep)
    refine gz h <| (dr1 (H := [⟨.blk b8 (cI (ab (aj x.p) (aa x.r))) 25, [(5, .con (.blk b8 (cI (bI (ab (aj x.p) (aa x.r)) (aK ((aC (ab (ab (aa x.p) (aa x.p)) (ab (aj x.r) (aa x.r)))).1) (ay 1)))) 25))]⟩, ⟨.blk b2 (cI (⟨false, 0⟩ : GI)) 25, []⟩, ⟨.blk b1 (cR x) 71, []⟩, ⟨.blk b3 (cI (aj x.p)) 25, []⟩, ⟨.blk b4 (cI (aa x.p)) 25, []⟩, ⟨.blk b5 (cI (aj x.r)) 25, []⟩, ⟨.blk b6 (cI (aa x.r)) 25, []⟩, ⟨.blk b7 (cI ((aC (ab (ab (aa x.p) (aa x.p)) (ab (aj x.r) (aa x.r)))).1)) 25, []⟩]) (hob := (oX (h := by exact fun _ => g8 (fu (vs := [(.int .i64 1)]) (ch Tryz.call93 rfl) (fun w_ hB_ hS_ => (eU 1 40 og  og) w_)))) <| (oK (fI ((aC (ab (ab (aa x.p) (aa x.p)) (ab (aj x.r) (aa x.r)))).1) (ay 1) 28 og s8 (gh s10 og))) <| (oK (lV (ab (aj x.p) (aa x.r)) (aK ((aC (ab (ab (aa x.p) (aa x.p)) (ab (aj x.r) (aa x.r)))).1) (ay 1)) (gh s9 og) s11)) <| oE)) <| (W) ?_; clear h ac wo; intro ac wo h
    have c13 := bM (aa x.p) (aa x.r) 35 og s2 s4
    have s13 := ao (c13 w0)
    have s14 := ao ((fX (bI (ab (aj x.p) (aa x.r)) (aK ((aC (ab (ab (aa x.p) (aa x.p)) (ab (aj x.r) (aa x.r)))).1) (ay 1))) (ab (aa x.p) (aa x.r)) 25 og s12 (gh s13 og)) w0)
    replace h := h.emps 2
    refine fo mixed [⟨.det (vI (bI (ab (aj x.p) (aa x.r)) (aK ((aC (ab (ab (aa x.p) (aa x.p)) (ab (aj x.r) (aa x.r)))).1) (ay 1)))), [0]⟩, ⟨.det (vI (aa x.p)), [4]⟩, ⟨.det (vI (aa x.r)), [6]⟩, ⟨.det (vI (ab (aa x.p) (aa x.r))), []⟩, ⟨.det (.tuple #[(vI ((aM (bI (ab (aj x.p) (aa x.r)) (aK ((aC (ab (ab (aa x.p) (aa x.p)) (ab (aj x.r) (aa x.r)))).1) (ay 1))) (ab (aa x.p) (aa x.r))).1)), (vI ((aM (bI (ab (aj x.p) (aa x.r)) (aK ((aC (ab (ab (aa x.p) (aa x.p)) (ab (aj x.r) (aa x.r)))).1) (ay 1))) (ab (aa x.p) (aa x.r))).2.1)), (.int .i64 ((aM (bI (ab (aj x.p) (aa x.r)) (aK ((aC (ab (ab (aa x.p) (aa x.p)) (ab (aj x.r) (aa x.r)))).1) (ay 1))) (ab (aa x.p) (aa x.r))).2.2))]), []⟩, ⟨.det (.tuple #[(vI ((aM (bI (ab (aj x.p) (aa x.r)) (aK ((aC (ab (ab (aa x.p) (aa x.p)) (ab (aj x.r) (aa x.r)))).1) (ay 1))) (ab (aa x.p) (aa x.r))).1)), (vI ((aM (bI (ab (aj x.p) (aa x.r)) (aK ((aC (ab (ab (aa x.p) (aa x.p)) (ab (aj x.r) (aa x.r)))).1) (ay 1))) (ab (aa x.p) (aa x.r))).2.1)), (.int .i64 ((aM (bI (ab (aj x.p) (aa x.r)) (aK ((aC (ab (ab (aa x.p) (aa x.p)) (ab (aj x.r) (aa x.r)))).1) (ay 1))) (ab (aa x.p) (aa x.r))).2.2))]), []⟩, ⟨.det (vI ((aM (bI (ab (aj x.p) (aa x.r)) (aK ((aC (ab (ab (aa x.p) (aa x.p)) (ab (aj x.r) (aa x.r)))).1) (ay 1))) (ab (aa x.p) (aa x.r))).1)), []⟩, ⟨.det (vI ((aM (bI (ab (aj x.p) (aa x.r)) (aK ((aC (ab (ab (aa x.p) (aa x.p)) (ab (aj x.r) (aa x.r)))).1) (ay 1))) (ab (aa x.p) (aa x.r))).2.1)), []⟩, ⟨.det (.int .i64 ((aM (bI (ab (aj x.p) (aa x.r)) (aK ((aC (ab (ab (aa x.p) (aa x.p)) (ab (aj x.r) (aa x.r)))).1) (ay 1))) (ab (aa x.p) (aa x.r))).2.2)), []⟩, ⟨.nd (.one 9 fun v => ∃ b, v = ptr b 0), [8]⟩, ⟨.nd (.one 10 fun v => ∃ b, v = ptr b 0), [9]⟩, ⟨.det undef, [8]⟩, ⟨.det undef, [9]⟩, ⟨.det (.int .i64 ((aM (bI (ab (aj x.p) (aa x.r)) (aK ((aC (ab (ab (aa x.p) (aa x.p)) (ab (aj x.r) (aa x.r)))).1) (ay 1))) (ab (aa x.p) (aa x.r))).2.2)), []⟩] [⟨.blk b8 (cI (bI (ab (aj x.p) (aa x.r)) (aK ((aC (ab (ab (aa x.p) (aa x.p)) (ab (aj x.r) (aa x.r)))).1) (ay 1)))) 25, []⟩, ⟨.blk b2 (cI (⟨false, 0⟩ : GI)) 25, []⟩, ⟨.blk b1 (cR x) 71, []⟩, ⟨.blk b3 (cI (aj x.p)) 25, []⟩, ⟨.blk b4 (cI (aa x.p)) 25, []⟩, ⟨.blk b5 (cI (aj x.r)) 25, []⟩, ⟨.blk b6 (cI (aa x.r)) 25, []⟩, ⟨.blk b7 (cI ((aC (ab (ab (aa x.p) (aa x.p)) (ab (aj x.r) (aa x.r)))).1)) 25, []⟩, ⟨.emp, [(9, .one 9 fun v => .blk (bK v) (cI (⟨false, 0⟩ : GI)) 25), (11, .one 9 fun v => .blk (bK v) (cI ((aM (bI (ab (aj x.p) (aa x.r)) (aK ((aC (ab (ab (aa x.p) (aa x.p)) (ab (aj x.r) (aa x.r)))).1) (ay 1))) (ab (aa x.p) (aa x.r))).1)) 25)]⟩, ⟨.emp, [(10, .one 10 fun v => .blk (bK v) (cI (⟨false, 0⟩ : GI)) 25), (12, .one 10 fun v => .blk (bK v) (cI ((aM (bI (ab (aj x.p) (aa x.r)) (aK ((aC (ab (ab (aa x.p) (aa x.p)) (ab (aj x.r) (aa x.r)))).1) (ay 1))) (ab (aa x.p) (aa x.r))).2.1)) 25)]⟩] h rfl (by kernel_rfl) ⟨?_, ?_, ?_, ?_, ?_, ?_, ?_, ?_, ?_, ?_, ?_, ?_, ?_, ?_, trivial⟩ ?_
    · intro ξ hφ; exact iZ [.blk b8 (cI (bI (ab (aj x.p) (aa x.r)) (aK ((aC (ab (ab (aa x.p) (aa x.p)) (ab (aj x.r) (aa x.r)))).1) (ay 1)))) 25] rfl rfl (jW aa25 zz25 rfl rfl rfl (v := (vI (bI (ab (aj x.p) (aa x.r)) (aK ((aC (ab (ab (aa x.p) (aa x.p)) (ab (aj x.r) (aa x.r)))).1) (ay 1))))) rfl)
    · intro ξ hφ; exact iZ [.blk b4 (cI (aa x.p)) 25] rfl rfl (jW aa25 zz25 rfl rfl rfl (v := (vI (aa x.p))) rfl)
    · intro ξ hφ; exact iZ [.blk b6 (cI (aa x.r)) 25] rfl rfl (jW aa25 zz25 rfl rfl rfl (v := (vI (aa x.r))) rfl)
    · intro ξ hφ; exact g8 (fu (ch cc97 rfl) (kk c13))
    · intro ξ hφ; exact g8 (fu (ch Tryz.call253 rfl) (kk (fX (bI (ab (aj x.p) (aa x.r)) (aK ((aC (ab (ab (aa x.p) (aa x.p)) (ab (aj x.r) (aa x.r)))).1) (ay 1))) (ab (aa x.p) (aa x.r)) 25 og s12 (gh s13 og))))
    · intro ξ hφ; exact bk (ax rfl)
    · intro ξ hφ; exact bk (dA rfl rfl)
    · intro ξ hφ; exact bk (dA rfl rfl)
    · intro ξ hφ; exact bk (dA rfl rfl)
    · intro ξ hφ; exact oU (ψ := fun v => ∃ b, v = ptr b 0) (B := fun v => [.blk (bK v) (cI (⟨false, 0⟩ : GI)) 25]) [.emp] rfl (fun v _ => by simp only [dx, bD] <;> rfl) (fun v hv => by simpa [DF.one, bD] using hv) (kz (gV vv25 rfl))
    · intro ξ hφ; exact oU (ψ := fun v => ∃ b, v = ptr b 0) (B := fun v => [.blk (bK v) (cI (⟨false, 0⟩ : GI)) 25]) [.emp] rfl (fun v _ => by simp only [dx, bD] <;> rfl) (fun v hv => by simpa [DF.one, bD] using hv) (kz (gV vv25 rfl))
    · intro ξ hφ; obtain ⟨b9, hb9⟩ := hφ 9 rfl; exact kW [.blk b9 (cI (⟨false, 0⟩ : GI)) 25] [.blk b9 (cI ((aM (bI (ab (aj x.p) (aa x.r)) (aK ((aC (ab (ab (aa x.p) (aa x.p)) (ab (aj x.r) (aa x.r)))).1) (ay 1))) (ab (aa x.p) (aa x.r))).1)) 25] (congrArg (fun v => [Asn.blk (bK v) (cI (⟨false, 0⟩ : GI)) 25]) hb9) (congrArg (fun v => [Asn.blk (bK v) (cI ((aM (bI (ab (aj x.p) (aa x.r)) (aK ((aC (ab (ab (aa x.p) (aa x.p)) (ab (aj x.r) (aa x.r)))).1) (ay 1))) (ab (aa x.p) (aa x.r))).1)) 25]) hb9) (oS zz25 (Eq.trans rfl (congrArg some hb9)) rfl rfl rfl rfl rfl rfl)
    · intro ξ hφ; obtain ⟨b10, hb10⟩ := hφ 10 rfl; exact kW [.blk b10 (cI (⟨false, 0⟩ : GI)) 25] [.blk b10 (cI ((aM (bI (ab (aj x.p) (aa x.r)) (aK ((aC (ab (ab (aa x.p) (aa x.p)) (ab (aj x.r) (aa x.r)))).1) (ay 1))) (ab (aa x.p) (aa x.r))).2.1)) 25] (congrArg (fun v => [Asn.blk (bK v) (cI (⟨false, 0⟩ : GI)) 25]) hb10) (congrArg (fun v => [Asn.blk (bK v) (cI ((aM (bI (ab (aj x.p) (aa x.r)) (aK ((aC (ab (ab (aa x.p) (aa x.p)) (ab (aj x.r) (aa x.r)))).1) (ay 1))) (ab (aa x.p) (aa x.r))).2.1)) 25]) hb10) (oS zz25 (Eq.trans rfl (congrArg some hb10)) rfl rfl rfl rfl rfl rfl)
    · intro ξ hφ; exact bk (aD rfl)
    clear h ac wo; intro ξ ac wo hφ h
    replace h : St w0 59 [(2, (ptr b2 0)), (10, ξ 9)] [.blk b8 (cI (bI (ab (aj x.p) (aa x.r)) (aK ((aC (ab (ab (aa x.p) (aa x.p)) (ab (aj x.r) (aa x.r)))).1) (ay 1)))) 25, .blk b2 (cI (⟨false, 0⟩ : GI)) 25, .blk b1 (cR x) 71, .blk b3 (cI (aj x.p)) 25, .blk b4 (cI (aa x.p)) 25, .blk b5 (cI (aj x.r)) 25, .blk b6 (cI (aa x.r)) 25, .blk b7 (cI ((aC (ab (ab (aa x.p) (aa x.p)) (ab (aj x.r) (aa x.r)))).1)) 25, .blk (bK (ξ 9)) (cI ((aM (bI (ab (aj x.p) (aa x.r)) (aK ((aC (ab (ab (aa x.p) (aa x.p)) (ab (aj x.r) (aa x.r)))).1) (ay 1))) (ab (aa x.p) (aa x.r))).1)) 25, .blk (bK (ξ 10)) (cI ((aM (bI (ab (aj x.p) (aa x.r)) (aK ((aC (ab (ab (aa x.p) (aa x.p)) (ab (aj x.r) (aa x.r)))).1) (ay 1))) (ab (aa x.p) (aa x.r))).2.1)) 25] ac wo := (h.pick [0, 1, 2, 3, 4, 5, 6, 7, 8, 9] (by decide)).sub ⟨rfl, rfl, trivial⟩
    revert h
    obtain ⟨b9, hb9⟩ : ∃ b, ξ 9 = ptr b 0 := hφ 9
    obtain ⟨b10, hb10⟩ : ∃ b, ξ 10 = ptr b 0 := hφ 10
    rw [hb9, hb10]; intro h
    clear hb9 hb10
    clear hφ ξ
    have hd : eR x = (aM (bI (ab (aj x.p) (aa x.r)) (aK ((aC (ab (ab (aa x.p) (aa x.p)) (ab (aj x.r) (aa x.r)))).1) (ay 1))) (ab (aa x.p) (aa x.r))).1 := pt
    refine gz h <| (W) ?_; clear h ac wo; intro ac wo h
    exact ret h rfl (.cell (v := (vI ((aM (bI (ab (aj x.p) (aa x.r)) (aK ((aC (ab (ab (aa x.p) (aa x.p)) (ab (aj x.r) (aa x.r)))).1) (ay 1))) (ab (aa x.p) (aa x.r))).1))) rfl (i := 1) rfl aa25 zz25 rfl rfl rfl .nil) rfl (h.retP (by rw [hd] <;> rfl) (by rw [hd]; exact (by rw [← hd]; exact ht.2)))
  ·
    have hq1 := hc1; try simp at hq1
    have c15 := fI (ab (aj x.p) (aa x.r)) ((aC (ab (ab (aa x.p) (aa x.p)) (ab (aj x.r) (aa x.r)))).1) 28 og (gh s9 og) s8
    have s15 := ao (c15 w0)
    refine gz h <| (xk (c15)) <| (W) ?_; clear h ac wo; intro ac wo h
    have c16 := bM (aa x.p) (aa x.r) 35 og s2 s4
    have s16 := ao (c16 w0)
    have s17 := ao ((fX (aK (ab (aj x.p) (aa x.r)) ((aC (ab (ab (aa x.p) (aa x.p)) (ab (aj x.r) (aa x.r)))).1)) (ab (aa x.p) (aa x.r)) 27 og s15 (gh s16 og)) w0)
    replace h := h.emps 2
    refine fo mixed [⟨.det (vI (aK (ab (aj x.p) (aa x.r)) ((aC (ab (ab (aa x.p) (aa x.p)) (ab (aj x.r) (aa x.r)))).1))), [0]⟩, ⟨.det (vI (aa x.p)), [4]⟩, ⟨.det (vI (aa x.r)), [6]⟩, ⟨.det (vI (ab (aa x.p) (aa x.r))), []⟩, ⟨.det (.tuple #[(vI ((aM (aK (ab (aj x.p) (aa x.r)) ((aC (ab (ab (aa x.p) (aa x.p)) (ab (aj x.r) (aa x.r)))).1)) (ab (aa x.p) (aa x.r))).1)), (vI ((aM (aK (ab (aj x.p) (aa x.r)) ((aC (ab (ab (aa x.p) (aa x.p)) (ab (aj x.r) (aa x.r)))).1)) (ab (aa x.p) (aa x.r))).2.1)), (.int .i64 ((aM (aK (ab (aj x.p) (aa x.r)) ((aC (ab (ab (aa x.p) (aa x.p)) (ab (aj x.r) (aa x.r)))).1)) (ab (aa x.p) (aa x.r))).2.2))]), []⟩, ⟨.det (.tuple #[(vI ((aM (aK (ab (aj x.p) (aa x.r)) ((aC (ab (ab (aa x.p) (aa x.p)) (ab (aj x.r) (aa x.r)))).1)) (ab (aa x.p) (aa x.r))).1)), (vI ((aM (aK (ab (aj x.p) (aa x.r)) ((aC (ab (ab (aa x.p) (aa x.p)) (ab (aj x.r) (aa x.r)))).1)) (ab (aa x.p) (aa x.r))).2.1)), (.int .i64 ((aM (aK (ab (aj x.p) (aa x.r)) ((aC (ab (ab (aa x.p) (aa x.p)) (ab (aj x.r) (aa x.r)))).1)) (ab (aa x.p) (aa x.r))).2.2))]), []⟩, ⟨.det (vI ((aM (aK (ab (aj x.p) (aa x.r)) ((aC (ab (ab (aa x.p) (aa x.p)) (ab (aj x.r) (aa x.r)))).1)) (ab (aa x.p) (aa x.r))).1)), []⟩, ⟨.det (vI ((aM (aK (ab (aj x.p) (aa x.r)) ((aC (ab (ab (aa x.p) (aa x.p)) (ab (aj x.r) (aa x.r)))).1)) (ab (aa x.p) (aa x.r))).2.1)), []⟩, ⟨.det (.int .i64 ((aM (aK (ab (aj x.p) (aa x.r)) ((aC (ab (ab (aa x.p) (aa x.p)) (ab (aj x.r) (aa x.r)))).1)) (ab (aa x.p) (aa x.r))).2.2)), []⟩, ⟨.nd (.one 9 fun v => ∃ b, v = ptr b 0), [8]⟩, ⟨.nd (.one 10 fun v => ∃ b, v = ptr b 0), [9]⟩, ⟨.det undef, [8]⟩, ⟨.det undef, [9]⟩, ⟨.det (.int .i64 ((aM (aK (ab (aj x.p) (aa x.r)) ((aC (ab (ab (aa x.p) (aa x.p)) (ab (aj x.r) (aa x.r)))).1)) (ab (aa x.p) (aa x.r))).2.2)), []⟩] [⟨.blk b8 (cI (aK (ab (aj x.p) (aa x.r)) ((aC (ab (ab (aa x.p) (aa x.p)) (ab (aj x.r) (aa x.r)))).1))) 25, []⟩, ⟨.blk b2 (cI (⟨false, 0⟩ : GI)) 25, []⟩, ⟨.blk b1 (cR x) 71, []⟩, ⟨.blk b3 (cI (aj x.p)) 25, []⟩, ⟨.blk b4 (cI (aa x.p)) 25, []⟩, ⟨.blk b5 (cI (aj x.r)) 25, []⟩, ⟨.blk b6 (cI (aa x.r)) 25, []⟩, ⟨.blk b7 (cI ((aC (ab (ab (aa x.p) (aa x.p)) (ab (aj x.r) (aa x.r)))).1)) 25, []⟩, ⟨.emp, [(9, .one 9 fun v => .blk (bK v) (cI (⟨false, 0⟩ : GI)) 25), (11, .one 9 fun v => .blk (bK v) (cI ((aM (aK (ab (aj x.p) (aa x.r)) ((aC (ab (ab (aa x.p) (aa x.p)) (ab (aj x.r) (aa x.r)))).1)) (ab (aa x.p) (aa x.r))).1)) 25)]⟩, ⟨.emp, [(10, .one 10 fun v => .blk (bK v) (cI (⟨false, 0⟩ : GI)) 25), (12, .one 10 fun v => .blk (bK v) (cI ((aM (aK (ab (aj x.p) (aa x.r)) ((aC (ab (ab (aa x.p) (aa x.p)) (ab (aj x.r) (aa x.r)))).1)) (ab (aa x.p) (aa x.r))).2.1)) 25)]⟩] h rfl (by kernel_rfl) ⟨?_, ?_, ?_, ?_, ?_, ?_, ?_, ?_, ?_, ?_, ?_, ?_, ?_, ?_, trivial⟩ ?_
    · intro ξ hφ; exact iZ [.blk b8 (cI (aK (ab (aj x.p) (aa x.r)) ((aC (ab (ab (aa x.p) (aa x.p)) (ab (aj x.r) (aa x.r)))).1))) 25] rfl rfl (jW aa25 zz25 rfl rfl rfl (v := (vI (aK (ab (aj x.p) (aa x.r)) ((aC (ab (ab (aa x.p) (aa x.p)) (ab (aj x.r) (aa x.r)))).1)))) rfl)
    · intro ξ hφ; exact iZ [.blk b4 (cI (aa x.p)) 25] rfl rfl (jW aa25 zz25 rfl rfl rfl (v := (vI (aa x.p))) rfl)
    · intro ξ hφ; exact iZ [.blk b6 (cI (aa x.r)) 25] rfl rfl (jW aa25 zz25 rfl rfl rfl (v := (vI (aa x.r))) rfl)
    · intro ξ hφ; exact g8 (fu (ch cc97 rfl) (kk c16))
    · intro ξ hφ; exact g8 (fu (ch Tryz.call253 rfl) (kk (fX (aK (ab (aj x.p) (aa x.r)) ((aC (ab (ab (aa x.p) (aa x.p)) (ab (aj x.r) (aa x.r)))).1)) (ab (aa x.p) (aa x.r)) 27 og s15 (gh s16 og))))
    · intro ξ hφ; exact bk (ax rfl)
    · intro ξ hφ; exact bk (dA rfl rfl)
    · intro ξ hφ; exact bk (dA rfl rfl)
    · intro ξ hφ; exact bk (dA rfl rfl)
    · intro ξ hφ; exact oU (ψ := fun v => ∃ b, v = ptr b 0) (B := fun v => [.blk (bK v) (cI (⟨false, 0⟩ : GI)) 25]) [.emp] rfl (fun v _ => by simp only [dx, bD] <;> rfl) (fun v hv => by simpa [DF.one, bD] using hv) (kz (gV vv25 rfl))
    · intro ξ hφ; exact oU (ψ := fun v => ∃ b, v = ptr b 0) (B := fun v => [.blk (bK v) (cI (⟨false, 0⟩ : GI)) 25]) [.emp] rfl (fun v _ => by simp only [dx, bD] <;> rfl) (fun v hv => by simpa [DF.one, bD] using hv) (kz (gV vv25 rfl))
    · intro ξ hφ; obtain ⟨b11, hb9⟩ := hφ 9 rfl; exact kW [.blk b11 (cI (⟨false, 0⟩ : GI)) 25] [.blk b11 (cI ((aM (aK (ab (aj x.p) (aa x.r)) ((aC (ab (ab (aa x.p) (aa x.p)) (ab (aj x.r) (aa x.r)))).1)) (ab (aa x.p) (aa x.r))).1)) 25] (congrArg (fun v => [Asn.blk (bK v) (cI (⟨false, 0⟩ : GI)) 25]) hb9) (congrArg (fun v => [Asn.blk (bK v) (cI ((aM (aK (ab (aj x.p) (aa x.r)) ((aC (ab (ab (aa x.p) (aa x.p)) (ab (aj x.r) (aa x.r)))).1)) (ab (aa x.p) (aa x.r))).1)) 25]) hb9) (oS zz25 (Eq.trans rfl (congrArg some hb9)) rfl rfl rfl rfl rfl rfl)
    · intro ξ hφ; obtain ⟨b12, hb10⟩ := hφ 10 rfl; exact kW [.blk b12 (cI (⟨false, 0⟩ : GI)) 25] [.blk b12 (cI ((aM (aK (ab (aj x.p) (aa x.r)) ((aC (ab (ab (aa x.p) (aa x.p)) (ab (aj x.r) (aa x.r)))).1)) (ab (aa x.p) (aa x.r))).2.1)) 25] (congrArg (fun v => [Asn.blk (bK v) (cI (⟨false, 0⟩ : GI)) 25]) hb10) (congrArg (fun v => [Asn.blk (bK v) (cI ((aM (aK (ab (aj x.p) (aa x.r)) ((aC (ab (ab (aa x.p) (aa x.p)) (ab (aj x.r) (aa x.r)))).1)) (ab (aa x.p) (aa x.r))).2.1)) 25]) hb10) (oS zz25 (Eq.trans rfl (congrArg some hb10)) rfl rfl rfl rfl rfl rfl)
    · intro ξ hφ; exact bk (aD rfl)
    clear h ac wo; intro ξ ac wo hφ h
    replace h : St w0 59 [(2, (ptr b2 0)), (10, ξ 9)] [.blk b8 (cI (aK (ab (aj x.p) (aa x.r)) ((aC (ab (ab (aa x.p) (aa x.p)) (ab (aj x.r) (aa x.r)))).1))) 25, .blk b2 (cI (⟨false, 0⟩ : GI)) 25, .blk b1 (cR x) 71, .blk b3 (cI (aj x.p)) 25, .blk b4 (cI (aa x.p)) 25, .blk b5 (cI (aj x.r)) 25, .blk b6 (cI (aa x.r)) 25, .blk b7 (cI ((aC (ab (ab (aa x.p) (aa x.p)) (ab (aj x.r) (aa x.r)))).1)) 25, .blk (bK (ξ 9)) (cI ((aM (aK (ab (aj x.p) (aa x.r)) ((aC (ab (ab (aa x.p) (aa x.p)) (ab (aj x.r) (aa x.r)))).1)) (ab (aa x.p) (aa x.r))).1)) 25, .blk (bK (ξ 10)) (cI ((aM (aK (ab (aj x.p) (aa x.r)) ((aC (ab (ab (aa x.p) (aa x.p)) (ab (aj x.r) (aa x.r)))).1)) (ab (aa x.p) (aa x.r))).2.1)) 25] ac wo := (h.pick [0, 1, 2, 3, 4, 5, 6, 7, 8, 9] (by decide)).sub ⟨rfl, rfl, trivial⟩
    revert h
    obtain ⟨b11, hb9⟩ : ∃ b, ξ 9 = ptr b 0 := hφ 9
    obtain ⟨b12, hb10⟩ : ∃ b, ξ 10 = ptr b 0 := hφ 10
    rw [hb9, hb10]; intro h
    clear hb9 hb10
    clear hφ ξ
    have hd : eR x = (aM (aK (ab (aj x.p) (aa x.r)) ((aC (ab (ab (aa x.p) (aa x.p)) (ab (aj x.r) (aa x.r)))).1)) (ab (aa x.p) (aa x.r))).1 := pt
    refine gz h <| (W) ?_; clear h ac wo; intro ac wo h
    exact ret h rfl (.cell (v := (vI ((aM (aK (ab (aj x.p) (aa x.r)) ((aC (ab (ab (aa x.p) (aa x.p)) (ab (aj x.r) (aa x.r)))).1)) (ab (aa x.p) (aa x.r))).1))) rfl (i := 1) rfl aa25 zz25 rfl rfl rfl .nil) rfl (h.retP (by rw [hd] <;> rfl) (by rw [hd]; exact (by rw [← hd]; exact ht.2)))
attribute [irreducible] eR
end Go.Sx
namespace Go.Sx
open Go Go.RowKit Go.Proofs
set_option maxRecDepth 100000
set_option maxHeartbeats 40000000
attribute [local irreducible] Code.wp wpList Rd Step ObS Ent
attribute [local irreducible] ap aN ak au aA bO
attribute [local irreducible] a8 aY an aE aZ am ab aa bo cz
theorem qu (num den : GI) (znum : SzI 36 num) (zden : SzI 36 den) (w0 : World) : Calls Tryz.prog 92 #[(vI num), (vI den)] w0 (dI w0 (.tuple #[(vQ ((cK num den).1)), (.int .i64 ((cK num den).2))]) (SzQ 35 ((cK num den).1))) := by
 refine enter (N := 13) (args := [(vI num), (vI den)]) Tryz.func92 rfl rfl ?_; intro ac h
 have p2 := ao ((dX den) w0)
 refine gz h <| (xb) fun b1 => (xb) fun b2 => (xa) fun b3 => (xk (dX den)) <| (ai) ?_ ?_ <;> clear h ac <;> intro ac wo h hc1
 ·
  have hd : cK num den = (oQ, 6) := by unfold cK; rw [hc1]; rfl
  rw [hd]
  refine gz h <| (xo (hs := by exact bA oF exs rfl (v := (vQ oQ)) rfl)) <| (W) ?_; clear h ac wo; intro ac wo h
  exact rtc2 0 h (h.retP (u := .tuple #[vQ oQ, .int .i64 6]) rfl ⟨(df 0 (by decide) og), (df 0 (by decide) og)⟩)
 ·
  have c3 := d6 num den 35 og znum zden
  have hd : cK num den = ((bo num den), 0) := by unfold cK; rw [hc1]; rfl
  rw [hd]
  refine gz h <| (xk (c3)) <| (W) ?_; clear h ac wo; intro ac wo h
  exact rtc2 0 h (h.retP (u := .tuple #[vQ (bo num den), .int .i64 0]) rfl (ao (c3 w0)))
def bJ (a b : GQ) : GQ × Int := cK (ab a.num (aa b)) (ab (aa a) b.num)
theorem nU (a b : GQ) (za : SzQ 37 a) (zb : SzQ 37 b) (w0 : World) : Calls Tryz.prog 189 #[vQ a, vQ b] w0 (dI w0 (.tuple #[vQ (bJ a b).1, .int .i64 (bJ a b).2]) (SzQ 35 (bJ a b).1)) := by
 refine enter (N := 19) (args := [vQ a, vQ b]) Tryz.func189 rfl rfl ?_; intro ac h
 have s1 := ao ((bE b 37 og zb) w0)
 have s2 := ao ((bM a.num (aa b) 36 og za.1 s1) w0)
 have s3 := ao ((bE a 37 og za) w0)
 have s4 := ao ((bM (aa a) b.num 36 og s3 zb.1) w0)
 have s5 := ao ((qu (ab a.num (aa b)) (ab (aa a) b.num) s2 s4) w0)
 refine gz h <| (xb) fun b1 => (xb) fun b2 => (xa) fun b3 => (dr1 (H := [⟨.blk b3 (cQ oQ) 27, [(13, .con (.blk b3 (cQ (cK (ab a.num (aa b)) (ab (aa a) b.num)).1) 27))]⟩, ⟨_, []⟩, ⟨_, []⟩]) (hob := (oK (bE b 37 og zb)) <| (oK (bM a.num (aa b) 36 og za.1 s1)) <| (oK (bE a 37 og za)) <| (oK (bM (aa a) b.num 36 og s3 zb.1)) <| (oK (qu (ab a.num (aa b)) (ab (aa a) b.num) s2 s4)) <| oE)) <| (W) ?_; clear h ac; intro ac wo h
 exact rtc2 0 h (h.retP (u := .tuple #[vQ (bJ a b).1, .int .i64 (bJ a b).2]) rfl s5)
attribute [irreducible] bJ
def cA (t v u w : GQ) : Qd × Int :=
 bif (bJ (am w v) (am u t)).2 != 0 then (⟨oQ, oQ, oQ⟩, (bJ (am w v) (am u t)).2)
 else (aV (am v (an (bJ (am w v) (am u t)).1 t)) (bJ (am w v) (am u t)).1, 0)
theorem fM (t v u w : GQ) (zt : SzQ 40 t) (zv : SzQ 40 v) (zu : SzQ 40 u) (zw : SzQ 40 w) (w0 : World) : Calls Tryz.prog 89 #[vQ t, vQ v, vQ u, vQ w] w0 (dI w0 (.tuple #[vD (cA t v u w).1, .int .i64 (cA t v u w).2]) (SzD 30 (cA t v u w).1)) := by
 refine enter (N := 33) (args := [vQ t, vQ v, vQ u, vQ w]) Tryz.func89 rfl rfl ?_; intro ac h
 have c1 := cX w v 37 og zw zv
 have c2 := cX u t 37 og zu zt
 have c3 := nU (am w v) (am u t) (ao (c1 w0)) (ao (c2 w0))
 have s3 := ao (c3 w0)
 have c4 := be (bJ (am w v) (am u t)).1 t 33 og s3 (cO zt og)
 have s4 := ao (c4 w0)
 have c5 := cX v (an (bJ (am w v) (am u t)).1 t) 30 og (cO zv og) s4
 have s5 := ao (c5 w0)
 have c6 := cY (am v (an (bJ (am w v) (am u t)).1 t)) (bJ (am w v) (am u t)).1 30 og s5 (cO s3 og)
 have s6 := ao (c6 w0)
 refine gz h <| (xb) fun b1 => (xb) fun b2 => (xb) fun b3 => (xb) fun b4 => (xa) fun b5 => (W) ?_; clear h ac; intro ac wo h
 replace h := h.emps 1
 refine fo mixed [dw _ [1], dw _ [3], dv _, dw _ [2], dw _ [4], dv _, dv _, dv _, dv _, dv _, ⟨.nd (.one 10 fun x => ∃ b, x = ptr b 0), [5]⟩, dw undef [5], dv _] [⟨_, []⟩, ⟨_, []⟩, ⟨_, []⟩, ⟨_, []⟩, ⟨_, []⟩, ⟨.emp, [(10, .one 10 fun x => .blk (bK x) (cQ oQ) 27), (11, .one 10 fun x => .blk (bK x) (cQ (bJ (am w v) (am u t)).1) 27)]⟩] h rfl (by kernel_rfl) ⟨oA obA, oA obA, oA fun _ => g8 (gD Tryz.call22 rfl c1), oA obA, oA obA, oA fun _ => g8 (gD Tryz.call22 rfl c2), oA fun _ => g8 (gD Tryz.call189 rfl c3), oA obA, oA obA, oA obA, fun _ _ => l8 5 rfl (fun _ => rfl), fun ξ hφ => l7 (u := vQ (bJ (am w v) (am u t)).1) 5 (hφ 10 rfl) rfl rfl rfl rfl rfl rfl rfl, oA obA, trivial⟩ ?_
 clear h ac wo; intro ξ ac wo hφ h
 obtain ⟨b6, hb6⟩ : ∃ b, ξ 10 = ptr b 0 := hφ 10
 replace h : St w0 33 [(4, ptr b1 0), (5, ptr b2 0), (6, ptr b3 0), (7, ptr b4 0), (8, ptr b5 0), (10, ξ 10), (11, .int .i64 (bJ (am w v) (am u t)).2)] [.blk b5 (cD ⟨oQ, oQ, oQ⟩) 53, .blk b4 (cQ w) 27, .blk b3 (cQ u) 27, .blk b2 (cQ v) 27, .blk b1 (cQ t) 27, .blk (bK (ξ 10)) (cQ (bJ (am w v) (am u t)).1) 27] ac wo := h.sub ⟨rfl, rfl, rfl, rfl, rfl, rfl, rfl, trivial⟩
 rw [hb6] at h
 clear hb6 hφ ξ
 refine gz h <| (ai) ?_ ?_ <;> clear h ac wo <;> intro ac wo h hc1
 ·
  have hd : cA t v u w = (⟨oQ, oQ, oQ⟩, (bJ (am w v) (am u t)).2) := by unfold cA; rw [hc1]; rfl
  refine gz h <| (xo (hs := by exact bA xF exs rfl (v := vD ⟨oQ, oQ, oQ⟩) rfl)) <| (W) ?_; clear h ac wo; intro ac wo h
  rw [hd]; exact rtc2 0 h (h.retP (u := .tuple #[vD ⟨oQ, oQ, oQ⟩, .int .i64 (bJ (am w v) (am u t)).2]) rfl ⟨⟨df 0 (by decide) og, df 0 (by decide) og⟩, ⟨df 0 (by decide) og, df 0 (by decide) og⟩, ⟨df 0 (by decide) og, df 0 (by decide) og⟩⟩)
 ·
  have hd : cA t v u w = (aV (am v (an (bJ (am w v) (am u t)).1 t)) (bJ (am w v) (am u t)).1, 0) := by unfold cA; rw [hc1]; rfl
  refine gz h <| (dr1 (H := [⟨.blk b5 (cD ⟨oQ, oQ, oQ⟩) 53, [(7, .con (.blk b5 (cD (aV (am v (an (bJ (am w v) (am u t)).1 t)) (bJ (am w v) (am u t)).1)) 53))]⟩, ⟨_, []⟩, ⟨_, []⟩, ⟨_, []⟩, ⟨_, []⟩, ⟨_, []⟩]) (hob := (oK c4) <| (oK c5) <| (oK c6) <| oE)) <| (W) ?_; clear h ac wo; intro ac wo h
  rw [hd]; exact rtc2 0 h (h.retP (u := .tuple #[vD (aV (am v (an (bJ (am w v) (am u t)).1 t)) (bJ (am w v) (am u t)).1), .int .i64 0]) rfl s6)
attribute [irreducible] cA
def lnOf (x y : Qd) : Ln := ⟨x.c0, x.c1, y.c0, y.c1⟩
def fb (a b : Smp) : Ln := lnOf (cA a.t a.p.x b.t b.p.x).1 (cA a.t a.p.y b.t b.p.y).1
def StO (a b : Smp) : Prop := u6 40 a ∧ u6 40 b
theorem un (a b : Smp) (z : StO a b) (w0 : World) : Calls Tryz.prog 90 #[vSm a, vSm b] w0 (dI w0 (vN (fb a b)) (SzN 30 (fb a b))) := by
 refine enter (N := 46) (args := [vSm a, vSm b]) Tryz.func90 rfl rfl ?_; intro ac h
 have c1 := fM a.t a.p.x b.t b.p.x z.1.1 z.1.2.1 z.2.1 z.2.2.1
 have s1 := ao (c1 w0)
 have c2 := fM a.t a.p.y b.t b.p.y z.1.1 z.1.2.2 z.2.1 z.2.2.2
 have s2 := ao (c2 w0)
 refine gz h <| (xb) fun b1 => (xb) fun b2 => (xa) fun b3 => (xk c1) <| (xa) fun b4 => (xk c2) <| (xa) fun b5 => (W) ?_; clear h ac; intro ac wo h
 exact rtc 2 h (h.retP (u := vN (fb a b)) rfl ⟨s1.1, s1.2.1, s2.1, s2.2.1⟩)
def kY (p : Pnt) : Ln := ⟨p.x, oQ, p.y, oQ⟩
theorem still_ct (p : Pnt) (k : Nat) (hk : k ≤ 40) (z : SzPt k p) (w0 : World) : Calls Tryz.prog 91 #[vPt p] w0 (dI w0 (vN (kY p)) (SzN k (kY p))) := by
 refine enter (N := 8) (args := [vPt p]) Tryz.func91 rfl rfl ?_; intro ac h
 refine gz h <| (xb) fun b1 => (xa) fun b2 => (W) ?_; clear h ac; intro ac wo h
 exact rtc 0 h (h.retP (u := vN (kY p)) rfl ⟨z.1, ⟨df 0 (by decide) og, df 0 (by decide) og⟩, z.2, ⟨df 0 (by decide) og, df 0 (by decide) og⟩⟩)
def lxs (f : Ln) : Qd := aV f.x0 f.x1
def lys (f : Ln) : Qd := aV f.y0 f.y1
theorem wT (f : Ln) (k : Nat) (hk : k ≤ 40) (z : SzN k f) (w0 : World) : Calls Tryz.prog 102 #[vN f] w0 (dI w0 (vD (lxs f)) (SzD k (lxs f))) := by
 refine enter (N := 8) (args := [vN f]) Tryz.func102 rfl rfl ?_; intro ac h
 have c1 := cY f.x0 f.x1 k hk z.1 z.2.1
 refine gz h <| (xb) fun b1 => (xa) fun b2 => (xk c1) <| (W) ?_; clear h ac; intro ac wo h
 exact rtc 0 h (h.retP (u := vD (lxs f)) rfl (ao (c1 w0)))
theorem wS (f : Ln) (k : Nat) (hk : k ≤ 40) (z : SzN k f) (w0 : World) : Calls Tryz.prog 103 #[vN f] w0 (dI w0 (vD (lys f)) (SzD k (lys f))) := by
 refine enter (N := 8) (args := [vN f]) Tryz.func103 rfl rfl ?_; intro ac h
 have c1 := cY f.y0 f.y1 k hk z.2.2.1 z.2.2.2
 refine gz h <| (xb) fun b1 => (xa) fun b2 => (xk c1) <| (W) ?_; clear h ac; intro ac wo h
 exact rtc 0 h (h.retP (u := vD (lys f)) rfl (ao (c1 w0)))
theorem vxs_ct (f : Ln) (k : Nat) (hk : k ≤ 40) (z : SzN k f) (w0 : World) : Calls Tryz.prog 146 #[vN f] w0 (dI w0 (vD (lxs f)) (SzD k (lxs f))) := by
 refine enter (N := 8) (args := [vN f]) Tryz.func146 rfl rfl ?_; intro ac h
 have c1 := cY f.x0 f.x1 k hk z.1 z.2.1
 refine gz h <| (xb) fun b1 => (xa) fun b2 => (xk c1) <| (W) ?_; clear h ac; intro ac wo h
 exact rtc 0 h (h.retP (u := vD (lxs f)) rfl (ao (c1 w0)))
theorem vys_ct (f : Ln) (k : Nat) (hk : k ≤ 40) (z : SzN k f) (w0 : World) : Calls Tryz.prog 147 #[vN f] w0 (dI w0 (vD (lys f)) (SzD k (lys f))) := by
 refine enter (N := 8) (args := [vN f]) Tryz.func147 rfl rfl ?_; intro ac h
 have c1 := cY f.y0 f.y1 k hk z.2.2.1 z.2.2.2
 refine gz h <| (xb) fun b1 => (xa) fun b2 => (xk c1) <| (W) ?_; clear h ac; intro ac wo h
 exact rtc 0 h (h.retP (u := vD (lys f)) rfl (ao (c1 w0)))
def ef (t x y : Int) : Smp := ⟨ak t, ⟨ak x, ak y⟩⟩
end Go.Sx
namespace Go.Sx
theorem fr_p (q : GQ) : (aw q).p = q ∧ (aw q).r = zQ ∧ (aw q).neg = false := by unfold aw; exact ⟨rfl, rfl, rfl⟩
theorem uQ {q : GQ} (h : QOk q) : ROk (aw q) := by
  obtain ⟨e1, e2, e3⟩ := fr_p q
  unfold ROk
  rw [e1, e2, e3]
  exact ⟨h, j5.1, Or.inl ⟨j5.2, rfl⟩⟩
theorem fr_rv (q : GQ) (k : Nat) : rv (aw q) k = ce q := by
  obtain ⟨e1, e2, e3⟩ := fr_p q
  unfold rv
  rw [e1, e2, j5.2, tD]; grind
theorem fr_cmp {p q : GQ} (hp : QOk p) (hq : QOk q) : ap (aw p) (aw q) = rsg (ce p - ce q) :=
  (no (uQ hp) (uQ hq)).uniq ((Sg.const _).congr fun k => by rw [fr_rv, fr_rv])
def inZ (n : Nat) : GR := aw (ak (n : Int))
theorem inZ_ok (n : Nat) : ROk (inZ n) := uQ (c8 _).1
theorem inZ_lt {m n : Nat} (h : m < n) : ap (inZ m) (inZ n) = -1 := by
  unfold inZ
  rw [fr_cmp (c8 _).1 (c8 _).1, (c8 _).2, (c8 _).2]
  unfold rsg
  rw [if_pos]
  have : (((m : Nat) : Int) : Rat) < (((n : Nat) : Int) : Rat) := by rw [Rat.intCast_lt_intCast]; omega
  grind
theorem wR {n d : GI} (hn : IOk n) (hd : fP d ≠ 0) : QOk (cK n d).1 ∧ ce (cK n d).1 = (fP n : Rat) / (fP d : Rat) := by
  have h : (cz d == 0) = false := by
    rw [kI]
    simp
    exact hd
  have e : cK n d = (bo n d, 0) := by unfold cK; rw [h]; rfl
  rw [e]
  exact qL hn hd
theorem div_ok {a b : GQ} (ha : QOk a) (hb : QOk b) (h : ce b ≠ 0) : QOk (bJ a b).1 ∧ ce (bJ a b).1 = ce a / ce b ∧ (bJ a b).2 = 0 := by
  obtain ⟨da, _⟩ := j4 ha
  obtain ⟨db, _⟩ := j4 hb
  have pa := nV ha
  have pb := nV hb
  have hbn : fP b.num ≠ 0 := fun e => h (by unfold ce; rw [e]; grind)
  have hd : fP (ab (aa a) b.num) ≠ 0 := by
    rw [kJ, da]
    refine Int.mul_ne_zero ?_ hbn
    have := ha.pos
    omega
  have h2 : (cz (ab (aa a) b.num) == 0) = false := by
    rw [kI]; simp; exact hd
  obtain ⟨o, v⟩ := wR (uf a.num (aa b)) hd
  unfold bJ
  refine ⟨o, ?_, by unfold cK; rw [h2]; rfl⟩
  rw [v, kJ, kJ, da, db]
  have hb2 : (fP b.num : Rat) ≠ 0 := fun e => hbn (by exact_mod_cast e)
  unfold ce
  push_cast
  grind
theorem pO {t v u w : GQ} (ht : QOk t) (hv : QOk v) (hu : QOk u) (hw : QOk w) (h : ce t ≠ ce u) :
    ∃ c s, (cA t v u w).1 = aV c s ∧ QOk c ∧ QOk s ∧ ce s = (ce w - ce v) / (ce u - ce t) ∧ ce c = ce v - (ce w - ce v) / (ce u - ce t) * ce t := by
  obtain ⟨a1, a2⟩ := mh hw hv
  obtain ⟨b1, b2⟩ := mh hu ht
  obtain ⟨d1, d2, d3⟩ := div_ok a1 b1 (by rw [b2]; grind)
  obtain ⟨m1, m2⟩ := jk d1 ht
  obtain ⟨c1, c2⟩ := mh hv m1
  refine ⟨_, _, ?_, c1, d1, by rw [d2, a2, b2], by rw [c2, m2, d2, a2, b2]⟩
  unfold cA
  rw [d3]; rfl
theorem um {a b : Smp} (ha : QOk a.t ∧ QOk a.p.x ∧ QOk a.p.y) (hb : QOk b.t ∧ QOk b.p.x ∧ QOk b.p.y) (h : ce a.t ≠ ce b.t) :
    LOk (fb a b) ∧ ce (fb a b).x1 = (ce b.p.x - ce a.p.x) / (ce b.t - ce a.t) ∧ ce (fb a b).x0 = ce a.p.x - (ce b.p.x - ce a.p.x) / (ce b.t - ce a.t) * ce a.t ∧
      ce (fb a b).y1 = (ce b.p.y - ce a.p.y) / (ce b.t - ce a.t) ∧ ce (fb a b).y0 = ce a.p.y - (ce b.p.y - ce a.p.y) / (ce b.t - ce a.t) * ce a.t := by
  obtain ⟨c, s, e1, k1, k2, k3, k4⟩ := pO ha.1 ha.2.1 hb.1 hb.2.1 h
  obtain ⟨c', s', e1', k1', k2', k3', k4'⟩ := pO ha.1 ha.2.2 hb.1 hb.2.2 h
  obtain ⟨_, l1, l2, _⟩ := ku k1 k2
  obtain ⟨_, l1', l2', _⟩ := ku k1' k2'
  unfold fb lnOf LOk
  rw [e1, e1']
  simp only [l1, l2, l1', l2']
  exact ⟨⟨k1, k2, k1', k2'⟩, k3, k4, k3', k4'⟩
theorem tA (t x y : Int) : (QOk (ef t x y).t ∧ QOk (ef t x y).p.x ∧ QOk (ef t x y).p.y) ∧ ce (ef t x y).t = (t : Rat) ∧ ce (ef t x y).p.x = (x : Rat) ∧ ce (ef t x y).p.y = (y : Rat) := by
  unfold ef
  exact ⟨⟨(c8 t).1, (c8 x).1, (c8 y).1⟩, (c8 t).2, (c8 x).2, (c8 y).2⟩
theorem tz {q : GQ} (hq : QOk q) {v w t u : Nat} (hv : v < 64) (hw : w < 64) (ht : t < u) (hu : u ≤ t + 8) (e : ce q = (((w : Int) : Rat) - ((v : Int) : Rat)) / (((u : Int) : Rat) - ((t : Int) : Rat))) : Bq 16 q := by
  refine Bq.of hq ((w : Int) - v) (u - t) (by omega) (by omega) (by omega) ?_
  rw [e]
  have : (((u - t : Nat) : Nat) : Rat) = ((u : Int) : Rat) - ((t : Int) : Rat) := by
    have : ((u - t : Nat) : Int) = (u : Int) - t := by omega
    have h2 : (((u - t : Nat) : Int) : Rat) = (((u : Int) - t : Int) : Rat) := by rw [this]
    push_cast at h2 ⊢
    exact h2
  rw [this]
  push_cast
  rfl
theorem xJ {q : GQ} (hq : QOk q) {v w t u : Nat} (hv : v < 64) (hw : w < 64) (ht : t < u) (hu : u ≤ t + 8) (ht2 : t ≤ 80) (e : ce q = ((v : Int) : Rat) - (((w : Int) : Rat) - ((v : Int) : Rat)) / (((u : Int) : Rat) - ((t : Int) : Rat)) * ((t : Int) : Rat)) : Bq 16 q := by
  obtain ⟨d, rfl⟩ : ∃ d, u = t + d := ⟨u - t, by omega⟩
  have h1 : v * d ≤ 63 * 8 := Nat.mul_le_mul (by omega) (by omega)
  have h2 : v * t ≤ 63 * 80 := Nat.mul_le_mul (by omega) ht2
  have h3 : w * t ≤ 63 * 80 := Nat.mul_le_mul (by omega) ht2
  refine Bq.of hq ((v : Int) * d - (w - v) * t) d (by omega) (by omega) ?_ ?_
  · rw [Int.sub_mul]
    have e1 : ((v : Int) * d) = ((v * d : Nat) : Int) := by push_cast; rfl
    have e2 : ((v : Int) * t) = ((v * t : Nat) : Int) := by push_cast; rfl
    have e3 : ((w : Int) * t) = ((w * t : Nat) : Int) := by push_cast; rfl
    rw [e1, e2, e3]
    generalize v * d = a at *
    generalize v * t = b at *
    generalize w * t = c at *
    omega
  · rw [e]
    have hd : (d : Rat) ≠ 0 := lA (by omega)
    push_cast
    grind
theorem po {t u x y x' y' : Nat} (hx : x < 64) (hy : y < 64) (hx' : x' < 64) (hy' : y' < 64) (ht : t < u) (hu : u ≤ t + 8) (ht2 : t ≤ 80) : BL 16 (fb (ef t x y) (ef u x' y')) := by
  obtain ⟨a1, a2, a3, a4⟩ := tA t x y
  obtain ⟨b1, b2, b3, b4⟩ := tA u x' y'
  obtain ⟨⟨o1, o2, o3, o4⟩, h1, h2, h3, h4⟩ := um a1 b1 (by
    rw [a2, b2]; intro e
    have : (t : Int) = (u : Int) := by exact_mod_cast e
    omega)
  rw [a2, a3, b2, b3] at h1 h2
  rw [a2, a4, b2, b4] at h3 h4
  exact ⟨xJ o1 hx hx' ht hu ht2 h2, tz o2 hx hx' ht hu h1, xJ o3 hy hy' ht hu ht2 h4, tz o4 hy hy' ht hu h3⟩
theorem still_bl {x y t : Nat} (hx : x < 64) (hy : y < 64) : BL 16 (kY (ef t x y).p) := by
  have h1 : Bq 16 (ak (x : Int)) := Bq.int _ (by omega) (by decide)
  have h2 : Bq 16 (ak (y : Int)) := Bq.int _ (by omega) (by decide)
  exact ⟨h1, Bq.zero (by decide), h2, Bq.zero (by decide)⟩
structure Stq where
  time : Nat
  x : Nat
  y : Nat
  kind : Nat
  deriving DecidableEq
instance yI1_1 : Inhabited Stq := ⟨⟨0, 0, 0, 0⟩⟩
structure Crq where
  time : Nat
  x : Nat
  y : Nat
structure TS where
  t : Nat
  x : Nat
  y : Nat
  alone : Bool
  out : List (U Ln)
def tsU (s : TS) (q : Stq) : U Ln :=
  ⟨⟨inZ s.t, inZ (s.t + 1 + q.time % 8), decide (((s.out.length : Nat) : Int) > 0) && !s.alone, false⟩,
    fb (bif decide (q.kind % 8 = 1) then ef s.t ((q.y % 64 : Nat) : Int) ((q.x % 64 : Nat) : Int) else ef s.t s.x s.y) (ef ((s.t + 1 + q.time % 8 : Nat) : Int) ((q.x % 64 : Nat) : Int) ((q.y % 64 : Nat) : Int))⟩
def tsF (s : TS) (q : Stq) : TS := ⟨s.t + 1 + q.time % 8, q.x % 64, q.y % 64, decide (q.kind % 8 = 0), bif decide (q.kind % 8 = 0) then s.out else s.out ++ [tsU s q]⟩
def ts0 (c : Crq) : TS := ⟨c.time % 16, c.x % 64, c.y % 64, true, []⟩
def tsN (c : Crq) (l : List Stq) (i : Nat) : TS := (l.take i).foldl tsF (ts0 c)
theorem tu (c : Crq) {l : List Stq} {i : Nat} (h : i < l.length) : tsN c l (i + 1) = tsF (tsN c l i) (gt l i) := by
  unfold tsN; rw [List.take_succ_eq_append_getElem h, List.foldl_append, g7 h]; rfl
def tsE (s : TS) : List (U Ln) := bif s.alone then s.out ++ [⟨⟨inZ s.t, inZ s.t, false, false⟩, kY (ef s.t s.x s.y).p⟩] else s.out
def trU (c : Crq) (l : List Stq) : List (U Ln) := tsE (tsN c l (min l.length 6))
def fQ (c : Crq) (l : List Stq) : List (U Ln) := (a7 (trU c l)).1
section
variable [K : Key]
class KeyZ : Prop where
  z : ∀ n, n ≤ 64 → Tm (inZ n)
variable [KeyZ]
theorem tkZ {m n : Nat} (h : m < n) (hn : n ≤ 64) : tk (inZ m) < tk (inZ n) := pW (KeyZ.z _ (by omega)) (KeyZ.z _ hn) (inZ_lt h)
structure TsI (s : TS) (i : Nat) : Prop where
  t : s.t ≤ 15 + 8 * i
  x : s.x < 64
  y : s.y < 64
  wv : ∀ u ∈ s.out, Wv u.iv ∧ BL 16 u.f
  ord : s.out.Pairwise fun a b => fW a.iv < (f7 b.iv : Int)
  bef : ∀ u ∈ s.out, ∃ n, n ≤ s.t ∧ u.iv.hi = inZ n ∧ u.iv.openHi = false
  far : s.alone = true → ∀ u ∈ s.out, ∃ n, n < s.t ∧ u.iv.hi = inZ n
  len : s.out.length ≤ i
  one : s.alone = false → 0 < s.out.length
omit [KeyZ] in
theorem vf (c : Crq) : TsI (ts0 c) 0 := by
  refine ⟨by show c.time % 16 ≤ _; omega, Nat.mod_lt _ (by decide), Nat.mod_lt _ (by decide), fun u h => (by cases h), List.Pairwise.nil, fun u h => (by cases h), fun _ u h => (by cases h), Nat.le_refl _, fun h => (by cases h)⟩
omit [KeyZ] in
theorem pB {u : U Ln} {n : Nat} (h : u.iv.hi = inZ n) (ho : u.iv.openHi = false) : fW u.iv = 2 * (tk (inZ n) : Int) := by
  unfold fW; rw [h, ho]; simp
theorem ve {s : TS} {i : Nat} (q : Stq) (hi : i < 6) (h : TsI s i) : TsI (tsF s q) (i + 1) := by
  have ht := h.t
  have hm : q.time % 8 < 8 := Nat.mod_lt _ (by decide)
  have hx : q.x % 64 < 64 := Nat.mod_lt _ (by decide)
  have hy : q.y % 64 < 64 := Nat.mod_lt _ (by decide)
  by_cases hk : q.kind % 8 = 0
  · unfold tsF
    rw [decide_eq_true hk]
    refine ⟨by show s.t + 1 + _ ≤ _; omega, hx, hy, h.wv, h.ord, fun u hu => ?_, fun _ u hu => ?_, by show s.out.length ≤ _; have := h.len; omega, fun h => (by cases h)⟩
    · obtain ⟨n, a, b, c⟩ := h.bef u hu; exact ⟨n, by show n ≤ s.t + 1 + _; omega, b, c⟩
    · obtain ⟨n, a, b, c⟩ := h.bef u hu; exact ⟨n, by show n < s.t + 1 + _; omega, b⟩
  · have lt := tkZ (show s.t < s.t + 1 + q.time % 8 by omega) (by omega)
    have wv : Wv (tsU s q).iv := ⟨⟨KeyZ.z _ (by omega), KeyZ.z _ (by omega)⟩, Nat.le_of_lt lt, fun e => by exfalso; change tk (inZ s.t) = tk (inZ (s.t + 1 + q.time % 8)) at e; omega⟩
    have bl : BL 16 (tsU s q).f := by
      show BL 16 (fb _ _)
      cases decide (q.kind % 8 = 1) with
      | true => exact po hy hx hx hy (by omega) (by omega) (by omega)
      | false => exact po h.x h.y hx hy (by omega) (by omega) (by omega)
    unfold tsF
    rw [decide_eq_false hk]
    refine ⟨by show s.t + 1 + _ ≤ _; omega, hx, hy, fun u hu => ?_, ?_, fun u hu => ?_, fun h => (by cases h), by show (s.out ++ [_]).length ≤ _; have := h.len; simp; omega, fun _ => by show 0 < (s.out ++ [_]).length; simp⟩
    · rcases List.mem_append.1 hu with hu | hu
      · exact h.wv u hu
      · rw [List.mem_singleton.1 hu]; exact ⟨wv, bl⟩
    · refine List.pairwise_append.2 ⟨h.ord, List.pairwise_singleton _ _, fun a ha b hb => ?_⟩
      rw [List.mem_singleton.1 hb]
      obtain ⟨n, n1, n2, n3⟩ := h.bef a ha
      rw [pB n2 n3]
      have hne : 0 < s.out.length := List.length_pos_of_mem ha
      have hf : f7 (tsU s q).iv = 2 * tk (inZ s.t) + (bif decide (((s.out.length : Nat) : Int) > 0) && !s.alone then 1 else 0) := rfl
      rw [hf, decide_eq_true (show ((s.out.length : Nat) : Int) > 0 by omega)]
      have hle : tk (inZ n) ≤ tk (inZ s.t) := by
        rcases Nat.lt_or_eq_of_le n1 with e | e
        · exact Nat.le_of_lt (tkZ e (by omega))
        · rw [e]; exact Nat.le_refl _
      cases hal : s.alone with
      | false => simp; omega
      | true =>
        obtain ⟨n', m1, m2⟩ := h.far hal a ha
        have e2 : inZ n = inZ n' := n2.symm.trans m2
        rw [e2]
        have := tkZ m1 (by omega)
        simp; omega
    · rcases List.mem_append.1 hu with hu | hu
      · obtain ⟨n, a, b, c⟩ := h.bef u hu; exact ⟨n, by show n ≤ s.t + 1 + _; omega, b, c⟩
      · rw [List.mem_singleton.1 hu]; exact ⟨_, Nat.le_refl _, rfl, rfl⟩
theorem ts_all (c : Crq) (l : List Stq) : ∀ i, i ≤ l.length → i ≤ 6 → TsI (tsN c l i) i
  | 0, _, _ => vf c
  | i + 1, h1, h2 => by rw [tu c (by omega)]; exact ve _ (by omega) (ts_all c l i (by omega) (by omega))
theorem tw (c : Crq) (l : List Stq) : (∀ u ∈ trU c l, Wv u.iv ∧ BL 16 u.f) ∧ ((trU c l).Pairwise fun a b => fW a.iv < (f7 b.iv : Int)) ∧ (trU c l).length ≤ 7 ∧ 0 < (trU c l).length := by
  have h := ts_all c l (min l.length 6) (by omega) (by omega)
  unfold trU tsE
  generalize tsN c l (min l.length 6) = s at *
  have ht := h.t
  have hl := h.len
  cases hal : s.alone with
  | false => exact ⟨h.wv, h.ord, by show s.out.length ≤ 7; omega, h.one hal⟩
  | true =>
    have hz := KeyZ.z s.t (by omega)
    have wv : Wv (⟨inZ s.t, inZ s.t, false, false⟩ : Iv) := ⟨⟨hz, hz⟩, Nat.le_refl _, fun _ => ⟨rfl, rfl⟩⟩
    rw [cond_true]
    refine ⟨fun u hu => ?_, List.pairwise_append.2 ⟨h.ord, List.pairwise_singleton _ _, fun a ha b hb => ?_⟩, by simp; omega, by simp⟩
    · rcases List.mem_append.1 hu with hu | hu
      · exact h.wv u hu
      · rw [List.mem_singleton.1 hu]; exact ⟨wv, still_bl h.x h.y⟩
    · rw [List.mem_singleton.1 hb]
      obtain ⟨n, n1, n2, n3⟩ := h.bef a ha
      obtain ⟨n', m1, m2⟩ := h.far hal a ha
      rw [pB n2 n3, n2.symm.trans m2]
      have := tkZ m1 (by omega)
      show 2 * ((tk (inZ n') : Nat) : Int) < ((2 * tk (inZ s.t) + (bif false then 1 else 0) : Nat) : Int)
      simp; omega
end
end Go.Sx
