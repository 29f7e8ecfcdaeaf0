/- Part of piecesMaps. -/
import Derived.Test.YtbenbmdkhcfcfaaGreatDoorN1
import Derived.Test.YtbenbmdkhcfcfaaGreatDoorA7
set_option linter.unusedVariables false
set_option linter.unusedSimpArgs false
open Go.Proofs.Tryz renaming prog → zP, isAgg25 → aa25, sizeOf25 → zz25, isAgg27 → aa27, sizeOf27 → zz27, call93 → cc93, zeroValue27 → vv27, runUnderlying71 → uu71, zeroValue25 → vv25, call97 → cc97, isAgg53 → aa53, sizeOf53 → zz53, runUnderlying3 → uu3, runUnderlying276 → uu276, zeroValue53 → vv53, isAgg71 → aa71, sizeOf71 → zz71, runUnderlying50 → uu50, sizeOf126 → zz126, runUnderlying126 → uu126, sizeOf86 → zz86, runUnderlying86 → uu86, sizeOf4 → zz4, isAgg4 → aa4, runUnderlying66 → uu66
set_option maxRecDepth 100000
set_option maxHeartbeats 40000000
namespace Go.Sx
open Go Go.RowKit Go.Proofs
attribute [local irreducible] Code.wp wpList Rd iq ObS Ent
attribute [local irreducible] ar bS ao aR aG cX
def aq (a : GQ) : GI :=
 a.num
theorem mo (a : GQ) (za : SzQ 36 a) (w0 : World) : Calls zP 250 #[(vQ a)] w0 (RetP w0 (vI (aq a)) (SzI 36 (aq a))) := by
 refine enter (N := 5) Tryz.func250 rfl rfl ?_; intro ac h
 refine gz h <| (xb) fun b1 => (xa) fun b2 => (W) ?_; clear h; intro _ _ h
 exact ret h rfl (.cell (v := (vI a.num)) rfl (i := 0) rfl aa25 zz25 rfl rfl rfl .nil) rfl (h.retP (by unfold aq; rfl) (by unfold aq; exact za.1))
attribute [irreducible] aq
def bZ (a : GI) (b : GI) : GI :=
 (aN a (aD b))
theorem nk (a : GI) (b : GI) (za : SzI 28 a) (zb : SzI 28 b) (w0 : World) : Calls zP 252 #[(vI a), (vI b)] w0 (RetP w0 (vI (bZ a b)) (SzI 26 (bZ a b))) := by
 refine enter (N := 9) Tryz.func252 rfl rfl ?_; intro ac h
 refine gz h <| (xb) fun b1 => (xb) fun b2 => (xa) fun b3 => (W) ?_; clear h; intro _ _ h
 have c1 := fq b 28 og zb
 have s1 := aA (c1 w0)
 have s2 := aA ((fx a (aD b) 27 og za s1) w0)
 refine gz h <| (dr1 (H := [⟨.blk b3 (cI (⟨false, 0⟩ : GI)) 25, [(4, .con (.blk b3 (cI (aN a (aD b))) 25))]⟩, ⟨.blk b2 (cI b) 25, []⟩, ⟨.blk b1 (cI a) 25, []⟩]) (hob := (oK (c1)) <| (oK (fx a (aD b) 27 og za s1)) <| oE)) <| (W) ?_; clear h; intro _ _ h
 exact ret h rfl (.cell (v := (vI (aN a (aD b)))) rfl (i := 0) rfl aa25 zz25 rfl rfl rfl .nil) rfl (h.retP (by unfold bZ; rfl) (by unfold bZ; exact (gp s2 og)))
attribute [irreducible] bZ
def aM (a : GI) : GI × Int :=
 bif a.neg then
  ((⟨false, 0⟩ : GI), 2)
 else
  ((aU false (dK a.mag)), 0)
theorem sD {x : GR} (h : Tm x) : (ab (ab (aa x.p) (aa x.p)) (ab (aq x.r) (aa x.r))).mag < 4 := by
 have := qw (p := fun x => decide ((ab (ab (aa x.p) (aa x.p)) (ab (aq x.r) (aa x.r))).mag < 4)) (by decide +kernel) h
 exact of_decide_eq_true this
theorem mE (a : GI) (ha4 : a.mag < 4) (za : SzI 30 a) (w0 : World) : Calls zP 251 #[(vI a)] w0 (RetP w0 (.tuple #[(vI ((aM a).1)), (.int .i64 ((aM a).2))]) (SzI 29 ((aM a).1))) := by
 refine enter (N := 11) Tryz.func251 rfl rfl ?_; intro ac h
 refine gz h <| (xb) fun b1 => (xa) fun b2 => (ai) ?_ ?_ <;> clear h <;> intro _ _ h hc1
 ·
  have q := hc1; try simp at q
  have hd : aM a = ((⟨false, 0⟩ : GI), 2) := pt
  refine gz h <| (xo (hs := by exact bM qt exs rfl (v := (vI (⟨false, 0⟩ : GI))) rfl)) <| (W) ?_; clear h; intro _ _ h
  exact ret h rfl (.cell (v := (vI (⟨false, 0⟩ : GI))) rfl (i := 0) rfl aa25 zz25 rfl rfl rfl (.tmp rfl .nil)) rfl (h.retP (by rw [hd] <;> rfl) (by rw [hd]; exact (bQ 0 DC og)))
 ·
  have q := hc1; try simp at q
  have c1 := mD a.mag og za
  have s1 := Calls.pr (c1 w0)
  have c2 := cu false (dK a.mag) 29 og s1
  have s2 := aA (c2 w0)
  have hd : aM a = ((aU false (dK a.mag)), 0) := pt
  refine gz h <| (xk (c1)) <| (xk (c2)) <| (W) ?_; clear h; intro _ _ h
  exact ret h rfl (.cell (v := (vI (aU false (dK a.mag)))) rfl (i := 0) rfl aa25 zz25 rfl rfl rfl (.tmp rfl .nil)) rfl (h.retP (by rw [hd] <;> rfl) (by rw [hd]; exact s2))
attribute [irreducible] aM
def gY (x : GR) : Int :=
 (fh x.p (bJ x) x.r)
theorem ml (x : GR) (zx : SzR 30 x) (w0 : World) : Calls zP 266 #[(vR x)] w0 (RetP w0 (.int .i64 (gY x)) (True)) := by
 refine enter (N := 10) Tryz.func266 rfl rfl ?_; intro ac h
 refine gz h <| (xb) fun b1 => (W) ?_; clear h; intro _ _ h
 have c1 := iT x 30 og zx
 have s1 := aA (c1 w0)
 have p3 := aA ((jf x.p (bJ x) x.r 22 og zx.1 s1 zx.2) w0)
 refine gz h <| (dr0 (hob := (oK (c1)) <| (oK (jf x.p (bJ x) x.r 22 og zx.1 s1 zx.2)) <| oE)) <| (W) ?_; clear h; intro _ _ h
 exact (rt h) (h.retP (by unfold gY; rfl) trivial)
attribute [irreducible] gY
def c8 (num : GI) (den : GI) : GQ × Int :=
 bif ((dx den) == 0) then
  ((⟨(⟨false, 0⟩ : GI), (⟨false, 0⟩ : GI)⟩ : GQ), 6)
 else
  ((bP num den), 0)
theorem lY (num : GI) (den : GI) (znum : SzI 36 num) (zden : SzI 36 den) (w0 : World) : Calls zP 92 #[(vI num), (vI den)] w0 (RetP w0 (.tuple #[(vQ ((c8 num den).1)), (.int .i64 ((c8 num den).2))]) (SzQ 32 ((c8 num den).1))) := by
 refine enter (N := 13) Tryz.func92 rfl rfl ?_; intro ac h
 have p2 := aA ((eF den) w0)
 refine gz h <| (xb) fun b1 => (xb) fun b2 => (xa) fun b3 => (xk (eF den)) <| (ai) ?_ ?_ <;> clear h <;> intro _ _ h hc1
 ·
  have hd1 := eq_of_beq hc1
  have hd : c8 num den = (oQ, 6) := pt
  refine gz h <| (xo (hs := by exact bM qc exs rfl (v := (vQ oQ)) rfl)) <| (W) ?_; clear h; intro _ _ h
  exact ret h rfl (.cell (v := (vQ oQ)) rfl (i := 0) rfl aa27 zz27 rfl rfl rfl (.tmp rfl .nil)) rfl (h.retP (by rw [hd] <;> rfl) (by rw [hd]; exact ⟨(bQ 0 DC og), (bQ 0 DC og)⟩))
 ·
  have hd1 := ne_of_beq_false hc1
  have c3 := eK num den 35 og znum zden
  have s3 := aA (c3 w0)
  have hd : c8 num den = ((bP num den), 0) := pt
  refine gz h <| (xk (c3)) <| (W) ?_; clear h; intro _ _ h
  exact ret h rfl (.cell (v := (vQ (bP num den))) rfl (i := 0) rfl aa27 zz27 rfl rfl rfl (.tmp rfl .nil)) rfl (h.retP (by rw [hd] <;> rfl) (by rw [hd]; exact (fu s3 og)))
attribute [irreducible] c8
def eJ (n : GI) : GQ :=
 (c8 n (aB 1)).1
theorem nL (n : GI) (zn : SzI 36 n) (w0 : World) : Calls zP 267 #[(vI n)] w0 (RetP w0 (vQ (eJ n)) (SzQ 32 (eJ n))) := by
 refine enter (N := 12) Tryz.func267 rfl rfl ?_; intro ac h
 refine gz h <| (xb) fun b1 => (xa) fun b2 => (W) ?_; clear h ac; intro ac wo h
 have s1 := aA ((ew 1 40 og  og) w0)
 have s2 := Calls.pr ((fun w_ hB_ hS_ => lY n (aB 1) zn (gp s1 og) w_ ) _ h.bel h.sep)
 replace h := h.emps 1
 refine gm mixed [⟨.det (vI n), [1]⟩, ⟨.det (vI (aB 1)), []⟩, ⟨.det (.tuple #[(vQ ((c8 n (aB 1)).1)), (.int .i64 ((c8 n (aB 1)).2))]), []⟩, ⟨.det (.tuple #[(vQ ((c8 n (aB 1)).1)), (.int .i64 ((c8 n (aB 1)).2))]), []⟩, ⟨.det (vQ ((c8 n (aB 1)).1)), []⟩, ⟨.det (.int .i64 ((c8 n (aB 1)).2)), []⟩, ⟨.nd (.one 6 fun v => ∃ b, v = ptr b 0), [2]⟩, ⟨.det undef, [2]⟩, ⟨.det (.int .i64 ((c8 n (aB 1)).2)), []⟩] [⟨.blk b2 (cQ oQ) 27, []⟩, ⟨.blk b1 (cI n) 25, []⟩, ⟨.emp, [(6, .one 6 fun v => .blk (cC v) (cQ oQ) 27), (7, .one 6 fun v => .blk (cC v) (cQ ((c8 n (aB 1)).1)) 27)]⟩] h rfl (by kernel_rfl) ⟨?_, ?_, ?_, ?_, ?_, ?_, ?_, ?_, ?_, trivial⟩ ?_
 ·intro ξ hφ; exact iM [.blk b1 (cI n) 25] rfl rfl (iB aa25 zz25 rfl rfl rfl (v := (vI n)) rfl)
 ·intro ξ hφ; exact kd (eV (vs := [(.int .i64 1)]) (cB cc93 rfl) (fun w_ hB_ hS_ => (ew 1 40 og  og) w_))
 ·intro ξ hφ; exact kd (eV (cB Tryz.call92 rfl) (kk (lY n (aB 1) zn (gp s1 og))))
 ·intro ξ hφ; exact a6 (ay rfl)
 ·intro ξ hφ; exact a6 (cn rfl rfl)
 ·intro ξ hφ; exact a6 (cn rfl rfl)
 ·intro ξ hφ; exact ls (ψ := fun v => ∃ b, v = ptr b 0) (B := fun v => [.blk (cC v) (cQ oQ) 27]) [.emp] rfl (fun v _ => by simp only [dJ, bm] <;> rfl) (fun v hv => by simpa [DF.one, bm] using hv) (jo (ic vv27 rfl))
 ·intro ξ hφ; obtain ⟨b3, hb6⟩ := hφ 6 rfl; exact mR [.blk b3 (cQ oQ) 27] [.blk b3 (cQ ((c8 n (aB 1)).1)) 27] (congrArg (fun v => [Asn.blk (cC v) (cQ oQ) 27]) hb6) (congrArg (fun v => [Asn.blk (cC v) (cQ ((c8 n (aB 1)).1)) 27]) hb6) (qm zz27 (Eq.trans rfl (congrArg some hb6)) rfl rfl rfl rfl rfl rfl)
 ·intro ξ hφ; exact a6 (az rfl)
 clear h ac wo; intro ξ ac wo hφ h
 replace h : St w0 12 [(2, (ptr b2 0)), (3, ξ 6)] [.blk b2 (cQ oQ) 27, .blk b1 (cI n) 25, .blk (cC (ξ 6)) (cQ ((c8 n (aB 1)).1)) 27] ac wo := (h.pick [0, 1, 2] DC).sub ⟨rfl, rfl, trivial⟩
 revert h
 obtain ⟨b3, hb6⟩ : ∃ b, ξ 6 = ptr b 0 := hφ 6
 rw [hb6]; intro h
 clear hb6
 clear hφ ξ
 refine gz h <| (W) ?_; clear h ac wo; intro ac wo h
 exact ret h rfl (.cell (v := (vQ ((c8 n (aB 1)).1))) rfl (i := 0) rfl aa27 zz27 rfl rfl rfl .nil) rfl (h.retP (by unfold eJ; rfl) (by unfold eJ; exact s2))
attribute [irreducible] eJ
def fB (x : GR) (r : GQ) : Int :=
 (ar x (dR r))
theorem nM (x : GR) (r : GQ) (zx : SzR 30 x) (zr : SzQ 30 r) (w0 : World) : Calls zP 268 #[(vR x), (vQ r)] w0 (RetP w0 (.int .i64 (fB x r)) (True)) := by
 refine enter (N := 9) Tryz.func268 rfl rfl ?_; intro ac h
 refine gz h <| (xb) fun b1 => (xb) fun b2 => (W) ?_; clear h; intro _ _ h
 have c1 := mm r 30 og zr
 have s1 := aA (c1 w0)
 have p3 := aA ((aO x (dR r) 10 og zx s1) w0)
 refine gz h <| (dr0 (hob := (oK (c1)) <| (oK (aO x (dR r) 10 og zx s1)) <| oE)) <| (W) ?_; clear h; intro _ _ h
 exact (rt h) (h.retP (by unfold fB; rfl) trivial)
attribute [irreducible] fB
def cL (x : GR) : GI :=
 bif x.neg then
  (aX (bZ (ab (aq x.p) (aa x.r)) (aN ((aM (ab (ab (aa x.p) (aa x.p)) (ab (aq x.r) (aa x.r)))).1) (aB 1))) (ab (aa x.p) (aa x.r))).1
 else
  (aX (aN (ab (aq x.p) (aa x.r)) ((aM (ab (ab (aa x.p) (aa x.p)) (ab (aq x.r) (aa x.r)))).1)) (ab (aa x.p) (aa x.r))).1
theorem uo {x : GR} (h : Tm x) : SzI 40 (cL x) := by
 have := qw (p := fun x => smI (cL x)) (by decide +kernel) h
 exact qi (of_decide_eq_true this) DC
theorem qW (x : GR) (ht : Tm x) (zx : SzR 36 x) (w0 : World) : Calls zP 187 #[(vR x)] w0 (RetP w0 (vI (cL x)) (SzI 40 (cL x))) := by
 refine enter (N := 59) Tryz.func187 rfl rfl ?_; intro ac h
 refine gz h <| (xb) fun b1 => (xa) fun b2 => (W) ?_; clear h ac; intro ac wo h
 have c1 := mo x.p zx.1
 have s1 := Calls.pr (c1 w0)
 have s2 := aA ((cr x.p 36 og zx.1) w0)
 replace h := h.emps 2
 refine gm mixed [⟨.det (ptr b1 0), []⟩, ⟨.det (vQ x.p), [1]⟩, ⟨.det (vI (aq x.p)), []⟩, ⟨.det (ptr b1 0), []⟩, ⟨.det (vQ x.p), [1]⟩, ⟨.det (vI (aa x.p)), []⟩, ⟨.nd (.one 6 fun v => ∃ b, v = ptr b 0), [2]⟩, ⟨.nd (.one 7 fun v => ∃ b, v = ptr b 0), [3]⟩, ⟨.det undef, [2]⟩, ⟨.det undef, [3]⟩] [⟨.blk b2 (cI (⟨false, 0⟩ : GI)) 25, []⟩, ⟨.blk b1 (cR x) 71, []⟩, ⟨.emp, [(6, .one 6 fun v => .blk (cC v) (cI (⟨false, 0⟩ : GI)) 25), (8, .one 6 fun v => .blk (cC v) (cI (aq x.p)) 25)]⟩, ⟨.emp, [(7, .one 7 fun v => .blk (cC v) (cI (⟨false, 0⟩ : GI)) 25), (9, .one 7 fun v => .blk (cC v) (cI (aa x.p)) 25)]⟩] h rfl (by kernel_rfl) ⟨?_, ?_, ?_, ?_, ?_, ?_, ?_, ?_, ?_, ?_, trivial⟩ ?_
 ·intro ξ hφ; exact a6 (fa uu71 rfl zz27 rfl rfl rfl (k' := 0))
 ·intro ξ hφ; exact iM [.blk b1 (cR x) 71] rfl rfl (iB aa27 zz27 rfl rfl rfl (v := (vQ x.p)) rfl)
 ·intro ξ hφ; exact kd (eV (cB Tryz.call250 rfl) (kk c1))
 ·intro ξ hφ; exact a6 (fa uu71 rfl zz27 rfl rfl rfl (k' := 0))
 ·intro ξ hφ; exact iM [.blk b1 (cR x) 71] rfl rfl (iB aa27 zz27 rfl rfl rfl (v := (vQ x.p)) rfl)
 ·intro ξ hφ; exact kd (eV (cB Tryz.call98 rfl) (kk (cr x.p 36 og zx.1)))
 ·intro ξ hφ; exact ls (ψ := fun v => ∃ b, v = ptr b 0) (B := fun v => [.blk (cC v) (cI (⟨false, 0⟩ : GI)) 25]) [.emp] rfl (fun v _ => by simp only [dJ, bm] <;> rfl) (fun v hv => by simpa [DF.one, bm] using hv) (jo (ic vv25 rfl))
 ·intro ξ hφ; exact ls (ψ := fun v => ∃ b, v = ptr b 0) (B := fun v => [.blk (cC v) (cI (⟨false, 0⟩ : GI)) 25]) [.emp] rfl (fun v _ => by simp only [dJ, bm] <;> rfl) (fun v hv => by simpa [DF.one, bm] using hv) (jo (ic vv25 rfl))
 ·intro ξ hφ; obtain ⟨b3, hb6⟩ := hφ 6 rfl; exact mR [.blk b3 (cI (⟨false, 0⟩ : GI)) 25] [.blk b3 (cI (aq x.p)) 25] (congrArg (fun v => [Asn.blk (cC v) (cI (⟨false, 0⟩ : GI)) 25]) hb6) (congrArg (fun v => [Asn.blk (cC v) (cI (aq x.p)) 25]) hb6) (qm zz25 (Eq.trans rfl (congrArg some hb6)) rfl rfl rfl rfl rfl rfl)
 ·intro ξ hφ; obtain ⟨b4, hb7⟩ := hφ 7 rfl; exact mR [.blk b4 (cI (⟨false, 0⟩ : GI)) 25] [.blk b4 (cI (aa x.p)) 25] (congrArg (fun v => [Asn.blk (cC v) (cI (⟨false, 0⟩ : GI)) 25]) hb7) (congrArg (fun v => [Asn.blk (cC v) (cI (aa x.p)) 25]) hb7) (qm zz25 (Eq.trans rfl (congrArg some hb7)) rfl rfl rfl rfl rfl rfl)
 clear h ac wo; intro ξ ac wo hφ h
 replace h : St w0 59 [(1, (ptr b1 0)), (2, (ptr b2 0)), (3, ξ 6), (4, ξ 7)] [.blk b2 (cI (⟨false, 0⟩ : GI)) 25, .blk b1 (cR x) 71, .blk (cC (ξ 6)) (cI (aq x.p)) 25, .blk (cC (ξ 7)) (cI (aa x.p)) 25] ac wo := (h.pick [0, 1, 2, 3] DC).sub ⟨rfl, rfl, rfl, rfl, trivial⟩
 revert h
 obtain ⟨b3, hb6⟩ : ∃ b, ξ 6 = ptr b 0 := hφ 6
 obtain ⟨b4, hb7⟩ : ∃ b, ξ 7 = ptr b 0 := hφ 7
 rw [hb6, hb7]; intro h
 clear hb6 hb7
 clear hφ ξ
 refine gz h <| (W) ?_; clear h ac wo; intro ac wo h
 have c3 := mo x.r zx.2
 have s3 := Calls.pr (c3 w0)
 have s4 := aA ((cr x.r 36 og zx.2) w0)
 replace h := h.emps 2
 refine gm mixed [⟨.det (ptr b1 4), []⟩, ⟨.det (vQ x.r), [1]⟩, ⟨.det (vI (aq x.r)), []⟩, ⟨.det (ptr b1 4), []⟩, ⟨.det (vQ x.r), [1]⟩, ⟨.det (vI (aa x.r)), []⟩, ⟨.nd (.one 6 fun v => ∃ b, v = ptr b 0), [4]⟩, ⟨.nd (.one 7 fun v => ∃ b, v = ptr b 0), [5]⟩, ⟨.det undef, [4]⟩, ⟨.det undef, [5]⟩] [⟨.blk b2 (cI (⟨false, 0⟩ : GI)) 25, []⟩, ⟨.blk b1 (cR x) 71, []⟩, ⟨.blk b3 (cI (aq x.p)) 25, []⟩, ⟨.blk b4 (cI (aa x.p)) 25, []⟩, ⟨.emp, [(6, .one 6 fun v => .blk (cC v) (cI (⟨false, 0⟩ : GI)) 25), (8, .one 6 fun v => .blk (cC v) (cI (aq x.r)) 25)]⟩, ⟨.emp, [(7, .one 7 fun v => .blk (cC v) (cI (⟨false, 0⟩ : GI)) 25), (9, .one 7 fun v => .blk (cC v) (cI (aa x.r)) 25)]⟩] h rfl (by kernel_rfl) ⟨?_, ?_, ?_, ?_, ?_, ?_, ?_, ?_, ?_, ?_, trivial⟩ ?_
 ·intro ξ hφ; exact a6 (fa uu71 rfl zz27 rfl rfl rfl (k' := 4))
 ·intro ξ hφ; exact iM [.blk b1 (cR x) 71] rfl rfl (iB aa27 zz27 rfl rfl rfl (v := (vQ x.r)) rfl)
 ·intro ξ hφ; exact kd (eV (cB Tryz.call250 rfl) (kk c3))
 ·intro ξ hφ; exact a6 (fa uu71 rfl zz27 rfl rfl rfl (k' := 4))
 ·intro ξ hφ; exact iM [.blk b1 (cR x) 71] rfl rfl (iB aa27 zz27 rfl rfl rfl (v := (vQ x.r)) rfl)
 ·intro ξ hφ; exact kd (eV (cB Tryz.call98 rfl) (kk (cr x.r 36 og zx.2)))
 ·intro ξ hφ; exact ls (ψ := fun v => ∃ b, v = ptr b 0) (B := fun v => [.blk (cC v) (cI (⟨false, 0⟩ : GI)) 25]) [.emp] rfl (fun v _ => by simp only [dJ, bm] <;> rfl) (fun v hv => by simpa [DF.one, bm] using hv) (jo (ic vv25 rfl))
 ·intro ξ hφ; exact ls (ψ := fun v => ∃ b, v = ptr b 0) (B := fun v => [.blk (cC v) (cI (⟨false, 0⟩ : GI)) 25]) [.emp] rfl (fun v _ => by simp only [dJ, bm] <;> rfl) (fun v hv => by simpa [DF.one, bm] using hv) (jo (ic vv25 rfl))
 ·intro ξ hφ; obtain ⟨b5, hb6⟩ := hφ 6 rfl; exact mR [.blk b5 (cI (⟨false, 0⟩ : GI)) 25] [.blk b5 (cI (aq x.r)) 25] (congrArg (fun v => [Asn.blk (cC v) (cI (⟨false, 0⟩ : GI)) 25]) hb6) (congrArg (fun v => [Asn.blk (cC v) (cI (aq x.r)) 25]) hb6) (qm zz25 (Eq.trans rfl (congrArg some hb6)) rfl rfl rfl rfl rfl rfl)
 ·intro ξ hφ; obtain ⟨b6, hb7⟩ := hφ 7 rfl; exact mR [.blk b6 (cI (⟨false, 0⟩ : GI)) 25] [.blk b6 (cI (aa x.r)) 25] (congrArg (fun v => [Asn.blk (cC v) (cI (⟨false, 0⟩ : GI)) 25]) hb7) (congrArg (fun v => [Asn.blk (cC v) (cI (aa x.r)) 25]) hb7) (qm zz25 (Eq.trans rfl (congrArg some hb7)) rfl rfl rfl rfl rfl rfl)
 clear h ac wo; intro ξ ac wo hφ h
 replace h : St w0 59 [(1, (ptr b1 0)), (2, (ptr b2 0)), (3, (ptr b3 0)), (4, (ptr b4 0)), (5, ξ 6), (6, ξ 7)] [.blk b2 (cI (⟨false, 0⟩ : GI)) 25, .blk b1 (cR x) 71, .blk b3 (cI (aq x.p)) 25, .blk b4 (cI (aa x.p)) 25, .blk (cC (ξ 6)) (cI (aq x.r)) 25, .blk (cC (ξ 7)) (cI (aa x.r)) 25] ac wo := (h.pick [0, 1, 2, 3, 4, 5] DC).sub ⟨rfl, rfl, rfl, rfl, rfl, rfl, trivial⟩
 revert h
 obtain ⟨b5, hb6⟩ : ∃ b, ξ 6 = ptr b 0 := hφ 6
 obtain ⟨b6, hb7⟩ : ∃ b, ξ 7 = ptr b 0 := hφ 7
 rw [hb6, hb7]; intro h
 clear hb6 hb7
 clear hφ ξ
 refine gz h <| (W) ?_; clear h ac wo; intro ac wo h
 have s5 := aA ((cH (aa x.p) (aa x.p) 35 og s2 s2) w0)
 have s6 := aA ((cH (aq x.r) (aa x.r) 35 og s3 s4) w0)
 have s7 := aA ((cH (ab (aa x.p) (aa x.p)) (ab (aq x.r) (aa x.r)) 34 og s5 s6) w0)
 have s8 := Calls.pr ((fun w_ hB_ hS_ => mE (ab (ab (aa x.p) (aa x.p)) (ab (aq x.r) (aa x.r))) (sD ht) (gp s7 og) w_ ) _ h.bel h.sep)
 replace h := h.emps 1
 refine gm mixed [⟨.det (vI (aa x.p)), [3]⟩, ⟨.det (vI (aa x.p)), [3]⟩, ⟨.det (vI (ab (aa x.p) (aa x.p))), []⟩, ⟨.det (vI (aq x.r)), [4]⟩, ⟨.det (vI (aa x.r)), [5]⟩, ⟨.det (vI (ab (aq x.r) (aa x.r))), []⟩, ⟨.det (vI (ab (ab (aa x.p) (aa x.p)) (ab (aq x.r) (aa x.r)))), []⟩, ⟨.det (.tuple #[(vI ((aM (ab (ab (aa x.p) (aa x.p)) (ab (aq x.r) (aa x.r)))).1)), (.int .i64 ((aM (ab (ab (aa x.p) (aa x.p)) (ab (aq x.r) (aa x.r)))).2))]), []⟩, ⟨.det (.tuple #[(vI ((aM (ab (ab (aa x.p) (aa x.p)) (ab (aq x.r) (aa x.r)))).1)), (.int .i64 ((aM (ab (ab (aa x.p) (aa x.p)) (ab (aq x.r) (aa x.r)))).2))]), []⟩, ⟨.det (vI ((aM (ab (ab (aa x.p) (aa x.p)) (ab (aq x.r) (aa x.r)))).1)), []⟩, ⟨.det (.int .i64 ((aM (ab (ab (aa x.p) (aa x.p)) (ab (aq x.r) (aa x.r)))).2)), []⟩, ⟨.nd (.one 11 fun v => ∃ b, v = ptr b 0), [6]⟩, ⟨.det undef, [6]⟩, ⟨.det (.int .i64 ((aM (ab (ab (aa x.p) (aa x.p)) (ab (aq x.r) (aa x.r)))).2)), []⟩] [⟨.blk b2 (cI (⟨false, 0⟩ : GI)) 25, []⟩, ⟨.blk b1 (cR x) 71, []⟩, ⟨.blk b3 (cI (aq x.p)) 25, []⟩, ⟨.blk b4 (cI (aa x.p)) 25, []⟩, ⟨.blk b5 (cI (aq x.r)) 25, []⟩, ⟨.blk b6 (cI (aa x.r)) 25, []⟩, ⟨.emp, [(11, .one 11 fun v => .blk (cC v) (cI (⟨false, 0⟩ : GI)) 25), (12, .one 11 fun v => .blk (cC v) (cI ((aM (ab (ab (aa x.p) (aa x.p)) (ab (aq x.r) (aa x.r)))).1)) 25)]⟩] h rfl (by kernel_rfl) ⟨?_, ?_, ?_, ?_, ?_, ?_, ?_, ?_, ?_, ?_, ?_, ?_, ?_, ?_, trivial⟩ ?_
 ·intro ξ hφ; exact iM [.blk b4 (cI (aa x.p)) 25] rfl rfl (iB aa25 zz25 rfl rfl rfl (v := (vI (aa x.p))) rfl)
 ·intro ξ hφ; exact iM [.blk b4 (cI (aa x.p)) 25] rfl rfl (iB aa25 zz25 rfl rfl rfl (v := (vI (aa x.p))) rfl)
 ·intro ξ hφ; exact kd (eV (vs := [(vI (aa x.p)), (vI (aa x.p))]) (cB cc97 rfl) (fun w_ hB_ hS_ => (cH (aa x.p) (aa x.p) 35 og s2 s2) w_))
 ·intro ξ hφ; exact iM [.blk b5 (cI (aq x.r)) 25] rfl rfl (iB aa25 zz25 rfl rfl rfl (v := (vI (aq x.r))) rfl)
 ·intro ξ hφ; exact iM [.blk b6 (cI (aa x.r)) 25] rfl rfl (iB aa25 zz25 rfl rfl rfl (v := (vI (aa x.r))) rfl)
 ·intro ξ hφ; exact kd (eV (cB cc97 rfl) (kk (cH (aq x.r) (aa x.r) 35 og s3 s4)))
 ·intro ξ hφ; exact kd (eV (cB cc97 rfl) (kk (cH (ab (aa x.p) (aa x.p)) (ab (aq x.r) (aa x.r)) 34 og s5 s6)))
 ·intro ξ hφ; exact kd (eV (cB Tryz.call251 rfl) (kk (mE (ab (ab (aa x.p) (aa x.p)) (ab (aq x.r) (aa x.r))) (sD ht) (gp s7 og))))
 ·intro ξ hφ; exact a6 (ay rfl)
 ·intro ξ hφ; exact a6 (cn rfl rfl)
 ·intro ξ hφ; exact a6 (cn rfl rfl)
 ·intro ξ hφ; exact ls (ψ := fun v => ∃ b, v = ptr b 0) (B := fun v => [.blk (cC v) (cI (⟨false, 0⟩ : GI)) 25]) [.emp] rfl (fun v _ => by simp only [dJ, bm] <;> rfl) (fun v hv => by simpa [DF.one, bm] using hv) (jo (ic vv25 rfl))
 ·intro ξ hφ; obtain ⟨b7, hb11⟩ := hφ 11 rfl; exact mR [.blk b7 (cI (⟨false, 0⟩ : GI)) 25] [.blk b7 (cI ((aM (ab (ab (aa x.p) (aa x.p)) (ab (aq x.r) (aa x.r)))).1)) 25] (congrArg (fun v => [Asn.blk (cC v) (cI (⟨false, 0⟩ : GI)) 25]) hb11) (congrArg (fun v => [Asn.blk (cC v) (cI ((aM (ab (ab (aa x.p) (aa x.p)) (ab (aq x.r) (aa x.r)))).1)) 25]) hb11) (qm zz25 (Eq.trans rfl (congrArg some hb11)) rfl rfl rfl rfl rfl rfl)
 ·intro ξ hφ; exact a6 (az rfl)
 clear h ac wo; intro ξ ac wo hφ h
 replace h : St w0 59 [(1, (ptr b1 0)), (2, (ptr b2 0)), (3, (ptr b3 0)), (4, (ptr b4 0)), (6, (ptr b6 0)), (7, ξ 11)] [.blk b2 (cI (⟨false, 0⟩ : GI)) 25, .blk b1 (cR x) 71, .blk b3 (cI (aq x.p)) 25, .blk b4 (cI (aa x.p)) 25, .blk b5 (cI (aq x.r)) 25, .blk b6 (cI (aa x.r)) 25, .blk (cC (ξ 11)) (cI ((aM (ab (ab (aa x.p) (aa x.p)) (ab (aq x.r) (aa x.r)))).1)) 25] ac wo := (h.pick [0, 1, 2, 3, 4, 5, 6] DC).sub ⟨rfl, rfl, rfl, rfl, rfl, rfl, trivial⟩
 revert h
 obtain ⟨b7, hb11⟩ : ∃ b, ξ 11 = ptr b 0 := hφ 11
 rw [hb11]; intro h
 clear hb11
 clear hφ ξ
 have c9 := cH (aq x.p) (aa x.r) 35 og s1 s4
 have s9 := aA (c9 w0)
 refine gz h <| (xk (c9)) <| (xa) fun b8 => (ai) ?_ ?_ <;> clear h ac wo <;> intro ac wo h hc1
 ·
  have q := hc1; try simp at q
  have s10 := aA ((ew 1 40 og  og) w0)
  have s11 := aA ((fx ((aM (ab (ab (aa x.p) (aa x.p)) (ab (aq x.r) (aa x.r)))).1) (aB 1) 28 og s8 (gp s10 og)) w0)
  have s12 := Calls.pr ((fun w_ hB_ hS_ => nk (ab (aq x.p) (aa x.r)) (aN ((aM (ab (ab (aa x.p) (aa x.p)) (ab (aq x.r) (aa x.r)))).1) (aB 1)) (gp s9 og) s11 w_ ) _ h.bel h.sep)
  refine gz h <| (dr1 (H := [⟨.blk b8 (cI (ab (aq x.p) (aa x.r))) 25, [(5, .con (.blk b8 (cI (bZ (ab (aq x.p) (aa x.r)) (aN ((aM (ab (ab (aa x.p) (aa x.p)) (ab (aq x.r) (aa x.r)))).1) (aB 1)))) 25))]⟩, ⟨.blk b2 (cI (⟨false, 0⟩ : GI)) 25, []⟩, ⟨.blk b1 (cR x) 71, []⟩, ⟨.blk b3 (cI (aq x.p)) 25, []⟩, ⟨.blk b4 (cI (aa x.p)) 25, []⟩, ⟨.blk b5 (cI (aq x.r)) 25, []⟩, ⟨.blk b6 (cI (aa x.r)) 25, []⟩, ⟨.blk b7 (cI ((aM (ab (ab (aa x.p) (aa x.p)) (ab (aq x.r) (aa x.r)))).1)) 25, []⟩]) (hob := (oX (h := by exact fun _ => kd (eV (vs := [(.int .i64 1)]) (cB cc93 rfl) (fun w_ hB_ hS_ => (ew 1 40 og  og) w_)))) <| (oK (fx ((aM (ab (ab (aa x.p) (aa x.p)) (ab (aq x.r) (aa x.r)))).1) (aB 1) 28 og s8 (gp s10 og))) <| (oK (nk (ab (aq x.p) (aa x.r)) (aN ((aM (ab (ab (aa x.p) (aa x.p)) (ab (aq x.r) (aa x.r)))).1) (aB 1)) (gp s9 og) s11)) <| oE)) <| (W) ?_; clear h ac wo; intro ac wo h
  have c13 := cH (aa x.p) (aa x.r) 35 og s2 s4
  have s13 := aA (c13 w0)
  have s14 := aA ((hG (bZ (ab (aq x.p) (aa x.r)) (aN ((aM (ab (ab (aa x.p) (aa x.p)) (ab (aq x.r) (aa x.r)))).1) (aB 1))) (ab (aa x.p) (aa x.r)) 25 og s12 (gp s13 og)) w0)
  replace h := h.emps 2
  refine gm mixed [⟨.det (vI (bZ (ab (aq x.p) (aa x.r)) (aN ((aM (ab (ab (aa x.p) (aa x.p)) (ab (aq x.r) (aa x.r)))).1) (aB 1)))), [0]⟩, ⟨.det (vI (aa x.p)), [4]⟩, ⟨.det (vI (aa x.r)), [6]⟩, ⟨.det (vI (ab (aa x.p) (aa x.r))), []⟩, ⟨.det (.tuple #[(vI ((aX (bZ (ab (aq x.p) (aa x.r)) (aN ((aM (ab (ab (aa x.p) (aa x.p)) (ab (aq x.r) (aa x.r)))).1) (aB 1))) (ab (aa x.p) (aa x.r))).1)), (vI ((aX (bZ (ab (aq x.p) (aa x.r)) (aN ((aM (ab (ab (aa x.p) (aa x.p)) (ab (aq x.r) (aa x.r)))).1) (aB 1))) (ab (aa x.p) (aa x.r))).2.1)), (.int .i64 ((aX (bZ (ab (aq x.p) (aa x.r)) (aN ((aM (ab (ab (aa x.p) (aa x.p)) (ab (aq x.r) (aa x.r)))).1) (aB 1))) (ab (aa x.p) (aa x.r))).2.2))]), []⟩, ⟨.det (.tuple #[(vI ((aX (bZ (ab (aq x.p) (aa x.r)) (aN ((aM (ab (ab (aa x.p) (aa x.p)) (ab (aq x.r) (aa x.r)))).1) (aB 1))) (ab (aa x.p) (aa x.r))).1)), (vI ((aX (bZ (ab (aq x.p) (aa x.r)) (aN ((aM (ab (ab (aa x.p) (aa x.p)) (ab (aq x.r) (aa x.r)))).1) (aB 1))) (ab (aa x.p) (aa x.r))).2.1)), (.int .i64 ((aX (bZ (ab (aq x.p) (aa x.r)) (aN ((aM (ab (ab (aa x.p) (aa x.p)) (ab (aq x.r) (aa x.r)))).1) (aB 1))) (ab (aa x.p) (aa x.r))).2.2))]), []⟩, ⟨.det (vI ((aX (bZ (ab (aq x.p) (aa x.r)) (aN ((aM (ab (ab (aa x.p) (aa x.p)) (ab (aq x.r) (aa x.r)))).1) (aB 1))) (ab (aa x.p) (aa x.r))).1)), []⟩, ⟨.det (vI ((aX (bZ (ab (aq x.p) (aa x.r)) (aN ((aM (ab (ab (aa x.p) (aa x.p)) (ab (aq x.r) (aa x.r)))).1) (aB 1))) (ab (aa x.p) (aa x.r))).2.1)), []⟩, ⟨.det (.int .i64 ((aX (bZ (ab (aq x.p) (aa x.r)) (aN ((aM (ab (ab (aa x.p) (aa x.p)) (ab (aq x.r) (aa x.r)))).1) (aB 1))) (ab (aa x.p) (aa x.r))).2.2)), []⟩, ⟨.nd (.one 9 fun v => ∃ b, v = ptr b 0), [8]⟩, ⟨.nd (.one 10 fun v => ∃ b, v = ptr b 0), [9]⟩, ⟨.det undef, [8]⟩, ⟨.det undef, [9]⟩, ⟨.det (.int .i64 ((aX (bZ (ab (aq x.p) (aa x.r)) (aN ((aM (ab (ab (aa x.p) (aa x.p)) (ab (aq x.r) (aa x.r)))).1) (aB 1))) (ab (aa x.p) (aa x.r))).2.2)), []⟩] [⟨.blk b8 (cI (bZ (ab (aq x.p) (aa x.r)) (aN ((aM (ab (ab (aa x.p) (aa x.p)) (ab (aq x.r) (aa x.r)))).1) (aB 1)))) 25, []⟩, ⟨.blk b2 (cI (⟨false, 0⟩ : GI)) 25, []⟩, ⟨.blk b1 (cR x) 71, []⟩, ⟨.blk b3 (cI (aq x.p)) 25, []⟩, ⟨.blk b4 (cI (aa x.p)) 25, []⟩, ⟨.blk b5 (cI (aq x.r)) 25, []⟩, ⟨.blk b6 (cI (aa x.r)) 25, []⟩, ⟨.blk b7 (cI ((aM (ab (ab (aa x.p) (aa x.p)) (ab (aq x.r) (aa x.r)))).1)) 25, []⟩, ⟨.emp, [(9, .one 9 fun v => .blk (cC v) (cI (⟨false, 0⟩ : GI)) 25), (11, .one 9 fun v => .blk (cC v) (cI ((aX (bZ (ab (aq x.p) (aa x.r)) (aN ((aM (ab (ab (aa x.p) (aa x.p)) (ab (aq x.r) (aa x.r)))).1) (aB 1))) (ab (aa x.p) (aa x.r))).1)) 25)]⟩, ⟨.emp, [(10, .one 10 fun v => .blk (cC v) (cI (⟨false, 0⟩ : GI)) 25), (12, .one 10 fun v => .blk (cC v) (cI ((aX (bZ (ab (aq x.p) (aa x.r)) (aN ((aM (ab (ab (aa x.p) (aa x.p)) (ab (aq x.r) (aa x.r)))).1) (aB 1))) (ab (aa x.p) (aa x.r))).2.1)) 25)]⟩] h rfl (by kernel_rfl) ⟨?_, ?_, ?_, ?_, ?_, ?_, ?_, ?_, ?_, ?_, ?_, ?_, ?_, ?_, trivial⟩ ?_
  ·intro ξ hφ; exact iM [.blk b8 (cI (bZ (ab (aq x.p) (aa x.r)) (aN ((aM (ab (ab (aa x.p) (aa x.p)) (ab (aq x.r) (aa x.r)))).1) (aB 1)))) 25] rfl rfl (iB aa25 zz25 rfl rfl rfl (v := (vI (bZ (ab (aq x.p) (aa x.r)) (aN ((aM (ab (ab (aa x.p) (aa x.p)) (ab (aq x.r) (aa x.r)))).1) (aB 1))))) rfl)
  ·intro ξ hφ; exact iM [.blk b4 (cI (aa x.p)) 25] rfl rfl (iB aa25 zz25 rfl rfl rfl (v := (vI (aa x.p))) rfl)
  ·intro ξ hφ; exact iM [.blk b6 (cI (aa x.r)) 25] rfl rfl (iB aa25 zz25 rfl rfl rfl (v := (vI (aa x.r))) rfl)
  ·intro ξ hφ; exact kd (eV (cB cc97 rfl) (kk c13))
  ·intro ξ hφ; exact kd (eV (cB Tryz.call253 rfl) (kk (hG (bZ (ab (aq x.p) (aa x.r)) (aN ((aM (ab (ab (aa x.p) (aa x.p)) (ab (aq x.r) (aa x.r)))).1) (aB 1))) (ab (aa x.p) (aa x.r)) 25 og s12 (gp s13 og))))
  ·intro ξ hφ; exact a6 (ay rfl)
  ·intro ξ hφ; exact a6 (cn rfl rfl)
  ·intro ξ hφ; exact a6 (cn rfl rfl)
  ·intro ξ hφ; exact a6 (cn rfl rfl)
  ·intro ξ hφ; exact ls (ψ := fun v => ∃ b, v = ptr b 0) (B := fun v => [.blk (cC v) (cI (⟨false, 0⟩ : GI)) 25]) [.emp] rfl (fun v _ => by simp only [dJ, bm] <;> rfl) (fun v hv => by simpa [DF.one, bm] using hv) (jo (ic vv25 rfl))
  ·intro ξ hφ; exact ls (ψ := fun v => ∃ b, v = ptr b 0) (B := fun v => [.blk (cC v) (cI (⟨false, 0⟩ : GI)) 25]) [.emp] rfl (fun v _ => by simp only [dJ, bm] <;> rfl) (fun v hv => by simpa [DF.one, bm] using hv) (jo (ic vv25 rfl))
  ·intro ξ hφ; obtain ⟨b9, hb9⟩ := hφ 9 rfl; exact mR [.blk b9 (cI (⟨false, 0⟩ : GI)) 25] [.blk b9 (cI ((aX (bZ (ab (aq x.p) (aa x.r)) (aN ((aM (ab (ab (aa x.p) (aa x.p)) (ab (aq x.r) (aa x.r)))).1) (aB 1))) (ab (aa x.p) (aa x.r))).1)) 25] (congrArg (fun v => [Asn.blk (cC v) (cI (⟨false, 0⟩ : GI)) 25]) hb9) (congrArg (fun v => [Asn.blk (cC v) (cI ((aX (bZ (ab (aq x.p) (aa x.r)) (aN ((aM (ab (ab (aa x.p) (aa x.p)) (ab (aq x.r) (aa x.r)))).1) (aB 1))) (ab (aa x.p) (aa x.r))).1)) 25]) hb9) (qm zz25 (Eq.trans rfl (congrArg some hb9)) rfl rfl rfl rfl rfl rfl)
  ·intro ξ hφ; obtain ⟨b10, hb10⟩ := hφ 10 rfl; exact mR [.blk b10 (cI (⟨false, 0⟩ : GI)) 25] [.blk b10 (cI ((aX (bZ (ab (aq x.p) (aa x.r)) (aN ((aM (ab (ab (aa x.p) (aa x.p)) (ab (aq x.r) (aa x.r)))).1) (aB 1))) (ab (aa x.p) (aa x.r))).2.1)) 25] (congrArg (fun v => [Asn.blk (cC v) (cI (⟨false, 0⟩ : GI)) 25]) hb10) (congrArg (fun v => [Asn.blk (cC v) (cI ((aX (bZ (ab (aq x.p) (aa x.r)) (aN ((aM (ab (ab (aa x.p) (aa x.p)) (ab (aq x.r) (aa x.r)))).1) (aB 1))) (ab (aa x.p) (aa x.r))).2.1)) 25]) hb10) (qm zz25 (Eq.trans rfl (congrArg some hb10)) rfl rfl rfl rfl rfl rfl)
  ·intro ξ hφ; exact a6 (az rfl)
  clear h ac wo; intro ξ ac wo hφ h
  replace h : St w0 59 [(2, (ptr b2 0)), (10, ξ 9)] [.blk b8 (cI (bZ (ab (aq x.p) (aa x.r)) (aN ((aM (ab (ab (aa x.p) (aa x.p)) (ab (aq x.r) (aa x.r)))).1) (aB 1)))) 25, .blk b2 (cI (⟨false, 0⟩ : GI)) 25, .blk b1 (cR x) 71, .blk b3 (cI (aq x.p)) 25, .blk b4 (cI (aa x.p)) 25, .blk b5 (cI (aq x.r)) 25, .blk b6 (cI (aa x.r)) 25, .blk b7 (cI ((aM (ab (ab (aa x.p) (aa x.p)) (ab (aq x.r) (aa x.r)))).1)) 25, .blk (cC (ξ 9)) (cI ((aX (bZ (ab (aq x.p) (aa x.r)) (aN ((aM (ab (ab (aa x.p) (aa x.p)) (ab (aq x.r) (aa x.r)))).1) (aB 1))) (ab (aa x.p) (aa x.r))).1)) 25, .blk (cC (ξ 10)) (cI ((aX (bZ (ab (aq x.p) (aa x.r)) (aN ((aM (ab (ab (aa x.p) (aa x.p)) (ab (aq x.r) (aa x.r)))).1) (aB 1))) (ab (aa x.p) (aa x.r))).2.1)) 25] ac wo := (h.pick [0, 1, 2, 3, 4, 5, 6, 7, 8, 9] DC).sub ⟨rfl, rfl, trivial⟩
  revert h
  obtain ⟨b9, hb9⟩ : ∃ b, ξ 9 = ptr b 0 := hφ 9
  obtain ⟨b10, hb10⟩ : ∃ b, ξ 10 = ptr b 0 := hφ 10
  rw [hb9, hb10]; intro h
  clear hb9 hb10
  clear hφ ξ
  have hd : cL x = (aX (bZ (ab (aq x.p) (aa x.r)) (aN ((aM (ab (ab (aa x.p) (aa x.p)) (ab (aq x.r) (aa x.r)))).1) (aB 1))) (ab (aa x.p) (aa x.r))).1 := pt
  refine gz h <| (W) ?_; clear h ac wo; intro ac wo h
  exact ret h rfl (.cell (v := (vI ((aX (bZ (ab (aq x.p) (aa x.r)) (aN ((aM (ab (ab (aa x.p) (aa x.p)) (ab (aq x.r) (aa x.r)))).1) (aB 1))) (ab (aa x.p) (aa x.r))).1))) rfl (i := 1) rfl aa25 zz25 rfl rfl rfl .nil) rfl (h.retP (by rw [hd] <;> rfl) (by rw [hd]; exact (by rw [← hd]; exact uo ht)))
 ·
  have q := hc1; try simp at q
  have c15 := fx (ab (aq x.p) (aa x.r)) ((aM (ab (ab (aa x.p) (aa x.p)) (ab (aq x.r) (aa x.r)))).1) 28 og (gp s9 og) s8
  have s15 := aA (c15 w0)
  refine gz h <| (xk (c15)) <| (W) ?_; clear h ac wo; intro ac wo h
  have c16 := cH (aa x.p) (aa x.r) 35 og s2 s4
  have s16 := aA (c16 w0)
  have s17 := aA ((hG (aN (ab (aq x.p) (aa x.r)) ((aM (ab (ab (aa x.p) (aa x.p)) (ab (aq x.r) (aa x.r)))).1)) (ab (aa x.p) (aa x.r)) 27 og s15 (gp s16 og)) w0)
  replace h := h.emps 2
  refine gm mixed [⟨.det (vI (aN (ab (aq x.p) (aa x.r)) ((aM (ab (ab (aa x.p) (aa x.p)) (ab (aq x.r) (aa x.r)))).1))), [0]⟩, ⟨.det (vI (aa x.p)), [4]⟩, ⟨.det (vI (aa x.r)), [6]⟩, ⟨.det (vI (ab (aa x.p) (aa x.r))), []⟩, ⟨.det (.tuple #[(vI ((aX (aN (ab (aq x.p) (aa x.r)) ((aM (ab (ab (aa x.p) (aa x.p)) (ab (aq x.r) (aa x.r)))).1)) (ab (aa x.p) (aa x.r))).1)), (vI ((aX (aN (ab (aq x.p) (aa x.r)) ((aM (ab (ab (aa x.p) (aa x.p)) (ab (aq x.r) (aa x.r)))).1)) (ab (aa x.p) (aa x.r))).2.1)), (.int .i64 ((aX (aN (ab (aq x.p) (aa x.r)) ((aM (ab (ab (aa x.p) (aa x.p)) (ab (aq x.r) (aa x.r)))).1)) (ab (aa x.p) (aa x.r))).2.2))]), []⟩, ⟨.det (.tuple #[(vI ((aX (aN (ab (aq x.p) (aa x.r)) ((aM (ab (ab (aa x.p) (aa x.p)) (ab (aq x.r) (aa x.r)))).1)) (ab (aa x.p) (aa x.r))).1)), (vI ((aX (aN (ab (aq x.p) (aa x.r)) ((aM (ab (ab (aa x.p) (aa x.p)) (ab (aq x.r) (aa x.r)))).1)) (ab (aa x.p) (aa x.r))).2.1)), (.int .i64 ((aX (aN (ab (aq x.p) (aa x.r)) ((aM (ab (ab (aa x.p) (aa x.p)) (ab (aq x.r) (aa x.r)))).1)) (ab (aa x.p) (aa x.r))).2.2))]), []⟩, ⟨.det (vI ((aX (aN (ab (aq x.p) (aa x.r)) ((aM (ab (ab (aa x.p) (aa x.p)) (ab (aq x.r) (aa x.r)))).1)) (ab (aa x.p) (aa x.r))).1)), []⟩, ⟨.det (vI ((aX (aN (ab (aq x.p) (aa x.r)) ((aM (ab (ab (aa x.p) (aa x.p)) (ab (aq x.r) (aa x.r)))).1)) (ab (aa x.p) (aa x.r))).2.1)), []⟩, ⟨.det (.int .i64 ((aX (aN (ab (aq x.p) (aa x.r)) ((aM (ab (ab (aa x.p) (aa x.p)) (ab (aq x.r) (aa x.r)))).1)) (ab (aa x.p) (aa x.r))).2.2)), []⟩, ⟨.nd (.one 9 fun v => ∃ b, v = ptr b 0), [8]⟩, ⟨.nd (.one 10 fun v => ∃ b, v = ptr b 0), [9]⟩, ⟨.det undef, [8]⟩, ⟨.det undef, [9]⟩, ⟨.det (.int .i64 ((aX (aN (ab (aq x.p) (aa x.r)) ((aM (ab (ab (aa x.p) (aa x.p)) (ab (aq x.r) (aa x.r)))).1)) (ab (aa x.p) (aa x.r))).2.2)), []⟩] [⟨.blk b8 (cI (aN (ab (aq x.p) (aa x.r)) ((aM (ab (ab (aa x.p) (aa x.p)) (ab (aq x.r) (aa x.r)))).1))) 25, []⟩, ⟨.blk b2 (cI (⟨false, 0⟩ : GI)) 25, []⟩, ⟨.blk b1 (cR x) 71, []⟩, ⟨.blk b3 (cI (aq x.p)) 25, []⟩, ⟨.blk b4 (cI (aa x.p)) 25, []⟩, ⟨.blk b5 (cI (aq x.r)) 25, []⟩, ⟨.blk b6 (cI (aa x.r)) 25, []⟩, ⟨.blk b7 (cI ((aM (ab (ab (aa x.p) (aa x.p)) (ab (aq x.r) (aa x.r)))).1)) 25, []⟩, ⟨.emp, [(9, .one 9 fun v => .blk (cC v) (cI (⟨false, 0⟩ : GI)) 25), (11, .one 9 fun v => .blk (cC v) (cI ((aX (aN (ab (aq x.p) (aa x.r)) ((aM (ab (ab (aa x.p) (aa x.p)) (ab (aq x.r) (aa x.r)))).1)) (ab (aa x.p) (aa x.r))).1)) 25)]⟩, ⟨.emp, [(10, .one 10 fun v => .blk (cC v) (cI (⟨false, 0⟩ : GI)) 25), (12, .one 10 fun v => .blk (cC v) (cI ((aX (aN (ab (aq x.p) (aa x.r)) ((aM (ab (ab (aa x.p) (aa x.p)) (ab (aq x.r) (aa x.r)))).1)) (ab (aa x.p) (aa x.r))).2.1)) 25)]⟩] h rfl (by kernel_rfl) ⟨?_, ?_, ?_, ?_, ?_, ?_, ?_, ?_, ?_, ?_, ?_, ?_, ?_, ?_, trivial⟩ ?_
  ·intro ξ hφ; exact iM [.blk b8 (cI (aN (ab (aq x.p) (aa x.r)) ((aM (ab (ab (aa x.p) (aa x.p)) (ab (aq x.r) (aa x.r)))).1))) 25] rfl rfl (iB aa25 zz25 rfl rfl rfl (v := (vI (aN (ab (aq x.p) (aa x.r)) ((aM (ab (ab (aa x.p) (aa x.p)) (ab (aq x.r) (aa x.r)))).1)))) rfl)
  ·intro ξ hφ; exact iM [.blk b4 (cI (aa x.p)) 25] rfl rfl (iB aa25 zz25 rfl rfl rfl (v := (vI (aa x.p))) rfl)
  ·intro ξ hφ; exact iM [.blk b6 (cI (aa x.r)) 25] rfl rfl (iB aa25 zz25 rfl rfl rfl (v := (vI (aa x.r))) rfl)
  ·intro ξ hφ; exact kd (eV (cB cc97 rfl) (kk c16))
  ·intro ξ hφ; exact kd (eV (cB Tryz.call253 rfl) (kk (hG (aN (ab (aq x.p) (aa x.r)) ((aM (ab (ab (aa x.p) (aa x.p)) (ab (aq x.r) (aa x.r)))).1)) (ab (aa x.p) (aa x.r)) 27 og s15 (gp s16 og))))
  ·intro ξ hφ; exact a6 (ay rfl)
  ·intro ξ hφ; exact a6 (cn rfl rfl)
  ·intro ξ hφ; exact a6 (cn rfl rfl)
  ·intro ξ hφ; exact a6 (cn rfl rfl)
  ·intro ξ hφ; exact ls (ψ := fun v => ∃ b, v = ptr b 0) (B := fun v => [.blk (cC v) (cI (⟨false, 0⟩ : GI)) 25]) [.emp] rfl (fun v _ => by simp only [dJ, bm] <;> rfl) (fun v hv => by simpa [DF.one, bm] using hv) (jo (ic vv25 rfl))
  ·intro ξ hφ; exact ls (ψ := fun v => ∃ b, v = ptr b 0) (B := fun v => [.blk (cC v) (cI (⟨false, 0⟩ : GI)) 25]) [.emp] rfl (fun v _ => by simp only [dJ, bm] <;> rfl) (fun v hv => by simpa [DF.one, bm] using hv) (jo (ic vv25 rfl))
  ·intro ξ hφ; obtain ⟨b11, hb9⟩ := hφ 9 rfl; exact mR [.blk b11 (cI (⟨false, 0⟩ : GI)) 25] [.blk b11 (cI ((aX (aN (ab (aq x.p) (aa x.r)) ((aM (ab (ab (aa x.p) (aa x.p)) (ab (aq x.r) (aa x.r)))).1)) (ab (aa x.p) (aa x.r))).1)) 25] (congrArg (fun v => [Asn.blk (cC v) (cI (⟨false, 0⟩ : GI)) 25]) hb9) (congrArg (fun v => [Asn.blk (cC v) (cI ((aX (aN (ab (aq x.p) (aa x.r)) ((aM (ab (ab (aa x.p) (aa x.p)) (ab (aq x.r) (aa x.r)))).1)) (ab (aa x.p) (aa x.r))).1)) 25]) hb9) (qm zz25 (Eq.trans rfl (congrArg some hb9)) rfl rfl rfl rfl rfl rfl)
  ·intro ξ hφ; obtain ⟨b12, hb10⟩ := hφ 10 rfl; exact mR [.blk b12 (cI (⟨false, 0⟩ : GI)) 25] [.blk b12 (cI ((aX (aN (ab (aq x.p) (aa x.r)) ((aM (ab (ab (aa x.p) (aa x.p)) (ab (aq x.r) (aa x.r)))).1)) (ab (aa x.p) (aa x.r))).2.1)) 25] (congrArg (fun v => [Asn.blk (cC v) (cI (⟨false, 0⟩ : GI)) 25]) hb10) (congrArg (fun v => [Asn.blk (cC v) (cI ((aX (aN (ab (aq x.p) (aa x.r)) ((aM (ab (ab (aa x.p) (aa x.p)) (ab (aq x.r) (aa x.r)))).1)) (ab (aa x.p) (aa x.r))).2.1)) 25]) hb10) (qm zz25 (Eq.trans rfl (congrArg some hb10)) rfl rfl rfl rfl rfl rfl)
  ·intro ξ hφ; exact a6 (az rfl)
  clear h ac wo; intro ξ ac wo hφ h
  replace h : St w0 59 [(2, (ptr b2 0)), (10, ξ 9)] [.blk b8 (cI (aN (ab (aq x.p) (aa x.r)) ((aM (ab (ab (aa x.p) (aa x.p)) (ab (aq x.r) (aa x.r)))).1))) 25, .blk b2 (cI (⟨false, 0⟩ : GI)) 25, .blk b1 (cR x) 71, .blk b3 (cI (aq x.p)) 25, .blk b4 (cI (aa x.p)) 25, .blk b5 (cI (aq x.r)) 25, .blk b6 (cI (aa x.r)) 25, .blk b7 (cI ((aM (ab (ab (aa x.p) (aa x.p)) (ab (aq x.r) (aa x.r)))).1)) 25, .blk (cC (ξ 9)) (cI ((aX (aN (ab (aq x.p) (aa x.r)) ((aM (ab (ab (aa x.p) (aa x.p)) (ab (aq x.r) (aa x.r)))).1)) (ab (aa x.p) (aa x.r))).1)) 25, .blk (cC (ξ 10)) (cI ((aX (aN (ab (aq x.p) (aa x.r)) ((aM (ab (ab (aa x.p) (aa x.p)) (ab (aq x.r) (aa x.r)))).1)) (ab (aa x.p) (aa x.r))).2.1)) 25] ac wo := (h.pick [0, 1, 2, 3, 4, 5, 6, 7, 8, 9] DC).sub ⟨rfl, rfl, trivial⟩
  revert h
  obtain ⟨b11, hb9⟩ : ∃ b, ξ 9 = ptr b 0 := hφ 9
  obtain ⟨b12, hb10⟩ : ∃ b, ξ 10 = ptr b 0 := hφ 10
  rw [hb9, hb10]; intro h
  clear hb9 hb10
  clear hφ ξ
  have hd : cL x = (aX (aN (ab (aq x.p) (aa x.r)) ((aM (ab (ab (aa x.p) (aa x.p)) (ab (aq x.r) (aa x.r)))).1)) (ab (aa x.p) (aa x.r))).1 := pt
  refine gz h <| (W) ?_; clear h ac wo; intro ac wo h
  exact ret h rfl (.cell (v := (vI ((aX (aN (ab (aq x.p) (aa x.r)) ((aM (ab (ab (aa x.p) (aa x.p)) (ab (aq x.r) (aa x.r)))).1)) (ab (aa x.p) (aa x.r))).1))) rfl (i := 1) rfl aa25 zz25 rfl rfl rfl .nil) rfl (h.retP (by rw [hd] <;> rfl) (by rw [hd]; exact (by rw [← hd]; exact uo ht)))
attribute [irreducible] cL
def gi (x : GR) (y : GR) : GQ :=
 (eJ (aN (cL x) (aB 1)))
theorem oW (x : GR) (y : GR) (ht : Tm x) (hs1 : decide ((gY x) < 0) = false) (hs2 : decide ((gY y) ≤ 0) = false) (hs3 : decide ((fB y (eJ (aN (cL x) (aB 1)))) > 0) = true) (zx : SzR 36 x) (zy : SzR 36 y) (w0 : World) : Calls zP 209 #[(vR x), (vR y)] w0 (RetP w0 (vQ (gi x y)) (SzQ 32 (gi x y))) := by
 refine enter (N := 81) Tryz.func209 rfl rfl ?_; intro ac h
 refine gz h <| (xb) fun b1 => (xb) fun b2 => (xa) fun b3 => (xk (ml x (cJ zx og))) <| (xg (hs := by exact fun hg => eV enA (kk (ml y (cJ zy og))))) <| (W) ?_; clear h ac; intro ac wo h
 refine p7 h rfl ?_ (by rw [hs1]; rfl)
 refine gz h <| (xk (ml y (cJ zy og))) <| (W) ?_; clear h ac wo; intro ac wo h
 refine p7 h rfl ?_ hs2
 have c1 := qW x og zx
 have s1 := Calls.pr (c1 w0)
 refine gz h <| (xk (c1)) <| (xa) fun b4 => (W) ?_; clear h ac wo; intro ac wo h
 have s2 := aA ((ew 1 40 og  og) w0)
 have s3 := aA ((fx (cL x) (aB 1) 39 og s1 s2) w0)
 have s4 := Calls.pr ((fun w_ hB_ hS_ => nL (aN (cL x) (aB 1)) (gp s3 og) w_ ) _ h.bel h.sep)
 replace h := h.emps 1
 refine gm mixed [⟨.det (vI (cL x)), [0]⟩, ⟨.det (vI (aB 1)), []⟩, ⟨.det (vI (aN (cL x) (aB 1))), []⟩, ⟨.det (vQ (eJ (aN (cL x) (aB 1)))), []⟩, ⟨.nd (.one 4 fun v => ∃ b, v = ptr b 0), [4]⟩, ⟨.det undef, [4]⟩] [⟨.blk b4 (cI (cL x)) 25, []⟩, ⟨.blk b3 (cQ oQ) 27, []⟩, ⟨.blk b2 (cR y) 71, []⟩, ⟨.blk b1 (cR x) 71, []⟩, ⟨.emp, [(4, .one 4 fun v => .blk (cC v) (cQ oQ) 27), (5, .one 4 fun v => .blk (cC v) (cQ (eJ (aN (cL x) (aB 1)))) 27)]⟩] h rfl (by kernel_rfl) ⟨?_, ?_, ?_, ?_, ?_, ?_, trivial⟩ ?_
 ·intro ξ hφ; exact iM [.blk b4 (cI (cL x)) 25] rfl rfl (iB aa25 zz25 rfl rfl rfl (v := (vI (cL x))) rfl)
 ·intro ξ hφ; exact kd (eV (vs := [(.int .i64 1)]) (cB cc93 rfl) (fun w_ hB_ hS_ => (ew 1 40 og  og) w_))
 ·intro ξ hφ; exact kd (eV (cB Tryz.call96 rfl) (kk (fx (cL x) (aB 1) 39 og s1 s2)))
 ·intro ξ hφ; exact kd (eV (cB Tryz.call267 rfl) (kk (nL (aN (cL x) (aB 1)) (gp s3 og))))
 ·intro ξ hφ; exact ls (ψ := fun v => ∃ b, v = ptr b 0) (B := fun v => [.blk (cC v) (cQ oQ) 27]) [.emp] rfl (fun v _ => by simp only [dJ, bm] <;> rfl) (fun v hv => by simpa [DF.one, bm] using hv) (jo (ic vv27 rfl))
 ·intro ξ hφ; obtain ⟨b5, hb4⟩ := hφ 4 rfl; exact mR [.blk b5 (cQ oQ) 27] [.blk b5 (cQ (eJ (aN (cL x) (aB 1)))) 27] (congrArg (fun v => [Asn.blk (cC v) (cQ oQ) 27]) hb4) (congrArg (fun v => [Asn.blk (cC v) (cQ (eJ (aN (cL x) (aB 1)))) 27]) hb4) (qm zz27 (Eq.trans rfl (congrArg some hb4)) rfl rfl rfl rfl rfl rfl)
 clear h ac wo; intro ξ ac wo hφ h
 replace h : St w0 81 [(2, (ptr b1 0)), (3, (ptr b2 0)), (4, (ptr b3 0)), (5, (ptr b4 0)), (6, ξ 4)] [.blk b4 (cI (cL x)) 25, .blk b3 (cQ oQ) 27, .blk b2 (cR y) 71, .blk b1 (cR x) 71, .blk (cC (ξ 4)) (cQ (eJ (aN (cL x) (aB 1)))) 27] ac wo := (h.pick [0, 1, 2, 3, 4] DC).sub ⟨rfl, rfl, rfl, rfl, rfl, trivial⟩
 revert h
 obtain ⟨b5, hb4⟩ : ∃ b, ξ 4 = ptr b 0 := hφ 4
 rw [hb4]; intro h
 clear hb4
 clear hφ ξ
 refine gz h <| (xk (nM y (eJ (aN (cL x) (aB 1))) (cJ zy og) (fu s4 og))) <| (W) ?_; clear h ac wo; intro ac wo h
 refine c_ifT h rfl ?_ hs3
 refine gz h <| (W) ?_; clear h ac wo; intro ac wo h
 exact ret h rfl (.cell (v := (vQ (eJ (aN (cL x) (aB 1))))) rfl (i := 1) rfl aa27 zz27 rfl rfl rfl .nil) rfl (h.retP (by unfold gi; rfl) (by unfold gi; exact s4))
attribute [irreducible] gi
def cP (x : GR) (y : GR) : GQ × Int :=
 ((gi x y), 0)
theorem mn (x : GR) (y : GR) (ht : Tm x) (hs0 : decide ((ar x y) ≥ 0) = false) (hs1 : decide ((gY x) < 0) = false) (hs2 : decide ((gY y) ≤ 0) = false) (hs3 : decide ((fB y (eJ (aN (cL x) (aB 1)))) > 0) = true) (zx : SzR 36 x) (zy : SzR 36 y) (w0 : World) : Calls zP 123 #[(vR x), (vR y)] w0 (RetP w0 (.tuple #[(vQ ((cP x y).1)), (.int .i64 ((cP x y).2))]) (SzQ 32 ((cP x y).1))) := by
 refine enter (N := 14) Tryz.func123 rfl rfl ?_; intro ac h
 have p2 := aA ((aO x y 16 og zx zy) w0)
 refine gz h <| (xb) fun b1 => (xb) fun b2 => (xa) fun b3 => (xk (aO x y 16 og zx zy)) <| (W) ?_; clear h; intro _ _ h
 refine p7 h rfl ?_ hs0
 have c3 := oW x y og og og og zx zy
 have s3 := Calls.pr (c3 w0)
 refine gz h <| (xk (c3)) <| (W) ?_; clear h; intro _ _ h
 exact ret h rfl (.cell (v := (vQ (gi x y))) rfl (i := 0) rfl aa27 zz27 rfl rfl rfl (.tmp rfl .nil)) rfl (h.retP (by unfold cP; rfl) (by unfold cP; exact s3))
attribute [irreducible] cP
end Go.Sx
namespace Go.Sx
def nxt (x : GR) : GQ := eJ (aN (cL x) (aB 1))
def BtP (x y : GR) : Prop := Tm x ∧ decide ((ar x y) ≥ 0) = false ∧ decide ((gY x) < 0) = false ∧ decide ((gY y) ≤ 0) = false ∧ decide ((fB y (eJ (aN (cL x) (aB 1)))) > 0) = true ∧ Tm y
def nxB (x : GR) : Bool := bif decide (10 ≤ tk x ∧ tk x < 435) then !(decide ((gY x) < 0)) && (decide (tk x = 10) || !(decide ((gY x) ≤ 0))) && (allI.any fun y => decide (y = dR (nxt x)) && decide (tk x < tk y ∧ tk y ≤ tk x + 10)) else true
theorem nxB_all : allI.all nxB = true := by decide +kernel
theorem all_tm {x : GR} (h : x ∈ allI) : Tm x := by
 unfold allI at h
 rcases List.mem_append.1 h with h | h
 ·unfold insX at h
  simp only [List.mem_cons, List.not_mem_nil, or_false] at h
  rcases h with h | h | h | h
  ·exact ⟨-1, false, .inl rfl, h⟩
  ·exact ⟨-1, true, .inl rfl, h⟩
  ·exact ⟨1000, false, .inr (.inl rfl), h⟩
  ·exact ⟨1000, true, .inr (.inl rfl), h⟩
 ·unfold tp at h
  obtain ⟨i, hi, h⟩ := List.mem_flatMap.1 h
  have hi := List.mem_range.1 hi
  rw [Nat.zero_add] at h
  rcases List.mem_cons.1 h with h | h
  ·exact ⟨i, false, .inr (.inr og), h⟩
  ·exact ⟨i, true, .inr (.inr og), List.mem_singleton.1 h⟩
theorem nx_ok {x : GR} (hx : Tm x) (h1 : 10 ≤ tk x) (h2 : tk x < 435) : decide ((gY x) < 0) = false ∧ (10 < tk x → decide ((gY x) ≤ 0) = false) ∧ Tm (dR (nxt x)) ∧ tk x < tk (dR (nxt x)) ∧ tk (dR (nxt x)) ≤ tk x + 10 := by
 have h := Tm.of_all nxB_all hx
 unfold nxB at h
 rw [decide_eq_true ⟨h1, h2⟩, cond_true, Bool.and_eq_true, Bool.and_eq_true] at h
 obtain ⟨⟨a1, a2⟩, a3⟩ := h
 obtain ⟨y, hy, h⟩ := List.any_eq_true.1 a3
 rw [Bool.and_eq_true, decide_eq_true_eq, decide_eq_true_eq] at h
 obtain ⟨rfl, h3, h4⟩ := h
 refine ⟨by simpa using a1, fun h5 => ?_, all_tm hy, h3, h4⟩
 rw [decide_eq_false (by omega : ¬ tk x = 10), Bool.false_or] at a2
 simpa using a2
theorem bt_of {x y : GR} (hx : Tm x) (hy : Tm y) (h1 : 10 ≤ tk x) (h2 : tk x < 435) (h3 : tk y < 435) (h : tk x + 16 ≤ tk y) : BtP x y := by
 obtain ⟨a1, _, a3, a4, a5⟩ := nx_ok hx h1 h2
 obtain ⟨b1, b2, _⟩ := nx_ok hy og h3
 refine ⟨hx, ?_, a1, b2 og, ?_, hy⟩
 ·rw [hx.cmp hy, f7 og]; rfl
 ·show decide (fB y (nxt x) > 0) = true
  unfold fB
  rw [hy.cmp a3, gW og]; rfl
end Go.Sx
namespace Go.Sx
open Go Go.RowKit Go.Proofs
attribute [local irreducible] Code.wp wpList Rd iq ObS Ent
attribute [local irreducible] ar bS ao aR aG cX
def lh (l : List (U Qd)) (t : GR) (i : Nat) (f : Qd) : Qd × Bool :=
 (f, false)
def da (l : List (U Qd)) (t : GR) (i : Nat) (f : Qd) : Nx (Nat × Qd) (Qd × Bool) :=
 bif (decide ((i : Int) < (l.length : Int))) then
  bif (aY ((gt l i).iv) t t false) then
   .ret ((gt l i).f, true)
  else
   .go ((i + 1), f)
 else
  .out (i, f)
def a7 (l : List (U Qd)) (t : GR) : Qd × Bool :=
 fin (bo (fun s => da l t s.1 s.2) ((l.length - 0) + 1) (0, (⟨(⟨(⟨false, 0⟩ : GI), (⟨false, 0⟩ : GI)⟩ : GQ), (⟨(⟨false, 0⟩ : GI), (⟨false, 0⟩ : GI)⟩ : GQ), (⟨(⟨false, 0⟩ : GI), (⟨false, 0⟩ : GI)⟩ : GQ)⟩ : Qd))) (fun s => lh l t s.1 s.2) (fun r => r)
theorem fv (l : List (U Qd)) (lv : Value) (t : GR) (zl : All (gM 30) l) (zt : SzR 30 t) (w0 : World) (hlv : View w0 lv l) : Calls zP 36 #[lv, (vR t)] w0 (RetP w0 (.tuple #[(vD ((a7 l t).1)), (.bool ((a7 l t).2))]) (SzD 30 ((a7 l t).1))) := by
 refine enter (N := 27) Tryz.func36 rfl rfl ?_; intro ac h
 have hlenl := hlv.len
 obtain ⟨X1, hX1⟩ : ∃ X, bo (fun s => da l t s.1 s.2) ((l.length - 0) + 1) (0, oD) = X := ⟨_, rfl⟩
 refine gz h <| (xb) fun b1 => (xa) fun b2 => (W) ?_; clear h; intro _ _ h
 refine wp_loop_ghost (fun n_ a_ w_ => ∃ (i : Nat) (f : Qd), ((l.length - i) < n_) ∧ (bo (fun s => da l t s.1 s.2) n_ (i, f) = X1) ∧ (i ≤ l.length) ∧ (SzD 30 f) ∧ St w0 27 [(0, lv), (3, (ptr b1 0)), (4, (ptr b2 0)), (6, (iN i))] [.blk b2 (cD f) 53, .blk b1 (cR t) 71] a_ w_) ((l.length - 0) + 1) ⟨0, oD, og, hX1, og, ⟨⟨(bQ 0 DC og), (bQ 0 DC og)⟩, ⟨(bQ 0 DC og), (bQ 0 DC og)⟩, ⟨(bQ 0 DC og), (bQ 0 DC og)⟩⟩, h.rs⟩ ?_
 clear h; rintro n1 _ _ ⟨i, f, hm1, hL1, hi, zf, h⟩
 obtain ⟨m1, rfl⟩ : ∃ m, n1 = m + 1 := ⟨n1 - 1, by omega⟩
 refine gz h <| (ai) ?_ ?_ <;> clear h <;> intro _ _ h hc1
 ·
  have hd1 := of_decide_eq_true hc1
  refine gz h <| (dr0 (hob := (oK (jW ((gt l i).iv) t t false (All.gt zl (bK _)).1 zt zt)) <| oE)) <| (ai) ?_ ?_ <;> clear h <;> intro _ _ h hc2
  ·
   have q := hc2; try simp at q
   have hr1 := fR hL1 pt
   have hd : a7 l t = ((gt l i).f, true) := pt
   refine gz h <| (W) ?_; clear h; intro _ _ h
   exact ret h rfl (.cell (v := (vD ((gt l i).f))) rfl (i := 0) rfl aa53 zz53 rfl rfl rfl (.tmp rfl .nil)) rfl (h.retP (by rw [hd] <;> rfl) (by rw [hd]; exact (All.gt zl (bK _)).2))
  ·
   have q := hc2; try simp at q
   have hg := bq hL1 pt
   exact (nx h) fun _ _ h => by exact ⟨m1, og, _, _, og, hg, og, zf, h.re [0, 1]⟩
 ·
  have hd1 := of_decide_eq_false hc1
  have hx1 := ck hL1 pt
  have hd : a7 l t = (f, false) := pt
  refine gz h <| (W) ?_; clear h; intro _ _ h
  exact ret h rfl (.cell (v := (vD f)) rfl (i := 0) rfl aa53 zz53 rfl rfl rfl (.tmp rfl .nil)) rfl (h.retP (by rw [hd] <;> rfl) (by rw [hd]; exact zf))
attribute [irreducible] a7
def fd (u : U Qd) (t : GR) : Int :=
 (ar u.iv.hi t)
theorem kH (u : U Qd) (t : GR) (zu : gM 30 u) (zt : SzR 30 t) (w0 : World) : Calls zP 129 #[(vUD u), (vR t)] w0 (RetP w0 (.int .i64 (fd u t)) (True)) := by
 refine enter (N := 10) Tryz.func129 rfl rfl ?_; intro ac h
 have p2 := aA ((aO u.iv.hi t 10 og zu.1.2 zt) w0)
 refine gz h <| (xb) fun b1 => (xb) fun b2 => (xk (aO u.iv.hi t 10 og zu.1.2 zt)) <| (W) ?_; clear h; intro _ _ h
 exact (rt h) (h.retP (by unfold fd; rfl) trivial)
attribute [irreducible] fd
def fz (x : List (U Qd)) (target : GR) (i : Nat) (j : Nat) : Int × Bool :=
 ((i : Int), ((decide ((i : Int) < (x.length : Int))) && ((fd (gt x i) target) == 0)))
def aQ (x : List (U Qd)) (target : GR) (i : Nat) (j : Nat) : Nx (Nat × Nat) (Int × Bool) :=
 bif (decide ((i : Int) < (j : Int))) then
  bif (decide ((fd (gt x ((i + j) / 2)) target) < 0)) then
   .go ((((i + j) / 2) + 1), j)
  else
   .go (i, ((i + j) / 2))
 else
  .out (i, j)
def aJ (x : List (U Qd)) (target : GR) : Int × Bool :=
 fin (bo (fun s => aQ x target s.1 s.2) (x.length - 0 + 1) (0, x.length)) (fun s => fz x target s.1 s.2) (fun r => r)
theorem dH (x : List (U Qd)) (xv : Value) (target : GR) (hl : x.length ≤ 1000) (zx : All (gM 30) x) (ztarget : SzR 30 target) (w0 : World) (hxv : View w0 xv x) : Calls zP 128 #[xv, (vR target), (.func (.func 129) #[] #[])] w0 (RetP w0 (.tuple #[(.int .i64 ((aJ x target).1)), (.bool ((aJ x target).2))]) ((0 ≤ (aJ x target).1 ∧ (aJ x target).1 ≤ (x.length : Int)))) := by
 refine enter (N := 49) Tryz.func128 rfl rfl ?_; intro ac h
 have hlenx := hxv.len
 obtain ⟨X1, hX1⟩ : ∃ X, bo (fun s => aQ x target s.1 s.2) (x.length - 0 + 1) (0, x.length) = X := ⟨_, rfl⟩
 refine gz h <| (xb) fun b1 => (W) ?_; clear h; intro _ _ h
 refine wp_loop_ghost (fun n_ a_ w_ => ∃ (i : Nat) (j : Nat), (j - i < n_) ∧ (bo (fun s => aQ x target s.1 s.2) n_ (i, j) = X1) ∧ (i ≤ j) ∧ (j ≤ x.length) ∧ St w0 49 [(0, xv), (2, (.func (.func 129) #[] #[])), (4, (ptr b1 0)), (8, (iN x.length)), (9, (iN i)), (10, (iN j))] [.blk b1 (cR target) 71] a_ w_) (x.length - 0 + 1) ⟨0, x.length, og, hX1, og, og, h.rs⟩ ?_
 clear h; rintro n1 _ _ ⟨i, j, hm1, hL1, hij, hjn, h⟩
 obtain ⟨m1, rfl⟩ : ∃ m, n1 = m + 1 := ⟨n1 - 1, by omega⟩
 refine gz h <| (ai) ?_ ?_ <;> clear h <;> intro _ _ h hc1
 ·
  have hd1 := of_decide_eq_true hc1
  refine gz h <| (xo (hs := by exact bn uu3 uu276 rfl (r := ((i + j : Nat) : Int)) (by rw [IntKind.wrap_u64]; omega))) <| (xo (hs := by exact m6 rfl rfl (r := ((((i + j) / 2 : Nat)) : Int)) og (by first | decide | (simp [IntKind.bits] <;> omega)) (by rw [show ((1 : Int).toNat) = 1 from rfl]; omega))) <| (xo (hs := by exact bn uu276 uu3 rfl (r := ((((i + j) / 2 : Nat)) : Int)) (by rw [IntKind.wrap_i64]; omega))) <| (dr0 (hob := (oK (kH (gt x ((i + j) / 2)) target (All.gt zx (bK _)) ztarget)) <| oE)) <| (ai) ?_ ?_ <;> clear h <;> intro _ _ h hc2
  ·
   have hd2 := of_decide_eq_true hc2
   have hg := bq hL1 pt
   exact (nx h) fun _ _ h => by exact ⟨m1, og, _, _, og, hg, og, og, h.re [0]⟩
  ·
   have hd2 := of_decide_eq_false hc2
   have hg := bq hL1 pt
   exact (nx h) fun _ _ h => by exact ⟨m1, og, _, _, og, hg, og, og, h.re [0]⟩
 ·
  have hd1 := of_decide_eq_false hc1
  have hx1 := ck hL1 pt
  have hd : aJ x target = ((i : Int), ((decide ((i : Int) < (x.length : Int))) && ((fd (gt x i) target) == 0))) := pt
  refine gz h <| (dr0 (hob := (oG (by exact fun hg => kH (gt x i) target (All.gt zx (bK _)) ztarget)) <| oE)) <| (W) ?_; clear h; intro _ _ h
  exact (rt h) (h.retP (by rw [hd] <;> rfl) (by rw [hd]; exact og))
attribute [irreducible] aJ
def ou (l : List (U Qd)) (t : GR) (i : Nat) (mb2 : Qd) : Qd × Bool :=
 ((⟨(⟨(⟨false, 0⟩ : GI), (⟨false, 0⟩ : GI)⟩ : GQ), (⟨(⟨false, 0⟩ : GI), (⟨false, 0⟩ : GI)⟩ : GQ), (⟨(⟨false, 0⟩ : GI), (⟨false, 0⟩ : GI)⟩ : GQ)⟩ : Qd), false)
def eN (l : List (U Qd)) (t : GR) (i : Nat) (mb2 : Qd) : Nx (Nat × Qd) (Qd × Bool) :=
 bif (decide ((i : Int) < (l.length : Int))) then
  bif (decide ((ar (((gt l i).iv).lo) t) > 0)) then
   .out (i, mb2)
  else
   bif (((decide ((ar (((gt l i).iv).lo) t) < 0)) || (!((gt l i).iv).openLo)) && ((!(decide (((gt l i).iv).hi = t))) || (!((gt l i).iv).openHi))) then
    .ret ((gt l i).f, true)
   else
    .go ((i + 1), mb2)
 else
  .out (i, mb2)
def cO (l : List (U Qd)) (t : GR) : Qd × Bool :=
 fin (bo (fun s => eN l t s.1 s.2) ((l.length - (((aJ l t).1).toNat)) + 1) (((aJ l t).1).toNat, (⟨(⟨(⟨false, 0⟩ : GI), (⟨false, 0⟩ : GI)⟩ : GQ), (⟨(⟨false, 0⟩ : GI), (⟨false, 0⟩ : GI)⟩ : GQ), (⟨(⟨false, 0⟩ : GI), (⟨false, 0⟩ : GI)⟩ : GQ)⟩ : Qd))) (fun s => ou l t s.1 s.2) (fun r => r)
theorem lI (l : List (U Qd)) (lv : Value) (t : GR) (hl : l.length ≤ 1000) (zl : All (gM 30) l) (zt : SzR 30 t) (w0 : World) (hlv : View w0 lv l) : Calls zP 38 #[lv, (vR t)] w0 (RetP w0 (.tuple #[(vD ((cO l t).1)), (.bool ((cO l t).2))]) (SzD 30 ((cO l t).1))) := by
 refine enter (N := 68) Tryz.func38 rfl rfl ?_; intro ac h
 have hlenl := hlv.len
 refine nG fun K1 hK1 => ?_
 refine bx h (cR t) rfl rfl rfl fun b1 => ga (cD oD) vv53 rfl rfl fun b2 => g0 (az rfl) rfl <| gn hK1 <| gr fun K2 hK2 => g0 (ay rfl) rfl <| g1 1 rfl (iB aa71 zz71 rfl rfl rfl (v := (vR t)) rfl) rfl ?_; clear h ac; intro ac wo h
 have s1 := Calls.pr ((fun w_ hB_ hS_ => dH l lv t og zl zt w_ (hlv.below hB_)) _ h.bel h.sep)
 have p2 := s1
 refine tz h (cB Tryz.call128 rfl) (fun w_ hB_ hS_ => dH l lv t og zl zt w_ (hlv.below hB_)) rfl <| g0 (ay rfl) rfl <| g0 (Rd.cast (cn rfl rfl) (v := .int .i64 (((aJ l t).1).toNat : Int)) (congrArg (Value.int .i64) og)) rfl <| g0 (cn rfl rfl) rfl <| g0 (az rfl) rfl <| g0 (az rfl) rfl <| gn hK2 <| gq fun K3 hK3 => gB ?_; clear h ac wo; intro ac wo h
 obtain ⟨X1, hX1⟩ : ∃ X, bo (fun s => eN l t s.1 s.2) ((l.length - (((aJ l t).1).toNat)) + 1) (((aJ l t).1).toNat, oD) = X := ⟨_, rfl⟩
 refine wp_loop_ghost (fun n_ a_ w_ => ∃ (i : Nat) (mb2 : Qd), ((l.length - i) < n_) ∧ (bo (fun s => eN l t s.1 s.2) n_ (i, mb2) = X1) ∧ (i ≤ l.length) ∧ (SzD 30 mb2) ∧ St w0 68 [(0, lv), (3, (ptr b1 0)), (4, (ptr b2 0)), (6, (iN i))] [.blk b2 (cD mb2) 53, .blk b1 (cR t) 71] a_ w_) ((l.length - (((aJ l t).1).toNat)) + 1) ⟨((aJ l t).1).toNat, oD, og, hX1, og, ⟨⟨(bQ 0 DC og), (bQ 0 DC og)⟩, ⟨(bQ 0 DC og), (bQ 0 DC og)⟩, ⟨(bQ 0 DC og), (bQ 0 DC og)⟩⟩, h.rs⟩ ?_
 clear h ac wo; rintro n1 ac wo ⟨i, mb2, hm1, hL1, hi, zmb2, h⟩
 obtain ⟨m1, rfl⟩ : ∃ m, n1 = m + 1 := ⟨n1 - 1, by omega⟩
 refine gz h <| gq fun K4 hK4 => gr fun K5 hK5 => g0 (ay rfl) rfl <| g0 (ay rfl) rfl <| g0 (gZ uu50 rfl hlv.sl) rfl <| g0 (jq rfl rfl) rfl <| gn hK5 ?_; clear h ac wo; intro ac wo h
 refine jV h rfl (fun hc1 => ?_) (fun hc1 => ?_)
 ·
  have hd1 := of_decide_eq_true hc1
  refine la ?_
  refine hK4 _ _ ?_
  refine nB fun K6 hK6 => ?_
  refine nC ?_
  refine nB fun K7 hK7 => ?_
  have p4 := aA ((aO (((gt l i).iv).lo) t 10 og ((All.gt zl (bK _)).1).1 zt) w0)
  refine gm mixed [dv _, dv _, dv _, dv _, dv _, dv _, dw _ [1], dv _, dv _] [⟨_, []⟩, ⟨_, []⟩] h rfl (by kernel_rfl) ⟨fun _ _ => om rfl, fun _ _ => om rfl, fun _ _ => a6 (gG (i := i) uu50 zz126 rfl rfl (hlv.nn (i := i) og) og), fun _ _ => a6 (fs uu126 rfl zz86 rfl (hlv.nn (i := 0) og) rfl rfl (k' := i * 32 + 0)), fun _ _ => a6 (fs uu86 rfl zz71 rfl (hlv.nn (i := 0) og) rfl (by first | rfl | (simp only [Nat.add_assoc] <;> rfl)) (k' := i * 32 + 0)), fun _ _ => a6 (iU (k := 0) aa71 zz71 hlv (dM og) rfl rfl rfl rfl (v := (vR (((gt l i).iv).lo))) rfl), fun _ _ => iM _ rfl rfl (iB aa71 zz71 rfl rfl rfl (v := (vR t)) rfl), fun _ _ => kd (eV (cB Tryz.call127 rfl) (kk (aO (((gt l i).iv).lo) t 10 og ((All.gt zl (bK _)).1).1 zt))), fun _ _ => a6 (az rfl), trivial⟩ ?_
  clear h ac wo; intro ξ ac wo hφ h
  replace h : St w0 68 [(0, lv), (3, (ptr b1 0)), (4, (ptr b2 0)), (6, (iN i)), (8, (.int .i64 (ar (((gt l i).iv).lo) t)))] [.blk b2 (cD mb2) 53, .blk b1 (cR t) 71] ac wo := (h.pick [0, 1] DC).sub ⟨rfl, rfl, rfl, rfl, rfl, trivial⟩
  clear hφ ξ
  refine gz h <| gx hK7 <| gq fun K8 hK8 => gr fun K9 hK9 => g0 (ay rfl) rfl <| g0 (v6 rfl rfl) rfl <| gn hK9 ?_; clear h ac wo; intro ac wo h
  refine jV h rfl (fun hc2 => ?_) (fun hc2 => ?_)
  ·
   have hd2 := of_decide_eq_true hc2
   refine jj ?_
   have hx1 := ck hL1 pt
   refine gz h <| gx hK3 <| gr fun K10 hK10 => ga (cD oD) vv53 rfl rfl fun b3 => gn hK10 <| gr fun K11 hK11 => g1 0 rfl (iB aa53 zz53 rfl rfl rfl (v := (vD oD)) rfl) rfl <| gs 1 (cD oD) rfl zz53 rfl rfl rfl rfl rfl rfl rfl <| g0 (az rfl) rfl <| gn hK11 <| gT ?_; clear h ac wo; intro ac wo h
   have hd : cO l t = (oD, false) := pt
   exact ret h rfl (.cell (v := (vD oD)) rfl (i := 1) rfl aa53 zz53 rfl rfl rfl (.tmp rfl .nil)) rfl (h.retP (by rw [hd] <;> rfl) (by rw [hd]; exact ⟨⟨(bQ 0 DC og), (bQ 0 DC og)⟩, ⟨(bQ 0 DC og), (bQ 0 DC og)⟩, ⟨(bQ 0 DC og), (bQ 0 DC og)⟩⟩))
  ·
   have hd2 := of_decide_eq_false hc2
   refine la ?_
   refine hK8 _ _ ?_
   refine nB fun K12 hK12 => ?_
   refine gm mixed [dv _, dv _, dv _, dv _, dv _, dv _, dv _, dv _, dv _, dv _, dv _, dv _, dv _, dv _, dv _, dv _, dv _, dv _, dw _ [1], dv _, dv _, dv _, dv _, dv _, dv _, dv _, dv _, dv _, dv _, dv _] [⟨_, []⟩, ⟨_, []⟩] h rfl (by kernel_rfl) ⟨fun _ _ => om rfl, fun _ _ => a6 (jq rfl rfl), fun _ _ => om rfl, fun _ _ => og2 rfl rfl rfl rfl (fun hg => Rd.step (ay rfl)), fun _ _ => og2 rfl rfl rfl rfl (fun hg => Rd.step (ay rfl)), fun _ _ => og2 rfl rfl rfl rfl (fun hg => Rd.step (gG (i := i) uu50 zz126 (cm rfl hg) (cm rfl hg) (hlv.nn (i := i) og) og)), fun _ _ => og2 rfl rfl rfl rfl (fun hg => Rd.step (fs uu126 rfl zz86 rfl (hlv.nn (i := 0) og) (cm rfl hg) rfl (k' := i * 32 + 0))), fun _ _ => og2 rfl rfl rfl rfl (fun hg => Rd.step (fs uu86 rfl zz4 rfl (hlv.nn (i := 0) og) (cm rfl hg) (by first | rfl | (simp only [Nat.add_assoc] <;> rfl)) (k' := i * 32 + 18))), fun _ _ => og2 rfl rfl rfl rfl (fun hg => Rd.step (iU (k := 18) aa4 zz4 hlv (dM og) (cm rfl hg) rfl rfl rfl (v := (.bool (((gt l i).iv).openLo))) rfl)), fun _ _ => og2 rfl rfl rfl rfl (fun hg => Rd.step (tb (cm rfl hg))), fun _ _ => a6 (r_or rfl (fun e => (cm rfl (notI e)))), fun _ _ => om rfl, fun _ _ => oh rfl rfl rfl rfl (fun hg => ay rfl), fun _ _ => oh rfl rfl rfl rfl (fun hg => ay rfl), fun _ _ => oh rfl rfl rfl rfl (fun hg => gG (i := i) uu50 zz126 (cm rfl hg) (cm rfl hg) (hlv.nn (i := i) og) og), fun _ _ => oh rfl rfl rfl rfl (fun hg => fs uu126 rfl zz86 rfl (hlv.nn (i := 0) og) (cm rfl hg) rfl (k' := i * 32 + 0)), fun _ _ => oh rfl rfl rfl rfl (fun hg => fs uu86 rfl zz71 rfl (hlv.nn (i := 0) og) (cm rfl hg) (by first | rfl | (simp only [Nat.add_assoc] <;> rfl)) (k' := i * 32 + 9)), fun _ _ => oh rfl rfl rfl rfl (fun hg => iU (k := 9) aa71 zz71 hlv (dM og) (cm rfl hg) rfl rfl rfl (v := (vR (((gt l i).iv).hi))) rfl), fun _ _ => oh rfl rfl rfl rfl (fun hg => iB aa71 zz71 rfl rfl rfl (v := (vR t)) rfl), fun _ _ => oh rfl rfl rfl rfl (fun hg => tX eqp71 (cm rfl hg) (cm rfl hg)), fun _ _ => oh rfl rfl rfl rfl (fun hg => ay (cm rfl hg)), fun _ _ => og4 rfl rfl rfl rfl (fun hg => Rd.step (ay rfl)), fun _ _ => og4 rfl rfl rfl rfl (fun hg => Rd.step (ay rfl)), fun _ _ => og4 rfl rfl rfl rfl (fun hg => Rd.step (gG (i := i) uu50 zz126 (cm rfl hg) (cm rfl hg) (hlv.nn (i := i) og) og)), fun _ _ => og4 rfl rfl rfl rfl (fun hg => Rd.step (fs uu126 rfl zz86 rfl (hlv.nn (i := 0) og) (cm rfl hg) rfl (k' := i * 32 + 0))), fun _ _ => og4 rfl rfl rfl rfl (fun hg => Rd.step (fs uu86 rfl zz4 rfl (hlv.nn (i := 0) og) (cm rfl hg) (by first | rfl | (simp only [Nat.add_assoc] <;> rfl)) (k' := i * 32 + 19))), fun _ _ => og4 rfl rfl rfl rfl (fun hg => Rd.step (iU (k := 19) aa4 zz4 hlv (dM og) (cm rfl hg) rfl rfl rfl (v := (.bool (((gt l i).iv).openHi))) rfl)), fun _ _ => og4 rfl rfl rfl rfl (fun hg => Rd.step (tb (cm rfl hg))), fun _ _ => oh rfl rfl rfl rfl (fun hg => r_or (cm rfl hg) (fun e => (cm rfl (andI hg (notI e))))), fun _ _ => a6 (pE rfl (fun e => (cm rfl e))), trivial⟩ ?_
   clear h ac wo; intro ξ ac wo hφ h
   replace h : St w0 68 [(0, lv), (3, (ptr b1 0)), (4, (ptr b2 0)), (6, (iN i)), (61, (.bool (((decide ((ar (((gt l i).iv).lo) t) < 0)) || (!((gt l i).iv).openLo)) && ((!(decide (((gt l i).iv).hi = t))) || (!((gt l i).iv).openHi)))))] [.blk b2 (cD mb2) 53, .blk b1 (cR t) 71] ac wo := (h.pick [0, 1] DC).sub ⟨rfl, rfl, rfl, rfl, rfl, trivial⟩
   clear hφ ξ
   refine hK12 _ _ ?_
   refine jV h rfl (fun hc3 => ?_) (fun hc3 => ?_)
   ·
    have q := hc3; try simp at q
    refine gz h <| gr fun K13 hK13 => g0 (ay rfl) rfl <| g0 (ay rfl) rfl <| g0 (gG (i := i) uu50 zz126 rfl rfl (hlv.nn (i := i) og) og) rfl <| g0 (fs uu126 rfl zz53 rfl (hlv.nn (i := 0) og) rfl rfl (k' := i * 32 + 20)) rfl <| g0 (iU (k := 20) aa53 zz53 hlv (dM og) rfl rfl rfl rfl (v := (vD ((gt l i).f))) rfl) rfl <| gs 0 (cD ((gt l i).f)) rfl zz53 rfl rfl rfl rfl rfl rfl rfl <| g0 (az rfl) rfl <| gn hK13 <| gT ?_; clear h ac wo; intro ac wo h
    have hr1 := fR hL1 pt
    have hd : cO l t = ((gt l i).f, true) := pt
    exact ret h rfl (.cell (v := (vD ((gt l i).f))) rfl (i := 0) rfl aa53 zz53 rfl rfl rfl (.tmp rfl .nil)) rfl (h.retP (by rw [hd] <;> rfl) (by rw [hd]; exact (All.gt zl (bK _)).2))
   ·
    have q := hc3; try simp at q
    refine gz h <| gS <| gN <| gx hK6 <| gR <| g0 (ay rfl) rfl <| g0 (eL rfl rfl (r := ((i + 1 : Nat) : Int)) (by rw [IntKind.wrap_i64]; omega)) rfl <| g0 (az rfl) rfl <| gx (fun _ _ => fS) ?_; clear h ac wo; intro ac wo h
    have hg := bq hL1 pt
    exact aE ⟨m1, og, _, _, og, hg, og, zmb2, h.re [0, 1]⟩
 ·
  have hd1 := of_decide_eq_false hc1
  refine jj ?_
  have hx1 := ck hL1 pt
  refine gz h <| gx hK3 <| gr fun K14 hK14 => ga (cD oD) vv53 rfl rfl fun b4 => gn hK14 <| gr fun K15 hK15 => g1 0 rfl (iB aa53 zz53 rfl rfl rfl (v := (vD oD)) rfl) rfl <| gs 1 (cD oD) rfl zz53 rfl rfl rfl rfl rfl rfl rfl <| g0 (az rfl) rfl <| gn hK15 <| gT ?_; clear h ac wo; intro ac wo h
  have hd : cO l t = (oD, false) := pt
  exact ret h rfl (.cell (v := (vD oD)) rfl (i := 1) rfl aa53 zz53 rfl rfl rfl (.tmp rfl .nil)) rfl (h.retP (by rw [hd] <;> rfl) (by rw [hd]; exact ⟨⟨(bQ 0 DC og), (bQ 0 DC og)⟩, ⟨(bQ 0 DC og), (bQ 0 DC og)⟩, ⟨(bQ 0 DC og), (bQ 0 DC og)⟩⟩))
attribute [irreducible] cO
end Go.Sx
namespace Go.Sx
open Go Go.RowKit Go.Proofs
attribute [local irreducible] Code.wp wpList Rd iq ObS Ent
attribute [local irreducible] ar bS ao aR aG cX
def iC (l : List (U Qd)) (out : List GR) (i : Nat) : (List GR) :=
 out
def bN (l : List (U Qd)) (out : List GR) (i : Nat) : Nx ((List GR) × Nat) (List GR) :=
 bif (decide ((i : Int) < (((ak l ([])).length : Nat) : Int))) then
  bif (decide ((i : Int) > 0)) then
   bif (((cP (gt (ak l ([])) (i - 1)) (gt (ak l ([])) i)).2) == 0) then
    .go (((out ++ [(gt (ak l ([])) i)]) ++ [(dR ((cP (gt (ak l ([])) (i - 1)) (gt (ak l ([])) i)).1))]), (i + 1))
   else
    .go ((out ++ [(gt (ak l ([])) i)]), (i + 1))
  else
   .go ((out ++ [(gt (ak l ([])) i)]), (i + 1))
 else
  .out (out, i)
def aw (l : List (U Qd)) : (List GR) :=
 fin (bo (fun s => bN l s.1 s.2) (((ak l []).length - 0) + 1) ([(bt (-1)), (bt 1000)], 0)) (fun s => iC l s.1 s.2) (fun r => r)
theorem eS (l : List (U Qd)) (lv : Value) (hl : l.length ≤ 100) (hg : ∀ i, 0 < i → i < (ak l []).length → BtP (gt (ak l []) (i - 1)) (gt (ak l []) i)) (zl : All (gM 30) l) (w0 : World) (hlv : View w0 lv l) : Calls zP 35 #[lv] w0 (RetR w0 71 (aw l) (All (SzR 30) (aw l) ∧ (aw l).length ≤ 2 + 4 * l.length + 4 * l.length)) := by
 refine enter (N := 49) Tryz.func35 rfl rfl ?_; intro ac h
 have hlenl := hlv.len
 refine gz h <| (W) ?_; clear h ac; intro ac wo h
 replace h := h.nilRow (α := GR) 71
 refine on1 h 0 rfl (jn (vs := [lv, (.slice none 0 0)]) (A := fun v => [.row (α := GR) 71 v (ak l ([]))]) (cB Tryz.call61 rfl) (fun w_ B_ hB_ hS_ => jc l lv ([]) (.slice none 0 0) og og zl All.nil w0 w_ B_ hB_ hS_ hlv)) rfl ?_; clear h ac wo; intro sv2 ac wo s3 h
 have p4 := s3.2
 have c5 := fy (-1) og
 have s5 := Calls.pr (c5 w0)
 have c6 := fy 1000 og
 have s6 := Calls.pr (c6 w0)
 refine gz h <| (xk (c5)) <| (xk (c6)) <| ?_; clear h ac wo; intro ac wo h
 refine nw h (cj (α := GR) (xs := [.tmp 10, .tmp 11]) (vs := [(vR (bt (-1))), (vR (bt 1000))]) [(bt (-1)), (bt 1000)] od rfl rfl rfl DC) rfl ?_; clear h ac wo; intro sv7 ac wo nnsv7 h
 obtain ⟨X1, hX1⟩ : ∃ X, bo (fun s => bN l s.1 s.2) (((ak l []).length - 0) + 1) ([(bt (-1)), (bt 1000)], 0) = X := ⟨_, rfl⟩
 refine gz h <| (W) ?_; clear h ac wo; intro ac wo h
 refine wp_loop_ghost (fun n_ a_ w_ => ∃ (out : List GR) (i : Nat) (outv : Value), (((ak l []).length - i) < n_) ∧ (bo (fun s => bN l s.1 s.2) n_ (out, i) = X1) ∧ (i ≤ (ak l []).length) ∧ (All (SzR 30) out) ∧ (out.length ≤ 2 + 2 * i) ∧ St w0 49 [(3, sv2), (4, outv), (5, (iN i))] [.row (α := GR) 71 outv out, .row (α := GR) 71 sv2 (ak l ([]))] a_ w_) (((ak l []).length - 0) + 1) ⟨[(bt (-1)), (bt 1000)], 0, sv7, og, hX1, og, (All.cons (cJ s5 og) (All.cons (cJ s6 og) All.nil)), og, h.rs⟩ ?_
 clear h ac wo; rintro n1 ac wo ⟨out, i, outv, hm1, hL1, hi, zout, hol, h⟩
 obtain ⟨m1, rfl⟩ : ∃ m, n1 = m + 1 := ⟨n1 - 1, by omega⟩
 refine gz h <| (ai) ?_ ?_ <;> clear h ac wo <;> intro ac wo h hc1
 ·
  have hd1 := of_decide_eq_true hc1
  refine gz h <| (W) ?_; clear h ac wo; intro ac wo h
  refine nw h (cj (α := GR) (xs := [.tmp 23]) (vs := [(vR (gt (ak l ([])) i))]) [(gt (ak l ([])) i)] od rfl rfl rfl DC) rfl ?_; clear h ac wo; intro sv8 ac wo nnsv8 h
  refine on2 h 1 0 rfl rfl (er (xs := out) (ys := [(gt (ak l ([])) i)]) od (fun w hs => (row_view hs 0 rfl)) rfl rfl og) rfl ?_; clear h ac wo; intro sv9 ac wo apsv9 h
  refine gz h <| (ai) ?_ ?_ <;> clear h ac wo <;> intro ac wo h hc2
  ·
   have hd2 := of_decide_eq_true hc2
   refine gz h <| (W) ?_; clear h ac wo; intro ac wo h
   have s10 := Calls.pr ((fun w_ hB_ hS_ => mn (gt (ak l ([])) (i - 1)) (gt (ak l ([])) i) (hg i og og).1 (hg i og og).2.1 (hg i og og).2.2.1 (hg i og og).2.2.2.1 (hg i og og).2.2.2.2.1 (cJ (j := 36) (k := 40) (qk (hg i og og).1) og) (cJ (j := 36) (k := 40) (qk (hg i og og).2.2.2.2.2) og) w_ ) _ h.bel h.sep)
   replace h := h.emps 1
   refine gm mixed [dv _, dv _, dv _, dv _, dw _ [2], dv _, dv _, dv _, dw _ [2], dv _, dv _, dv _, dv _, ⟨.nd (.one 13 fun v => ∃ b, v = ptr b 0), [3]⟩, ⟨.det undef, [3]⟩, dv _] [⟨_, []⟩, ⟨_, []⟩, ⟨_, []⟩, ⟨.emp, [(13, .one 13 fun v => .blk (cC v) (cQ oQ) 27), (14, .one 13 fun v => .blk (cC v) (cQ ((cP (gt (ak l ([])) (i - 1)) (gt (ak l ([])) i)).1)) 27)]⟩] h rfl (by kernel_rfl) ⟨fun _ _ => om rfl, fun _ _ => om rfl, fun _ _ => a6 (fD rfl rfl (r := (((i - 1) : Nat) : Int)) (by rw [IntKind.wrap_i64]; first | omega | grind)), fun _ _ => a6 (gG (i := (i - 1)) uu66 zz71 rfl rfl (h.row_nn 2 rfl og) og), fun _ _ => iM _ rfl rfl (iA (k := 0) aa71 zz71 (dM og) rfl (Nat.add_zero _) rfl rfl (v := (vR (gt (ak l ([])) (i - 1)))) rfl), fun _ _ => om rfl, fun _ _ => om rfl, fun _ _ => a6 (gG (i := i) uu66 zz71 rfl rfl (h.row_nn 2 rfl og) og), fun _ _ => iM _ rfl rfl (iA (k := 0) aa71 zz71 (dM og) rfl (Nat.add_zero _) rfl rfl (v := (vR (gt (ak l ([])) i))) rfl), fun _ _ => kd (eV (cB Tryz.call123 rfl) (kk (mn (gt (ak l ([])) (i - 1)) (gt (ak l ([])) i) (hg i og og).1 (hg i og og).2.1 (hg i og og).2.2.1 (hg i og og).2.2.2.1 (hg i og og).2.2.2.2.1 (cJ (j := 36) (k := 40) (qk (hg i og og).1) og) (cJ (j := 36) (k := 40) (qk (hg i og og).2.2.2.2.2) og)))), fun _ _ => om rfl, fun _ _ => a6 (cn rfl rfl), fun _ _ => a6 (cn rfl rfl), fun _ _ => ls (ψ := fun v => ∃ b, v = ptr b 0) (B := fun v => [.blk (cC v) (cQ oQ) 27]) [.emp] rfl (fun v _ => by simp only [dJ, bm] <;> rfl) (fun v hv => by simpa [DF.one, bm] using hv) (jo (ic vv27 rfl)), (fun ξ hφ => by obtain ⟨b1, hb13⟩ := hφ 13 rfl; exact mR [.blk b1 (cQ oQ) 27] [.blk b1 (cQ ((cP (gt (ak l ([])) (i - 1)) (gt (ak l ([])) i)).1)) 27] (congrArg (fun v => [Asn.blk (cC v) (cQ oQ) 27]) hb13) (congrArg (fun v => [Asn.blk (cC v) (cQ ((cP (gt (ak l ([])) (i - 1)) (gt (ak l ([])) i)).1)) 27]) hb13) (qm zz27 (Eq.trans rfl (congrArg some hb13)) rfl rfl rfl rfl rfl rfl)), fun _ _ => a6 (az rfl), trivial⟩ ?_
   clear h ac wo; intro ξ ac wo hφ h
   replace h : St w0 49 [(3, sv2), (4, sv9), (5, (iN i)), (6, ξ 13), (7, (.int .i64 ((cP (gt (ak l ([])) (i - 1)) (gt (ak l ([])) i)).2)))] [.row (α := GR) 71 sv9 (out ++ [(gt (ak l ([])) i)]), .row (α := GR) 71 sv8 ([(gt (ak l ([])) i)]), .row (α := GR) 71 sv2 (ak l ([])), .blk (cC (ξ 13)) (cQ ((cP (gt (ak l ([])) (i - 1)) (gt (ak l ([])) i)).1)) 27] ac wo := (h.pick [0, 1, 2, 3] DC).sub ⟨rfl, rfl, rfl, rfl, rfl, trivial⟩
   revert h
   obtain ⟨b1, hb13⟩ : ∃ b, ξ 13 = ptr b 0 := hφ 13
   rw [hb13]; intro h
   clear hb13
   clear hφ ξ
   refine gz h <| (ai) ?_ ?_ <;> clear h ac wo <;> intro ac wo h hc3
   ·
    have hd3 := eq_of_beq hc3
    have c11 := mm ((cP (gt (ak l ([])) (i - 1)) (gt (ak l ([])) i)).1) 32 og s10
    have s11 := aA (c11 w0)
    refine gz h <| (xk (c11)) <| ?_; clear h ac wo; intro ac wo h
    refine nw h (cj (α := GR) (xs := [.tmp 45]) (vs := [(vR (dR ((cP (gt (ak l ([])) (i - 1)) (gt (ak l ([])) i)).1)))]) [(dR ((cP (gt (ak l ([])) (i - 1)) (gt (ak l ([])) i)).1))] od rfl rfl rfl DC) rfl ?_; clear h ac wo; intro sv12 ac wo nnsv12 h
    refine on2 h 1 0 rfl rfl (er (xs := (out ++ [(gt (ak l ([])) i)])) (ys := [(dR ((cP (gt (ak l ([])) (i - 1)) (gt (ak l ([])) i)).1))]) od (fun w hs => (row_view hs 0 rfl)) rfl rfl og) rfl ?_; clear h ac wo; intro sv13 ac wo apsv13 h
    have hg := bq hL1 pt
    exact (nx h) fun _ _ h => by exact ⟨m1, og, _, _, _, og, hg, og, (All.app (All.app zout (All.cons (All.gt s3.1 (kT _)) All.nil)) (All.cons (cJ s11 og) All.nil)), og, h.re [0, 3]⟩
   ·
    have hd3 := ne_of_beq_false hc3
    have hg := bq hL1 pt
    exact (nx h) fun _ _ h => by exact ⟨m1, og, _, _, _, og, hg, og, (All.app zout (All.cons (All.gt s3.1 (kT _)) All.nil)), og, h.re [0, 2]⟩
  ·
   have hd2 := of_decide_eq_false hc2
   have hg := bq hL1 pt
   exact (nx h) fun _ _ h => by exact ⟨m1, og, _, _, _, og, hg, og, (All.app zout (All.cons (All.gt s3.1 (kT _)) All.nil)), og, h.re [0, 2]⟩
 ·
  have hd1 := of_decide_eq_false hc1
  have hx1 := ck hL1 pt
  have hd : aw l = out := pt
  exact (rx h) fun _ _ h => (by rw [hd]; exact h.retR 0 rfl ⟨zout, og⟩)
attribute [irreducible] aw
end Go.Sx
