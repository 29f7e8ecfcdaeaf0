/- A part of the proof of piecesMoments. -/
import Derived.Test.YtbenbmdkhcfcfaaGreatDoorN1
import Derived.Test.YtbenbmdkhcfcfaaGreatDoorA7
set_option linter.unusedVariables false
set_option linter.unusedSimpArgs false
open Go.Proofs.Tryz renaming zeroValue25 → vv25, sizeOf25 → zz25, isAgg25 → aa25, call96 → cc96, runUnderlying25 → uu25, sizeOf4 → zz4, isAgg4 → aa4, sizeOf9 → zz9, runUnderlying71 → uu71, sizeOf27 → zz27, isAgg27 → aa27, isAgg71 → aa71, sizeOf71 → zz71, zeroValue27 → vv27, call93 → cc93, call127 → cc127, call97 → cc97, call266 → cc266, runUnderlying50 → uu50, sizeOf126 → zz126, isAgg126 → aa126, runUnderlying126 → uu126, sizeOf86 → zz86, isAgg86 → aa86, zeroValue53 → vv53, sizeOf53 → zz53, isAgg53 → aa53, runUnderlying86 → uu86, runUnderlying3 → uu3, runUnderlying276 → uu276, runUnderlying103 → uu103, runUnderlying66 → uu66
open Go.IntKind renaming wrap_i64 → wI
namespace Go.Sx
open Go Go.RowKit Go.Proofs
set_option maxRecDepth 100000
set_option maxHeartbeats 40000000
attribute [local irreducible] aE bM ap aT aJ dF
def ao (a : GQ) : GI :=
 a.num
theorem kz (a : GQ) (za : SzQ 36 a) (w0 : World)  : Calls Tryz.prog 250 #[(vQ a)] w0 (RetP w0 (vI (ao a)) (SzI 36 (ao a))) := by
 refine enter (N := 5) (args := [(vQ a)]) Tryz.func250 rfl rfl ?_; intro ac h
 refine ej fun K1 hK1 => ?_
 refine bx h (cQ a) rfl rfl rfl fun b1 => ga (cI (⟨false, 0⟩ : GI)) vv25 rfl rfl fun b2 => gn hK1 <| gr fun K2 hK2 => g0 (fa Tryz.runUnderlying27 rfl zz25 rfl rfl rfl (k' := 0)) rfl <| g1 1 rfl (ba aa25 zz25 rfl rfl rfl (v := (vI a.num)) rfl) rfl <| gs 0 (cI a.num) rfl zz25 rfl rfl rfl rfl rfl rfl rfl <| gn hK2 <| gT ?_; clear h ac; intro ac wo h
 exact ret h rfl (.cell (v := (vI a.num)) rfl (i := 0) rfl aa25 zz25 rfl rfl rfl .nil) rfl (h.retP (by unfold ao; rfl) (by unfold ao; exact za.1))
attribute [irreducible] ao
def bK (a : GI) (b : GI) : GI :=
 (aH a (ar b))
theorem lc (a : GI) (b : GI) (za : SzI 28 a) (zb : SzI 28 b) (w0 : World)  : Calls Tryz.prog 252 #[(vI a), (vI b)] w0 (RetP w0 (vI (bK a b)) (SzI 26 (bK a b))) := by
 refine enter (N := 9) (args := [(vI a), (vI b)]) Tryz.func252 rfl rfl ?_; intro ac h
 refine ej fun K1 hK1 => ?_
 refine bx h (cI a) rfl rfl rfl fun b1 => gb (cI b) rfl rfl rfl fun b2 => ga (cI (⟨false, 0⟩ : GI)) vv25 rfl rfl fun b3 => gn hK1 <| gq fun K2 hK2 => ?_; clear h ac; intro ac wo h
 have c1 := eO b 28 (by omega) zb
 have s1 := aF (c1 w0)
 have s2 := aF ((eU a (ar b) 27 (by omega) za s1) w0)
 refine cZ mixed [⟨.det (vI a), [2]⟩, ⟨.det (vI b), [1]⟩, ⟨.det (vI (ar b)), []⟩, ⟨.det (vI (aH a (ar b))), []⟩, ⟨.det undef, [0]⟩] [⟨.blk b3 (cI (⟨false, 0⟩ : GI)) 25, [(4, .con (.blk b3 (cI (aH a (ar b))) 25))]⟩, ⟨.blk b2 (cI b) 25, []⟩, ⟨.blk b1 (cI a) 25, []⟩] h rfl (by kernel_rfl) ⟨?_, ?_, ?_, ?_, ?_, trivial⟩ ?_
 ·intro ξ hφ; exact cY [.blk b1 (cI a) 25] rfl rfl (ba aa25 zz25 rfl rfl rfl (v := (vI a)) rfl)
 ·intro ξ hφ; exact cY [.blk b2 (cI b) 25] rfl rfl (ba aa25 zz25 rfl rfl rfl (v := (vI b)) rfl)
 ·intro ξ hφ; exact d7 (dy (bF Tryz.call161 rfl) (kk c1))
 ·intro ξ hφ; exact d7 (dy (bF cc96 rfl) (kk (eU a (ar b) 27 (by omega) za s1)))
 ·intro ξ hφ; exact gF [.blk b3 (cI (⟨false, 0⟩ : GI)) 25] [.blk b3 (cI (aH a (ar b))) 25] rfl rfl (gW zz25 rfl rfl rfl rfl rfl rfl rfl)
 clear h ac wo; intro ξ ac wo hφ h
 replace h : St w0 9 [(4, (ptr b3 0))] [.blk b3 (cI (aH a (ar b))) 25, .blk b2 (cI b) 25, .blk b1 (cI a) 25] ac wo := (h.pick [0, 1, 2] (by decide)).sub ⟨rfl, trivial⟩
 clear hφ ξ
 refine hK2 _ _ ?_
 refine gu ?_
 exact ret h rfl (.cell (v := (vI (aH a (ar b)))) rfl (i := 0) rfl aa25 zz25 rfl rfl rfl .nil) rfl (h.retP (by unfold bK; rfl) (by unfold bK; exact (fH s2 (by omega))))
attribute [irreducible] bK
def aD (a : GI) : GI × Int :=
 bif a.neg then
  ((⟨false, 0⟩ : GI), 2)
 else
  ((aM false (bS a.mag)), 0)
theorem qc {x : GR} (h : Tm x) : (ag (ag (aa x.p) (aa x.p)) (ag (ao x.r) (aa x.r))).mag < 4 := by
 have := px (p := fun x => decide ((ag (ag (aa x.p) (aa x.p)) (ag (ao x.r) (aa x.r))).mag < 4)) (by decide +kernel) h
 exact of_decide_eq_true this
theorem kK (a : GI) (ha4 : a.mag < 4) (za : SzI 30 a) (w0 : World)  : Calls Tryz.prog 251 #[(vI a)] w0 (RetP w0 (.tuple #[(vI ((aD a).1)), (.int .i64 ((aD a).2))]) (SzI 29 ((aD a).1))) := by
 refine enter (N := 11) (args := [(vI a)]) Tryz.func251 rfl rfl ?_; intro ac h
 refine ej fun K1 hK1 => ?_
 refine bx h (cI a) rfl rfl rfl fun b1 => ga (cI (⟨false, 0⟩ : GI)) vv25 rfl rfl fun b2 => g0 (aj rfl) rfl <| gn hK1 <| gq fun K2 hK2 => gr fun K3 hK3 => g0 (fa uu25 rfl zz4 rfl rfl rfl (k' := 0)) rfl <| g1 1 rfl (ba aa4 zz4 rfl rfl rfl (v := (.bool a.neg)) rfl) rfl <| gn hK3 ?_; clear h ac; intro ac wo h
 refine dA h rfl (fun hc1 => ?_) (fun hc1 => ?_)
 ·
  have hq1 := hc1; try simp at hq1
  refine gz h <| gr fun K4 hK4 => g0 (cg nQ rfl rfl (v := (vI (⟨false, 0⟩ : GI))) rfl) rfl <| gs 0 (cI (⟨false, 0⟩ : GI)) rfl zz25 rfl rfl rfl rfl rfl rfl rfl <| g0 (aj rfl) rfl <| gn hK4 <| gT ?_; clear h ac wo; intro ac wo h
  have hd : aD a = ((⟨false, 0⟩ : GI), 2) := (cT hc1)
  exact ret h rfl (.cell (v := (vI (⟨false, 0⟩ : GI))) rfl (i := 0) rfl aa25 zz25 rfl rfl rfl (.tmp rfl .nil)) rfl (h.retP (by rw [hd] <;> rfl) (by rw [hd]; exact (bY 0 (by decide) (by omega))))
 ·
  have hq1 := hc1; try simp at hq1
  have c1 := kJ a.mag (by omega) za
  have s1 := Calls.pr (c1 w0)
  have c2 := cx false (bS a.mag) 29 (by omega) s1
  have s2 := aF (c2 w0)
  refine gz h <| gS <| gx hK2 <| gr fun K5 hK5 => g0 (fa uu25 rfl zz9 rfl rfl rfl (k' := 1)) rfl <| g1 1 rfl (ba Tryz.isAgg9 zz9 rfl rfl rfl (v := (.string (bs a.mag))) rfl) rfl <| gc (bF Tryz.call286 rfl) (kk c1) rfl <| gc (bF Tryz.call190 rfl) (kk c2) rfl <| gs 0 (cI (aM false (bS a.mag))) rfl zz25 rfl rfl rfl rfl rfl rfl rfl <| g0 (aj rfl) rfl <| gn hK5 <| gT ?_; clear h ac wo; intro ac wo h
  have hd : aD a = ((aM false (bS a.mag)), 0) := (cF hc1)
  exact ret h rfl (.cell (v := (vI (aM false (bS a.mag)))) rfl (i := 0) rfl aa25 zz25 rfl rfl rfl (.tmp rfl .nil)) rfl (h.retP (by rw [hd] <;> rfl) (by rw [hd]; exact s2))
attribute [irreducible] aD
def fO (x : GR) : Int :=
 (dS x.p (a7 x) x.r)
theorem kw (x : GR) (zx : SzR 30 x) (w0 : World)  : Calls Tryz.prog 266 #[(vR x)] w0 (RetP w0 (.int .i64 (fO x)) (True)) := by
 refine enter (N := 10) (args := [(vR x)]) Tryz.func266 rfl rfl ?_; intro ac h
 refine ej fun K1 hK1 => ?_
 refine bx h (cR x) rfl rfl rfl fun b1 => g0 (aj rfl) rfl <| gn hK1 <| gq fun K2 hK2 => ?_; clear h ac; intro ac wo h
 have c1 := gQ x 30 (by omega) zx
 have s1 := aF (c1 w0)
 have p3 := aF ((ie x.p (a7 x) x.r 22 (by omega) zx.1 s1 zx.2) w0)
 refine cZ mixed [⟨.det (ptr b1 0), []⟩, ⟨.det (vQ x.p), [0]⟩, ⟨.det (vR x), [0]⟩, ⟨.det (vQ (a7 x)), []⟩, ⟨.det (ptr b1 4), []⟩, ⟨.det (vQ x.r), [0]⟩, ⟨.det (.int .i64 (dS x.p (a7 x) x.r)), []⟩, ⟨.det (.int .i64 (dS x.p (a7 x) x.r)), []⟩] [⟨.blk b1 (cR x) 71, []⟩] h rfl (by kernel_rfl) ⟨?_, ?_, ?_, ?_, ?_, ?_, ?_, ?_, trivial⟩ ?_
 ·intro ξ hφ; exact aL (fa uu71 rfl zz27 rfl rfl rfl (k' := 0))
 ·intro ξ hφ; exact cY [.blk b1 (cR x) 71] rfl rfl (ba aa27 zz27 rfl rfl rfl (v := (vQ x.p)) rfl)
 ·intro ξ hφ; exact cY [.blk b1 (cR x) 71] rfl rfl (ba aa71 zz71 rfl rfl rfl (v := (vR x)) rfl)
 ·intro ξ hφ; exact d7 (dy (bF Tryz.call210 rfl) (kk c1))
 ·intro ξ hφ; exact aL (fa uu71 rfl zz27 rfl rfl rfl (k' := 4))
 ·intro ξ hφ; exact cY [.blk b1 (cR x) 71] rfl rfl (ba aa27 zz27 rfl rfl rfl (v := (vQ x.r)) rfl)
 ·intro ξ hφ; exact d7 (dy (bF Tryz.call211 rfl) (kk (ie x.p (a7 x) x.r 22 (by omega) zx.1 s1 zx.2)))
 ·intro ξ hφ; exact aL (aj rfl)
 clear h ac wo; intro ξ ac wo hφ h
 replace h : St w0 10 [(2, (.int .i64 (dS x.p (a7 x) x.r)))] [.blk b1 (cR x) 71] ac wo := (h.pick [0] (by decide)).sub ⟨rfl, trivial⟩
 clear hφ ξ
 refine hK2 _ _ ?_
 refine gu ?_
 exact ret h rfl (.tmp rfl .nil) rfl (h.retP (by unfold fO; rfl) trivial)
attribute [irreducible] fO
def cN (num : GI) (den : GI) : GQ × Int :=
 bif ((df den) == 0) then
  ((⟨(⟨false, 0⟩ : GI), (⟨false, 0⟩ : GI)⟩ : GQ), 6)
 else
  ((br num den), 0)
theorem ke (num : GI) (den : GI) (znum : SzI 36 num) (zden : SzI 36 den) (w0 : World)  : Calls Tryz.prog 92 #[(vI num), (vI den)] w0 (RetP w0 (.tuple #[(vQ ((cN num den).1)), (.int .i64 ((cN num den).2))]) (SzQ 32 ((cN num den).1))) := by
 refine enter (N := 13) (args := [(vI num), (vI den)]) Tryz.func92 rfl rfl ?_; intro ac h
 have p2 := aF ((en den) w0)
 refine ej fun K1 hK1 => ?_
 refine bx h (cI num) rfl rfl rfl fun b1 => gb (cI den) rfl rfl rfl fun b2 => ga (cQ oQ) vv27 rfl rfl fun b3 => g0 (aj rfl) rfl <| gn hK1 <| gq fun K2 hK2 => gr fun K3 hK3 => g1 1 rfl (ba aa25 zz25 rfl rfl rfl (v := (vI den)) rfl) rfl <| gc (bF Tryz.call115 rfl) (kk (en den)) rfl <| g0 (fV rfl rfl) rfl <| gn hK3 ?_; clear h ac; intro ac wo h
 refine dA h rfl (fun hc1 => ?_) (fun hc1 => ?_)
 ·
  have hd1 := eq_of_beq hc1
  refine gz h <| gr fun K4 hK4 => g0 (cg nz rfl rfl (v := (vQ oQ)) rfl) rfl <| gs 0 (cQ oQ) rfl zz27 rfl rfl rfl rfl rfl rfl rfl <| g0 (aj rfl) rfl <| gn hK4 <| gT ?_; clear h ac wo; intro ac wo h
  have hd : cN num den = (oQ, 6) := (cT hc1)
  exact ret h rfl (.cell (v := (vQ oQ)) rfl (i := 0) rfl aa27 zz27 rfl rfl rfl (.tmp rfl .nil)) rfl (h.retP (by rw [hd] <;> rfl) (by rw [hd]; exact ⟨(bY 0 (by decide) (by omega)), (bY 0 (by decide) (by omega))⟩))
 ·
  have hd1 := ne_of_beq_false hc1
  have c3 := ew num den 35 (by omega) znum zden
  have s3 := aF (c3 w0)
  refine gz h <| gS <| gx hK2 <| gr fun K5 hK5 => g1 2 rfl (ba aa25 zz25 rfl rfl rfl (v := (vI num)) rfl) rfl <| g1 1 rfl (ba aa25 zz25 rfl rfl rfl (v := (vI den)) rfl) rfl <| gc (bF Tryz.call95 rfl) (kk c3) rfl <| gs 0 (cQ (br num den)) rfl zz27 rfl rfl rfl rfl rfl rfl rfl <| g0 (aj rfl) rfl <| gn hK5 <| gT ?_; clear h ac wo; intro ac wo h
  have hd : cN num den = ((br num den), 0) := (cF hc1)
  exact ret h rfl (.cell (v := (vQ (br num den))) rfl (i := 0) rfl aa27 zz27 rfl rfl rfl (.tmp rfl .nil)) rfl (h.retP (by rw [hd] <;> rfl) (by rw [hd]; exact (ft s3 (by omega))))
attribute [irreducible] cN
def dW (n : GI) : GQ :=
 (cN n (aw 1)).1
theorem lz (n : GI) (zn : SzI 36 n) (w0 : World)  : Calls Tryz.prog 267 #[(vI n)] w0 (RetP w0 (vQ (dW n)) (SzQ 32 (dW n))) := by
 refine enter (N := 12) (args := [(vI n)]) Tryz.func267 rfl rfl ?_; intro ac h
 refine ej fun K1 hK1 => ?_
 refine bx h (cI n) rfl rfl rfl fun b1 => ga (cQ oQ) vv27 rfl rfl fun b2 => gn hK1 <| gq fun K2 hK2 => ?_; clear h ac; intro ac wo h
 have s1 := aF ((eh 1 40 (by omega)  (by omega)) w0)
 have s2 := Calls.pr ((fun w_ hB_ hS_ => ke n (aw 1) zn (fH s1 (by omega)) w_ ) _ h.bel h.sep)
 replace h := h.emps 1
 refine cZ mixed [⟨.det (vI n), [1]⟩, ⟨.det (vI (aw 1)), []⟩, ⟨.det (.tuple #[(vQ ((cN n (aw 1)).1)), (.int .i64 ((cN n (aw 1)).2))]), []⟩, ⟨.det (.tuple #[(vQ ((cN n (aw 1)).1)), (.int .i64 ((cN n (aw 1)).2))]), []⟩, ⟨.det (vQ ((cN n (aw 1)).1)), []⟩, ⟨.det (.int .i64 ((cN n (aw 1)).2)), []⟩, ⟨.nd (.one 6 fun v => ∃ b, v = ptr b 0), [2]⟩, ⟨.det undef, [2]⟩, ⟨.det (.int .i64 ((cN n (aw 1)).2)), []⟩] [⟨.blk b2 (cQ oQ) 27, []⟩, ⟨.blk b1 (cI n) 25, []⟩, ⟨.emp, [(6, .one 6 fun v => .blk (ck v) (cQ oQ) 27), (7, .one 6 fun v => .blk (ck v) (cQ ((cN n (aw 1)).1)) 27)]⟩] h rfl (by kernel_rfl) ⟨?_, ?_, ?_, ?_, ?_, ?_, ?_, ?_, ?_, trivial⟩ ?_
 ·intro ξ hφ; exact cY [.blk b1 (cI n) 25] rfl rfl (ba aa25 zz25 rfl rfl rfl (v := (vI n)) rfl)
 ·intro ξ hφ; exact d7 (dy (vs := [(.int .i64 1)]) (bF cc93 rfl) (fun w_ hB_ hS_ => (eh 1 40 (by omega)  (by omega)) w_))
 ·intro ξ hφ; exact d7 (dy (bF Tryz.call92 rfl) (kk (ke n (aw 1) zn (fH s1 (by omega)))))
 ·intro ξ hφ; exact aL (ak rfl)
 ·intro ξ hφ; exact aL (bf rfl rfl)
 ·intro ξ hφ; exact aL (bf rfl rfl)
 ·intro ξ hφ; exact k7 (ψ := fun v => ∃ b, v = ptr b 0) (B := fun v => [.blk (ck v) (cQ oQ) 27]) [.emp] rfl (fun v _ => by simp only [fc, bE] <;> rfl) (fun v hv => by simpa [DF.one, bE] using hv) (iQ (fv vv27 rfl))
 ·intro ξ hφ; obtain ⟨b3, hb6⟩ := hφ 6 rfl; exact gF [.blk b3 (cQ oQ) 27] [.blk b3 (cQ ((cN n (aw 1)).1)) 27] (congrArg (fun v => [Asn.blk (ck v) (cQ oQ) 27]) hb6) (congrArg (fun v => [Asn.blk (ck v) (cQ ((cN n (aw 1)).1)) 27]) hb6) (gW zz27 (Eq.trans rfl (congrArg some hb6)) rfl rfl rfl rfl rfl rfl)
 ·intro ξ hφ; exact aL (aj rfl)
 clear h ac wo; intro ξ ac wo hφ h
 replace h : St w0 12 [(2, (ptr b2 0)), (3, ξ 6)] [.blk b2 (cQ oQ) 27, .blk b1 (cI n) 25, .blk (ck (ξ 6)) (cQ ((cN n (aw 1)).1)) 27] ac wo := (h.pick [0, 1, 2] (by decide)).sub ⟨rfl, rfl, trivial⟩
 revert h
 obtain ⟨b3, hb6⟩ : ∃ b, ξ 6 = ptr b 0 := hφ 6
 rw [hb6]; intro h
 clear hb6
 clear hφ ξ
 refine gz h <| gx hK2 <| gr fun K3 hK3 => g1 2 rfl (ba aa27 zz27 rfl rfl rfl (v := (vQ ((cN n (aw 1)).1))) rfl) rfl <| gs 0 (cQ ((cN n (aw 1)).1)) rfl zz27 rfl rfl rfl rfl rfl rfl rfl <| gn hK3 <| gT ?_; clear h ac wo; intro ac wo h
 exact ret h rfl (.cell (v := (vQ ((cN n (aw 1)).1))) rfl (i := 0) rfl aa27 zz27 rfl rfl rfl .nil) rfl (h.retP (by unfold dW; rfl) (by unfold dW; exact s2))
attribute [irreducible] dW
def e7 (x : GR) (r : GQ) : Int :=
 (aE x (dm r))
theorem lA (x : GR) (r : GQ) (zx : SzR 30 x) (zr : SzQ 30 r) (w0 : World)  : Calls Tryz.prog 268 #[(vR x), (vQ r)] w0 (RetP w0 (.int .i64 (e7 x r)) (True)) := by
 refine enter (N := 9) (args := [(vR x), (vQ r)]) Tryz.func268 rfl rfl ?_; intro ac h
 refine ej fun K1 hK1 => ?_
 refine bx h (cR x) rfl rfl rfl fun b1 => gb (cQ r) rfl rfl rfl fun b2 => g0 (aj rfl) rfl <| gn hK1 <| gq fun K2 hK2 => ?_; clear h ac; intro ac wo h
 have c1 := kx r 30 (by omega) zr
 have s1 := aF (c1 w0)
 have p3 := aF ((bQ x (dm r) 10 (by omega) zx s1) w0)
 refine cZ mixed [⟨.det (vR x), [1]⟩, ⟨.det (vQ r), [0]⟩, ⟨.det (vR (dm r)), []⟩, ⟨.det (.int .i64 (aE x (dm r))), []⟩, ⟨.det (.int .i64 (aE x (dm r))), []⟩] [⟨.blk b2 (cQ r) 27, []⟩, ⟨.blk b1 (cR x) 71, []⟩] h rfl (by kernel_rfl) ⟨?_, ?_, ?_, ?_, ?_, trivial⟩ ?_
 ·intro ξ hφ; exact cY [.blk b1 (cR x) 71] rfl rfl (ba aa71 zz71 rfl rfl rfl (v := (vR x)) rfl)
 ·intro ξ hφ; exact cY [.blk b2 (cQ r) 27] rfl rfl (ba aa27 zz27 rfl rfl rfl (v := (vQ r)) rfl)
 ·intro ξ hφ; exact d7 (dy (bF Tryz.call88 rfl) (kk c1))
 ·intro ξ hφ; exact d7 (dy (bF cc127 rfl) (kk (bQ x (dm r) 10 (by omega) zx s1)))
 ·intro ξ hφ; exact aL (aj rfl)
 clear h ac wo; intro ξ ac wo hφ h
 replace h : St w0 9 [(4, (.int .i64 (aE x (dm r))))] [.blk b2 (cQ r) 27, .blk b1 (cR x) 71] ac wo := (h.pick [0, 1] (by decide)).sub ⟨rfl, trivial⟩
 clear hφ ξ
 refine hK2 _ _ ?_
 refine gu ?_
 exact ret h rfl (.tmp rfl .nil) rfl (h.retP (by unfold e7; rfl) trivial)
attribute [irreducible] e7
def cz (x : GR) : GI :=
 bif x.neg then
  (aS (bK (ag (ao x.p) (aa x.r)) (aH ((aD (ag (ag (aa x.p) (aa x.p)) (ag (ao x.r) (aa x.r)))).1) (aw 1))) (ag (aa x.p) (aa x.r))).1
 else
  (aS (aH (ag (ao x.p) (aa x.r)) ((aD (ag (ag (aa x.p) (aa x.p)) (ag (ao x.r) (aa x.r)))).1)) (ag (aa x.p) (aa x.r))).1
theorem rj {x : GR} (h : Tm x) : SzI 40 (cz x) := by
 have := px (p := fun x => smI (cz x)) (by decide +kernel) h
 exact nF (of_decide_eq_true this) (by decide)
theorem oA (x : GR) (ht : Tm x) (zx : SzR 36 x) (w0 : World)  : Calls Tryz.prog 187 #[(vR x)] w0 (RetP w0 (vI (cz x)) (SzI 40 (cz x))) := by
 refine enter (N := 59) (args := [(vR x)]) Tryz.func187 rfl rfl ?_; intro ac h
 refine ej fun K1 hK1 => ?_
 refine bx h (cR x) rfl rfl rfl fun b1 => ga (cI (⟨false, 0⟩ : GI)) vv25 rfl rfl fun b2 => gn hK1 <| gq fun K2 hK2 => ?_; clear h ac; intro ac wo h
 have c1 := kz x.p zx.1
 have s1 := Calls.pr (c1 w0)
 have s2 := aF ((cw x.p 36 (by omega) zx.1) w0)
 replace h := h.emps 2
 refine cZ mixed [⟨.det (ptr b1 0), []⟩, ⟨.det (vQ x.p), [1]⟩, ⟨.det (vI (ao x.p)), []⟩, ⟨.det (ptr b1 0), []⟩, ⟨.det (vQ x.p), [1]⟩, ⟨.det (vI (aa x.p)), []⟩, ⟨.nd (.one 6 fun v => ∃ b, v = ptr b 0), [2]⟩, ⟨.nd (.one 7 fun v => ∃ b, v = ptr b 0), [3]⟩, ⟨.det undef, [2]⟩, ⟨.det undef, [3]⟩] [⟨.blk b2 (cI (⟨false, 0⟩ : GI)) 25, []⟩, ⟨.blk b1 (cR x) 71, []⟩, ⟨.emp, [(6, .one 6 fun v => .blk (ck v) (cI (⟨false, 0⟩ : GI)) 25), (8, .one 6 fun v => .blk (ck v) (cI (ao x.p)) 25)]⟩, ⟨.emp, [(7, .one 7 fun v => .blk (ck v) (cI (⟨false, 0⟩ : GI)) 25), (9, .one 7 fun v => .blk (ck v) (cI (aa x.p)) 25)]⟩] h rfl (by kernel_rfl) ⟨?_, ?_, ?_, ?_, ?_, ?_, ?_, ?_, ?_, ?_, trivial⟩ ?_
 ·intro ξ hφ; exact aL (fa uu71 rfl zz27 rfl rfl rfl (k' := 0))
 ·intro ξ hφ; exact cY [.blk b1 (cR x) 71] rfl rfl (ba aa27 zz27 rfl rfl rfl (v := (vQ x.p)) rfl)
 ·intro ξ hφ; exact d7 (dy (bF Tryz.call250 rfl) (kk c1))
 ·intro ξ hφ; exact aL (fa uu71 rfl zz27 rfl rfl rfl (k' := 0))
 ·intro ξ hφ; exact cY [.blk b1 (cR x) 71] rfl rfl (ba aa27 zz27 rfl rfl rfl (v := (vQ x.p)) rfl)
 ·intro ξ hφ; exact d7 (dy (bF Tryz.call98 rfl) (kk (cw x.p 36 (by omega) zx.1)))
 ·intro ξ hφ; exact k7 (ψ := fun v => ∃ b, v = ptr b 0) (B := fun v => [.blk (ck v) (cI (⟨false, 0⟩ : GI)) 25]) [.emp] rfl (fun v _ => by simp only [fc, bE] <;> rfl) (fun v hv => by simpa [DF.one, bE] using hv) (iQ (fv vv25 rfl))
 ·intro ξ hφ; exact k7 (ψ := fun v => ∃ b, v = ptr b 0) (B := fun v => [.blk (ck v) (cI (⟨false, 0⟩ : GI)) 25]) [.emp] rfl (fun v _ => by simp only [fc, bE] <;> rfl) (fun v hv => by simpa [DF.one, bE] using hv) (iQ (fv vv25 rfl))
 ·intro ξ hφ; obtain ⟨b3, hb6⟩ := hφ 6 rfl; exact gF [.blk b3 (cI (⟨false, 0⟩ : GI)) 25] [.blk b3 (cI (ao x.p)) 25] (congrArg (fun v => [Asn.blk (ck v) (cI (⟨false, 0⟩ : GI)) 25]) hb6) (congrArg (fun v => [Asn.blk (ck v) (cI (ao x.p)) 25]) hb6) (gW zz25 (Eq.trans rfl (congrArg some hb6)) rfl rfl rfl rfl rfl rfl)
 ·intro ξ hφ; obtain ⟨b4, hb7⟩ := hφ 7 rfl; exact gF [.blk b4 (cI (⟨false, 0⟩ : GI)) 25] [.blk b4 (cI (aa x.p)) 25] (congrArg (fun v => [Asn.blk (ck v) (cI (⟨false, 0⟩ : GI)) 25]) hb7) (congrArg (fun v => [Asn.blk (ck v) (cI (aa x.p)) 25]) hb7) (gW zz25 (Eq.trans rfl (congrArg some hb7)) rfl rfl rfl rfl rfl rfl)
 clear h ac wo; intro ξ ac wo hφ h
 replace h : St w0 59 [(1, (ptr b1 0)), (2, (ptr b2 0)), (3, ξ 6), (4, ξ 7)] [.blk b2 (cI (⟨false, 0⟩ : GI)) 25, .blk b1 (cR x) 71, .blk (ck (ξ 6)) (cI (ao x.p)) 25, .blk (ck (ξ 7)) (cI (aa x.p)) 25] ac wo := (h.pick [0, 1, 2, 3] (by decide)).sub ⟨rfl, rfl, rfl, rfl, trivial⟩
 revert h
 obtain ⟨b3, hb6⟩ : ∃ b, ξ 6 = ptr b 0 := hφ 6
 obtain ⟨b4, hb7⟩ : ∃ b, ξ 7 = ptr b 0 := hφ 7
 rw [hb6, hb7]; intro h
 clear hb6 hb7
 clear hφ ξ
 refine hK2 _ _ ?_
 refine dV fun K3 hK3 => ?_
 have c3 := kz x.r zx.2
 have s3 := Calls.pr (c3 w0)
 have s4 := aF ((cw x.r 36 (by omega) zx.2) w0)
 replace h := h.emps 2
 refine cZ mixed [⟨.det (ptr b1 4), []⟩, ⟨.det (vQ x.r), [1]⟩, ⟨.det (vI (ao x.r)), []⟩, ⟨.det (ptr b1 4), []⟩, ⟨.det (vQ x.r), [1]⟩, ⟨.det (vI (aa x.r)), []⟩, ⟨.nd (.one 6 fun v => ∃ b, v = ptr b 0), [4]⟩, ⟨.nd (.one 7 fun v => ∃ b, v = ptr b 0), [5]⟩, ⟨.det undef, [4]⟩, ⟨.det undef, [5]⟩] [⟨.blk b2 (cI (⟨false, 0⟩ : GI)) 25, []⟩, ⟨.blk b1 (cR x) 71, []⟩, ⟨.blk b3 (cI (ao x.p)) 25, []⟩, ⟨.blk b4 (cI (aa x.p)) 25, []⟩, ⟨.emp, [(6, .one 6 fun v => .blk (ck v) (cI (⟨false, 0⟩ : GI)) 25), (8, .one 6 fun v => .blk (ck v) (cI (ao x.r)) 25)]⟩, ⟨.emp, [(7, .one 7 fun v => .blk (ck v) (cI (⟨false, 0⟩ : GI)) 25), (9, .one 7 fun v => .blk (ck v) (cI (aa x.r)) 25)]⟩] h rfl (by kernel_rfl) ⟨?_, ?_, ?_, ?_, ?_, ?_, ?_, ?_, ?_, ?_, trivial⟩ ?_
 ·intro ξ hφ; exact aL (fa uu71 rfl zz27 rfl rfl rfl (k' := 4))
 ·intro ξ hφ; exact cY [.blk b1 (cR x) 71] rfl rfl (ba aa27 zz27 rfl rfl rfl (v := (vQ x.r)) rfl)
 ·intro ξ hφ; exact d7 (dy (bF Tryz.call250 rfl) (kk c3))
 ·intro ξ hφ; exact aL (fa uu71 rfl zz27 rfl rfl rfl (k' := 4))
 ·intro ξ hφ; exact cY [.blk b1 (cR x) 71] rfl rfl (ba aa27 zz27 rfl rfl rfl (v := (vQ x.r)) rfl)
 ·intro ξ hφ; exact d7 (dy (bF Tryz.call98 rfl) (kk (cw x.r 36 (by omega) zx.2)))
 ·intro ξ hφ; exact k7 (ψ := fun v => ∃ b, v = ptr b 0) (B := fun v => [.blk (ck v) (cI (⟨false, 0⟩ : GI)) 25]) [.emp] rfl (fun v _ => by simp only [fc, bE] <;> rfl) (fun v hv => by simpa [DF.one, bE] using hv) (iQ (fv vv25 rfl))
 ·intro ξ hφ; exact k7 (ψ := fun v => ∃ b, v = ptr b 0) (B := fun v => [.blk (ck v) (cI (⟨false, 0⟩ : GI)) 25]) [.emp] rfl (fun v _ => by simp only [fc, bE] <;> rfl) (fun v hv => by simpa [DF.one, bE] using hv) (iQ (fv vv25 rfl))
 ·intro ξ hφ; obtain ⟨b5, hb6⟩ := hφ 6 rfl; exact gF [.blk b5 (cI (⟨false, 0⟩ : GI)) 25] [.blk b5 (cI (ao x.r)) 25] (congrArg (fun v => [Asn.blk (ck v) (cI (⟨false, 0⟩ : GI)) 25]) hb6) (congrArg (fun v => [Asn.blk (ck v) (cI (ao x.r)) 25]) hb6) (gW zz25 (Eq.trans rfl (congrArg some hb6)) rfl rfl rfl rfl rfl rfl)
 ·intro ξ hφ; obtain ⟨b6, hb7⟩ := hφ 7 rfl; exact gF [.blk b6 (cI (⟨false, 0⟩ : GI)) 25] [.blk b6 (cI (aa x.r)) 25] (congrArg (fun v => [Asn.blk (ck v) (cI (⟨false, 0⟩ : GI)) 25]) hb7) (congrArg (fun v => [Asn.blk (ck v) (cI (aa x.r)) 25]) hb7) (gW zz25 (Eq.trans rfl (congrArg some hb7)) rfl rfl rfl rfl rfl rfl)
 clear h ac wo; intro ξ ac wo hφ h
 replace h : St w0 59 [(1, (ptr b1 0)), (2, (ptr b2 0)), (3, (ptr b3 0)), (4, (ptr b4 0)), (5, ξ 6), (6, ξ 7)] [.blk b2 (cI (⟨false, 0⟩ : GI)) 25, .blk b1 (cR x) 71, .blk b3 (cI (ao x.p)) 25, .blk b4 (cI (aa x.p)) 25, .blk (ck (ξ 6)) (cI (ao x.r)) 25, .blk (ck (ξ 7)) (cI (aa x.r)) 25] ac wo := (h.pick [0, 1, 2, 3, 4, 5] (by decide)).sub ⟨rfl, rfl, rfl, rfl, rfl, rfl, trivial⟩
 revert h
 obtain ⟨b5, hb6⟩ : ∃ b, ξ 6 = ptr b 0 := hφ 6
 obtain ⟨b6, hb7⟩ : ∃ b, ξ 7 = ptr b 0 := hφ 7
 rw [hb6, hb7]; intro h
 clear hb6 hb7
 clear hφ ξ
 refine hK3 _ _ ?_
 refine dV fun K4 hK4 => ?_
 have s5 := aF ((cO (aa x.p) (aa x.p) 35 (by omega) s2 s2) w0)
 have s6 := aF ((cO (ao x.r) (aa x.r) 35 (by omega) s3 s4) w0)
 have s7 := aF ((cO (ag (aa x.p) (aa x.p)) (ag (ao x.r) (aa x.r)) 34 (by omega) s5 s6) w0)
 have s8 := Calls.pr ((fun w_ hB_ hS_ => kK (ag (ag (aa x.p) (aa x.p)) (ag (ao x.r) (aa x.r))) (qc ht) (fH s7 (by omega)) w_ ) _ h.bel h.sep)
 replace h := h.emps 1
 refine cZ mixed [⟨.det (vI (aa x.p)), [3]⟩, ⟨.det (vI (aa x.p)), [3]⟩, ⟨.det (vI (ag (aa x.p) (aa x.p))), []⟩, ⟨.det (vI (ao x.r)), [4]⟩, ⟨.det (vI (aa x.r)), [5]⟩, ⟨.det (vI (ag (ao x.r) (aa x.r))), []⟩, ⟨.det (vI (ag (ag (aa x.p) (aa x.p)) (ag (ao x.r) (aa x.r)))), []⟩, ⟨.det (.tuple #[(vI ((aD (ag (ag (aa x.p) (aa x.p)) (ag (ao x.r) (aa x.r)))).1)), (.int .i64 ((aD (ag (ag (aa x.p) (aa x.p)) (ag (ao x.r) (aa x.r)))).2))]), []⟩, ⟨.det (.tuple #[(vI ((aD (ag (ag (aa x.p) (aa x.p)) (ag (ao x.r) (aa x.r)))).1)), (.int .i64 ((aD (ag (ag (aa x.p) (aa x.p)) (ag (ao x.r) (aa x.r)))).2))]), []⟩, ⟨.det (vI ((aD (ag (ag (aa x.p) (aa x.p)) (ag (ao x.r) (aa x.r)))).1)), []⟩, ⟨.det (.int .i64 ((aD (ag (ag (aa x.p) (aa x.p)) (ag (ao x.r) (aa x.r)))).2)), []⟩, ⟨.nd (.one 11 fun v => ∃ b, v = ptr b 0), [6]⟩, ⟨.det undef, [6]⟩, ⟨.det (.int .i64 ((aD (ag (ag (aa x.p) (aa x.p)) (ag (ao x.r) (aa x.r)))).2)), []⟩] [⟨.blk b2 (cI (⟨false, 0⟩ : GI)) 25, []⟩, ⟨.blk b1 (cR x) 71, []⟩, ⟨.blk b3 (cI (ao x.p)) 25, []⟩, ⟨.blk b4 (cI (aa x.p)) 25, []⟩, ⟨.blk b5 (cI (ao x.r)) 25, []⟩, ⟨.blk b6 (cI (aa x.r)) 25, []⟩, ⟨.emp, [(11, .one 11 fun v => .blk (ck v) (cI (⟨false, 0⟩ : GI)) 25), (12, .one 11 fun v => .blk (ck v) (cI ((aD (ag (ag (aa x.p) (aa x.p)) (ag (ao x.r) (aa x.r)))).1)) 25)]⟩] h rfl (by kernel_rfl) ⟨?_, ?_, ?_, ?_, ?_, ?_, ?_, ?_, ?_, ?_, ?_, ?_, ?_, ?_, trivial⟩ ?_
 ·intro ξ hφ; exact cY [.blk b4 (cI (aa x.p)) 25] rfl rfl (ba aa25 zz25 rfl rfl rfl (v := (vI (aa x.p))) rfl)
 ·intro ξ hφ; exact cY [.blk b4 (cI (aa x.p)) 25] rfl rfl (ba aa25 zz25 rfl rfl rfl (v := (vI (aa x.p))) rfl)
 ·intro ξ hφ; exact d7 (dy (vs := [(vI (aa x.p)), (vI (aa x.p))]) (bF cc97 rfl) (fun w_ hB_ hS_ => (cO (aa x.p) (aa x.p) 35 (by omega) s2 s2) w_))
 ·intro ξ hφ; exact cY [.blk b5 (cI (ao x.r)) 25] rfl rfl (ba aa25 zz25 rfl rfl rfl (v := (vI (ao x.r))) rfl)
 ·intro ξ hφ; exact cY [.blk b6 (cI (aa x.r)) 25] rfl rfl (ba aa25 zz25 rfl rfl rfl (v := (vI (aa x.r))) rfl)
 ·intro ξ hφ; exact d7 (dy (bF cc97 rfl) (kk (cO (ao x.r) (aa x.r) 35 (by omega) s3 s4)))
 ·intro ξ hφ; exact d7 (dy (bF cc97 rfl) (kk (cO (ag (aa x.p) (aa x.p)) (ag (ao x.r) (aa x.r)) 34 (by omega) s5 s6)))
 ·intro ξ hφ; exact d7 (dy (bF Tryz.call251 rfl) (kk (kK (ag (ag (aa x.p) (aa x.p)) (ag (ao x.r) (aa x.r))) (qc ht) (fH s7 (by omega)))))
 ·intro ξ hφ; exact aL (ak rfl)
 ·intro ξ hφ; exact aL (bf rfl rfl)
 ·intro ξ hφ; exact aL (bf rfl rfl)
 ·intro ξ hφ; exact k7 (ψ := fun v => ∃ b, v = ptr b 0) (B := fun v => [.blk (ck v) (cI (⟨false, 0⟩ : GI)) 25]) [.emp] rfl (fun v _ => by simp only [fc, bE] <;> rfl) (fun v hv => by simpa [DF.one, bE] using hv) (iQ (fv vv25 rfl))
 ·intro ξ hφ; obtain ⟨b7, hb11⟩ := hφ 11 rfl; exact gF [.blk b7 (cI (⟨false, 0⟩ : GI)) 25] [.blk b7 (cI ((aD (ag (ag (aa x.p) (aa x.p)) (ag (ao x.r) (aa x.r)))).1)) 25] (congrArg (fun v => [Asn.blk (ck v) (cI (⟨false, 0⟩ : GI)) 25]) hb11) (congrArg (fun v => [Asn.blk (ck v) (cI ((aD (ag (ag (aa x.p) (aa x.p)) (ag (ao x.r) (aa x.r)))).1)) 25]) hb11) (gW zz25 (Eq.trans rfl (congrArg some hb11)) rfl rfl rfl rfl rfl rfl)
 ·intro ξ hφ; exact aL (aj rfl)
 clear h ac wo; intro ξ ac wo hφ h
 replace h : St w0 59 [(1, (ptr b1 0)), (2, (ptr b2 0)), (3, (ptr b3 0)), (4, (ptr b4 0)), (6, (ptr b6 0)), (7, ξ 11)] [.blk b2 (cI (⟨false, 0⟩ : GI)) 25, .blk b1 (cR x) 71, .blk b3 (cI (ao x.p)) 25, .blk b4 (cI (aa x.p)) 25, .blk b5 (cI (ao x.r)) 25, .blk b6 (cI (aa x.r)) 25, .blk (ck (ξ 11)) (cI ((aD (ag (ag (aa x.p) (aa x.p)) (ag (ao x.r) (aa x.r)))).1)) 25] ac wo := (h.pick [0, 1, 2, 3, 4, 5, 6] (by decide)).sub ⟨rfl, rfl, rfl, rfl, rfl, rfl, trivial⟩
 revert h
 obtain ⟨b7, hb11⟩ : ∃ b, ξ 11 = ptr b 0 := hφ 11
 rw [hb11]; intro h
 clear hb11
 clear hφ ξ
 have c9 := cO (ao x.p) (aa x.r) 35 (by omega) s1 s4
 have s9 := aF (c9 w0)
 refine gz h <| gx hK4 <| gr fun K5 hK5 => g1 2 rfl (ba aa25 zz25 rfl rfl rfl (v := (vI (ao x.p))) rfl) rfl <| g1 5 rfl (ba aa25 zz25 rfl rfl rfl (v := (vI (aa x.r))) rfl) rfl <| gc (bF cc97 rfl) (kk c9) rfl <| ga (cI (⟨false, 0⟩ : GI)) vv25 rfl rfl fun b8 => gs 0 (cI (ag (ao x.p) (aa x.r))) rfl zz25 rfl rfl rfl rfl rfl rfl rfl <| gn hK5 <| gq fun K6 hK6 => gr fun K7 hK7 => g0 (fa uu71 rfl zz4 rfl rfl rfl (k' := 8)) rfl <| g1 2 rfl (ba aa4 zz4 rfl rfl rfl (v := (.bool x.neg)) rfl) rfl <| gn hK7 ?_; clear h ac wo; intro ac wo h
 refine dA h rfl (fun hc1 => ?_) (fun hc1 => ?_)
 ·skip
  have hq1 := hc1; try simp at hq1
  have s10 := aF ((eh 1 40 (by omega)  (by omega)) w0)
  have s11 := aF ((eU ((aD (ag (ag (aa x.p) (aa x.p)) (ag (ao x.r) (aa x.r)))).1) (aw 1) 28 (by omega) s8 (fH s10 (by omega))) w0)
  have s12 := Calls.pr ((fun w_ hB_ hS_ => lc (ag (ao x.p) (aa x.r)) (aH ((aD (ag (ag (aa x.p) (aa x.p)) (ag (ao x.r) (aa x.r)))).1) (aw 1)) (fH s9 (by omega)) s11 w_ ) _ h.bel h.sep)
  refine cZ mixed [⟨.det (vI (ag (ao x.p) (aa x.r))), [0]⟩, ⟨.det (vI ((aD (ag (ag (aa x.p) (aa x.p)) (ag (ao x.r) (aa x.r)))).1)), [7]⟩, ⟨.det (vI (aw 1)), []⟩, ⟨.det (vI (aH ((aD (ag (ag (aa x.p) (aa x.p)) (ag (ao x.r) (aa x.r)))).1) (aw 1))), []⟩, ⟨.det (vI (bK (ag (ao x.p) (aa x.r)) (aH ((aD (ag (ag (aa x.p) (aa x.p)) (ag (ao x.r) (aa x.r)))).1) (aw 1)))), []⟩, ⟨.det undef, [0]⟩] [⟨.blk b8 (cI (ag (ao x.p) (aa x.r))) 25, [(5, .con (.blk b8 (cI (bK (ag (ao x.p) (aa x.r)) (aH ((aD (ag (ag (aa x.p) (aa x.p)) (ag (ao x.r) (aa x.r)))).1) (aw 1)))) 25))]⟩, ⟨.blk b2 (cI (⟨false, 0⟩ : GI)) 25, []⟩, ⟨.blk b1 (cR x) 71, []⟩, ⟨.blk b3 (cI (ao x.p)) 25, []⟩, ⟨.blk b4 (cI (aa x.p)) 25, []⟩, ⟨.blk b5 (cI (ao x.r)) 25, []⟩, ⟨.blk b6 (cI (aa x.r)) 25, []⟩, ⟨.blk b7 (cI ((aD (ag (ag (aa x.p) (aa x.p)) (ag (ao x.r) (aa x.r)))).1)) 25, []⟩] h rfl (by kernel_rfl) ⟨?_, ?_, ?_, ?_, ?_, ?_, trivial⟩ ?_
  ·intro ξ hφ; exact cY [.blk b8 (cI (ag (ao x.p) (aa x.r))) 25] rfl rfl (ba aa25 zz25 rfl rfl rfl (v := (vI (ag (ao x.p) (aa x.r)))) rfl)
  ·intro ξ hφ; exact cY [.blk b7 (cI ((aD (ag (ag (aa x.p) (aa x.p)) (ag (ao x.r) (aa x.r)))).1)) 25] rfl rfl (ba aa25 zz25 rfl rfl rfl (v := (vI ((aD (ag (ag (aa x.p) (aa x.p)) (ag (ao x.r) (aa x.r)))).1))) rfl)
  ·intro ξ hφ; exact d7 (dy (vs := [(.int .i64 1)]) (bF cc93 rfl) (fun w_ hB_ hS_ => (eh 1 40 (by omega)  (by omega)) w_))
  ·intro ξ hφ; exact d7 (dy (bF cc96 rfl) (kk (eU ((aD (ag (ag (aa x.p) (aa x.p)) (ag (ao x.r) (aa x.r)))).1) (aw 1) 28 (by omega) s8 (fH s10 (by omega)))))
  ·intro ξ hφ; exact d7 (dy (bF Tryz.call252 rfl) (kk (lc (ag (ao x.p) (aa x.r)) (aH ((aD (ag (ag (aa x.p) (aa x.p)) (ag (ao x.r) (aa x.r)))).1) (aw 1)) (fH s9 (by omega)) s11)))
  ·intro ξ hφ; exact gF [.blk b8 (cI (ag (ao x.p) (aa x.r))) 25] [.blk b8 (cI (bK (ag (ao x.p) (aa x.r)) (aH ((aD (ag (ag (aa x.p) (aa x.p)) (ag (ao x.r) (aa x.r)))).1) (aw 1)))) 25] rfl rfl (gW zz25 rfl rfl rfl rfl rfl rfl rfl)
  clear h ac wo; intro ξ ac wo hφ h
  replace h : St w0 59 [(2, (ptr b2 0)), (4, (ptr b4 0)), (6, (ptr b6 0)), (9, (ptr b8 0))] [.blk b8 (cI (bK (ag (ao x.p) (aa x.r)) (aH ((aD (ag (ag (aa x.p) (aa x.p)) (ag (ao x.r) (aa x.r)))).1) (aw 1)))) 25, .blk b2 (cI (⟨false, 0⟩ : GI)) 25, .blk b1 (cR x) 71, .blk b3 (cI (ao x.p)) 25, .blk b4 (cI (aa x.p)) 25, .blk b5 (cI (ao x.r)) 25, .blk b6 (cI (aa x.r)) 25, .blk b7 (cI ((aD (ag (ag (aa x.p) (aa x.p)) (ag (ao x.r) (aa x.r)))).1)) 25] ac wo := (h.pick [0, 1, 2, 3, 4, 5, 6, 7] (by decide)).sub ⟨rfl, rfl, rfl, rfl, trivial⟩
  clear hφ ξ
  refine hK6 _ _ ?_
  refine dV fun K8 hK8 => ?_
  have c13 := cO (aa x.p) (aa x.r) 35 (by omega) s2 s4
  have s13 := aF (c13 w0)
  have s14 := aF ((fS (bK (ag (ao x.p) (aa x.r)) (aH ((aD (ag (ag (aa x.p) (aa x.p)) (ag (ao x.r) (aa x.r)))).1) (aw 1))) (ag (aa x.p) (aa x.r)) 25 (by omega) s12 (fH s13 (by omega))) w0)
  replace h := h.emps 2
  refine cZ mixed [⟨.det (vI (bK (ag (ao x.p) (aa x.r)) (aH ((aD (ag (ag (aa x.p) (aa x.p)) (ag (ao x.r) (aa x.r)))).1) (aw 1)))), [0]⟩, ⟨.det (vI (aa x.p)), [4]⟩, ⟨.det (vI (aa x.r)), [6]⟩, ⟨.det (vI (ag (aa x.p) (aa x.r))), []⟩, ⟨.det (.tuple #[(vI ((aS (bK (ag (ao x.p) (aa x.r)) (aH ((aD (ag (ag (aa x.p) (aa x.p)) (ag (ao x.r) (aa x.r)))).1) (aw 1))) (ag (aa x.p) (aa x.r))).1)), (vI ((aS (bK (ag (ao x.p) (aa x.r)) (aH ((aD (ag (ag (aa x.p) (aa x.p)) (ag (ao x.r) (aa x.r)))).1) (aw 1))) (ag (aa x.p) (aa x.r))).2.1)), (.int .i64 ((aS (bK (ag (ao x.p) (aa x.r)) (aH ((aD (ag (ag (aa x.p) (aa x.p)) (ag (ao x.r) (aa x.r)))).1) (aw 1))) (ag (aa x.p) (aa x.r))).2.2))]), []⟩, ⟨.det (.tuple #[(vI ((aS (bK (ag (ao x.p) (aa x.r)) (aH ((aD (ag (ag (aa x.p) (aa x.p)) (ag (ao x.r) (aa x.r)))).1) (aw 1))) (ag (aa x.p) (aa x.r))).1)), (vI ((aS (bK (ag (ao x.p) (aa x.r)) (aH ((aD (ag (ag (aa x.p) (aa x.p)) (ag (ao x.r) (aa x.r)))).1) (aw 1))) (ag (aa x.p) (aa x.r))).2.1)), (.int .i64 ((aS (bK (ag (ao x.p) (aa x.r)) (aH ((aD (ag (ag (aa x.p) (aa x.p)) (ag (ao x.r) (aa x.r)))).1) (aw 1))) (ag (aa x.p) (aa x.r))).2.2))]), []⟩, ⟨.det (vI ((aS (bK (ag (ao x.p) (aa x.r)) (aH ((aD (ag (ag (aa x.p) (aa x.p)) (ag (ao x.r) (aa x.r)))).1) (aw 1))) (ag (aa x.p) (aa x.r))).1)), []⟩, ⟨.det (vI ((aS (bK (ag (ao x.p) (aa x.r)) (aH ((aD (ag (ag (aa x.p) (aa x.p)) (ag (ao x.r) (aa x.r)))).1) (aw 1))) (ag (aa x.p) (aa x.r))).2.1)), []⟩, ⟨.det (.int .i64 ((aS (bK (ag (ao x.p) (aa x.r)) (aH ((aD (ag (ag (aa x.p) (aa x.p)) (ag (ao x.r) (aa x.r)))).1) (aw 1))) (ag (aa x.p) (aa x.r))).2.2)), []⟩, ⟨.nd (.one 9 fun v => ∃ b, v = ptr b 0), [8]⟩, ⟨.nd (.one 10 fun v => ∃ b, v = ptr b 0), [9]⟩, ⟨.det undef, [8]⟩, ⟨.det undef, [9]⟩, ⟨.det (.int .i64 ((aS (bK (ag (ao x.p) (aa x.r)) (aH ((aD (ag (ag (aa x.p) (aa x.p)) (ag (ao x.r) (aa x.r)))).1) (aw 1))) (ag (aa x.p) (aa x.r))).2.2)), []⟩] [⟨.blk b8 (cI (bK (ag (ao x.p) (aa x.r)) (aH ((aD (ag (ag (aa x.p) (aa x.p)) (ag (ao x.r) (aa x.r)))).1) (aw 1)))) 25, []⟩, ⟨.blk b2 (cI (⟨false, 0⟩ : GI)) 25, []⟩, ⟨.blk b1 (cR x) 71, []⟩, ⟨.blk b3 (cI (ao x.p)) 25, []⟩, ⟨.blk b4 (cI (aa x.p)) 25, []⟩, ⟨.blk b5 (cI (ao x.r)) 25, []⟩, ⟨.blk b6 (cI (aa x.r)) 25, []⟩, ⟨.blk b7 (cI ((aD (ag (ag (aa x.p) (aa x.p)) (ag (ao x.r) (aa x.r)))).1)) 25, []⟩, ⟨.emp, [(9, .one 9 fun v => .blk (ck v) (cI (⟨false, 0⟩ : GI)) 25), (11, .one 9 fun v => .blk (ck v) (cI ((aS (bK (ag (ao x.p) (aa x.r)) (aH ((aD (ag (ag (aa x.p) (aa x.p)) (ag (ao x.r) (aa x.r)))).1) (aw 1))) (ag (aa x.p) (aa x.r))).1)) 25)]⟩, ⟨.emp, [(10, .one 10 fun v => .blk (ck v) (cI (⟨false, 0⟩ : GI)) 25), (12, .one 10 fun v => .blk (ck v) (cI ((aS (bK (ag (ao x.p) (aa x.r)) (aH ((aD (ag (ag (aa x.p) (aa x.p)) (ag (ao x.r) (aa x.r)))).1) (aw 1))) (ag (aa x.p) (aa x.r))).2.1)) 25)]⟩] h rfl (by kernel_rfl) ⟨?_, ?_, ?_, ?_, ?_, ?_, ?_, ?_, ?_, ?_, ?_, ?_, ?_, ?_, trivial⟩ ?_
  ·intro ξ hφ; exact cY [.blk b8 (cI (bK (ag (ao x.p) (aa x.r)) (aH ((aD (ag (ag (aa x.p) (aa x.p)) (ag (ao x.r) (aa x.r)))).1) (aw 1)))) 25] rfl rfl (ba aa25 zz25 rfl rfl rfl (v := (vI (bK (ag (ao x.p) (aa x.r)) (aH ((aD (ag (ag (aa x.p) (aa x.p)) (ag (ao x.r) (aa x.r)))).1) (aw 1))))) rfl)
  ·intro ξ hφ; exact cY [.blk b4 (cI (aa x.p)) 25] rfl rfl (ba aa25 zz25 rfl rfl rfl (v := (vI (aa x.p))) rfl)
  ·intro ξ hφ; exact cY [.blk b6 (cI (aa x.r)) 25] rfl rfl (ba aa25 zz25 rfl rfl rfl (v := (vI (aa x.r))) rfl)
  ·intro ξ hφ; exact d7 (dy (bF cc97 rfl) (kk c13))
  ·intro ξ hφ; exact d7 (dy (bF Tryz.call253 rfl) (kk (fS (bK (ag (ao x.p) (aa x.r)) (aH ((aD (ag (ag (aa x.p) (aa x.p)) (ag (ao x.r) (aa x.r)))).1) (aw 1))) (ag (aa x.p) (aa x.r)) 25 (by omega) s12 (fH s13 (by omega)))))
  ·intro ξ hφ; exact aL (ak rfl)
  ·intro ξ hφ; exact aL (bf rfl rfl)
  ·intro ξ hφ; exact aL (bf rfl rfl)
  ·intro ξ hφ; exact aL (bf rfl rfl)
  ·intro ξ hφ; exact k7 (ψ := fun v => ∃ b, v = ptr b 0) (B := fun v => [.blk (ck v) (cI (⟨false, 0⟩ : GI)) 25]) [.emp] rfl (fun v _ => by simp only [fc, bE] <;> rfl) (fun v hv => by simpa [DF.one, bE] using hv) (iQ (fv vv25 rfl))
  ·intro ξ hφ; exact k7 (ψ := fun v => ∃ b, v = ptr b 0) (B := fun v => [.blk (ck v) (cI (⟨false, 0⟩ : GI)) 25]) [.emp] rfl (fun v _ => by simp only [fc, bE] <;> rfl) (fun v hv => by simpa [DF.one, bE] using hv) (iQ (fv vv25 rfl))
  ·intro ξ hφ; obtain ⟨b9, hb9⟩ := hφ 9 rfl; exact gF [.blk b9 (cI (⟨false, 0⟩ : GI)) 25] [.blk b9 (cI ((aS (bK (ag (ao x.p) (aa x.r)) (aH ((aD (ag (ag (aa x.p) (aa x.p)) (ag (ao x.r) (aa x.r)))).1) (aw 1))) (ag (aa x.p) (aa x.r))).1)) 25] (congrArg (fun v => [Asn.blk (ck v) (cI (⟨false, 0⟩ : GI)) 25]) hb9) (congrArg (fun v => [Asn.blk (ck v) (cI ((aS (bK (ag (ao x.p) (aa x.r)) (aH ((aD (ag (ag (aa x.p) (aa x.p)) (ag (ao x.r) (aa x.r)))).1) (aw 1))) (ag (aa x.p) (aa x.r))).1)) 25]) hb9) (gW zz25 (Eq.trans rfl (congrArg some hb9)) rfl rfl rfl rfl rfl rfl)
  ·intro ξ hφ; obtain ⟨b10, hb10⟩ := hφ 10 rfl; exact gF [.blk b10 (cI (⟨false, 0⟩ : GI)) 25] [.blk b10 (cI ((aS (bK (ag (ao x.p) (aa x.r)) (aH ((aD (ag (ag (aa x.p) (aa x.p)) (ag (ao x.r) (aa x.r)))).1) (aw 1))) (ag (aa x.p) (aa x.r))).2.1)) 25] (congrArg (fun v => [Asn.blk (ck v) (cI (⟨false, 0⟩ : GI)) 25]) hb10) (congrArg (fun v => [Asn.blk (ck v) (cI ((aS (bK (ag (ao x.p) (aa x.r)) (aH ((aD (ag (ag (aa x.p) (aa x.p)) (ag (ao x.r) (aa x.r)))).1) (aw 1))) (ag (aa x.p) (aa x.r))).2.1)) 25]) hb10) (gW zz25 (Eq.trans rfl (congrArg some hb10)) rfl rfl rfl rfl rfl rfl)
  ·intro ξ hφ; exact aL (aj rfl)
  clear h ac wo; intro ξ ac wo hφ h
  replace h : St w0 59 [(2, (ptr b2 0)), (10, ξ 9)] [.blk b8 (cI (bK (ag (ao x.p) (aa x.r)) (aH ((aD (ag (ag (aa x.p) (aa x.p)) (ag (ao x.r) (aa x.r)))).1) (aw 1)))) 25, .blk b2 (cI (⟨false, 0⟩ : GI)) 25, .blk b1 (cR x) 71, .blk b3 (cI (ao x.p)) 25, .blk b4 (cI (aa x.p)) 25, .blk b5 (cI (ao x.r)) 25, .blk b6 (cI (aa x.r)) 25, .blk b7 (cI ((aD (ag (ag (aa x.p) (aa x.p)) (ag (ao x.r) (aa x.r)))).1)) 25, .blk (ck (ξ 9)) (cI ((aS (bK (ag (ao x.p) (aa x.r)) (aH ((aD (ag (ag (aa x.p) (aa x.p)) (ag (ao x.r) (aa x.r)))).1) (aw 1))) (ag (aa x.p) (aa x.r))).1)) 25, .blk (ck (ξ 10)) (cI ((aS (bK (ag (ao x.p) (aa x.r)) (aH ((aD (ag (ag (aa x.p) (aa x.p)) (ag (ao x.r) (aa x.r)))).1) (aw 1))) (ag (aa x.p) (aa x.r))).2.1)) 25] ac wo := (h.pick [0, 1, 2, 3, 4, 5, 6, 7, 8, 9] (by decide)).sub ⟨rfl, rfl, trivial⟩
  revert h
  obtain ⟨b9, hb9⟩ : ∃ b, ξ 9 = ptr b 0 := hφ 9
  obtain ⟨b10, hb10⟩ : ∃ b, ξ 10 = ptr b 0 := hφ 10
  rw [hb9, hb10]; intro h
  clear hb9 hb10
  clear hφ ξ
  refine gz h <| gx hK8 <| gr fun K9 hK9 => g1 8 rfl (ba aa25 zz25 rfl rfl rfl (v := (vI ((aS (bK (ag (ao x.p) (aa x.r)) (aH ((aD (ag (ag (aa x.p) (aa x.p)) (ag (ao x.r) (aa x.r)))).1) (aw 1))) (ag (aa x.p) (aa x.r))).1))) rfl) rfl <| gs 1 (cI ((aS (bK (ag (ao x.p) (aa x.r)) (aH ((aD (ag (ag (aa x.p) (aa x.p)) (ag (ao x.r) (aa x.r)))).1) (aw 1))) (ag (aa x.p) (aa x.r))).1)) rfl zz25 rfl rfl rfl rfl rfl rfl rfl <| gn hK9 <| gT ?_; clear h ac wo; intro ac wo h
  have hd : cz x = (aS (bK (ag (ao x.p) (aa x.r)) (aH ((aD (ag (ag (aa x.p) (aa x.p)) (ag (ao x.r) (aa x.r)))).1) (aw 1))) (ag (aa x.p) (aa x.r))).1 := (cT hc1)
  exact ret h rfl (.cell (v := (vI ((aS (bK (ag (ao x.p) (aa x.r)) (aH ((aD (ag (ag (aa x.p) (aa x.p)) (ag (ao x.r) (aa x.r)))).1) (aw 1))) (ag (aa x.p) (aa x.r))).1))) rfl (i := 1) rfl aa25 zz25 rfl rfl rfl .nil) rfl (h.retP (by rw [hd] <;> rfl) (by rw [hd]; exact (by rw [← hd]; exact rj ht)))
 ·skip
  have hq1 := hc1; try simp at hq1
  have c15 := eU (ag (ao x.p) (aa x.r)) ((aD (ag (ag (aa x.p) (aa x.p)) (ag (ao x.r) (aa x.r)))).1) 28 (by omega) (fH s9 (by omega)) s8
  have s15 := aF (c15 w0)
  refine gz h <| gR <| g1 0 rfl (ba aa25 zz25 rfl rfl rfl (v := (vI (ag (ao x.p) (aa x.r)))) rfl) rfl <| g1 7 rfl (ba aa25 zz25 rfl rfl rfl (v := (vI ((aD (ag (ag (aa x.p) (aa x.p)) (ag (ao x.r) (aa x.r)))).1))) rfl) rfl <| gc (bF cc96 rfl) (kk c15) rfl <| gs 0 (cI (aH (ag (ao x.p) (aa x.r)) ((aD (ag (ag (aa x.p) (aa x.p)) (ag (ao x.r) (aa x.r)))).1))) rfl zz25 rfl rfl rfl rfl rfl rfl rfl <| gn hK6 <| gq fun K10 hK10 => ?_; clear h ac wo; intro ac wo h
  have c16 := cO (aa x.p) (aa x.r) 35 (by omega) s2 s4
  have s16 := aF (c16 w0)
  have s17 := aF ((fS (aH (ag (ao x.p) (aa x.r)) ((aD (ag (ag (aa x.p) (aa x.p)) (ag (ao x.r) (aa x.r)))).1)) (ag (aa x.p) (aa x.r)) 27 (by omega) s15 (fH s16 (by omega))) w0)
  replace h := h.emps 2
  refine cZ mixed [⟨.det (vI (aH (ag (ao x.p) (aa x.r)) ((aD (ag (ag (aa x.p) (aa x.p)) (ag (ao x.r) (aa x.r)))).1))), [0]⟩, ⟨.det (vI (aa x.p)), [4]⟩, ⟨.det (vI (aa x.r)), [6]⟩, ⟨.det (vI (ag (aa x.p) (aa x.r))), []⟩, ⟨.det (.tuple #[(vI ((aS (aH (ag (ao x.p) (aa x.r)) ((aD (ag (ag (aa x.p) (aa x.p)) (ag (ao x.r) (aa x.r)))).1)) (ag (aa x.p) (aa x.r))).1)), (vI ((aS (aH (ag (ao x.p) (aa x.r)) ((aD (ag (ag (aa x.p) (aa x.p)) (ag (ao x.r) (aa x.r)))).1)) (ag (aa x.p) (aa x.r))).2.1)), (.int .i64 ((aS (aH (ag (ao x.p) (aa x.r)) ((aD (ag (ag (aa x.p) (aa x.p)) (ag (ao x.r) (aa x.r)))).1)) (ag (aa x.p) (aa x.r))).2.2))]), []⟩, ⟨.det (.tuple #[(vI ((aS (aH (ag (ao x.p) (aa x.r)) ((aD (ag (ag (aa x.p) (aa x.p)) (ag (ao x.r) (aa x.r)))).1)) (ag (aa x.p) (aa x.r))).1)), (vI ((aS (aH (ag (ao x.p) (aa x.r)) ((aD (ag (ag (aa x.p) (aa x.p)) (ag (ao x.r) (aa x.r)))).1)) (ag (aa x.p) (aa x.r))).2.1)), (.int .i64 ((aS (aH (ag (ao x.p) (aa x.r)) ((aD (ag (ag (aa x.p) (aa x.p)) (ag (ao x.r) (aa x.r)))).1)) (ag (aa x.p) (aa x.r))).2.2))]), []⟩, ⟨.det (vI ((aS (aH (ag (ao x.p) (aa x.r)) ((aD (ag (ag (aa x.p) (aa x.p)) (ag (ao x.r) (aa x.r)))).1)) (ag (aa x.p) (aa x.r))).1)), []⟩, ⟨.det (vI ((aS (aH (ag (ao x.p) (aa x.r)) ((aD (ag (ag (aa x.p) (aa x.p)) (ag (ao x.r) (aa x.r)))).1)) (ag (aa x.p) (aa x.r))).2.1)), []⟩, ⟨.det (.int .i64 ((aS (aH (ag (ao x.p) (aa x.r)) ((aD (ag (ag (aa x.p) (aa x.p)) (ag (ao x.r) (aa x.r)))).1)) (ag (aa x.p) (aa x.r))).2.2)), []⟩, ⟨.nd (.one 9 fun v => ∃ b, v = ptr b 0), [8]⟩, ⟨.nd (.one 10 fun v => ∃ b, v = ptr b 0), [9]⟩, ⟨.det undef, [8]⟩, ⟨.det undef, [9]⟩, ⟨.det (.int .i64 ((aS (aH (ag (ao x.p) (aa x.r)) ((aD (ag (ag (aa x.p) (aa x.p)) (ag (ao x.r) (aa x.r)))).1)) (ag (aa x.p) (aa x.r))).2.2)), []⟩] [⟨.blk b8 (cI (aH (ag (ao x.p) (aa x.r)) ((aD (ag (ag (aa x.p) (aa x.p)) (ag (ao x.r) (aa x.r)))).1))) 25, []⟩, ⟨.blk b2 (cI (⟨false, 0⟩ : GI)) 25, []⟩, ⟨.blk b1 (cR x) 71, []⟩, ⟨.blk b3 (cI (ao x.p)) 25, []⟩, ⟨.blk b4 (cI (aa x.p)) 25, []⟩, ⟨.blk b5 (cI (ao x.r)) 25, []⟩, ⟨.blk b6 (cI (aa x.r)) 25, []⟩, ⟨.blk b7 (cI ((aD (ag (ag (aa x.p) (aa x.p)) (ag (ao x.r) (aa x.r)))).1)) 25, []⟩, ⟨.emp, [(9, .one 9 fun v => .blk (ck v) (cI (⟨false, 0⟩ : GI)) 25), (11, .one 9 fun v => .blk (ck v) (cI ((aS (aH (ag (ao x.p) (aa x.r)) ((aD (ag (ag (aa x.p) (aa x.p)) (ag (ao x.r) (aa x.r)))).1)) (ag (aa x.p) (aa x.r))).1)) 25)]⟩, ⟨.emp, [(10, .one 10 fun v => .blk (ck v) (cI (⟨false, 0⟩ : GI)) 25), (12, .one 10 fun v => .blk (ck v) (cI ((aS (aH (ag (ao x.p) (aa x.r)) ((aD (ag (ag (aa x.p) (aa x.p)) (ag (ao x.r) (aa x.r)))).1)) (ag (aa x.p) (aa x.r))).2.1)) 25)]⟩] h rfl (by kernel_rfl) ⟨?_, ?_, ?_, ?_, ?_, ?_, ?_, ?_, ?_, ?_, ?_, ?_, ?_, ?_, trivial⟩ ?_
  ·intro ξ hφ; exact cY [.blk b8 (cI (aH (ag (ao x.p) (aa x.r)) ((aD (ag (ag (aa x.p) (aa x.p)) (ag (ao x.r) (aa x.r)))).1))) 25] rfl rfl (ba aa25 zz25 rfl rfl rfl (v := (vI (aH (ag (ao x.p) (aa x.r)) ((aD (ag (ag (aa x.p) (aa x.p)) (ag (ao x.r) (aa x.r)))).1)))) rfl)
  ·intro ξ hφ; exact cY [.blk b4 (cI (aa x.p)) 25] rfl rfl (ba aa25 zz25 rfl rfl rfl (v := (vI (aa x.p))) rfl)
  ·intro ξ hφ; exact cY [.blk b6 (cI (aa x.r)) 25] rfl rfl (ba aa25 zz25 rfl rfl rfl (v := (vI (aa x.r))) rfl)
  ·intro ξ hφ; exact d7 (dy (bF cc97 rfl) (kk c16))
  ·intro ξ hφ; exact d7 (dy (bF Tryz.call253 rfl) (kk (fS (aH (ag (ao x.p) (aa x.r)) ((aD (ag (ag (aa x.p) (aa x.p)) (ag (ao x.r) (aa x.r)))).1)) (ag (aa x.p) (aa x.r)) 27 (by omega) s15 (fH s16 (by omega)))))
  ·intro ξ hφ; exact aL (ak rfl)
  ·intro ξ hφ; exact aL (bf rfl rfl)
  ·intro ξ hφ; exact aL (bf rfl rfl)
  ·intro ξ hφ; exact aL (bf rfl rfl)
  ·intro ξ hφ; exact k7 (ψ := fun v => ∃ b, v = ptr b 0) (B := fun v => [.blk (ck v) (cI (⟨false, 0⟩ : GI)) 25]) [.emp] rfl (fun v _ => by simp only [fc, bE] <;> rfl) (fun v hv => by simpa [DF.one, bE] using hv) (iQ (fv vv25 rfl))
  ·intro ξ hφ; exact k7 (ψ := fun v => ∃ b, v = ptr b 0) (B := fun v => [.blk (ck v) (cI (⟨false, 0⟩ : GI)) 25]) [.emp] rfl (fun v _ => by simp only [fc, bE] <;> rfl) (fun v hv => by simpa [DF.one, bE] using hv) (iQ (fv vv25 rfl))
  ·intro ξ hφ; obtain ⟨b11, hb9⟩ := hφ 9 rfl; exact gF [.blk b11 (cI (⟨false, 0⟩ : GI)) 25] [.blk b11 (cI ((aS (aH (ag (ao x.p) (aa x.r)) ((aD (ag (ag (aa x.p) (aa x.p)) (ag (ao x.r) (aa x.r)))).1)) (ag (aa x.p) (aa x.r))).1)) 25] (congrArg (fun v => [Asn.blk (ck v) (cI (⟨false, 0⟩ : GI)) 25]) hb9) (congrArg (fun v => [Asn.blk (ck v) (cI ((aS (aH (ag (ao x.p) (aa x.r)) ((aD (ag (ag (aa x.p) (aa x.p)) (ag (ao x.r) (aa x.r)))).1)) (ag (aa x.p) (aa x.r))).1)) 25]) hb9) (gW zz25 (Eq.trans rfl (congrArg some hb9)) rfl rfl rfl rfl rfl rfl)
  ·intro ξ hφ; obtain ⟨b12, hb10⟩ := hφ 10 rfl; exact gF [.blk b12 (cI (⟨false, 0⟩ : GI)) 25] [.blk b12 (cI ((aS (aH (ag (ao x.p) (aa x.r)) ((aD (ag (ag (aa x.p) (aa x.p)) (ag (ao x.r) (aa x.r)))).1)) (ag (aa x.p) (aa x.r))).2.1)) 25] (congrArg (fun v => [Asn.blk (ck v) (cI (⟨false, 0⟩ : GI)) 25]) hb10) (congrArg (fun v => [Asn.blk (ck v) (cI ((aS (aH (ag (ao x.p) (aa x.r)) ((aD (ag (ag (aa x.p) (aa x.p)) (ag (ao x.r) (aa x.r)))).1)) (ag (aa x.p) (aa x.r))).2.1)) 25]) hb10) (gW zz25 (Eq.trans rfl (congrArg some hb10)) rfl rfl rfl rfl rfl rfl)
  ·intro ξ hφ; exact aL (aj rfl)
  clear h ac wo; intro ξ ac wo hφ h
  replace h : St w0 59 [(2, (ptr b2 0)), (10, ξ 9)] [.blk b8 (cI (aH (ag (ao x.p) (aa x.r)) ((aD (ag (ag (aa x.p) (aa x.p)) (ag (ao x.r) (aa x.r)))).1))) 25, .blk b2 (cI (⟨false, 0⟩ : GI)) 25, .blk b1 (cR x) 71, .blk b3 (cI (ao x.p)) 25, .blk b4 (cI (aa x.p)) 25, .blk b5 (cI (ao x.r)) 25, .blk b6 (cI (aa x.r)) 25, .blk b7 (cI ((aD (ag (ag (aa x.p) (aa x.p)) (ag (ao x.r) (aa x.r)))).1)) 25, .blk (ck (ξ 9)) (cI ((aS (aH (ag (ao x.p) (aa x.r)) ((aD (ag (ag (aa x.p) (aa x.p)) (ag (ao x.r) (aa x.r)))).1)) (ag (aa x.p) (aa x.r))).1)) 25, .blk (ck (ξ 10)) (cI ((aS (aH (ag (ao x.p) (aa x.r)) ((aD (ag (ag (aa x.p) (aa x.p)) (ag (ao x.r) (aa x.r)))).1)) (ag (aa x.p) (aa x.r))).2.1)) 25] ac wo := (h.pick [0, 1, 2, 3, 4, 5, 6, 7, 8, 9] (by decide)).sub ⟨rfl, rfl, trivial⟩
  revert h
  obtain ⟨b11, hb9⟩ : ∃ b, ξ 9 = ptr b 0 := hφ 9
  obtain ⟨b12, hb10⟩ : ∃ b, ξ 10 = ptr b 0 := hφ 10
  rw [hb9, hb10]; intro h
  clear hb9 hb10
  clear hφ ξ
  refine gz h <| gx hK10 <| gr fun K11 hK11 => g1 8 rfl (ba aa25 zz25 rfl rfl rfl (v := (vI ((aS (aH (ag (ao x.p) (aa x.r)) ((aD (ag (ag (aa x.p) (aa x.p)) (ag (ao x.r) (aa x.r)))).1)) (ag (aa x.p) (aa x.r))).1))) rfl) rfl <| gs 1 (cI ((aS (aH (ag (ao x.p) (aa x.r)) ((aD (ag (ag (aa x.p) (aa x.p)) (ag (ao x.r) (aa x.r)))).1)) (ag (aa x.p) (aa x.r))).1)) rfl zz25 rfl rfl rfl rfl rfl rfl rfl <| gn hK11 <| gT ?_; clear h ac wo; intro ac wo h
  have hd : cz x = (aS (aH (ag (ao x.p) (aa x.r)) ((aD (ag (ag (aa x.p) (aa x.p)) (ag (ao x.r) (aa x.r)))).1)) (ag (aa x.p) (aa x.r))).1 := (cF hc1)
  exact ret h rfl (.cell (v := (vI ((aS (aH (ag (ao x.p) (aa x.r)) ((aD (ag (ag (aa x.p) (aa x.p)) (ag (ao x.r) (aa x.r)))).1)) (ag (aa x.p) (aa x.r))).1))) rfl (i := 1) rfl aa25 zz25 rfl rfl rfl .nil) rfl (h.retP (by rw [hd] <;> rfl) (by rw [hd]; exact (by rw [← hd]; exact rj ht)))
attribute [irreducible] cz
def fh (x : GR) (y : GR) : GQ :=
 (dW (aH (cz x) (aw 1)))
theorem mt (x : GR) (y : GR) (ht : Tm x) (hs1 : decide ((fO x) < 0) = false) (hs2 : decide ((fO y) ≤ 0) = false) (hs3 : decide ((e7 y (dW (aH (cz x) (aw 1)))) > 0) = true) (zx : SzR 36 x) (zy : SzR 36 y) (w0 : World)  : Calls Tryz.prog 209 #[(vR x), (vR y)] w0 (RetP w0 (vQ (fh x y)) (SzQ 32 (fh x y))) := by
 refine enter (N := 81) (args := [(vR x), (vR y)]) Tryz.func209 rfl rfl ?_; intro ac h
 refine ej fun K1 hK1 => ?_
 refine bx h (cR x) rfl rfl rfl fun b1 => gb (cR y) rfl rfl rfl fun b2 => ga (cQ oQ) vv27 rfl rfl fun b3 => gn hK1 <| gq fun K2 hK2 => gB <| gr fun K3 hK3 => g1 2 rfl (ba aa71 zz71 rfl rfl rfl (v := (vR x)) rfl) rfl <| gc (bF cc266 rfl) (kk (kw x (dg zx (by omega)))) rfl <| g0 (d5 rfl rfl) rfl <| g0 (ak rfl) rfl <| ge1 rfl rfl (fun hg => (Rd.of_mem (i := 1) (ba aa71 zz71 rfl rfl rfl (v := (vR y)) rfl) rfl).step) rfl <| ge1 rfl rfl (fun hg => dy (bF cc266 (cH (aN rfl hg) rfl)) (kk (kw y (dg zy (by omega))))) rfl <| ge1 rfl rfl (fun hg => (Rd.of_nil (ko (aN rfl hg) rfl)).step) rfl <| g0 (fw rfl (fun e => (aN rfl e))) rfl <| g0 (aj rfl) rfl <| gn hK3 ?_; clear h ac; intro ac wo h
 refine nP h rfl ?_ (by rw [hs1]; rfl)
 refine gz h <| gr fun K4 hK4 => g1 1 rfl (ba aa71 zz71 rfl rfl rfl (v := (vR y)) rfl) rfl <| gc (bF cc266 rfl) (kk (kw y (dg zy (by omega)))) rfl <| g0 (pK rfl rfl) rfl <| g0 (aj rfl) rfl <| gn hK4 ?_; clear h ac wo; intro ac wo h
 refine nP h rfl ?_ hs2
 have c1 := oA x (by omega) zx
 have s1 := Calls.pr (c1 w0)
 refine gz h <| gS <| gN <| gx hK2 <| gr fun K5 hK5 => g1 2 rfl (ba aa71 zz71 rfl rfl rfl (v := (vR x)) rfl) rfl <| gc (bF Tryz.call187 rfl) (kk c1) rfl <| ga (cI (⟨false, 0⟩ : GI)) vv25 rfl rfl fun b4 => gs 0 (cI (cz x)) rfl zz25 rfl rfl rfl rfl rfl rfl rfl <| gn hK5 ?_; clear h ac wo; intro ac wo h
 replace h := h.sub (F' := [(2, (ptr b1 0)), (3, (ptr b2 0)), (4, (ptr b3 0)), (5, (ptr b4 0))]) ⟨rfl, rfl, rfl, rfl, trivial⟩
 refine dV fun K6 hK6 => ?_
 have s2 := aF ((eh 1 40 (by omega)  (by omega)) w0)
 have s3 := aF ((eU (cz x) (aw 1) 39 (by omega) s1 s2) w0)
 have s4 := Calls.pr ((fun w_ hB_ hS_ => lz (aH (cz x) (aw 1)) (fH s3 (by omega)) w_ ) _ h.bel h.sep)
 replace h := h.emps 1
 refine cZ mixed [⟨.det (vI (cz x)), [0]⟩, ⟨.det (vI (aw 1)), []⟩, ⟨.det (vI (aH (cz x) (aw 1))), []⟩, ⟨.det (vQ (dW (aH (cz x) (aw 1)))), []⟩, ⟨.nd (.one 4 fun v => ∃ b, v = ptr b 0), [4]⟩, ⟨.det undef, [4]⟩] [⟨.blk b4 (cI (cz x)) 25, []⟩, ⟨.blk b3 (cQ oQ) 27, []⟩, ⟨.blk b2 (cR y) 71, []⟩, ⟨.blk b1 (cR x) 71, []⟩, ⟨.emp, [(4, .one 4 fun v => .blk (ck v) (cQ oQ) 27), (5, .one 4 fun v => .blk (ck v) (cQ (dW (aH (cz x) (aw 1)))) 27)]⟩] h rfl (by kernel_rfl) ⟨?_, ?_, ?_, ?_, ?_, ?_, trivial⟩ ?_
 ·intro ξ hφ; exact cY [.blk b4 (cI (cz x)) 25] rfl rfl (ba aa25 zz25 rfl rfl rfl (v := (vI (cz x))) rfl)
 ·intro ξ hφ; exact d7 (dy (vs := [(.int .i64 1)]) (bF cc93 rfl) (fun w_ hB_ hS_ => (eh 1 40 (by omega)  (by omega)) w_))
 ·intro ξ hφ; exact d7 (dy (bF cc96 rfl) (kk (eU (cz x) (aw 1) 39 (by omega) s1 s2)))
 ·intro ξ hφ; exact d7 (dy (bF Tryz.call267 rfl) (kk (lz (aH (cz x) (aw 1)) (fH s3 (by omega)))))
 ·intro ξ hφ; exact k7 (ψ := fun v => ∃ b, v = ptr b 0) (B := fun v => [.blk (ck v) (cQ oQ) 27]) [.emp] rfl (fun v _ => by simp only [fc, bE] <;> rfl) (fun v hv => by simpa [DF.one, bE] using hv) (iQ (fv vv27 rfl))
 ·intro ξ hφ; obtain ⟨b5, hb4⟩ := hφ 4 rfl; exact gF [.blk b5 (cQ oQ) 27] [.blk b5 (cQ (dW (aH (cz x) (aw 1)))) 27] (congrArg (fun v => [Asn.blk (ck v) (cQ oQ) 27]) hb4) (congrArg (fun v => [Asn.blk (ck v) (cQ (dW (aH (cz x) (aw 1)))) 27]) hb4) (gW zz27 (Eq.trans rfl (congrArg some hb4)) rfl rfl rfl rfl rfl rfl)
 clear h ac wo; intro ξ ac wo hφ h
 replace h : St w0 81 [(2, (ptr b1 0)), (3, (ptr b2 0)), (4, (ptr b3 0)), (5, (ptr b4 0)), (6, ξ 4)] [.blk b4 (cI (cz x)) 25, .blk b3 (cQ oQ) 27, .blk b2 (cR y) 71, .blk b1 (cR x) 71, .blk (ck (ξ 4)) (cQ (dW (aH (cz x) (aw 1)))) 27] ac wo := (h.pick [0, 1, 2, 3, 4] (by decide)).sub ⟨rfl, rfl, rfl, rfl, rfl, trivial⟩
 revert h
 obtain ⟨b5, hb4⟩ : ∃ b, ξ 4 = ptr b 0 := hφ 4
 rw [hb4]; intro h
 clear hb4
 clear hφ ξ
 refine gz h <| gx hK6 <| gq fun K7 hK7 => gr fun K8 hK8 => g1 2 rfl (ba aa71 zz71 rfl rfl rfl (v := (vR y)) rfl) rfl <| g1 4 rfl (ba aa27 zz27 rfl rfl rfl (v := (vQ (dW (aH (cz x) (aw 1))))) rfl) rfl <| gc (bF Tryz.call268 rfl) (kk (lA y (dW (aH (cz x) (aw 1))) (dg zy (by omega)) (ft s4 (by omega)))) rfl <| g0 (ko rfl rfl) rfl <| gn hK8 ?_; clear h ac wo; intro ac wo h
 refine ue h rfl ?_ hs3
 refine gz h <| gr fun K9 hK9 => g1 4 rfl (ba aa27 zz27 rfl rfl rfl (v := (vQ (dW (aH (cz x) (aw 1))))) rfl) rfl <| gs 1 (cQ (dW (aH (cz x) (aw 1)))) rfl zz27 rfl rfl rfl rfl rfl rfl rfl <| gn hK9 <| gT ?_; clear h ac wo; intro ac wo h
 exact ret h rfl (.cell (v := (vQ (dW (aH (cz x) (aw 1))))) rfl (i := 1) rfl aa27 zz27 rfl rfl rfl .nil) rfl (h.retP (by unfold fh; rfl) (by unfold fh; exact s4))
attribute [irreducible] fh
def cP (x : GR) (y : GR) : GQ × Int :=
 ((fh x y), 0)
theorem ky (x : GR) (y : GR) (ht : Tm x) (hs0 : decide ((aE x y) ≥ 0) = false) (hs1 : decide ((fO x) < 0) = false) (hs2 : decide ((fO y) ≤ 0) = false) (hs3 : decide ((e7 y (dW (aH (cz x) (aw 1)))) > 0) = true) (zx : SzR 36 x) (zy : SzR 36 y) (w0 : World)  : Calls Tryz.prog 123 #[(vR x), (vR y)] w0 (RetP w0 (.tuple #[(vQ ((cP x y).1)), (.int .i64 ((cP x y).2))]) (SzQ 32 ((cP x y).1))) := by
 refine enter (N := 14) (args := [(vR x), (vR y)]) Tryz.func123 rfl rfl ?_; intro ac h
 have p2 := aF ((bQ x y 16 (by omega) zx zy) w0)
 refine ej fun K1 hK1 => ?_
 refine bx h (cR x) rfl rfl rfl fun b1 => gb (cR y) rfl rfl rfl fun b2 => ga (cQ oQ) vv27 rfl rfl fun b3 => g0 (aj rfl) rfl <| gn hK1 <| gq fun K2 hK2 => gr fun K3 hK3 => g1 2 rfl (ba aa71 zz71 rfl rfl rfl (v := (vR x)) rfl) rfl <| g1 1 rfl (ba aa71 zz71 rfl rfl rfl (v := (vR y)) rfl) rfl <| gc (bF cc127 rfl) (kk (bQ x y 16 (by omega) zx zy)) rfl <| g0 (oC rfl rfl) rfl <| gn hK3 ?_; clear h ac; intro ac wo h
 refine nP h rfl ?_ hs0
 have c3 := mt x y (by omega) (by omega) (by omega) (by omega) zx zy
 have s3 := Calls.pr (c3 w0)
 refine gz h <| gS <| gx hK2 <| gr fun K4 hK4 => g1 2 rfl (ba aa71 zz71 rfl rfl rfl (v := (vR x)) rfl) rfl <| g1 1 rfl (ba aa71 zz71 rfl rfl rfl (v := (vR y)) rfl) rfl <| gc (bF Tryz.call209 rfl) (kk c3) rfl <| gs 0 (cQ (fh x y)) rfl zz27 rfl rfl rfl rfl rfl rfl rfl <| g0 (aj rfl) rfl <| gn hK4 <| gT ?_; clear h ac wo; intro ac wo h
 exact ret h rfl (.cell (v := (vQ (fh x y))) rfl (i := 0) rfl aa27 zz27 rfl rfl rfl (.tmp rfl .nil)) rfl (h.retP (by unfold cP; rfl) (by unfold cP; exact s3))
attribute [irreducible] cP
end Go.Sx
namespace Go.Sx
def nxt (x : GR) : GQ := dW (aH (cz x) (aw 1))
def BtP (x y : GR) : Prop := Tm x ∧ decide ((aE x y) ≥ 0) = false ∧ decide ((fO x) < 0) = false ∧ decide ((fO y) ≤ 0) = false ∧ decide ((e7 y (dW (aH (cz x) (aw 1)))) > 0) = true ∧ Tm y
def nxB (x : GR) : Bool := bif decide (10 ≤ tk x ∧ tk x < 435) then !(decide ((fO x) < 0)) && (decide (tk x = 10) || !(decide ((fO x) ≤ 0))) && (allI.any fun y => decide (y = dm (nxt x)) && decide (tk x < tk y ∧ tk y ≤ tk x + 10)) else true
theorem nxB_all : allI.all nxB = true := by decide +kernel
theorem all_tm {x : GR} (h : x ∈ allI) : Tm x := by
 unfold allI at h
 rcases List.mem_append.1 h with h | h
 ·unfold insX at h
  simp only [List.mem_cons, List.not_mem_nil, or_false] at h
  rcases h with h | h | h | h
  ·exact ⟨-1, false, .inl rfl, h⟩
  ·exact ⟨-1, true, .inl rfl, h⟩
  ·exact ⟨1000, false, .inr (.inl rfl), h⟩
  ·exact ⟨1000, true, .inr (.inl rfl), h⟩
 ·unfold pY at h
  obtain ⟨i, hi, h⟩ := List.mem_flatMap.1 h
  have hi := List.mem_range.1 hi
  rw [Nat.zero_add] at h
  rcases List.mem_cons.1 h with h | h
  ·exact ⟨i, false, .inr (.inr (by omega)), h⟩
  ·exact ⟨i, true, .inr (.inr (by omega)), List.mem_singleton.1 h⟩
theorem nx_ok {x : GR} (hx : Tm x) (h1 : 10 ≤ tk x) (h2 : tk x < 435) : decide ((fO x) < 0) = false ∧ (10 < tk x → decide ((fO x) ≤ 0) = false) ∧ Tm (dm (nxt x)) ∧ tk x < tk (dm (nxt x)) ∧ tk (dm (nxt x)) ≤ tk x + 10 := by
 have h := Tm.of_all nxB_all hx
 unfold nxB at h
 rw [decide_eq_true ⟨h1, h2⟩, cond_true, Bool.and_eq_true, Bool.and_eq_true] at h
 obtain ⟨⟨a1, a2⟩, a3⟩ := h
 obtain ⟨y, hy, h⟩ := List.any_eq_true.1 a3
 rw [Bool.and_eq_true, decide_eq_true_eq, decide_eq_true_eq] at h
 obtain ⟨rfl, h3, h4⟩ := h
 refine ⟨by simpa using a1, fun h5 => ?_, all_tm hy, h3, h4⟩
 rw [decide_eq_false (by omega : ¬ tk x = 10), Bool.false_or] at a2
 simpa using a2
theorem bt_of {x y : GR} (hx : Tm x) (hy : Tm y) (h1 : 10 ≤ tk x) (h2 : tk x < 435) (h3 : tk y < 435) (h : tk x + 16 ≤ tk y) : BtP x y := by
 obtain ⟨a1, _, a3, a4, a5⟩ := nx_ok hx h1 h2
 obtain ⟨b1, b2, _⟩ := nx_ok hy (by omega) h3
 refine ⟨hx, ?_, a1, b2 (by omega), ?_, hy⟩
 ·rw [hx.cmp hy, fN (by omega)]; rfl
 ·show decide (e7 y (nxt x) > 0) = true
  unfold e7
  rw [hy.cmp a3, fZ (by omega)]; rfl
end Go.Sx
namespace Go.Sx
open Go Go.RowKit Go.Proofs
set_option maxRecDepth 100000
set_option maxHeartbeats 40000000
attribute [local irreducible] aE bM ap aT aJ dF
theorem pB : SlT Tryz.prog 103 86 20 216 [.bool false, .string ⟨#[]⟩, .bool false, .string ⟨#[]⟩, .bool false, .string ⟨#[]⟩, .bool false, .string ⟨#[]⟩, .bool false, .bool false, .string ⟨#[]⟩, .bool false, .string ⟨#[]⟩, .bool false, .string ⟨#[]⟩, .bool false, .string ⟨#[]⟩, .bool false, .bool false, .bool false] := ⟨Tryz.underlying103, Tryz.t86, _, Tryz.type86, rfl, rfl, rfl, rfl, rfl, by decide, by decide⟩
def fP (l : List (U Qd)) (out : List Iv) (x8 : Nat) : (List Iv) :=
 out
def cB (l : List (U Qd)) (out : List Iv) (x8 : Nat) : Nx ((List Iv) × Nat) (List Iv) :=
 bif (decide (((x8 : Nat) : Int) < ((l.length : Nat) : Int))) then
  .go ((out ++ [(gt l x8).iv]), (x8 + 1))
 else
  .out (out, x8)
def aO (l : List (U Qd)) : (List Iv) :=
 fin (bR (fun s => cB l s.1 s.2) ((l.length - 0) + 1) ([], 0)) (fun s => fP l s.1 s.2) (fun r => r)
theorem fd (l : List (U Qd)) (lv : Value) (hl : l.length ≤ 1000) (zl : All (jI 30) l) (w0 : World) (hlv : View w0 lv l) : Calls Tryz.prog 152 #[lv] w0 (RetR w0 86 (aO l) (All (SzV 30) (aO l) ∧ (aO l).length = l.length)) := by
 refine enter (N := 19) (args := [lv]) Tryz.func152 rfl rfl ?_; intro ac h
 have hlenl := hlv.len
 refine ej fun K1 hK1 => ?_
 refine rd0 h (aj rfl) rfl <| gn hK1 <| gr fun K2 hK2 => g0 (aj rfl) rfl <| gn hK2 <| gq fun K3 hK3 => gr fun K4 hK4 => g0 (ak rfl) rfl <| g0 (et uu50 rfl hlv.sl) rfl <| g0 (ak rfl) rfl <| gn hK4 <| gB ?_; clear h ac; intro ac wo h
 replace h := h.nilRow (α := Iv) 86
 obtain ⟨X1, hX1⟩ : ∃ X, bR (fun s => cB l s.1 s.2) ((l.length - 0) + 1) ([], 0) = X := ⟨_, rfl⟩
 refine wp_loop_ghost (fun n_ a_ w_ => ∃ (out : List Iv) (x8 : Nat) (outv : Value), ((l.length - x8) < n_) ∧ (bR (fun s => cB l s.1 s.2) n_ (out, x8) = X1) ∧ (x8 ≤ l.length) ∧ (All (SzV 30) out) ∧ (out.length = x8) ∧ St w0 19 [(3, outv), (6, lv), (7, (.int .i64 ((l.length : Nat) : Int))), (8, (.int .i64 ((x8 : Nat) : Int)))] [.row (α := Iv) 86 outv out] a_ w_) ((l.length - 0) + 1) ⟨[], 0, (.slice none 0 0), (by omega), hX1, (by first | omega | grind), All.nil, (by first | omega | grind), (h.sub ⟨rfl, rfl, rfl, rfl, trivial⟩)⟩ ?_
 clear h ac wo; rintro n1 ac wo ⟨out, x8, outv, hm1, hL1, hx8, zout, hol, h⟩
 obtain ⟨m1, rfl⟩ : ∃ m, n1 = m + 1 := ⟨n1 - 1, by omega⟩
 refine gz h <| gr fun K5 hK5 => g0 (d5 rfl rfl) rfl <| gn hK5 <| gq fun K6 hK6 => ?_; clear h ac wo; intro ac wo h
 refine dA h rfl (fun hc1 => ?_) (fun hc1 => ?_)
 ·
  have hd1 := of_decide_eq_true hc1
  refine gz h <| gS <| gx hK6 <| gq fun K7 hK7 => gB <| gr fun K8 hK8 => g0 (eC (i := x8) uu50 zz126 rfl rfl (hlv.nn (i := x8) (by omega)) (by omega)) rfl <| g0 (iR (k := 0) aa126 zz126 hlv (cK (by omega)) rfl (Nat.add_zero _) rfl rfl (v := (vUD (gt l x8))) rfl) rfl <| ga (cUD (⟨(⟨(⟨oQ, oQ, false⟩ : GR), (⟨oQ, oQ, false⟩ : GR), false, false⟩ : Iv), oD⟩ : U Qd)) Tryz.zeroValue126 rfl rfl fun b1 => gs 0 (cUD (gt l x8)) rfl zz126 rfl rfl rfl rfl rfl rfl rfl <| gn hK8 <| gR <| g0 (ak rfl) rfl <| g0 (fa uu126 rfl zz86 rfl rfl rfl (k' := 0)) rfl <| g1 0 rfl (ba aa86 zz86 rfl rfl rfl (v := (vV ((gt l x8).iv))) rfl) rfl ?_; clear h ac wo; intro ac wo h
  refine nw h (dq (α := Iv) (xs := [.tmp 14]) (vs := [(vV ((gt l x8).iv))]) [(gt l x8).iv] pB rfl rfl rfl (by decide)) rfl ?_; clear h ac wo; intro sv2 ac wo nnsv2 h
  refine on2 h 2 0 rfl rfl (fl (xs := out) (ys := [(gt l x8).iv]) pB (fun w hs => (row_view hs 0 rfl)) rfl rfl (by first | omega | grind)) rfl ?_; clear h ac wo; intro sv3 ac wo apsv3 h
  refine rd0 h (aj rfl) rfl <| gx (fun _ _ => bV) <| gN <| gx hK7 <| gR <| g0 (ch rfl rfl (r := ((x8 + 1 : Nat) : Int)) (by rw [wI]; omega)) rfl <| g0 (ak rfl) rfl <| gx (fun _ _ => bV) ?_; clear h ac wo; intro ac wo h
  exact aU ⟨m1, (by omega), _, _, _, (by first | omega | grind), co hL1 (show cB l out x8 = .go _ from (cT hc1)), (by first | omega | grind), (All.app zout (All.cons (All.gt zl (cG _)).1 All.nil)), (by first | omega | grind), (h.pick [0] (by decide)).sub ⟨rfl, rfl, rfl, rfl, trivial⟩⟩
 ·
  have hd1 := of_decide_eq_false hc1
  refine ep ?_
  have hx1 := dU hL1 (show cB l out x8 = .out (out, x8) from (cF hc1))
  refine gz h <| gx hK3 <| gr fun K9 hK9 => g0 (ak rfl) rfl <| g0 (aj rfl) rfl <| gn hK9 <| gT ?_; clear h ac wo; intro ac wo h
  have hd : aO l = out := (eV (hX1.trans hx1))
  exact ret h rfl (.tmp rfl .nil) rfl (by rw [hd]; exact h.retR 0 rfl ⟨zout, (by omega)⟩)
attribute [irreducible] aO
def jy (l : List (U Qd)) (t : GR) (i : Nat) (f : Qd) : Qd × Bool :=
 (f, false)
def cb (l : List (U Qd)) (t : GR) (i : Nat) (f : Qd) : Nx (Nat × Qd) (Qd × Bool) :=
 bif (decide (((i : Nat) : Int) < ((l.length : Nat) : Int))) then
  bif (aW ((gt l i).iv) t t false) then
   .ret ((gt l i).f, true)
  else
   .go ((i + 1), f)
 else
  .out (i, f)
def bg (l : List (U Qd)) (t : GR) : Qd × Bool :=
 fin (bR (fun s => cb l t s.1 s.2) ((l.length - 0) + 1) (0, (⟨(⟨(⟨false, 0⟩ : GI), (⟨false, 0⟩ : GI)⟩ : GQ), (⟨(⟨false, 0⟩ : GI), (⟨false, 0⟩ : GI)⟩ : GQ), (⟨(⟨false, 0⟩ : GI), (⟨false, 0⟩ : GI)⟩ : GQ)⟩ : Qd))) (fun s => jy l t s.1 s.2) (fun r => r)
theorem eP (l : List (U Qd)) (lv : Value) (t : GR) (zl : All (jI 30) l) (zt : SzR 30 t) (w0 : World) (hlv : View w0 lv l) : Calls Tryz.prog 36 #[lv, (vR t)] w0 (RetP w0 (.tuple #[(vD ((bg l t).1)), (.bool ((bg l t).2))]) (SzD 30 ((bg l t).1))) := by
 refine enter (N := 27) (args := [lv, (vR t)]) Tryz.func36 rfl rfl ?_; intro ac h
 have hlenl := hlv.len
 refine ej fun K1 hK1 => ?_
 refine bx h (cR t) rfl rfl rfl fun b1 => ga (cD oD) vv53 rfl rfl fun b2 => g0 (aj rfl) rfl <| gn hK1 <| gq fun K2 hK2 => gr fun K3 hK3 => g0 (aj rfl) rfl <| gn hK3 <| gB ?_; clear h ac; intro ac wo h
 obtain ⟨X1, hX1⟩ : ∃ X, bR (fun s => cb l t s.1 s.2) ((l.length - 0) + 1) (0, oD) = X := ⟨_, rfl⟩
 refine wp_loop_ghost (fun n_ a_ w_ => ∃ (i : Nat) (f : Qd), ((l.length - i) < n_) ∧ (bR (fun s => cb l t s.1 s.2) n_ (i, f) = X1) ∧ (i ≤ l.length) ∧ (SzD 30 f) ∧ St w0 27 [(0, lv), (3, (ptr b1 0)), (4, (ptr b2 0)), (6, (.int .i64 ((i : Nat) : Int)))] [.blk b2 (cD f) 53, .blk b1 (cR t) 71] a_ w_) ((l.length - 0) + 1) ⟨0, oD, (by omega), hX1, (by omega), ⟨⟨(bY 0 (by decide) (by omega)), (bY 0 (by decide) (by omega))⟩, ⟨(bY 0 (by decide) (by omega)), (bY 0 (by decide) (by omega))⟩, ⟨(bY 0 (by decide) (by omega)), (bY 0 (by decide) (by omega))⟩⟩, (h.sub ⟨rfl, rfl, rfl, rfl, trivial⟩)⟩ ?_
 clear h ac wo; rintro n1 ac wo ⟨i, f, hm1, hL1, hi, zf, h⟩
 obtain ⟨m1, rfl⟩ : ∃ m, n1 = m + 1 := ⟨n1 - 1, by omega⟩
 refine gz h <| gq fun K4 hK4 => gr fun K5 hK5 => g0 (ak rfl) rfl <| g0 (ak rfl) rfl <| g0 (et uu50 rfl hlv.sl) rfl <| g0 (d5 rfl rfl) rfl <| gn hK5 ?_; clear h ac wo; intro ac wo h
 refine dA h rfl (fun hc1 => ?_) (fun hc1 => ?_)
 ·
  have hd1 := of_decide_eq_true hc1
  refine eL ?_
  refine hK4 _ _ ?_
  refine dV fun K6 hK6 => ?_
  refine gg ?_
  refine dV fun K7 hK7 => ?_
  refine cZ mixed [dv _, dv _, dv _, dv _, dv _, dw _ [1], dw _ [1], dv _] [⟨_, []⟩, ⟨_, []⟩] h rfl (by kernel_rfl) ⟨fun _ _ => om rfl, fun _ _ => om rfl, fun _ _ => aL (eC (i := i) uu50 zz126 rfl rfl (hlv.nn (i := i) (by omega)) (by omega)), fun _ _ => aL (fs uu126 rfl zz86 rfl (hlv.nn (i := 0) (by omega)) rfl rfl (k' := i * 32 + 0)), fun _ _ => aL (iR (k := 0) aa86 zz86 hlv (cK (by omega)) rfl rfl rfl rfl (v := (vV ((gt l i).iv))) rfl), fun _ _ => cY _ rfl rfl (ba aa71 zz71 rfl rfl rfl (v := (vR t)) rfl), fun _ _ => cY _ rfl rfl (ba aa71 zz71 rfl rfl rfl (v := (vR t)) rfl), fun _ _ => d7 (dy (bF Tryz.call124 rfl) (kk (kt ((gt l i).iv) t t false (All.gt zl (cG _)).1 zt zt))), trivial⟩ ?_
  clear h ac wo; intro ξ ac wo hφ h
  replace h : St w0 27 [(0, lv), (3, (ptr b1 0)), (4, (ptr b2 0)), (6, (.int .i64 ((i : Nat) : Int))), (20, (.bool (aW ((gt l i).iv) t t false)))] [.blk b2 (cD f) 53, .blk b1 (cR t) 71] ac wo := (h.pick [0, 1] (by decide)).sub ⟨rfl, rfl, rfl, rfl, rfl, trivial⟩
  clear hφ ξ
  refine hK7 _ _ ?_
  refine dA h rfl (fun hc2 => ?_) (fun hc2 => ?_)
  ·
   have hq2 := hc2; try simp at hq2
   refine gz h <| gr fun K8 hK8 => g0 (ak rfl) rfl <| g0 (ak rfl) rfl <| g0 (eC (i := i) uu50 zz126 rfl rfl (hlv.nn (i := i) (by omega)) (by omega)) rfl <| g0 (fs uu126 rfl zz53 rfl (hlv.nn (i := 0) (by omega)) rfl rfl (k' := i * 32 + 20)) rfl <| g0 (iR (k := 20) aa53 zz53 hlv (cK (by omega)) rfl rfl rfl rfl (v := (vD ((gt l i).f))) rfl) rfl <| gs 0 (cD ((gt l i).f)) rfl zz53 rfl rfl rfl rfl rfl rfl rfl <| g0 (aj rfl) rfl <| gn hK8 <| gT ?_; clear h ac wo; intro ac wo h
   have hr1 := gj hL1 (show cb l t i f = .ret ((gt l i).f, true) from (Eq.trans (cT hc1) (cT hc2)))
   have hd : bg l t = ((gt l i).f, true) := (kq (hX1.trans hr1))
   exact ret h rfl (.cell (v := (vD ((gt l i).f))) rfl (i := 0) rfl aa53 zz53 rfl rfl rfl (.tmp rfl .nil)) rfl (h.retP (by rw [hd] <;> rfl) (by rw [hd]; exact (All.gt zl (cG _)).2))
  ·
   have hq2 := hc2; try simp at hq2
   refine gz h <| gS <| gN <| gx hK6 <| gR <| g0 (ak rfl) rfl <| g0 (ch rfl rfl (r := ((i + 1 : Nat) : Int)) (by rw [wI]; omega)) rfl <| g0 (aj rfl) rfl <| gx (fun _ _ => bV) ?_; clear h ac wo; intro ac wo h
   exact aU ⟨m1, (by omega), _, _, (by omega), co hL1 (show cb l t i f = .go _ from (Eq.trans (cT hc1) (cF hc2))), (by omega), zf, (h.pick [0, 1] (by decide)).sub ⟨rfl, rfl, rfl, rfl, trivial⟩⟩
 ·
  have hd1 := of_decide_eq_false hc1
  refine ep ?_
  have hx1 := dU hL1 (show cb l t i f = .out (i, f) from (cF hc1))
  refine gz h <| gx hK2 <| gr fun K9 hK9 => g1 0 rfl (ba aa53 zz53 rfl rfl rfl (v := (vD f)) rfl) rfl <| gs 0 (cD f) rfl zz53 rfl rfl rfl rfl rfl rfl rfl <| g0 (aj rfl) rfl <| gn hK9 <| gT ?_; clear h ac wo; intro ac wo h
  have hd : bg l t = (f, false) := (eV (hX1.trans hx1))
  exact ret h rfl (.cell (v := (vD f)) rfl (i := 0) rfl aa53 zz53 rfl rfl rfl (.tmp rfl .nil)) rfl (h.retP (by rw [hd] <;> rfl) (by rw [hd]; exact zf))
attribute [irreducible] bg
def d4 (u : U Qd) (t : GR) : Int :=
 (aE u.iv.hi t)
theorem jj (u : U Qd) (t : GR) (zu : jI 30 u) (zt : SzR 30 t) (w0 : World)  : Calls Tryz.prog 129 #[(vUD u), (vR t)] w0 (RetP w0 (.int .i64 (d4 u t)) (True)) := by
 refine enter (N := 10) (args := [(vUD u), (vR t)]) Tryz.func129 rfl rfl ?_; intro ac h
 have p2 := aF ((bQ u.iv.hi t 10 (by omega) zu.1.2 zt) w0)
 refine ej fun K1 hK1 => ?_
 refine bx h (cUD u) rfl rfl rfl fun b1 => gb (cR t) rfl rfl rfl fun b2 => g0 (aj rfl) rfl <| gn hK1 <| gr fun K2 hK2 => g0 (fa uu126 rfl zz86 rfl rfl rfl (k' := 0)) rfl <| g0 (fa uu86 rfl zz71 rfl rfl rfl (k' := 9)) rfl <| g1 1 rfl (ba aa71 zz71 rfl rfl rfl (v := (vR u.iv.hi)) rfl) rfl <| g1 0 rfl (ba aa71 zz71 rfl rfl rfl (v := (vR t)) rfl) rfl <| gc (bF cc127 rfl) (kk (bQ u.iv.hi t 10 (by omega) zu.1.2 zt)) rfl <| g0 (aj rfl) rfl <| gn hK2 <| gT ?_; clear h ac; intro ac wo h
 exact ret h rfl (.tmp rfl .nil) rfl (h.retP (by unfold d4; rfl) trivial)
attribute [irreducible] d4
def eY (x : List (U Qd)) (target : GR) (i : Nat) (j : Nat) : Int × Bool :=
 (((i : Nat) : Int), ((decide (((i : Nat) : Int) < ((x.length : Nat) : Int))) && ((d4 (gt x i) target) == 0)))
def aG (x : List (U Qd)) (target : GR) (i : Nat) (j : Nat) : Nx (Nat × Nat) (Int × Bool) :=
 bif (decide (((i : Nat) : Int) < ((j : Nat) : Int))) then
  bif (decide ((d4 (gt x ((i + j) / 2)) target) < 0)) then
   .go ((((i + j) / 2) + 1), j)
  else
   .go (i, ((i + j) / 2))
 else
  .out (i, j)
def aK (x : List (U Qd)) (target : GR) : Int × Bool :=
 fin (bR (fun s => aG x target s.1 s.2) (x.length - 0 + 1) (0, x.length)) (fun s => eY x target s.1 s.2) (fun r => r)
theorem dG (x : List (U Qd)) (xv : Value) (target : GR) (hl : x.length ≤ 1000) (zx : All (jI 30) x) (ztarget : SzR 30 target) (w0 : World) (hxv : View w0 xv x) : Calls Tryz.prog 128 #[xv, (vR target), (.func (.func 129) #[] #[])] w0 (RetP w0 (.tuple #[(.int .i64 ((aK x target).1)), (.bool ((aK x target).2))]) ((0 ≤ (aK x target).1 ∧ (aK x target).1 ≤ (x.length : Int)))) := by
 refine enter (N := 49) (args := [xv, (vR target), (.func (.func 129) #[] #[])]) Tryz.func128 rfl rfl ?_; intro ac h
 have hlenx := hxv.len
 refine ej fun K1 hK1 => ?_
 refine bx h (cR target) rfl rfl rfl fun b1 => g0 (aj rfl) rfl <| g0 (aj rfl) rfl <| gn hK1 <| gr fun K2 hK2 => g0 (ak rfl) rfl <| g0 (et uu50 rfl hxv.sl) rfl <| g0 (aj rfl) rfl <| gn hK2 <| gr fun K3 hK3 => g0 (ak rfl) rfl <| g0 (aj rfl) rfl <| g0 (aj rfl) rfl <| gn hK3 <| gq fun K4 hK4 => gB ?_; clear h ac; intro ac wo h
 obtain ⟨X1, hX1⟩ : ∃ X, bR (fun s => aG x target s.1 s.2) (x.length - 0 + 1) (0, x.length) = X := ⟨_, rfl⟩
 refine wp_loop_ghost (fun n_ a_ w_ => ∃ (i : Nat) (j : Nat), (j - i < n_) ∧ (bR (fun s => aG x target s.1 s.2) n_ (i, j) = X1) ∧ (i ≤ j) ∧ (j ≤ x.length) ∧ St w0 49 [(0, xv), (2, (.func (.func 129) #[] #[])), (4, (ptr b1 0)), (8, (.int .i64 ((x.length : Nat) : Int))), (9, (.int .i64 ((i : Nat) : Int))), (10, (.int .i64 ((j : Nat) : Int)))] [.blk b1 (cR target) 71] a_ w_) (x.length - 0 + 1) ⟨0, x.length, (by omega), hX1, (by omega), (by omega), (h.sub ⟨rfl, rfl, rfl, rfl, rfl, rfl, trivial⟩)⟩ ?_
 clear h ac wo; rintro n1 ac wo ⟨i, j, hm1, hL1, hij, hjn, h⟩
 obtain ⟨m1, rfl⟩ : ∃ m, n1 = m + 1 := ⟨n1 - 1, by omega⟩
 refine gz h <| gq fun K5 hK5 => gr fun K6 hK6 => g0 (ak rfl) rfl <| g0 (ak rfl) rfl <| g0 (d5 rfl rfl) rfl <| gn hK6 ?_; clear h ac wo; intro ac wo h
 refine dA h rfl (fun hc1 => ?_) (fun hc1 => ?_)
 ·
  have hd1 := of_decide_eq_true hc1
  refine gz h <| gS <| gx hK5 <| gB <| gr fun K7 hK7 => g0 (ak rfl) rfl <| g0 (ak rfl) rfl <| g0 (ch rfl rfl (r := ((i + j : Nat) : Int)) (by rw [wI]; omega)) rfl <| g0 (bt uu3 uu276 rfl (r := ((i + j : Nat) : Int)) (by rw [IntKind.wrap_u64]; omega)) rfl <| g0 (nJ rfl rfl (r := ((((i + j) / 2 : Nat)) : Int)) (by omega) (by first | decide | (simp [IntKind.bits] <;> omega)) (by rw [show ((1 : Int).toNat) = 1 from rfl]; omega)) rfl <| g0 (bt uu276 uu3 rfl (r := ((((i + j) / 2 : Nat)) : Int)) (by rw [wI]; omega)) rfl <| g0 (aj rfl) rfl <| gn hK7 <| gq fun K8 hK8 => ?_; clear h ac wo; intro ac wo h
  refine cZ mixed [dv _, dv _, dv _, dv _, dv _, dw _ [0], dv _, dv _] [⟨_, []⟩] h rfl (by kernel_rfl) ⟨fun _ _ => om rfl, fun _ _ => om rfl, fun _ _ => om rfl, fun _ _ => aL (eC (i := ((i + j) / 2)) uu50 zz126 rfl rfl (hxv.nn (i := ((i + j) / 2)) (by omega)) (by omega)), fun _ _ => aL (iR (k := 0) aa126 zz126 hxv (cK (by omega)) rfl (Nat.add_zero _) rfl rfl (v := (vUD (gt x ((i + j) / 2)))) rfl), fun _ _ => cY _ rfl rfl (ba aa71 zz71 rfl rfl rfl (v := (vR target)) rfl), fun _ _ => d7 (dy (nl (cap := []) Tryz.call129 rfl rfl) (kk (jj (gt x ((i + j) / 2)) target (All.gt zx (cG _)) ztarget))), fun _ _ => aL (d5 rfl rfl), trivial⟩ ?_
  clear h ac wo; intro ξ ac wo hφ h
  replace h : St w0 49 [(0, xv), (2, (.func (.func 129) #[] #[])), (4, (ptr b1 0)), (8, (.int .i64 ((x.length : Nat) : Int))), (9, (.int .i64 ((i : Nat) : Int))), (10, (.int .i64 ((j : Nat) : Int))), (11, (.int .i64 ((((i + j) / 2 : Nat)) : Int))), (31, (.bool (decide ((d4 (gt x ((i + j) / 2)) target) < 0))))] [.blk b1 (cR target) 71] ac wo := (h.pick [0] (by decide)).sub ⟨rfl, rfl, rfl, rfl, rfl, rfl, rfl, rfl, trivial⟩
  clear hφ ξ
  refine hK8 _ _ ?_
  refine dA h rfl (fun hc2 => ?_) (fun hc2 => ?_)
  ·
   have hd2 := of_decide_eq_true hc2
   refine gz h <| gR <| g0 (ak rfl) rfl <| g0 (ch rfl rfl (r := ((((i + j) / 2) + 1 : Nat) : Int)) (by rw [wI]; omega)) rfl <| g0 (aj rfl) rfl <| gx (fun _ _ => bV) <| gN ?_; clear h ac wo; intro ac wo h
   exact aU ⟨m1, (by omega), _, _, (by omega), co hL1 (show aG x target i j = .go _ from (Eq.trans (cT hc1) (cT hc2))), (by omega), (by omega), (h.pick [0] (by decide)).sub ⟨rfl, rfl, rfl, rfl, rfl, rfl, trivial⟩⟩
  ·
   have hd2 := of_decide_eq_false hc2
   refine gz h <| gR <| g0 (ak rfl) rfl <| g0 (aj rfl) rfl <| gx (fun _ _ => bV) <| gN ?_; clear h ac wo; intro ac wo h
   exact aU ⟨m1, (by omega), _, _, (by omega), co hL1 (show aG x target i j = .go _ from (Eq.trans (cT hc1) (cF hc2))), (by omega), (by omega), (h.pick [0] (by decide)).sub ⟨rfl, rfl, rfl, rfl, rfl, rfl, trivial⟩⟩
 ·
  have hd1 := of_decide_eq_false hc1
  refine ep ?_
  have hx1 := dU hL1 (show aG x target i j = .out (i, j) from (cF hc1))
  refine hK4 _ _ ?_
  refine dV fun K9 hK9 => ?_
  refine cZ mixed [dv _, dv _, dv _, dv _, dv _, dv _, dv _, dv _, dv _, dv _, dw _ [0], dv _, dv _, dv _, dv _, dv _] [⟨_, []⟩] h rfl (by kernel_rfl) ⟨fun _ _ => om rfl, fun _ _ => om rfl, fun _ _ => om rfl, fun _ _ => aL (d5 rfl rfl), fun _ _ => om rfl, fun _ _ => oh rfl rfl rfl rfl (fun hg => ak rfl), fun _ _ => oh rfl rfl rfl rfl (fun hg => ak rfl), fun _ _ => oh rfl rfl rfl rfl (fun hg => ak rfl), fun _ _ => oh rfl rfl rfl rfl (fun hg => eC (i := i) uu50 zz126 (aN rfl hg) (aN rfl hg) (hxv.nn (i := i) (by first | omega | (simp at hg; omega) | grind)) (by first | omega | (simp at hg; omega) | grind)), fun _ _ => oh rfl rfl rfl rfl (fun hg => iR (k := 0) aa126 zz126 hxv (cK (by first | omega | (simp at hg; omega) | grind)) (aN rfl hg) (Nat.add_zero _) rfl rfl (v := (vUD (gt x i))) rfl), fun _ _ => oh rfl rfl rfl rfl (fun hg => ba aa71 zz71 rfl rfl rfl (v := (vR target)) rfl), fun _ _ => og1 rfl rfl rfl rfl (fun hg => dy (nl (cap := []) Tryz.call129 (aN rfl hg) (cH (aN rfl hg) (cH (aN rfl hg) rfl))) (kk (jj (gt x i) target (All.gt zx (cG _)) ztarget))), fun _ _ => oh rfl rfl rfl rfl (fun hg => fV (aN rfl hg) rfl), fun _ _ => aL (fw rfl (fun e => (aN rfl e))), fun _ _ => aL (aj rfl), fun _ _ => aL (aj rfl), trivial⟩ ?_
  clear h ac wo; intro ξ ac wo hφ h
  replace h : St w0 49 [(6, (.int .i64 ((i : Nat) : Int))), (7, (.bool ((decide (((i : Nat) : Int) < ((x.length : Nat) : Int))) && ((d4 (gt x i) target) == 0))))] [.blk b1 (cR target) 71] ac wo := (h.pick [0] (by decide)).sub ⟨rfl, rfl, trivial⟩
  clear hφ ξ
  refine hK9 _ _ ?_
  refine gu ?_
  have hd : aK x target = (((i : Nat) : Int), ((decide (((i : Nat) : Int) < ((x.length : Nat) : Int))) && ((d4 (gt x i) target) == 0))) := (eV (hX1.trans hx1))
  exact ret h rfl (.tmp rfl (.tmp rfl .nil)) rfl (h.retP (by rw [hd] <;> rfl) (by rw [hd]; exact (by omega)))
attribute [irreducible] aK
def lY (l : List (U Qd)) (t : GR) (i : Nat) (mb2 : Qd) : Qd × Bool :=
 ((⟨(⟨(⟨false, 0⟩ : GI), (⟨false, 0⟩ : GI)⟩ : GQ), (⟨(⟨false, 0⟩ : GI), (⟨false, 0⟩ : GI)⟩ : GQ), (⟨(⟨false, 0⟩ : GI), (⟨false, 0⟩ : GI)⟩ : GQ)⟩ : Qd), false)
def dp (l : List (U Qd)) (t : GR) (i : Nat) (mb2 : Qd) : Nx (Nat × Qd) (Qd × Bool) :=
 bif (decide (((i : Nat) : Int) < ((l.length : Nat) : Int))) then
  bif (decide ((aE (((gt l i).iv).lo) t) > 0)) then
   .out (i, mb2)
  else
   bif (((decide ((aE (((gt l i).iv).lo) t) < 0)) || (!((gt l i).iv).openLo)) && ((!(decide (((gt l i).iv).hi = t))) || (!((gt l i).iv).openHi))) then
    .ret ((gt l i).f, true)
   else
    .go ((i + 1), mb2)
 else
  .out (i, mb2)
def cC (l : List (U Qd)) (t : GR) : Qd × Bool :=
 fin (bR (fun s => dp l t s.1 s.2) ((l.length - (((aK l t).1).toNat)) + 1) (((aK l t).1).toNat, (⟨(⟨(⟨false, 0⟩ : GI), (⟨false, 0⟩ : GI)⟩ : GQ), (⟨(⟨false, 0⟩ : GI), (⟨false, 0⟩ : GI)⟩ : GQ), (⟨(⟨false, 0⟩ : GI), (⟨false, 0⟩ : GI)⟩ : GQ)⟩ : Qd))) (fun s => lY l t s.1 s.2) (fun r => r)
theorem jO (l : List (U Qd)) (lv : Value) (t : GR) (hl : l.length ≤ 1000) (zl : All (jI 30) l) (zt : SzR 30 t) (w0 : World) (hlv : View w0 lv l) : Calls Tryz.prog 38 #[lv, (vR t)] w0 (RetP w0 (.tuple #[(vD ((cC l t).1)), (.bool ((cC l t).2))]) (SzD 30 ((cC l t).1))) := by
 refine enter (N := 68) (args := [lv, (vR t)]) Tryz.func38 rfl rfl ?_; intro ac h
 have hlenl := hlv.len
 refine ej fun K1 hK1 => ?_
 refine bx h (cR t) rfl rfl rfl fun b1 => ga (cD oD) vv53 rfl rfl fun b2 => g0 (aj rfl) rfl <| gn hK1 <| gr fun K2 hK2 => g0 (ak rfl) rfl <| g1 1 rfl (ba aa71 zz71 rfl rfl rfl (v := (vR t)) rfl) rfl ?_; clear h ac; intro ac wo h
 have s1 := Calls.pr ((fun w_ hB_ hS_ => dG l lv t (by omega) zl zt w_ (hlv.below hB_)) _ h.bel h.sep)
 have p2 := s1
 refine qn h (bF Tryz.call128 rfl) (fun w_ hB_ hS_ => dG l lv t (by omega) zl zt w_ (hlv.below hB_)) rfl <| g0 (ak rfl) rfl <| g0 (Rd.cast (bf rfl rfl) (v := .int .i64 ((((aK l t).1).toNat : Nat) : Int)) (congrArg (Value.int .i64) (by omega))) rfl <| g0 (bf rfl rfl) rfl <| g0 (aj rfl) rfl <| g0 (aj rfl) rfl <| gn hK2 <| gq fun K3 hK3 => gB ?_; clear h ac wo; intro ac wo h
 obtain ⟨X1, hX1⟩ : ∃ X, bR (fun s => dp l t s.1 s.2) ((l.length - (((aK l t).1).toNat)) + 1) (((aK l t).1).toNat, oD) = X := ⟨_, rfl⟩
 refine wp_loop_ghost (fun n_ a_ w_ => ∃ (i : Nat) (mb2 : Qd), ((l.length - i) < n_) ∧ (bR (fun s => dp l t s.1 s.2) n_ (i, mb2) = X1) ∧ (i ≤ l.length) ∧ (SzD 30 mb2) ∧ St w0 68 [(0, lv), (3, (ptr b1 0)), (4, (ptr b2 0)), (6, (.int .i64 ((i : Nat) : Int)))] [.blk b2 (cD mb2) 53, .blk b1 (cR t) 71] a_ w_) ((l.length - (((aK l t).1).toNat)) + 1) ⟨((aK l t).1).toNat, oD, (by omega), hX1, (by omega), ⟨⟨(bY 0 (by decide) (by omega)), (bY 0 (by decide) (by omega))⟩, ⟨(bY 0 (by decide) (by omega)), (bY 0 (by decide) (by omega))⟩, ⟨(bY 0 (by decide) (by omega)), (bY 0 (by decide) (by omega))⟩⟩, (h.sub ⟨rfl, rfl, rfl, rfl, trivial⟩)⟩ ?_
 clear h ac wo; rintro n1 ac wo ⟨i, mb2, hm1, hL1, hi, zmb2, h⟩
 obtain ⟨m1, rfl⟩ : ∃ m, n1 = m + 1 := ⟨n1 - 1, by omega⟩
 refine gz h <| gq fun K4 hK4 => gr fun K5 hK5 => g0 (ak rfl) rfl <| g0 (ak rfl) rfl <| g0 (et uu50 rfl hlv.sl) rfl <| g0 (d5 rfl rfl) rfl <| gn hK5 ?_; clear h ac wo; intro ac wo h
 refine dA h rfl (fun hc1 => ?_) (fun hc1 => ?_)
 ·
  have hd1 := of_decide_eq_true hc1
  refine eL ?_
  refine hK4 _ _ ?_
  refine dV fun K6 hK6 => ?_
  refine gg ?_
  refine dV fun K7 hK7 => ?_
  have p4 := aF ((bQ (((gt l i).iv).lo) t 10 (by omega) ((All.gt zl (cG _)).1).1 zt) w0)
  refine cZ mixed [dv _, dv _, dv _, dv _, dv _, dv _, dw _ [1], dv _, dv _] [⟨_, []⟩, ⟨_, []⟩] h rfl (by kernel_rfl) ⟨fun _ _ => om rfl, fun _ _ => om rfl, fun _ _ => aL (eC (i := i) uu50 zz126 rfl rfl (hlv.nn (i := i) (by omega)) (by omega)), fun _ _ => aL (fs uu126 rfl zz86 rfl (hlv.nn (i := 0) (by omega)) rfl rfl (k' := i * 32 + 0)), fun _ _ => aL (fs uu86 rfl zz71 rfl (hlv.nn (i := 0) (by omega)) rfl (by first | rfl | (simp only [Nat.add_assoc] <;> rfl)) (k' := i * 32 + 0)), fun _ _ => aL (iR (k := 0) aa71 zz71 hlv (cK (by omega)) rfl rfl rfl rfl (v := (vR (((gt l i).iv).lo))) rfl), fun _ _ => cY _ rfl rfl (ba aa71 zz71 rfl rfl rfl (v := (vR t)) rfl), fun _ _ => d7 (dy (bF cc127 rfl) (kk (bQ (((gt l i).iv).lo) t 10 (by omega) ((All.gt zl (cG _)).1).1 zt))), fun _ _ => aL (aj rfl), trivial⟩ ?_
  clear h ac wo; intro ξ ac wo hφ h
  replace h : St w0 68 [(0, lv), (3, (ptr b1 0)), (4, (ptr b2 0)), (6, (.int .i64 ((i : Nat) : Int))), (8, (.int .i64 (aE (((gt l i).iv).lo) t)))] [.blk b2 (cD mb2) 53, .blk b1 (cR t) 71] ac wo := (h.pick [0, 1] (by decide)).sub ⟨rfl, rfl, rfl, rfl, rfl, trivial⟩
  clear hφ ξ
  refine gz h <| gx hK7 <| gq fun K8 hK8 => gr fun K9 hK9 => g0 (ak rfl) rfl <| g0 (ko rfl rfl) rfl <| gn hK9 ?_; clear h ac wo; intro ac wo h
  refine dA h rfl (fun hc2 => ?_) (fun hc2 => ?_)
  ·
   have hd2 := of_decide_eq_true hc2
   refine ep ?_
   have hx1 := dU hL1 (show dp l t i mb2 = .out (i, mb2) from (Eq.trans (cT hc1) (cT hc2)))
   refine gz h <| gx hK3 <| gr fun K10 hK10 => ga (cD oD) vv53 rfl rfl fun b3 => gn hK10 <| gr fun K11 hK11 => g1 0 rfl (ba aa53 zz53 rfl rfl rfl (v := (vD oD)) rfl) rfl <| gs 1 (cD oD) rfl zz53 rfl rfl rfl rfl rfl rfl rfl <| g0 (aj rfl) rfl <| gn hK11 <| gT ?_; clear h ac wo; intro ac wo h
   have hd : cC l t = (oD, false) := (eV (hX1.trans hx1))
   exact ret h rfl (.cell (v := (vD oD)) rfl (i := 1) rfl aa53 zz53 rfl rfl rfl (.tmp rfl .nil)) rfl (h.retP (by rw [hd] <;> rfl) (by rw [hd]; exact ⟨⟨(bY 0 (by decide) (by omega)), (bY 0 (by decide) (by omega))⟩, ⟨(bY 0 (by decide) (by omega)), (bY 0 (by decide) (by omega))⟩, ⟨(bY 0 (by decide) (by omega)), (bY 0 (by decide) (by omega))⟩⟩))
  ·
   have hd2 := of_decide_eq_false hc2
   refine eL ?_
   refine hK8 _ _ ?_
   refine dV fun K12 hK12 => ?_
   refine cZ mixed [dv _, dv _, dv _, dv _, dv _, dv _, dv _, dv _, dv _, dv _, dv _, dv _, dv _, dv _, dv _, dv _, dv _, dv _, dw _ [1], dv _, dv _, dv _, dv _, dv _, dv _, dv _, dv _, dv _, dv _, dv _] [⟨_, []⟩, ⟨_, []⟩] h rfl (by kernel_rfl) ⟨fun _ _ => om rfl, fun _ _ => aL (d5 rfl rfl), fun _ _ => om rfl, fun _ _ => og2 rfl rfl rfl rfl (fun hg => Rd.step (ak rfl)), fun _ _ => og2 rfl rfl rfl rfl (fun hg => Rd.step (ak rfl)), fun _ _ => og2 rfl rfl rfl rfl (fun hg => Rd.step (eC (i := i) uu50 zz126 (aN rfl hg) (aN rfl hg) (hlv.nn (i := i) (by omega)) (by omega))), fun _ _ => og2 rfl rfl rfl rfl (fun hg => Rd.step (fs uu126 rfl zz86 rfl (hlv.nn (i := 0) (by omega)) (aN rfl hg) rfl (k' := i * 32 + 0))), fun _ _ => og2 rfl rfl rfl rfl (fun hg => Rd.step (fs uu86 rfl zz4 rfl (hlv.nn (i := 0) (by omega)) (aN rfl hg) (by first | rfl | (simp only [Nat.add_assoc] <;> rfl)) (k' := i * 32 + 18))), fun _ _ => og2 rfl rfl rfl rfl (fun hg => Rd.step (iR (k := 18) aa4 zz4 hlv (cK (by omega)) (aN rfl hg) rfl rfl rfl (v := (.bool (((gt l i).iv).openLo))) rfl)), fun _ _ => og2 rfl rfl rfl rfl (fun hg => Rd.step (gG (aN rfl hg))), fun _ _ => aL (nU rfl (fun e => (aN rfl (n7 e)))), fun _ _ => om rfl, fun _ _ => oh rfl rfl rfl rfl (fun hg => ak rfl), fun _ _ => oh rfl rfl rfl rfl (fun hg => ak rfl), fun _ _ => oh rfl rfl rfl rfl (fun hg => eC (i := i) uu50 zz126 (aN rfl hg) (aN rfl hg) (hlv.nn (i := i) (by omega)) (by omega)), fun _ _ => oh rfl rfl rfl rfl (fun hg => fs uu126 rfl zz86 rfl (hlv.nn (i := 0) (by omega)) (aN rfl hg) rfl (k' := i * 32 + 0)), fun _ _ => oh rfl rfl rfl rfl (fun hg => fs uu86 rfl zz71 rfl (hlv.nn (i := 0) (by omega)) (aN rfl hg) (by first | rfl | (simp only [Nat.add_assoc] <;> rfl)) (k' := i * 32 + 9)), fun _ _ => oh rfl rfl rfl rfl (fun hg => iR (k := 9) aa71 zz71 hlv (cK (by omega)) (aN rfl hg) rfl rfl rfl (v := (vR (((gt l i).iv).hi))) rfl), fun _ _ => oh rfl rfl rfl rfl (fun hg => ba aa71 zz71 rfl rfl rfl (v := (vR t)) rfl), fun _ _ => oh rfl rfl rfl rfl (fun hg => nW nk (aN rfl hg) (aN rfl hg)), fun _ _ => oh rfl rfl rfl rfl (fun hg => ak (aN rfl hg)), fun _ _ => og4 rfl rfl rfl rfl (fun hg => Rd.step (ak rfl)), fun _ _ => og4 rfl rfl rfl rfl (fun hg => Rd.step (ak rfl)), fun _ _ => og4 rfl rfl rfl rfl (fun hg => Rd.step (eC (i := i) uu50 zz126 (aN rfl hg) (aN rfl hg) (hlv.nn (i := i) (by omega)) (by omega))), fun _ _ => og4 rfl rfl rfl rfl (fun hg => Rd.step (fs uu126 rfl zz86 rfl (hlv.nn (i := 0) (by omega)) (aN rfl hg) rfl (k' := i * 32 + 0))), fun _ _ => og4 rfl rfl rfl rfl (fun hg => Rd.step (fs uu86 rfl zz4 rfl (hlv.nn (i := 0) (by omega)) (aN rfl hg) (by first | rfl | (simp only [Nat.add_assoc] <;> rfl)) (k' := i * 32 + 19))), fun _ _ => og4 rfl rfl rfl rfl (fun hg => Rd.step (iR (k := 19) aa4 zz4 hlv (cK (by omega)) (aN rfl hg) rfl rfl rfl (v := (.bool (((gt l i).iv).openHi))) rfl)), fun _ _ => og4 rfl rfl rfl rfl (fun hg => Rd.step (gG (aN rfl hg))), fun _ _ => oh rfl rfl rfl rfl (fun hg => nU (aN rfl hg) (fun e => (aN rfl (andI hg (n7 e))))), fun _ _ => aL (fw rfl (fun e => (aN rfl e))), trivial⟩ ?_
   clear h ac wo; intro ξ ac wo hφ h
   replace h : St w0 68 [(0, lv), (3, (ptr b1 0)), (4, (ptr b2 0)), (6, (.int .i64 ((i : Nat) : Int))), (61, (.bool (((decide ((aE (((gt l i).iv).lo) t) < 0)) || (!((gt l i).iv).openLo)) && ((!(decide (((gt l i).iv).hi = t))) || (!((gt l i).iv).openHi)))))] [.blk b2 (cD mb2) 53, .blk b1 (cR t) 71] ac wo := (h.pick [0, 1] (by decide)).sub ⟨rfl, rfl, rfl, rfl, rfl, trivial⟩
   clear hφ ξ
   refine hK12 _ _ ?_
   refine dA h rfl (fun hc3 => ?_) (fun hc3 => ?_)
   ·
    have hq3 := hc3; try simp at hq3
    refine gz h <| gr fun K13 hK13 => g0 (ak rfl) rfl <| g0 (ak rfl) rfl <| g0 (eC (i := i) uu50 zz126 rfl rfl (hlv.nn (i := i) (by omega)) (by omega)) rfl <| g0 (fs uu126 rfl zz53 rfl (hlv.nn (i := 0) (by omega)) rfl rfl (k' := i * 32 + 20)) rfl <| g0 (iR (k := 20) aa53 zz53 hlv (cK (by omega)) rfl rfl rfl rfl (v := (vD ((gt l i).f))) rfl) rfl <| gs 0 (cD ((gt l i).f)) rfl zz53 rfl rfl rfl rfl rfl rfl rfl <| g0 (aj rfl) rfl <| gn hK13 <| gT ?_; clear h ac wo; intro ac wo h
    have hr1 := gj hL1 (show dp l t i mb2 = .ret ((gt l i).f, true) from (Eq.trans (cT hc1) (Eq.trans (cF hc2) (cT hc3))))
    have hd : cC l t = ((gt l i).f, true) := (kq (hX1.trans hr1))
    exact ret h rfl (.cell (v := (vD ((gt l i).f))) rfl (i := 0) rfl aa53 zz53 rfl rfl rfl (.tmp rfl .nil)) rfl (h.retP (by rw [hd] <;> rfl) (by rw [hd]; exact (All.gt zl (cG _)).2))
   ·
    have hq3 := hc3; try simp at hq3
    refine gz h <| gS <| gN <| gx hK6 <| gR <| g0 (ak rfl) rfl <| g0 (ch rfl rfl (r := ((i + 1 : Nat) : Int)) (by rw [wI]; omega)) rfl <| g0 (aj rfl) rfl <| gx (fun _ _ => bV) ?_; clear h ac wo; intro ac wo h
    exact aU ⟨m1, (by omega), _, _, (by omega), co hL1 (show dp l t i mb2 = .go _ from (Eq.trans (cT hc1) (Eq.trans (cF hc2) (cF hc3)))), (by omega), zmb2, (h.pick [0, 1] (by decide)).sub ⟨rfl, rfl, rfl, rfl, trivial⟩⟩
 ·
  have hd1 := of_decide_eq_false hc1
  refine ep ?_
  have hx1 := dU hL1 (show dp l t i mb2 = .out (i, mb2) from (cF hc1))
  refine gz h <| gx hK3 <| gr fun K14 hK14 => ga (cD oD) vv53 rfl rfl fun b4 => gn hK14 <| gr fun K15 hK15 => g1 0 rfl (ba aa53 zz53 rfl rfl rfl (v := (vD oD)) rfl) rfl <| gs 1 (cD oD) rfl zz53 rfl rfl rfl rfl rfl rfl rfl <| g0 (aj rfl) rfl <| gn hK15 <| gT ?_; clear h ac wo; intro ac wo h
  have hd : cC l t = (oD, false) := (eV (hX1.trans hx1))
  exact ret h rfl (.cell (v := (vD oD)) rfl (i := 1) rfl aa53 zz53 rfl rfl rfl (.tmp rfl .nil)) rfl (h.retP (by rw [hd] <;> rfl) (by rw [hd]; exact ⟨⟨(bY 0 (by decide) (by omega)), (bY 0 (by decide) (by omega))⟩, ⟨(bY 0 (by decide) (by omega)), (bY 0 (by decide) (by omega))⟩, ⟨(bY 0 (by decide) (by omega)), (bY 0 (by decide) (by omega))⟩⟩))
attribute [irreducible] cC
def ed (n : List (U Qd)) (l : List (U Qd)) (t : GR) : Bool :=
 ((((cC n t).2) == ((bg l t).2)) && ((!(cC n t).2) || (eD ((cC n t).1) ((bg l t).1) t)))
theorem ku (n : List (U Qd)) (nv : Value) (l : List (U Qd)) (lv : Value) (t : GR) (hn : n.length ≤ 1000) (zn : All (jI 30) n) (zl : All (jI 30) l) (zt : SzR 30 t) (w0 : World) (hnv : View w0 nv n) (hlv : View w0 lv l) : Calls Tryz.prog 58 #[nv, lv, (vR t)] w0 (RetP w0 (.bool (ed n l t)) (True)) := by
 refine enter (N := 36) (args := [nv, lv, (vR t)]) Tryz.func58 rfl rfl ?_; intro ac h
 have hlenn := hnv.len
 have hlenl := hlv.len
 refine ej fun K1 hK1 => ?_
 refine bx h (cR t) rfl rfl rfl fun b1 => g0 (aj rfl) rfl <| gn hK1 <| gr fun K2 hK2 => g0 (ak rfl) rfl <| g1 0 rfl (ba aa71 zz71 rfl rfl rfl (v := (vR t)) rfl) rfl ?_; clear h ac; intro ac wo h
 have s1 := Calls.pr ((fun w_ hB_ hS_ => jO n nv t (by omega) zn zt w_ (hnv.below hB_)) _ h.bel h.sep)
 refine qn h (bF Tryz.call38 rfl) (fun w_ hB_ hS_ => jO n nv t (by omega) zn zt w_ (hnv.below hB_)) rfl <| g0 (ak rfl) rfl <| g0 (bf rfl rfl) rfl <| g0 (bf rfl rfl) rfl <| ga (cD oD) vv53 rfl rfl fun b2 => gs 0 (cD ((cC n t).1)) rfl zz53 rfl rfl rfl rfl rfl rfl rfl <| g0 (aj rfl) rfl <| gn hK2 <| gr fun K3 hK3 => g0 (ak rfl) rfl <| g1 1 rfl (ba aa71 zz71 rfl rfl rfl (v := (vR t)) rfl) rfl ?_; clear h ac wo; intro ac wo h
 have s2 := Calls.pr ((fun w_ hB_ hS_ => eP l lv t zl zt w_ (hlv.below hB_)) _ h.bel h.sep)
 refine qn h (bF Tryz.call36 rfl) (fun w_ hB_ hS_ => eP l lv t zl zt w_ (hlv.below hB_)) rfl <| g0 (ak rfl) rfl <| g0 (bf rfl rfl) rfl <| g0 (bf rfl rfl) rfl <| ga (cD oD) vv53 rfl rfl fun b3 => gs 0 (cD ((bg l t).1)) rfl zz53 rfl rfl rfl rfl rfl rfl rfl <| g0 (aj rfl) rfl <| gn hK3 ?_; clear h ac wo; intro ac wo h
 replace h := h.sub (F' := [(5, (ptr b1 0)), (7, (ptr b2 0)), (8, (.bool ((cC n t).2))), (9, (ptr b3 0)), (10, (.bool ((bg l t).2)))]) ⟨rfl, rfl, rfl, rfl, rfl, trivial⟩
 refine gz h <| gr fun K4 hK4 => g0 (ak rfl) rfl <| g0 (ak rfl) rfl <| g0 (sT Tryz.underlying4 rfl rfl) rfl <| g0 (ak rfl) rfl <| ge1 rfl rfl (fun hg => (Rd.of_nil (ak rfl)).step) rfl <| ge1 rfl rfl (fun hg => (Rd.of_nil (gG (aN rfl hg))).step) rfl <| ge1 rfl rfl (fun hg => (Rd.of_nil (ak (aN rfl hg))).step) rfl <| ge4 rfl rfl (fun hg => (Rd.of_mem (i := 1) (ba aa53 zz53 rfl rfl rfl (v := (vD ((cC n t).1))) rfl) rfl).step) rfl <| ge4 rfl rfl (fun hg => (Rd.of_mem (i := 0) (ba aa53 zz53 rfl rfl rfl (v := (vD ((bg l t).1))) rfl) rfl).step) rfl <| ge4 rfl rfl (fun hg => (Rd.of_mem (i := 2) (ba aa71 zz71 rfl rfl rfl (v := (vR t)) rfl) rfl).step) rfl <| ge4 rfl rfl (fun hg => dy (bF Tryz.call39 (cH (aN rfl hg) (cH (aN rfl hg) (cH (aN rfl hg) rfl)))) (kk (jM ((cC n t).1) ((bg l t).1) t 16 (by omega) s1 s2 zt))) rfl <| ge1 rfl rfl (fun hg => (Rd.of_nil (nU (aN rfl hg) (fun e => (aN rfl (andI hg (n7 e)))))).step) rfl <| g0 (fw rfl (fun e => (aN rfl e))) rfl <| g0 (aj rfl) rfl <| gn hK4 ?_; clear h ac wo; intro ac wo h
 replace h := h.sub (F' := [(6, (.bool ((((cC n t).2) == ((bg l t).2)) && ((!(cC n t).2) || (eD ((cC n t).1) ((bg l t).1) t)))))]) ⟨rfl, trivial⟩
 refine gu ?_
 exact ret h rfl (.tmp rfl .nil) rfl (h.retP (by unfold ed; rfl) trivial)
attribute [irreducible] ed
def eN (i : Iv) (t_ : GR) : Bool :=
 ((decide ((aR (ay i) (⟨t_, false⟩ : Bd)) ≤ 0)) && (decide ((aR (⟨t_, true⟩ : Bd) (aI i)) ≤ 0)))
theorem kZ (i : Iv) (cp : Nat) (t_ : GR) (zi : SzV 30 i) (zt_ : SzR 30 t_) (w0 : World) (hcpp : PV w0 cp (cR t_)) : Calls Tryz.prog 154 #[(vV i), (ptr cp 0)] w0 (RetP w0 (.bool (eN i t_)) (True)) := by
 refine enter (N := 18) (args := [(vV i), (ptr cp 0)]) Tryz.func154 rfl rfl ?_; intro ac h
 refine ej fun K1 hK1 => ?_
 refine bx h (cV i) rfl rfl rfl fun b1 => g0 (aj rfl) rfl <| gn hK1 <| gq fun K2 hK2 => ?_; clear h ac; intro ac wo h
 have s1 := Calls.pr ((fun w_ hB_ hS_ => em i zi w_ ) _ h.bel h.sep)
 have s2 := Calls.pr ((fun w_ hB_ hS_ => dD (ay i) (⟨t_, false⟩ : Bd) s1 zt_ w_ ) _ h.bel h.sep)
 have p3 := s2
 have s4 := Calls.pr ((fun w_ hB_ hS_ => eE i zi w_ ) _ h.bel h.sep)
 have s5 := Calls.pr ((fun w_ hB_ hS_ => dD (⟨t_, true⟩ : Bd) (aI i) zt_ s4 w_ ) _ h.bel h.sep)
 have p6 := s5
 refine cZ mixed [⟨.det (vV i), [0]⟩, ⟨.det (vW (ay i)), []⟩, ⟨.det (vR t_), []⟩, ⟨.det (vW (⟨t_, false⟩ : Bd)), []⟩, ⟨.det (.int .i64 (aR (ay i) (⟨t_, false⟩ : Bd))), []⟩, ⟨.det (.bool (decide ((aR (ay i) (⟨t_, false⟩ : Bd)) ≤ 0))), []⟩, ⟨.det (.bool (decide ((aR (ay i) (⟨t_, false⟩ : Bd)) ≤ 0))), []⟩, ⟨.det (gv (decide ((aR (ay i) (⟨t_, false⟩ : Bd)) ≤ 0)) (vR t_)), []⟩, ⟨.det (gv (decide ((aR (ay i) (⟨t_, false⟩ : Bd)) ≤ 0)) (vW (⟨t_, true⟩ : Bd))), []⟩, ⟨.det (gv (decide ((aR (ay i) (⟨t_, false⟩ : Bd)) ≤ 0)) (vV i)), [0]⟩, ⟨.det (gv (decide ((aR (ay i) (⟨t_, false⟩ : Bd)) ≤ 0)) (vW (aI i))), []⟩, ⟨.det (gv (decide ((aR (ay i) (⟨t_, false⟩ : Bd)) ≤ 0)) (.int .i64 (aR (⟨t_, true⟩ : Bd) (aI i)))), []⟩, ⟨.det (gv (decide ((aR (ay i) (⟨t_, false⟩ : Bd)) ≤ 0)) (.bool (decide ((aR (⟨t_, true⟩ : Bd) (aI i)) ≤ 0)))), []⟩, ⟨.det (.bool ((decide ((aR (ay i) (⟨t_, false⟩ : Bd)) ≤ 0)) && (decide ((aR (⟨t_, true⟩ : Bd) (aI i)) ≤ 0)))), []⟩, ⟨.det (.bool ((decide ((aR (ay i) (⟨t_, false⟩ : Bd)) ≤ 0)) && (decide ((aR (⟨t_, true⟩ : Bd) (aI i)) ≤ 0)))), []⟩] [⟨.blk b1 (cV i) 86, []⟩] h rfl (by kernel_rfl) ⟨?_, ?_, ?_, ?_, ?_, ?_, ?_, ?_, ?_, ?_, ?_, ?_, ?_, ?_, ?_, trivial⟩ ?_
 ·intro ξ hφ; exact cY [.blk b1 (cV i) 86] rfl rfl (ba aa86 zz86 rfl rfl rfl (v := (vV i)) rfl)
 ·intro ξ hφ; exact d7 (dy (vs := [(vV i)]) (bF Tryz.call136 rfl) (fun w_ hB_ hS_ => em i zi w_ ))
 ·intro ξ hφ; exact aL (r_ldP hcpp aa71 zz71 rfl rfl rfl (v := (vR t_)) rfl)
 ·intro ξ hφ; exact aL (cg rz rfl rfl (v := (vW (⟨t_, false⟩ : Bd))) rfl)
 ·intro ξ hφ; exact d7 (dy (bF Tryz.call135 rfl) (kk (dD (ay i) (⟨t_, false⟩ : Bd) s1 zt_)))
 ·intro ξ hφ; exact aL (pK rfl rfl)
 ·intro ξ hφ; exact aL (ak rfl)
 ·intro ξ hφ; exact jo (c := true) (b := (decide ((aR (ay i) (⟨t_, false⟩ : Bd)) ≤ 0))) (g := (decide ((aR (ay i) (⟨t_, false⟩ : Bd)) ≤ 0))) [] rfl rfl rfl rfl g_t (fun hg => Rd.step (r_ldP hcpp aa71 zz71 rfl rfl rfl (v := (vR t_)) rfl))
 ·intro ξ hφ; exact jo (c := true) (b := (decide ((aR (ay i) (⟨t_, false⟩ : Bd)) ≤ 0))) (g := (decide ((aR (ay i) (⟨t_, false⟩ : Bd)) ≤ 0))) [] rfl rfl rfl rfl g_t (fun hg => Rd.step (cg rz (cH (aN rfl hg) (cH rfl rfl)) rfl (v := (vW (⟨t_, true⟩ : Bd))) rfl))
 ·intro ξ hφ; exact jo (c := true) (b := (decide ((aR (ay i) (⟨t_, false⟩ : Bd)) ≤ 0))) (g := (decide ((aR (ay i) (⟨t_, false⟩ : Bd)) ≤ 0))) [.blk b1 (cV i) 86] rfl rfl rfl rfl g_t (fun hg => Rd.step (ba aa86 zz86 rfl rfl rfl (v := (vV i)) rfl))
 ·intro ξ hφ; exact jo (c := true) (b := (decide ((aR (ay i) (⟨t_, false⟩ : Bd)) ≤ 0))) (g := (decide ((aR (ay i) (⟨t_, false⟩ : Bd)) ≤ 0))) [] rfl rfl rfl rfl g_t (fun hg => dy (bF Tryz.call137 (cH (aN rfl hg) rfl)) (kk (eE i zi)))
 ·intro ξ hφ; exact jo (c := true) (b := (decide ((aR (ay i) (⟨t_, false⟩ : Bd)) ≤ 0))) (g := (decide ((aR (ay i) (⟨t_, false⟩ : Bd)) ≤ 0))) [] rfl rfl rfl rfl g_t (fun hg => dy (bF Tryz.call135 (cH (aN rfl hg) (cH (aN rfl hg) rfl))) (kk (dD (⟨t_, true⟩ : Bd) (aI i) zt_ s4)))
 ·intro ξ hφ; exact jo (c := true) (b := (decide ((aR (ay i) (⟨t_, false⟩ : Bd)) ≤ 0))) (g := (decide ((aR (ay i) (⟨t_, false⟩ : Bd)) ≤ 0))) [] rfl rfl rfl rfl g_t (fun hg => Rd.step (pK (aN rfl hg) rfl))
 ·intro ξ hφ; exact aL (fw rfl (fun e => (aN rfl e)))
 ·intro ξ hφ; exact aL (aj rfl)
 clear h ac wo; intro ξ ac wo hφ h
 replace h : St w0 18 [(3, (.bool ((decide ((aR (ay i) (⟨t_, false⟩ : Bd)) ≤ 0)) && (decide ((aR (⟨t_, true⟩ : Bd) (aI i)) ≤ 0)))))] [.blk b1 (cV i) 86] ac wo := (h.pick [0] (by decide)).sub ⟨rfl, trivial⟩
 clear hφ ξ
 refine hK2 _ _ ?_
 refine gu ?_
 exact ret h rfl (.tmp rfl .nil) rfl (h.retP (by unfold eN; rfl) trivial)
attribute [irreducible] eN
def fg (ls : List Iv) (t_ : GR) (x8 : Nat) : Int :=
 (-1)
def bP (ls : List Iv) (t_ : GR) (x8 : Nat) : Nx Nat Int :=
 bif (decide (((x8 : Nat) : Int) < ((ls.length : Nat) : Int))) then
  bif (eN (gt ls x8) t_) then
   .ret ((x8 : Nat) : Int)
  else
   .go (x8 + 1)
 else
  .out x8
def de (ls : List Iv) (t_ : GR) : Int :=
 fin (bR (fun s => bP ls t_ s) ((ls.length - 0) + 1) 0) (fun s => fg ls t_ s) (fun r => r)
theorem gh (ls : List Iv) (lsv : Value) (cp : Nat) (t_ : GR) (hl : ls.length ≤ 1000) (zls : All (SzV 30) ls) (zt_ : SzR 30 t_) (w0 : World) (hlsv : View w0 lsv ls) (hcpp : PV w0 cp (cR t_)) : Calls Tryz.prog 230 #[lsv, (.func (.func 154) #[] #[(ptr cp 0)])] w0 (RetP w0 (.int .i64 (de ls t_)) ((-1 ≤ (de ls t_) ∧ (de ls t_) ≤ 1000))) := by
 refine enter (N := 19) (args := [lsv, (.func (.func 154) #[] #[(ptr cp 0)])]) Tryz.func230 rfl rfl ?_; intro ac h
 have hlenls := hlsv.len
 refine ej fun K1 hK1 => ?_
 refine rd0 h (aj rfl) rfl <| gn hK1 <| gq fun K2 hK2 => gr fun K3 hK3 => g0 (ak rfl) rfl <| g0 (et uu103 rfl hlsv.sl) rfl <| g0 (ak rfl) rfl <| gn hK3 <| gB ?_; clear h ac; intro ac wo h
 obtain ⟨X1, hX1⟩ : ∃ X, bR (fun s => bP ls t_ s) ((ls.length - 0) + 1) 0 = X := ⟨_, rfl⟩
 refine wp_loop_ghost (fun n_ a_ w_ => ∃ (x8 : Nat), ((ls.length - x8) < n_) ∧ (bR (fun s => bP ls t_ s) n_ x8 = X1) ∧ (x8 ≤ ls.length) ∧ St w0 19 [(0, lsv), (1, (.func (.func 154) #[] #[(ptr cp 0)])), (7, (.int .i64 ((ls.length : Nat) : Int))), (8, (.int .i64 ((x8 : Nat) : Int)))] [] a_ w_) ((ls.length - 0) + 1) ⟨0, (by omega), hX1, (by omega), (h.sub ⟨rfl, rfl, rfl, rfl, trivial⟩)⟩ ?_
 clear h ac wo; rintro n1 ac wo ⟨x8, hm1, hL1, hx8, h⟩
 obtain ⟨m1, rfl⟩ : ∃ m, n1 = m + 1 := ⟨n1 - 1, by omega⟩
 refine gz h <| gr fun K4 hK4 => g0 (d5 rfl rfl) rfl <| gn hK4 <| gq fun K5 hK5 => ?_; clear h ac wo; intro ac wo h
 refine dA h rfl (fun hc1 => ?_) (fun hc1 => ?_)
 ·
  have hd1 := of_decide_eq_true hc1
  refine gz h <| gS <| gx hK5 <| gq fun K6 hK6 => gB <| gr fun K7 hK7 => g0 (ak rfl) rfl <| g0 (aj rfl) rfl <| gn hK7 <| gr fun K8 hK8 => g0 (ak rfl) rfl <| g0 (ak rfl) rfl <| g0 (ak rfl) rfl <| g0 (eC (i := x8) uu103 zz86 rfl rfl (hlsv.nn (i := x8) (by omega)) (by omega)) rfl <| g0 (iR (k := 0) aa86 zz86 hlsv (cK (by omega)) rfl (Nat.add_zero _) rfl rfl (v := (vV (gt ls x8))) rfl) rfl <| gc (nl (cap := [(ptr cp 0)]) Tryz.call154 rfl rfl) (fun w_ hB_ hS_ => kZ (gt ls x8) cp t_ (All.gt zls (jG _)) zt_ w_ (hcpp.below hB_)) rfl <| gn hK8 ?_; clear h ac wo; intro ac wo h
  refine dA h rfl (fun hc2 => ?_) (fun hc2 => ?_)
  ·
   have hq2 := hc2; try simp at hq2
   refine gz h <| gr fun K9 hK9 => g0 (ak rfl) rfl <| g0 (aj rfl) rfl <| gn hK9 <| gT ?_; clear h ac wo; intro ac wo h
   have hr1 := gj hL1 (show bP ls t_ x8 = .ret ((x8 : Nat) : Int) from (Eq.trans (cT hc1) (cT hc2)))
   have hd : de ls t_ = ((x8 : Nat) : Int) := (kq (hX1.trans hr1))
   exact ret h rfl (.tmp rfl .nil) rfl (h.retP (by rw [hd] <;> rfl) (by rw [hd]; exact (by omega)))
  ·
   have hq2 := hc2; try simp at hq2
   refine gz h <| gS <| gN <| gx hK6 <| gR <| g0 (ch rfl rfl (r := ((x8 + 1 : Nat) : Int)) (by rw [wI]; omega)) rfl <| g0 (ak rfl) rfl <| gx (fun _ _ => bV) ?_; clear h ac wo; intro ac wo h
   exact aU ⟨m1, (by omega), _, (by omega), co hL1 (show bP ls t_ x8 = .go _ from (Eq.trans (cT hc1) (cF hc2))), (by omega), (h.pick [] (by decide)).sub ⟨rfl, rfl, rfl, rfl, trivial⟩⟩
 ·
  have hd1 := of_decide_eq_false hc1
  refine ep ?_
  have hx1 := dU hL1 (show bP ls t_ x8 = .out x8 from (cF hc1))
  refine gz h <| gx hK2 <| gr fun K10 hK10 => g0 (aj rfl) rfl <| gn hK10 <| gT ?_; clear h ac wo; intro ac wo h
  have hd : de ls t_ = (-1) := (eV (hX1.trans hx1))
  exact ret h rfl (.tmp rfl .nil) rfl (h.retP (by rw [hd] <;> rfl) (by rw [hd]; exact (by omega)))
attribute [irreducible] de
def dR (ls : List Iv) (t_ : GR) : Bool :=
 (decide ((de ls t_) ≥ 0))
theorem iC (ls : List Iv) (lsv : Value) (cp : Nat) (t_ : GR) (hl : ls.length ≤ 1000) (zls : All (SzV 30) ls) (zt_ : SzR 30 t_) (w0 : World) (hlsv : View w0 lsv ls) (hcpp : PV w0 cp (cR t_)) : Calls Tryz.prog 153 #[lsv, (.func (.func 154) #[] #[(ptr cp 0)])] w0 (RetP w0 (.bool (dR ls t_)) (True)) := by
 refine enter (N := 9) (args := [lsv, (.func (.func 154) #[] #[(ptr cp 0)])]) Tryz.func153 rfl rfl ?_; intro ac h
 have hlenls := hlsv.len
 refine ej fun K1 hK1 => ?_
 refine rd0 h (aj rfl) rfl <| gn hK1 <| gr fun K2 hK2 => g0 (ak rfl) rfl <| g0 (ak rfl) rfl ?_; clear h ac; intro ac wo h
 have s1 := Calls.pr ((fun w_ hB_ hS_ => gh ls lsv cp t_ (by omega) zls zt_ w_ (hlsv.below hB_) (hcpp.below hB_)) _ h.bel h.sep)
 have p2 := s1
 refine qn h (bF Tryz.call230 rfl) (fun w_ hB_ hS_ => gh ls lsv cp t_ (by omega) zls zt_ w_ (hlsv.below hB_) (hcpp.below hB_)) rfl <| g0 (oC rfl rfl) rfl <| g0 (aj rfl) rfl <| gn hK2 <| gT ?_; clear h ac wo; intro ac wo h
 exact ret h rfl (.tmp rfl .nil) rfl (h.retP (by unfold dR; rfl) trivial)
attribute [irreducible] dR
def dZ (p : List Iv) (t : GR) : Bool :=
 (dR p t)
theorem lD (p : List Iv) (pv : Value) (t : GR) (hl : p.length ≤ 1000) (zp : All (SzV 30) p) (zt : SzR 30 t) (w0 : World) (hpv : View w0 pv p) : Calls Tryz.prog 59 #[pv, (vR t)] w0 (RetP w0 (.bool (dZ p t)) (True)) := by
 refine enter (N := 8) (args := [pv, (vR t)]) Tryz.func59 rfl rfl ?_; intro ac h
 have hlenp := hpv.len
 refine ej fun K1 hK1 => ?_
 refine bx h (cR t) rfl rfl rfl fun b1 => g0 (aj rfl) rfl <| gn hK1 <| gr fun K2 hK2 => g0 (ak rfl) rfl <| g0 (nX rfl) rfl <| gc (bF Tryz.call153 rfl) (fun w_ hB_ hS_ => iC p pv b1 t (by omega) zp zt w_ (hpv.below hB_) (blk_pv hS_ 0 rfl)) rfl <| g0 (aj rfl) rfl <| gn hK2 <| gT ?_; clear h ac; intro ac wo h
 exact ret h rfl (.tmp rfl .nil) rfl (h.retP (by unfold dZ; rfl) trivial)
attribute [irreducible] dZ
end Go.Sx
namespace Go.Sx
theorem kH (l : List (U Qd)) : aO l = l.map (·.iv) := by
 have h := jR (R := List Iv) (f := fun (o : List Iv) (u : U Qd) => o ++ [u.iv]) l (B := fun s => cB l s.1 s.2) (fun o i hi => by
  show cB l o i = _
  unfold cB
  rw [decide_eq_true (by omega : ((i : Nat) : Int) < ((l.length : Nat) : Int))]; rfl) (fun o => by
  show cB l o l.length = _
  unfold cB
  rw [decide_eq_false (by omega : ¬ ((l.length : Nat) : Int) < ((l.length : Nat) : Int))]; rfl) l [] [] (l.length - 0 + 1) rfl (by omega)
 unfold aO
 refine (eV h).trans ?_
 show fP l _ _ = _
 unfold fP
 rw [jQ, List.nil_append]
 clear h
 show (l.flatMap fun u => [u.iv]) = _
 induction l with
 | nil => rfl
 | cons u l ih => rw [List.flatMap_cons, List.map_cons, ih]; rfl
theorem kG {l : List (U Qd)} (h : ∀ u ∈ l, Wv u.iv) : ∀ i ∈ aO l, Wv i := fun i hi => by
 rw [kH] at hi
 obtain ⟨u, hu, rfl⟩ := List.mem_map.1 hi
 exact h u hu
end Go.Sx
namespace Go.Sx
open Go Go.RowKit Go.Proofs
set_option maxRecDepth 100000
set_option maxHeartbeats 40000000
attribute [local irreducible] aE bM ap aT aJ dF
def gy (l : List (U Qd)) (out : List GR) (i : Nat) : (List GR) :=
 out
def bh (l : List (U Qd)) (out : List GR) (i : Nat) : Nx ((List GR) × Nat) (List GR) :=
 bif (decide (((i : Nat) : Int) < (((aq l ([])).length : Nat) : Int))) then
  bif (decide (((i : Nat) : Int) > 0)) then
   bif (((cP (gt (aq l ([])) (i - 1)) (gt (aq l ([])) i)).2) == 0) then
    .go (((out ++ [(gt (aq l ([])) i)]) ++ [(dm ((cP (gt (aq l ([])) (i - 1)) (gt (aq l ([])) i)).1))]), (i + 1))
   else
    .go ((out ++ [(gt (aq l ([])) i)]), (i + 1))
  else
   .go ((out ++ [(gt (aq l ([])) i)]), (i + 1))
 else
  .out (out, i)
def aC (l : List (U Qd)) : (List GR) :=
 fin (bR (fun s => bh l s.1 s.2) (((aq l []).length - 0) + 1) ([(a8 (-1)), (a8 1000)], 0)) (fun s => gy l s.1 s.2) (fun r => r)
theorem gw (l : List (U Qd)) (lv : Value) (hl : l.length ≤ 100) (hg : ∀ i, 0 < i → i < (aq l []).length → BtP (gt (aq l []) (i - 1)) (gt (aq l []) i)) (zl : All (jI 30) l) (w0 : World) (hlv : View w0 lv l) : Calls Tryz.prog 35 #[lv] w0 (RetR w0 71 (aC l) (All (SzR 30) (aC l) ∧ (aC l).length ≤ 2 + 4 * l.length + 4 * l.length)) := by
 refine enter (N := 49) (args := [lv]) Tryz.func35 rfl rfl ?_; intro ac h
 have hlenl := hlv.len
 refine ej fun K1 hK1 => ?_
 refine rd0 h (aj rfl) rfl <| gn hK1 <| gr fun K2 hK2 => g0 (ak rfl) rfl ?_; clear h ac; intro ac wo h
 replace h := h.nilRow (α := GR) 71
 refine on1 h 0 rfl (nI (vs := [lv, (.slice none 0 0)]) (A := fun v => [.row (α := GR) 71 v (aq l ([]))]) (bF Tryz.call61 rfl) (fun w_ B_ hB_ hS_ => ib l lv ([]) (.slice none 0 0) (by first | omega | grind) (by first | omega | grind) zl All.nil w0 w_ B_ hB_ hS_ hlv)) rfl ?_; clear h ac wo; intro sv2 ac wo s3 h
 have p4 := s3.2
 have c5 := eX (-1) (by omega)
 have s5 := Calls.pr (c5 w0)
 have c6 := eX 1000 (by omega)
 have s6 := Calls.pr (c6 w0)
 refine rd0 h (aj rfl) rfl <| gn hK2 <| gr fun K3 hK3 => gc (bF Tryz.call122 rfl) (kk c5) rfl <| gc (bF Tryz.call122 rfl) (kk c6) rfl ?_; clear h ac wo; intro ac wo h
 refine nw h (dq (α := GR) (xs := [.tmp 10, .tmp 11]) (vs := [(vR (a8 (-1))), (vR (a8 1000))]) [(a8 (-1)), (a8 1000)] lr rfl rfl rfl (by decide)) rfl ?_; clear h ac wo; intro sv7 ac wo nnsv7 h
 refine rd0 h (aj rfl) rfl <| gn hK3 <| gq fun K4 hK4 => gr fun K5 hK5 => g0 (aj rfl) rfl <| gn hK5 <| gB ?_; clear h ac wo; intro ac wo h
 obtain ⟨X1, hX1⟩ : ∃ X, bR (fun s => bh l s.1 s.2) (((aq l []).length - 0) + 1) ([(a8 (-1)), (a8 1000)], 0) = X := ⟨_, rfl⟩
 refine wp_loop_ghost (fun n_ a_ w_ => ∃ (out : List GR) (i : Nat) (outv : Value), (((aq l []).length - i) < n_) ∧ (bR (fun s => bh l s.1 s.2) n_ (out, i) = X1) ∧ (i ≤ (aq l []).length) ∧ (All (SzR 30) out) ∧ (out.length ≤ 2 + 2 * i) ∧ St w0 49 [(3, sv2), (4, outv), (5, (.int .i64 ((i : Nat) : Int)))] [.row (α := GR) 71 outv out, .row (α := GR) 71 sv2 (aq l ([]))] a_ w_) (((aq l []).length - 0) + 1) ⟨[(a8 (-1)), (a8 1000)], 0, sv7, (by omega), hX1, (by first | omega | grind), (All.cons (dg s5 (by omega)) (All.cons (dg s6 (by omega)) All.nil)), (by first | omega | grind), (h.sub ⟨rfl, rfl, rfl, trivial⟩)⟩ ?_
 clear h ac wo; rintro n1 ac wo ⟨out, i, outv, hm1, hL1, hi, zout, hol, h⟩
 obtain ⟨m1, rfl⟩ : ∃ m, n1 = m + 1 := ⟨n1 - 1, by omega⟩
 refine gz h <| gq fun K6 hK6 => gr fun K7 hK7 => g0 (ak rfl) rfl <| g0 (ak rfl) rfl ?_; clear h ac wo; intro ac wo h
 refine rd0 h (et uu66 rfl (h.row_sl 1 rfl)) rfl <| g0 (d5 rfl rfl) rfl <| gn hK7 ?_; clear h ac wo; intro ac wo h
 refine dA h rfl (fun hc1 => ?_) (fun hc1 => ?_)
 ·
  have hd1 := of_decide_eq_true hc1
  refine gz h <| gS <| gx hK6 <| gq fun K8 hK8 => gB <| gr fun K9 hK9 => g0 (ak rfl) rfl <| g0 (ak rfl) rfl <| g0 (ak rfl) rfl ?_; clear h ac wo; intro ac wo h
  refine rd0 h (eC (i := i) uu66 zz71 rfl rfl (h.row_nn 1 rfl (by omega)) (by omega)) rfl <| g1 1 rfl (dX (k := 0) aa71 zz71 (cK (by omega)) rfl (Nat.add_zero _) rfl rfl (v := (vR (gt (aq l ([])) i))) rfl) rfl ?_; clear h ac wo; intro ac wo h
  refine nw h (dq (α := GR) (xs := [.tmp 23]) (vs := [(vR (gt (aq l ([])) i))]) [(gt (aq l ([])) i)] lr rfl rfl rfl (by decide)) rfl ?_; clear h ac wo; intro sv8 ac wo nnsv8 h
  refine on2 h 1 0 rfl rfl (fl (xs := out) (ys := [(gt (aq l ([])) i)]) lr (fun w hs => (row_view hs 0 rfl)) rfl rfl (by first | omega | grind)) rfl ?_; clear h ac wo; intro sv9 ac wo apsv9 h
  refine rd0 h (aj rfl) rfl <| gn hK9 <| gr fun K10 hK10 => g0 (ak rfl) rfl <| g0 (ko rfl rfl) rfl <| gn hK10 ?_; clear h ac wo; intro ac wo h
  refine dA h rfl (fun hc2 => ?_) (fun hc2 => ?_)
  ·
   have hd2 := of_decide_eq_true hc2
   refine dV fun K11 hK11 => ?_
   have s10 := Calls.pr ((fun w_ hB_ hS_ => ky (gt (aq l ([])) (i - 1)) (gt (aq l ([])) i) (hg i (by omega) (by omega)).1 (hg i (by omega) (by omega)).2.1 (hg i (by omega) (by omega)).2.2.1 (hg i (by omega) (by omega)).2.2.2.1 (hg i (by omega) (by omega)).2.2.2.2.1 (dg (j := 36) (k := 40) (nH (hg i (by omega) (by omega)).1) (by omega)) (dg (j := 36) (k := 40) (nH (hg i (by omega) (by omega)).2.2.2.2.2) (by omega)) w_ ) _ h.bel h.sep)
   replace h := h.emps 1
   refine cZ mixed [dv _, dv _, dv _, dv _, dw _ [2], dv _, dv _, dv _, dw _ [2], dv _, dv _, dv _, dv _, ⟨.nd (.one 13 fun v => ∃ b, v = ptr b 0), [3]⟩, ⟨.det undef, [3]⟩, dv _] [⟨_, []⟩, ⟨_, []⟩, ⟨_, []⟩, ⟨.emp, [(13, .one 13 fun v => .blk (ck v) (cQ oQ) 27), (14, .one 13 fun v => .blk (ck v) (cQ ((cP (gt (aq l ([])) (i - 1)) (gt (aq l ([])) i)).1)) 27)]⟩] h rfl (by kernel_rfl) ⟨fun _ _ => om rfl, fun _ _ => om rfl, fun _ _ => aL (eQ rfl rfl (r := (((i - 1) : Nat) : Int)) (by rw [wI]; first | omega | grind)), fun _ _ => aL (eC (i := (i - 1)) uu66 zz71 rfl rfl (h.row_nn 2 rfl (by omega)) (by omega)), fun _ _ => cY _ rfl rfl (dX (k := 0) aa71 zz71 (cK (by omega)) rfl (Nat.add_zero _) rfl rfl (v := (vR (gt (aq l ([])) (i - 1)))) rfl), fun _ _ => om rfl, fun _ _ => om rfl, fun _ _ => aL (eC (i := i) uu66 zz71 rfl rfl (h.row_nn 2 rfl (by omega)) (by omega)), fun _ _ => cY _ rfl rfl (dX (k := 0) aa71 zz71 (cK (by omega)) rfl (Nat.add_zero _) rfl rfl (v := (vR (gt (aq l ([])) i))) rfl), fun _ _ => d7 (dy (bF Tryz.call123 rfl) (kk (ky (gt (aq l ([])) (i - 1)) (gt (aq l ([])) i) (hg i (by omega) (by omega)).1 (hg i (by omega) (by omega)).2.1 (hg i (by omega) (by omega)).2.2.1 (hg i (by omega) (by omega)).2.2.2.1 (hg i (by omega) (by omega)).2.2.2.2.1 (dg (j := 36) (k := 40) (nH (hg i (by omega) (by omega)).1) (by omega)) (dg (j := 36) (k := 40) (nH (hg i (by omega) (by omega)).2.2.2.2.2) (by omega))))), fun _ _ => om rfl, fun _ _ => aL (bf rfl rfl), fun _ _ => aL (bf rfl rfl), fun _ _ => k7 (ψ := fun v => ∃ b, v = ptr b 0) (B := fun v => [.blk (ck v) (cQ oQ) 27]) [.emp] rfl (fun v _ => by simp only [fc, bE] <;> rfl) (fun v hv => by simpa [DF.one, bE] using hv) (iQ (fv vv27 rfl)), (fun ξ hφ => by obtain ⟨b1, hb13⟩ := hφ 13 rfl; exact gF [.blk b1 (cQ oQ) 27] [.blk b1 (cQ ((cP (gt (aq l ([])) (i - 1)) (gt (aq l ([])) i)).1)) 27] (congrArg (fun v => [Asn.blk (ck v) (cQ oQ) 27]) hb13) (congrArg (fun v => [Asn.blk (ck v) (cQ ((cP (gt (aq l ([])) (i - 1)) (gt (aq l ([])) i)).1)) 27]) hb13) (gW zz27 (Eq.trans rfl (congrArg some hb13)) rfl rfl rfl rfl rfl rfl)), fun _ _ => aL (aj rfl), trivial⟩ ?_
   clear h ac wo; intro ξ ac wo hφ h
   replace h : St w0 49 [(3, sv2), (4, sv9), (5, (.int .i64 ((i : Nat) : Int))), (6, ξ 13), (7, (.int .i64 ((cP (gt (aq l ([])) (i - 1)) (gt (aq l ([])) i)).2)))] [.row (α := GR) 71 sv9 (out ++ [(gt (aq l ([])) i)]), .row (α := GR) 71 sv8 ([(gt (aq l ([])) i)]), .row (α := GR) 71 sv2 (aq l ([])), .blk (ck (ξ 13)) (cQ ((cP (gt (aq l ([])) (i - 1)) (gt (aq l ([])) i)).1)) 27] ac wo := (h.pick [0, 1, 2, 3] (by decide)).sub ⟨rfl, rfl, rfl, rfl, rfl, trivial⟩
   revert h
   obtain ⟨b1, hb13⟩ : ∃ b, ξ 13 = ptr b 0 := hφ 13
   rw [hb13]; intro h
   clear hb13
   clear hφ ξ
   refine gz h <| gx hK11 <| gr fun K12 hK12 => g0 (ak rfl) rfl <| g0 (fV rfl rfl) rfl <| gn hK12 ?_; clear h ac wo; intro ac wo h
   refine dA h rfl (fun hc3 => ?_) (fun hc3 => ?_)
   ·
    have hd3 := eq_of_beq hc3
    have c11 := kx ((cP (gt (aq l ([])) (i - 1)) (gt (aq l ([])) i)).1) 32 (by omega) s10
    have s11 := aF (c11 w0)
    refine gz h <| gR <| g0 (ak rfl) rfl <| g1 3 rfl (ba aa27 zz27 rfl rfl rfl (v := (vQ ((cP (gt (aq l ([])) (i - 1)) (gt (aq l ([])) i)).1))) rfl) rfl <| gc (bF Tryz.call88 rfl) (kk c11) rfl ?_; clear h ac wo; intro ac wo h
    refine nw h (dq (α := GR) (xs := [.tmp 45]) (vs := [(vR (dm ((cP (gt (aq l ([])) (i - 1)) (gt (aq l ([])) i)).1)))]) [(dm ((cP (gt (aq l ([])) (i - 1)) (gt (aq l ([])) i)).1))] lr rfl rfl rfl (by decide)) rfl ?_; clear h ac wo; intro sv12 ac wo nnsv12 h
    refine on2 h 1 0 rfl rfl (fl (xs := (out ++ [(gt (aq l ([])) i)])) (ys := [(dm ((cP (gt (aq l ([])) (i - 1)) (gt (aq l ([])) i)).1))]) lr (fun w hs => (row_view hs 0 rfl)) rfl rfl (by first | omega | grind)) rfl ?_; clear h ac wo; intro sv13 ac wo apsv13 h
    refine rd0 h (aj rfl) rfl <| gx (fun _ _ => bV) <| gN <| gx hK8 <| gR <| g0 (ak rfl) rfl <| g0 (ch rfl rfl (r := ((i + 1 : Nat) : Int)) (by rw [wI]; first | omega | grind)) rfl <| g0 (aj rfl) rfl <| gx (fun _ _ => bV) ?_; clear h ac wo; intro ac wo h
    exact aU ⟨m1, (by omega), _, _, _, (by first | omega | grind), co hL1 (show bh l out i = .go _ from (Eq.trans (cT hc1) (Eq.trans (cT hc2) (cT hc3)))), (by first | omega | grind), (All.app (All.app zout (All.cons (All.gt s3.1 (mg _)) All.nil)) (All.cons (dg s11 (by omega)) All.nil)), (by first | omega | grind), (h.pick [0, 3] (by decide)).sub ⟨rfl, rfl, rfl, trivial⟩⟩
   ·
    have hd3 := ne_of_beq_false hc3
    refine gz h <| gS <| gN <| gx hK8 <| gR <| g0 (ak rfl) rfl <| g0 (ch rfl rfl (r := ((i + 1 : Nat) : Int)) (by rw [wI]; first | omega | grind)) rfl <| g0 (aj rfl) rfl <| gx (fun _ _ => bV) ?_; clear h ac wo; intro ac wo h
    exact aU ⟨m1, (by omega), _, _, _, (by first | omega | grind), co hL1 (show bh l out i = .go _ from (Eq.trans (cT hc1) (Eq.trans (cT hc2) (cF hc3)))), (by first | omega | grind), (All.app zout (All.cons (All.gt s3.1 (mg _)) All.nil)), (by first | omega | grind), (h.pick [0, 2] (by decide)).sub ⟨rfl, rfl, rfl, trivial⟩⟩
  ·
   have hd2 := of_decide_eq_false hc2
   refine gz h <| gS <| gN <| gx hK8 <| gR <| g0 (ak rfl) rfl <| g0 (ch rfl rfl (r := ((i + 1 : Nat) : Int)) (by rw [wI]; omega)) rfl <| g0 (aj rfl) rfl <| gx (fun _ _ => bV) ?_; clear h ac wo; intro ac wo h
   replace h := h.sub (F' := [(3, sv2), (4, sv9), (5, (.int .i64 ((i + 1 : Nat) : Int)))]) ⟨rfl, rfl, rfl, trivial⟩
   exact aU ⟨m1, (by omega), _, _, _, (by first | omega | grind), co hL1 (show bh l out i = .go _ from (Eq.trans (cT hc1) (cF hc2))), (by first | omega | grind), (All.app zout (All.cons (All.gt s3.1 (mg _)) All.nil)), (by first | omega | grind), (h.pick [0, 2] (by decide)).sub ⟨rfl, rfl, rfl, trivial⟩⟩
 ·
  have hd1 := of_decide_eq_false hc1
  refine ep ?_
  have hx1 := dU hL1 (show bh l out i = .out (out, i) from (cF hc1))
  refine gz h <| gx hK4 <| gr fun K13 hK13 => g0 (ak rfl) rfl <| g0 (aj rfl) rfl <| gn hK13 <| gT ?_; clear h ac wo; intro ac wo h
  have hd : aC l = out := (eV (hX1.trans hx1))
  exact ret h rfl (.tmp rfl .nil) rfl (by rw [hd]; exact h.retR 0 rfl ⟨zout, (by first | omega | grind)⟩)
attribute [irreducible] aC
end Go.Sx
