/- A part of the proof of piecesMoments. -/
import Derived.Test.YtbenbmdkhcfcfaaGreatDoorGarith
set_option linter.unusedVariables false
set_option linter.unusedSimpArgs false
open Go.Proofs.Tryz renaming sizeOf4 → zz4, sizeOf71 → zz71, zeroValue71 → vv71, isAgg71 → aa71, call85 → cc85, call122 → cc122, runUnderlying169 → uu169, sizeOf167 → zz167, runUnderlying167 → uu167, sizeOf166 → zz166, isAgg166 → aa166, runUnderlying166 → uu166, runUnderlying3 → uu3, runUnderlying86 → uu86, call127 → cc127, isAgg4 → aa4, runUnderlying66 → uu66, runUnderlying358 → uu358, sizeOf3 → zz3
open Go.IntKind renaming wrap_i64 → wI
namespace Go.Sx
open Go Go.RowKit Go.Proofs
set_option maxRecDepth 100000
set_option maxHeartbeats 40000000
attribute [local irreducible] aE bM ap aT aJ dF
theorem rz : BuildF Tryz.prog 206 [.bool false, .string ⟨#[]⟩, .bool false, .string ⟨#[]⟩, .bool false, .string ⟨#[]⟩, .bool false, .string ⟨#[]⟩, .bool false, .bool false] [(0, 9), (9, 1)] := BuildF.of Tryz.zeroValue206 rfl Tryz.runUnderlying206 (by intro w; simp [zz4, zz71])
theorem ry : BuildF Tryz.prog 321 [.bool false, .string ⟨#[]⟩, .bool false, .string ⟨#[]⟩, .bool false, .string ⟨#[]⟩, .bool false, .string ⟨#[]⟩, .bool false, .bool false, .int .i64 0, .int .i64 0] [(0, 10), (10, 2)] := BuildF.of Tryz.zeroValue321 rfl Tryz.runUnderlying321 (by intro w; simp [Tryz.sizeOf206, Tryz.sizeOf319])
theorem bld55 : BuildF Tryz.prog 55 [] [] := BuildF.of Tryz.zeroValue55 rfl Tryz.runUnderlying55 (by intro w; simp)
theorem lr : SlT Tryz.prog 66 71 9 104 [.bool false, .string ⟨#[]⟩, .bool false, .string ⟨#[]⟩, .bool false, .string ⟨#[]⟩, .bool false, .string ⟨#[]⟩, .bool false] := ⟨Tryz.underlying66, Tryz.t71, _, Tryz.type71, rfl, rfl, rfl, rfl, rfl, by decide, by decide⟩
def a8 (n : Int) : GR :=
 (bM n)
theorem eX (n : Int) (hn : -9223372036854775808 ≤ n ∧ n ≤ 9223372036854775807) (w0 : World)  : Calls Tryz.prog 122 #[(.int .i64 n)] w0 (RetP w0 (vR (a8 n)) (SzR 40 (a8 n))) := by
 refine enter (N := 5) (args := [(.int .i64 n)]) Tryz.func122 rfl rfl ?_; intro ac h
 have c1 := mS n 40 (by omega)  (by omega)
 have s1 := aF (c1 w0)
 refine ej fun K1 hK1 => ?_
 refine al h (cR (⟨oQ, oQ, false⟩ : GR)) vv71 rfl rfl fun b1 => gn hK1 <| gr fun K2 hK2 => g0 (ak rfl) rfl <| gc (bF Tryz.call86 rfl) (kk c1) rfl <| gs 0 (cR (bM n)) rfl zz71 rfl rfl rfl rfl rfl rfl rfl <| gn hK2 <| gT ?_; clear h ac; intro ac wo h
 exact ret h rfl (.cell (v := (vR (bM n))) rfl (i := 0) rfl aa71 zz71 rfl rfl rfl .nil) rfl (h.retP (by unfold a8; rfl) (by unfold a8; exact s1))
attribute [irreducible] a8
def ab (n : Int) (root : Bool) : GR :=
 bif root then
  (⟨(ap n), (ap 2), false⟩ : GR)
 else
  (a8 n)
theorem iu (n : Int) (root : Bool) (hn : -9223372036854775808 ≤ n ∧ n ≤ 9223372036854775807) (w0 : World)  : Calls Tryz.prog 112 #[(.int .i64 n), (.bool root)] w0 (RetP w0 (vR (ab n root)) (SzR 40 (ab n root))) := by
 refine enter (N := 12) (args := [(.int .i64 n), (.bool root)]) Tryz.func112 rfl rfl ?_; intro ac h
 refine ej fun K1 hK1 => ?_
 refine al h (cR (⟨oQ, oQ, false⟩ : GR)) vv71 rfl rfl fun b1 => gn hK1 <| gq fun K2 hK2 => gr fun K3 hK3 => g0 (ak rfl) rfl <| gn hK3 ?_; clear h ac; intro ac wo h
 refine dA h rfl (fun hc1 => ?_) (fun hc1 => ?_)
 ·
  have hq1 := hc1; try simp at hq1
  have c1 := bW n 40 (by omega)  (by omega)
  have s1 := aF (c1 w0)
  have c2 := bW 2 40 (by omega)  (by omega)
  have s2 := aF (c2 w0)
  refine gz h <| gr fun K4 hK4 => g0 (ak rfl) rfl <| gc (bF cc85 rfl) (kk c1) rfl <| gc (bF cc85 rfl) (kk c2) rfl <| g0 (cg bld71 rfl rfl (v := (vR (⟨(ap n), (ap 2), false⟩ : GR))) rfl) rfl <| gs 0 (cR (⟨(ap n), (ap 2), false⟩ : GR)) rfl zz71 rfl rfl rfl rfl rfl rfl rfl <| gn hK4 <| gT ?_; clear h ac wo; intro ac wo h
  have hd : ab n root = (⟨(ap n), (ap 2), false⟩ : GR) := (cT hc1)
  exact ret h rfl (.cell (v := (vR (⟨(ap n), (ap 2), false⟩ : GR))) rfl (i := 0) rfl aa71 zz71 rfl rfl rfl .nil) rfl (h.retP (by rw [hd] <;> rfl) (by rw [hd]; exact ⟨s1, s2⟩))
 ·
  have hq1 := hc1; try simp at hq1
  have c3 := eX n (by omega)
  have s3 := Calls.pr (c3 w0)
  refine gz h <| gS <| gx hK2 <| gr fun K5 hK5 => g0 (ak rfl) rfl <| gc (bF cc122 rfl) (kk c3) rfl <| gs 0 (cR (a8 n)) rfl zz71 rfl rfl rfl rfl rfl rfl rfl <| gn hK5 <| gT ?_; clear h ac wo; intro ac wo h
  have hd : ab n root = (a8 n) := (cF hc1)
  exact ret h rfl (.cell (v := (vR (a8 n))) rfl (i := 0) rfl aa71 zz71 rfl rfl rfl .nil) rfl (h.retP (by rw [hd] <;> rfl) (by rw [hd]; exact s3))
attribute [irreducible] ab
def a6 (a : Int) (b : Int) : Iv :=
 (⟨(a8 a), (a8 b), false, false⟩ : Iv)
theorem fy (a : Int) (b : Int) (ha : -9223372036854775808 ≤ a ∧ a ≤ 9223372036854775807) (hb : -9223372036854775808 ≤ b ∧ b ≤ 9223372036854775807) (w0 : World)  : Calls Tryz.prog 108 #[(.int .i64 a), (.int .i64 b)] w0 (RetP w0 (vV (a6 a b)) (SzV 40 (a6 a b))) := by
 refine enter (N := 10) (args := [(.int .i64 a), (.int .i64 b)]) Tryz.func108 rfl rfl ?_; intro ac h
 have c1 := eX a (by omega)
 have s1 := Calls.pr (c1 w0)
 have c2 := eX b (by omega)
 have s2 := Calls.pr (c2 w0)
 refine ej fun K1 hK1 => ?_
 refine al h (cV (⟨(⟨oQ, oQ, false⟩ : GR), (⟨oQ, oQ, false⟩ : GR), false, false⟩ : Iv)) Tryz.zeroValue86 rfl rfl fun b1 => gn hK1 <| gr fun K2 hK2 => g0 (ak rfl) rfl <| gc (bF cc122 rfl) (kk c1) rfl <| g0 (ak rfl) rfl <| gc (bF cc122 rfl) (kk c2) rfl <| g0 (cg pk rfl rfl (v := (vV (⟨(a8 a), (a8 b), false, false⟩ : Iv))) rfl) rfl <| gs 0 (cV (⟨(a8 a), (a8 b), false, false⟩ : Iv)) rfl Tryz.sizeOf86 rfl rfl rfl rfl rfl rfl rfl <| gn hK2 <| gT ?_; clear h ac; intro ac wo h
 exact ret h rfl (.cell (v := (vV (⟨(a8 a), (a8 b), false, false⟩ : Iv))) rfl (i := 0) rfl Tryz.isAgg86 Tryz.sizeOf86 rfl rfl rfl .nil) rfl (h.retP (by unfold a6; rfl) (by unfold a6; exact ⟨s1, s2⟩))
attribute [irreducible] a6
def ah (s : Stp) : Qd :=
 (⟨(ap (Int.tmod s.c0 4)), (ap (Int.tmod s.c1 3)), (ap (Int.tmod s.c2 2))⟩ : Qd)
theorem i4 (s : Stp) (w0 : World)  : Calls Tryz.prog 111 #[(vS s)] w0 (RetP w0 (vD (ah s)) (SzD 40 (ah s))) := by
 refine enter (N := 22) (args := [(vS s)]) Tryz.func111 rfl rfl ?_; intro ac h
 have t0 := qv s.c0 4 (by decide)
 have t1 := qv s.c1 3 (by decide)
 have t2 := qv s.c2 2 (by decide)
 refine ej fun K1 hK1 => ?_
 refine bx h (cS s) rfl rfl rfl fun b1 => ga (cD oD) Tryz.zeroValue53 rfl rfl fun b2 => gn hK1 <| gq fun K2 hK2 => ?_; clear h ac; intro ac wo h
 have c1 := bW (Int.tmod s.c0 4) 40 (by omega)  (by omega)
 have s1 := aF (c1 w0)
 have s2 := aF ((bW (Int.tmod s.c1 3) 40 (by omega)  (by omega)) w0)
 have s3 := aF ((bW (Int.tmod s.c2 2) 40 (by omega)  (by omega)) w0)
 refine cZ mixed [⟨.det (ptr b1 4), []⟩, ⟨.det (ptr b1 4), []⟩, ⟨.det (.int .i8 s.c0), [1]⟩, ⟨.det (.int .i8 (Int.tmod s.c0 4)), []⟩, ⟨.det (.int .i64 (Int.tmod s.c0 4)), []⟩, ⟨.det (vQ (ap (Int.tmod s.c0 4))), []⟩, ⟨.det (ptr b1 4), []⟩, ⟨.det (ptr b1 5), []⟩, ⟨.det (.int .i8 s.c1), [1]⟩, ⟨.det (.int .i8 (Int.tmod s.c1 3)), []⟩, ⟨.det (.int .i64 (Int.tmod s.c1 3)), []⟩, ⟨.det (vQ (ap (Int.tmod s.c1 3))), []⟩, ⟨.det (ptr b1 4), []⟩, ⟨.det (ptr b1 6), []⟩, ⟨.det (.int .i8 s.c2), [1]⟩, ⟨.det (.int .i8 (Int.tmod s.c2 2)), []⟩, ⟨.det (.int .i64 (Int.tmod s.c2 2)), []⟩, ⟨.det (vQ (ap (Int.tmod s.c2 2))), []⟩, ⟨.det (vD (⟨(ap (Int.tmod s.c0 4)), (ap (Int.tmod s.c1 3)), (ap (Int.tmod s.c2 2))⟩ : Qd)), []⟩, ⟨.det undef, [0]⟩] [⟨.blk b2 (cD oD) 53, [(19, .con (.blk b2 (cD (⟨(ap (Int.tmod s.c0 4)), (ap (Int.tmod s.c1 3)), (ap (Int.tmod s.c2 2))⟩ : Qd)) 53))]⟩, ⟨.blk b1 (cS s) 169, []⟩] h rfl (by kernel_rfl) ⟨?_, ?_, ?_, ?_, ?_, ?_, ?_, ?_, ?_, ?_, ?_, ?_, ?_, ?_, ?_, ?_, ?_, ?_, ?_, ?_, trivial⟩ ?_
 ·intro ξ hφ; exact aL (fa uu169 rfl zz167 rfl rfl rfl (k' := 4))
 ·intro ξ hφ; exact aL (kA (i := 0) uu167 zz166 rfl rfl (by decide))
 ·intro ξ hφ; exact cY [.blk b1 (cS s) 169] rfl rfl (ba aa166 zz166 rfl rfl rfl (v := (.int .i8 s.c0)) rfl)
 ·intro ξ hφ; exact aL (iW rfl rfl (r := (Int.tmod s.c0 4)) (by decide) rfl)
 ·intro ξ hφ; exact aL (bt uu166 uu3 rfl (r := (Int.tmod s.c0 4)) (by rw [wI]; omega))
 ·intro ξ hφ; exact d7 (dy (bF cc85 rfl) (kk c1))
 ·intro ξ hφ; exact aL (fa uu169 rfl zz167 rfl rfl rfl (k' := 4))
 ·intro ξ hφ; exact aL (kA (i := 1) uu167 zz166 rfl rfl (by decide))
 ·intro ξ hφ; exact cY [.blk b1 (cS s) 169] rfl rfl (ba aa166 zz166 rfl rfl rfl (v := (.int .i8 s.c1)) rfl)
 ·intro ξ hφ; exact aL (iW rfl rfl (r := (Int.tmod s.c1 3)) (by decide) rfl)
 ·intro ξ hφ; exact aL (bt uu166 uu3 rfl (r := (Int.tmod s.c1 3)) (by rw [wI]; omega))
 ·intro ξ hφ; exact d7 (dy (bF cc85 rfl) (kk (bW (Int.tmod s.c1 3) 40 (by omega)  (by omega))))
 ·intro ξ hφ; exact aL (fa uu169 rfl zz167 rfl rfl rfl (k' := 4))
 ·intro ξ hφ; exact aL (kA (i := 2) uu167 zz166 rfl rfl (by decide))
 ·intro ξ hφ; exact cY [.blk b1 (cS s) 169] rfl rfl (ba aa166 zz166 rfl rfl rfl (v := (.int .i8 s.c2)) rfl)
 ·intro ξ hφ; exact aL (iW rfl rfl (r := (Int.tmod s.c2 2)) (by decide) rfl)
 ·intro ξ hφ; exact aL (bt uu166 uu3 rfl (r := (Int.tmod s.c2 2)) (by rw [wI]; omega))
 ·intro ξ hφ; exact d7 (dy (bF cc85 rfl) (kk (bW (Int.tmod s.c2 2) 40 (by omega)  (by omega))))
 ·intro ξ hφ; exact aL (cg um rfl rfl (v := (vD (⟨(ap (Int.tmod s.c0 4)), (ap (Int.tmod s.c1 3)), (ap (Int.tmod s.c2 2))⟩ : Qd))) rfl)
 ·intro ξ hφ; exact gF [.blk b2 (cD oD) 53] [.blk b2 (cD (⟨(ap (Int.tmod s.c0 4)), (ap (Int.tmod s.c1 3)), (ap (Int.tmod s.c2 2))⟩ : Qd)) 53] rfl rfl (gW Tryz.sizeOf53 rfl rfl rfl rfl rfl rfl rfl)
 clear h ac wo; intro ξ ac wo hφ h
 replace h : St w0 22 [(2, (ptr b2 0))] [.blk b2 (cD (⟨(ap (Int.tmod s.c0 4)), (ap (Int.tmod s.c1 3)), (ap (Int.tmod s.c2 2))⟩ : Qd)) 53, .blk b1 (cS s) 169] ac wo := (h.pick [0, 1] (by decide)).sub ⟨rfl, trivial⟩
 clear hφ ξ
 refine hK2 _ _ ?_
 refine gu ?_
 exact ret h rfl (.cell (v := (vD (⟨(ap (Int.tmod s.c0 4)), (ap (Int.tmod s.c1 3)), (ap (Int.tmod s.c2 2))⟩ : Qd))) rfl (i := 0) rfl Tryz.isAgg53 Tryz.sizeOf53 rfl rfl rfl .nil) rfl (h.retP (by unfold ah; rfl) (by unfold ah; exact ⟨s1, s2, s3⟩))
attribute [irreducible] ah
def aW (iv : Iv) (a : GR) (b : GR) (gap : Bool) : Bool :=
 bif gap then
  ((decide ((aE iv.lo a) ≤ 0)) && (decide ((aE b iv.hi) ≤ 0)))
 else
  (((decide ((aE iv.lo a) < 0)) || (((aE iv.lo a) == 0) && (!iv.openLo))) && ((decide ((aE b iv.hi) < 0)) || (((aE b iv.hi) == 0) && (!iv.openHi))))
theorem kt (iv : Iv) (a : GR) (b : GR) (gap : Bool) (ziv : SzV 30 iv) (za : SzR 30 a) (zb : SzR 30 b) (w0 : World)  : Calls Tryz.prog 124 #[(vV iv), (vR a), (vR b), (.bool gap)] w0 (RetP w0 (.bool (aW iv a b gap)) (True)) := by
 refine enter (N := 50) (args := [(vV iv), (vR a), (vR b), (.bool gap)]) Tryz.func124 rfl rfl ?_; intro ac h
 have p2 := aF ((bQ iv.lo a 10 (by omega) ziv.1 za) w0)
 have p4 := aF ((bQ b iv.hi 10 (by omega) zb ziv.2) w0)
 refine ej fun K1 hK1 => ?_
 refine bx h (cV iv) rfl rfl rfl fun b1 => gb (cR a) rfl rfl rfl fun b2 => gb (cR b) rfl rfl rfl fun b3 => g0 (aj rfl) rfl <| gn hK1 <| gq fun K2 hK2 => ?_; clear h ac; intro ac wo h
 refine cZ mixed [dv _, dw _ [2], dw _ [1], dv _, dw _ [0], dv _, dw _ [2], dv _, dv _, dv _] [⟨_, []⟩, ⟨_, []⟩, ⟨_, []⟩] h rfl (by kernel_rfl) ⟨fun _ _ => aL (fa uu86 rfl zz71 rfl rfl rfl (k' := 0)), fun _ _ => cY _ rfl rfl (ba aa71 zz71 rfl rfl rfl (v := (vR iv.lo)) rfl), fun _ _ => cY _ rfl rfl (ba aa71 zz71 rfl rfl rfl (v := (vR a)) rfl), fun _ _ => d7 (dy (bF cc127 rfl) (kk (bQ iv.lo a 10 (by omega) ziv.1 za))), fun _ _ => cY _ rfl rfl (ba aa71 zz71 rfl rfl rfl (v := (vR b)) rfl), fun _ _ => aL (fa uu86 rfl zz71 rfl rfl rfl (k' := 9)), fun _ _ => cY _ rfl rfl (ba aa71 zz71 rfl rfl rfl (v := (vR iv.hi)) rfl), fun _ _ => d7 (dy (bF cc127 rfl) (kk (bQ b iv.hi 10 (by omega) zb ziv.2))), fun _ _ => aL (aj rfl), fun _ _ => aL (aj rfl), trivial⟩ ?_
 clear h ac wo; intro ξ ac wo hφ h
 replace h : St w0 50 [(3, (.bool gap)), (4, (ptr b1 0)), (9, (.int .i64 (aE iv.lo a))), (10, (.int .i64 (aE b iv.hi)))] [.blk b3 (cR b) 71, .blk b2 (cR a) 71, .blk b1 (cV iv) 86] ac wo := (h.pick [0, 1, 2] (by decide)).sub ⟨rfl, rfl, rfl, rfl, trivial⟩
 clear hφ ξ
 refine gz h <| gx hK2 <| gq fun K3 hK3 => gr fun K4 hK4 => g0 (ak rfl) rfl <| gn hK4 ?_; clear h ac wo; intro ac wo h
 refine dA h rfl (fun hc1 => ?_) (fun hc1 => ?_)
 ·
  have hq1 := hc1; try simp at hq1
  refine gz h <| gr fun K5 hK5 => g0 (ak rfl) rfl <| g0 (pK rfl rfl) rfl <| g0 (ak rfl) rfl <| ge1 rfl rfl (fun hg => (Rd.of_nil (ak rfl)).step) rfl <| ge1 rfl rfl (fun hg => (Rd.of_nil (pK (aN rfl hg) rfl)).step) rfl <| g0 (fw rfl (fun e => (aN rfl e))) rfl <| g0 (aj rfl) rfl <| gn hK5 <| gT ?_; clear h ac wo; intro ac wo h
  have hd : aW iv a b gap = ((decide ((aE iv.lo a) ≤ 0)) && (decide ((aE b iv.hi) ≤ 0))) := (cT hc1)
  exact ret h rfl (.tmp rfl .nil) rfl (h.retP (by rw [hd] <;> rfl) trivial)
 ·
  have hq1 := hc1; try simp at hq1
  refine gz h <| gS <| gx hK3 <| gr fun K6 hK6 => g0 (ak rfl) rfl <| g0 (d5 rfl rfl) rfl <| g0 (ak rfl) rfl <| ge2 rfl rfl (fun hg => (Rd.of_nil (ak rfl)).step) rfl <| ge2 rfl rfl (fun hg => (Rd.of_nil (fV (aN rfl hg) rfl)).step) rfl <| ge2 rfl rfl (fun hg => (Rd.of_nil (ak (aN rfl hg))).step) rfl <| ge3 rfl rfl (fun hg => (Rd.of_nil (fa uu86 rfl zz4 rfl rfl rfl (k' := 18))).step) rfl <| ge3 rfl rfl (fun hg => (Rd.of_mem (i := 2) (ba aa4 zz4 (aN rfl hg) rfl rfl (v := (.bool iv.openLo)) rfl) rfl).step) rfl <| ge3 rfl rfl (fun hg => (Rd.of_nil (gG (aN rfl hg))).step) rfl <| ge2 rfl rfl (fun hg => (Rd.of_nil (fw (aN rfl hg) (fun e => (aN rfl (andI hg e))))).step) rfl <| g0 (nU rfl (fun e => (aN rfl (n7 e)))) rfl <| g0 (ak rfl) rfl <| ge1 rfl rfl (fun hg => (Rd.of_nil (ak rfl)).step) rfl <| ge1 rfl rfl (fun hg => (Rd.of_nil (d5 (aN rfl hg) rfl)).step) rfl <| ge1 rfl rfl (fun hg => (Rd.of_nil (ak (aN rfl hg))).step) rfl <| ge4 rfl rfl (fun hg => (Rd.of_nil (ak rfl)).step) rfl <| ge4 rfl rfl (fun hg => (Rd.of_nil (fV (aN rfl hg) rfl)).step) rfl <| ge4 rfl rfl (fun hg => (Rd.of_nil (ak (aN rfl hg))).step) rfl <| ge3 rfl rfl (fun hg => (Rd.of_nil (fa uu86 rfl zz4 rfl rfl rfl (k' := 19))).step) rfl <| ge3 rfl rfl (fun hg => (Rd.of_mem (i := 2) (ba aa4 zz4 (aN rfl hg) rfl rfl (v := (.bool iv.openHi)) rfl) rfl).step) rfl <| ge3 rfl rfl (fun hg => (Rd.of_nil (gG (aN rfl hg))).step) rfl <| ge4 rfl rfl (fun hg => (Rd.of_nil (fw (aN rfl hg) (fun e => (aN rfl (andI hg e))))).step) rfl <| ge1 rfl rfl (fun hg => (Rd.of_nil (nU (aN rfl hg) (fun e => (aN rfl (andI hg (n7 e)))))).step) rfl <| g0 (fw rfl (fun e => (aN rfl e))) rfl <| g0 (aj rfl) rfl <| gn hK6 ?_; clear h ac wo; intro ac wo h
  replace h := h.sub (F' := [(8, (.bool (((decide ((aE iv.lo a) < 0)) || (((aE iv.lo a) == 0) && (!iv.openLo))) && ((decide ((aE b iv.hi) < 0)) || (((aE b iv.hi) == 0) && (!iv.openHi))))))]) ⟨rfl, trivial⟩
  refine gu ?_
  have hd : aW iv a b gap = (((decide ((aE iv.lo a) < 0)) || (((aE iv.lo a) == 0) && (!iv.openLo))) && ((decide ((aE b iv.hi) < 0)) || (((aE b iv.hi) == 0) && (!iv.openHi)))) := (cF hc1)
  exact ret h rfl (.tmp rfl .nil) rfl (h.retP (by rw [hd] <;> rfl) trivial)
attribute [irreducible] aW
def iN (l : List GR) (x : GR) (i : Nat) : (List GR) :=
 (l ++ [x])
def bZ (l : List GR) (x : GR) (i : Nat) : Nx Nat (List GR) :=
 bif (decide (((i : Nat) : Int) < ((l.length : Nat) : Int))) then
  bif ((aE x (gt l i)) == 0) then
   .ret l
  else
   bif ((aE x (gt l i)) == (-1)) then
    .ret ((([] ++ (l.take i)) ++ [x]) ++ (l.drop i))
   else
    .go (i + 1)
 else
  .out i
def aA (l : List GR) (x : GR) : (List GR) :=
 fin (bR (fun s => bZ l x s) ((l.length - 0) + 1) 0) (fun s => iN l x s) (fun r => r)
theorem iM (l : List GR) (lv : Value) (x : GR) (hl : l.length ≤ 1000) (zl : All (SzR 30) l) (zx : SzR 30 x) (w0 w : World) (B : Asn) (hbel : Below w0.heap.size w0 w) (hsep : ∃ Z_, Sep w0.heap.size w [.row (α := GR) 71 lv l, B] Z_)  : Calls Tryz.prog 156 #[lv, (vR x)] w (RetY w0 (fun v => All (SzR 30) (aA l x) ∧ (aA l x).length ≤ l.length + 1) (fun v => [.row (α := GR) 71 v (aA l x), B])) := by
 refine ld (N := 39) (args := [lv, (vR x)]) Tryz.func156 rfl rfl hbel hsep ?_; intro ac h
 have hlenl := h.len 0 rfl
 refine ej fun K1 hK1 => ?_
 refine bx h (cR x) rfl rfl rfl fun b1 => g0 (aj rfl) rfl <| gn hK1 <| gq fun K2 hK2 => gr fun K3 hK3 => g0 (aj rfl) rfl <| gn hK3 <| gB ?_; clear h ac; intro ac wo h
 obtain ⟨X1, hX1⟩ : ∃ X, bR (fun s => bZ l x s) ((l.length - 0) + 1) 0 = X := ⟨_, rfl⟩
 refine wp_loop_ghost (fun n_ a_ w_ => ∃ (i : Nat), ((l.length - i) < n_) ∧ (bR (fun s => bZ l x s) n_ i = X1) ∧ (i ≤ l.length) ∧ St w0 39 [(0, lv), (3, (ptr b1 0)), (5, (.int .i64 ((i : Nat) : Int)))] [.blk b1 (cR x) 71, .row (α := GR) 71 lv l, B] a_ w_) ((l.length - 0) + 1) ⟨0, (by omega), hX1, (by omega), (h.sub ⟨rfl, rfl, rfl, trivial⟩)⟩ ?_
 clear h ac wo; rintro n1 ac wo ⟨i, hm1, hL1, hi, h⟩
 obtain ⟨m1, rfl⟩ : ∃ m, n1 = m + 1 := ⟨n1 - 1, by omega⟩
 refine gz h <| gq fun K4 hK4 => gr fun K5 hK5 => g0 (ak rfl) rfl <| g0 (ak rfl) rfl ?_; clear h ac wo; intro ac wo h
 refine rd0 h (et uu66 rfl (h.row_sl 1 rfl)) rfl <| g0 (d5 rfl rfl) rfl <| gn hK5 ?_; clear h ac wo; intro ac wo h
 refine dA h rfl (fun hc1 => ?_) (fun hc1 => ?_)
 ·
  have hd1 := of_decide_eq_true hc1
  refine eL ?_
  refine hK4 _ _ ?_
  refine dV fun K6 hK6 => ?_
  refine gg ?_
  refine dV fun K7 hK7 => ?_
  have p2 := aF ((bQ x (gt l i) 10 (by omega) zx (All.gt zl (mg _))) w0)
  refine cZ mixed [dw _ [0], dv _, dv _, dv _, dw _ [1], dv _] [⟨_, []⟩, ⟨_, []⟩, ⟨_, []⟩] h rfl (by kernel_rfl) ⟨fun _ _ => cY _ rfl rfl (ba aa71 zz71 rfl rfl rfl (v := (vR x)) rfl), fun _ _ => om rfl, fun _ _ => om rfl, fun _ _ => aL (eC (i := i) uu66 zz71 rfl rfl (h.row_nn 1 rfl (by omega)) (by omega)), fun _ _ => cY _ rfl rfl (dX (k := 0) aa71 zz71 (cK (by omega)) rfl (Nat.add_zero _) rfl rfl (v := (vR (gt l i))) rfl), fun _ _ => d7 (dy (bF cc127 rfl) (kk (bQ x (gt l i) 10 (by omega) zx (All.gt zl (mg _))))), trivial⟩ ?_
  clear h ac wo; intro ξ ac wo hφ h
  replace h : St w0 39 [(0, lv), (3, (ptr b1 0)), (5, (.int .i64 ((i : Nat) : Int))), (17, (.int .i64 (aE x (gt l i))))] [.blk b1 (cR x) 71, .row (α := GR) 71 lv l, B] ac wo := (h.pick [0, 1, 2] (by decide)).sub ⟨rfl, rfl, rfl, rfl, trivial⟩
  clear hφ ξ
  refine gz h <| gx hK7 <| gB <| gr fun K8 hK8 => g0 (fV rfl rfl) rfl <| g0 (aj rfl) rfl <| gn hK8 ?_; clear h ac wo; intro ac wo h
  refine dA h rfl (fun hc2 => ?_) (fun hc2 => ?_)
  ·
   have hd2 := eq_of_beq hc2
   refine gz h <| gr fun K9 hK9 => g0 (ak rfl) rfl <| g0 (aj rfl) rfl <| gn hK9 <| gT ?_; clear h ac wo; intro ac wo h
   have hr1 := gj hL1 (show bZ l x i = .ret l from (Eq.trans (cT hc1) (cT hc2)))
   have hd : aA l x = l := (kq (hX1.trans hr1))
   exact ret h rfl (.tmp rfl .nil) rfl ((h.pick [1, 2] (by decide)).retY (by rw [hd]; exact ⟨zl, (by omega)⟩) (by rw [hd]; rfl))
  ·
   have hd2 := ne_of_beq_false hc2
   refine gz h <| gr fun K10 hK10 => g0 (fV rfl rfl) rfl <| g0 (aj rfl) rfl <| gn hK10 ?_; clear h ac wo; intro ac wo h
   refine dA h rfl (fun hc3 => ?_) (fun hc3 => ?_)
   ·
    have hd3 := eq_of_beq hc3
    refine dV fun K11 hK11 => ?_
    replace h := h.emps 2
    refine cZ mixed [⟨.nd (.one 0 fun v => NN v 0), [3]⟩, dv _, dv _, dv _, ⟨.nd (.con True), [3, 1]⟩, dw _ [0], ⟨.nd (.one 6 fun v => NN v 1), [4]⟩, ⟨.nd (.con True), [3, 4]⟩, dv _, dv _, dv _, ⟨.nd (.con True), [3, 1]⟩, ⟨.nd (.two 12 11 fun a b => a = b), []⟩] [⟨_, []⟩, ⟨_, []⟩, ⟨_, []⟩, ⟨.emp, [(0, .one 0 fun v => .row (α := GR) 71 v ([])), (4, .one 4 fun v => .row (α := GR) 71 v ([] ++ (l.take i))), (7, .one 7 fun v => .row (α := GR) 71 v (([] ++ (l.take i)) ++ [x])), (11, .one 11 fun v => .row (α := GR) 71 v ((([] ++ (l.take i)) ++ [x]) ++ (l.drop i)))]⟩, ⟨.emp, [(6, .one 6 fun v => .row (α := GR) 71 v ([x]))]⟩] h rfl (by kernel_rfl) ⟨fun _ _ => k7 (ψ := fun v => NN v 0) (B := fun v => [.row (α := GR) 71 v ([])]) [.emp] rfl (fun v _ => by simp only [fc, bE] <;> rfl) (fun v hv => by simpa [DF.one, bE] using hv) (iQ (dq (α := GR) (xs := []) (vs := []) [] lr rfl rfl rfl (by decide))), fun _ _ => om rfl, fun _ _ => om rfl, fun _ _ => aL (r_cut (n := i) uu66 zz71 rfl rfl (h.row_view 1 rfl) (by first | omega | grind)), fun ξ hφ => k7 (B := fun v => [.row (α := GR) 71 v ([] ++ (l.take i)), .row (α := GR) 71 lv l]) [.row (α := GR) 71 (ξ 0) ([]), .row (α := GR) 71 lv l] rfl (fun v _ => by simp only [fc, bE] <;> rfl) (fun _ _ => trivial) (fl (xs := []) (ys := (l.take i)) lr (fun w hs => ((row_view hs 0 rfl).cut (by first | omega | grind))) rfl rfl (by first | omega | grind)), fun _ _ => cY _ rfl rfl (ba aa71 zz71 rfl rfl rfl (v := (vR x)) rfl), fun _ _ => k7 (ψ := fun v => NN v 1) (B := fun v => [.row (α := GR) 71 v ([x])]) [.emp] rfl (fun v _ => by simp only [fc, bE] <;> rfl) (fun v hv => by simpa [DF.one, bE] using hv) (iQ (dq (α := GR) (xs := [.tmp 28]) (vs := [(vR x)]) [x] lr rfl rfl rfl (by decide))), fun ξ hφ => k7 (B := fun v => [.row (α := GR) 71 v (([] ++ (l.take i)) ++ [x]), .row (α := GR) 71 (ξ 6) ([x])]) [.row (α := GR) 71 (ξ 4) ([] ++ (l.take i)), .row (α := GR) 71 (ξ 6) ([x])] rfl (fun v _ => by simp only [fc, bE] <;> rfl) (fun _ _ => trivial) (fl (xs := ([] ++ (l.take i))) (ys := [x]) lr (fun w hs => (row_view hs 0 rfl)) rfl rfl (by first | omega | grind)), fun _ _ => om rfl, fun _ _ => om rfl, fun _ _ => aL (sS (n := i) uu66 zz71 rfl rfl (h.row_view 1 rfl) (by first | omega | grind)), fun ξ hφ => k7 (B := fun v => [.row (α := GR) 71 v ((([] ++ (l.take i)) ++ [x]) ++ (l.drop i)), .row (α := GR) 71 lv l]) [.row (α := GR) 71 (ξ 7) (([] ++ (l.take i)) ++ [x]), .row (α := GR) 71 lv l] rfl (fun v _ => by simp only [fc, bE] <;> rfl) (fun _ _ => trivial) (fl (xs := (([] ++ (l.take i)) ++ [x])) (ys := (l.drop i)) lr (fun w hs => ((row_view hs 0 rfl).dropv (by first | omega | grind))) rfl rfl (by first | omega | grind)), fun ξ hφ => ob_n (φ := .two 12 11 fun a b => a = b) (v := ξ 11) [] rfl rfl (by show upd ξ 12 (ξ 11) 12 = upd ξ 12 (ξ 11) 11; rw [bE, lm (by decide)]) (aj rfl), trivial⟩ ?_
    clear h ac wo; intro ξ ac wo hφ h
    replace h : St w0 39 [(4, ξ 12)] [.blk b1 (cR x) 71, .row (α := GR) 71 lv l, B, .row (α := GR) 71 (ξ 11) ((([] ++ (l.take i)) ++ [x]) ++ (l.drop i))] ac wo := (h.pick [0, 1, 2, 3] (by decide)).sub ⟨rfl, trivial⟩
    rw [show ξ 12 = ξ 11 from hφ 12] at h
    generalize hsv11 : ξ 11 = sv3 at h; clear hsv11
    clear hφ ξ
    refine hK11 _ _ ?_
    refine gu ?_
    have hr1 := gj hL1 (show bZ l x i = .ret ((([] ++ (l.take i)) ++ [x]) ++ (l.drop i)) from (Eq.trans (cT hc1) (Eq.trans (cF hc2) (cT hc3))))
    have hd : aA l x = ((([] ++ (l.take i)) ++ [x]) ++ (l.drop i)) := (kq (hX1.trans hr1))
    exact ret h rfl (.tmp rfl .nil) rfl ((h.pick [3, 2] (by decide)).retY (by rw [hd]; exact ⟨(All.app (All.app (All.app All.nil (All.take zl)) (All.cons zx All.nil)) (All.drop zl)), (by first | omega | grind)⟩) (by rw [hd]; rfl))
   ·
    have hd3 := ne_of_beq_false hc3
    refine gz h <| gS <| gN <| gN <| gx hK6 <| gR <| g0 (ak rfl) rfl <| g0 (ch rfl rfl (r := ((i + 1 : Nat) : Int)) (by rw [wI]; omega)) rfl <| g0 (aj rfl) rfl <| gx (fun _ _ => bV) ?_; clear h ac wo; intro ac wo h
    exact aU ⟨m1, (by omega), _, (by omega), co hL1 (show bZ l x i = .go _ from (Eq.trans (cT hc1) (Eq.trans (cF hc2) (cF hc3)))), (by omega), (h.pick [0, 1, 2] (by decide)).sub ⟨rfl, rfl, rfl, trivial⟩⟩
 ·
  have hd1 := of_decide_eq_false hc1
  refine ep ?_
  have hx1 := dU hL1 (show bZ l x i = .out i from (cF hc1))
  refine gz h <| gx hK2 <| gr fun K12 hK12 => g0 (ak rfl) rfl <| g1 0 rfl (ba aa71 zz71 rfl rfl rfl (v := (vR x)) rfl) rfl ?_; clear h ac wo; intro ac wo h
  refine nw h (dq (α := GR) (xs := [.tmp 36]) (vs := [(vR x)]) [x] lr rfl rfl rfl (by decide)) rfl ?_; clear h ac wo; intro sv4 ac wo nnsv4 h
  refine on2 h 2 0 rfl rfl (fl (xs := l) (ys := [x]) lr (fun w hs => (row_view hs 0 rfl)) rfl rfl (by first | omega | grind)) rfl ?_; clear h ac wo; intro sv5 ac wo apsv5 h
  refine rd0 h (aj rfl) rfl <| gn hK12 <| gT ?_; clear h ac wo; intro ac wo h
  have hd : aA l x = (l ++ [x]) := (eV (hX1.trans hx1))
  exact ret h rfl (.tmp rfl .nil) rfl ((h.pick [0, 3] (by decide)).retY (by rw [hd]; exact ⟨(All.app zl (All.cons zx All.nil)), (by first | omega | grind)⟩) (by rw [hd]; rfl))
attribute [irreducible] aA
end Go.Sx
namespace Go.Sx
open Go Go.RowKit Go.Proofs
set_option maxRecDepth 100000
set_option maxHeartbeats 40000000
attribute [local irreducible] aE bM ap aT aJ dF
def t8 (x : List Int) (x8 : Nat) : Int :=
 0
def io (x : List Int) (x8 : Nat) : Nx Nat Int :=
 bif (decide (((x8 : Nat) : Int) < ((x.length : Nat) : Int))) then
  bif ((gt x x8) != 0) then
   .ret (gt x x8)
  else
   .go (x8 + 1)
 else
  .out x8
def lO (x : List Int) : Int :=
 fin (bR (fun s => io x s) ((x.length - 0) + 1) 0) (fun s => t8 x s) (fun r => r)
theorem t7 (x : List Int) (xv : Value) (w0 : World) (hxv : View w0 xv x) : Calls Tryz.prog 227 #[xv] w0 (RetP w0 (.int .i64 (lO x)) (True)) := by
 refine enter (N := 18) (args := [xv]) Tryz.func227 rfl rfl ?_; intro ac h
 have hlenx := hxv.len
 refine ej fun K1 hK1 => ?_
 refine rd0 h (aj rfl) rfl <| gn hK1 <| gr fun K2 hK2 => g0 (aj rfl) rfl <| gn hK2 <| gq fun K3 hK3 => gr fun K4 hK4 => g0 (ak rfl) rfl <| g0 (et uu358 rfl hxv.sl) rfl <| g0 (ak rfl) rfl <| gn hK4 <| gB ?_; clear h ac; intro ac wo h
 obtain ⟨X1, hX1⟩ : ∃ X, bR (fun s => io x s) ((x.length - 0) + 1) 0 = X := ⟨_, rfl⟩
 refine wp_loop_ghost (fun n_ a_ w_ => ∃ (x8 : Nat), ((x.length - x8) < n_) ∧ (bR (fun s => io x s) n_ x8 = X1) ∧ (x8 ≤ x.length) ∧ St w0 18 [(3, (.int .i64 0)), (6, xv), (7, (.int .i64 ((x.length : Nat) : Int))), (8, (.int .i64 ((x8 : Nat) : Int)))] [] a_ w_) ((x.length - 0) + 1) ⟨0, (by omega), hX1, (by first | omega | grind), (h.sub ⟨rfl, rfl, rfl, rfl, trivial⟩)⟩ ?_
 clear h ac wo; rintro n1 ac wo ⟨x8, hm1, hL1, hx8, h⟩
 obtain ⟨m1, rfl⟩ : ∃ m, n1 = m + 1 := ⟨n1 - 1, by omega⟩
 refine gz h <| gr fun K5 hK5 => g0 (d5 rfl rfl) rfl <| gn hK5 <| gq fun K6 hK6 => ?_; clear h ac wo; intro ac wo h
 refine dA h rfl (fun hc1 => ?_) (fun hc1 => ?_)
 ·
  have hd1 := of_decide_eq_true hc1
  refine gz h <| gS <| gx hK6 <| gq fun K7 hK7 => gB <| gr fun K8 hK8 => g0 (eC (i := x8) uu358 zz3 rfl rfl (hxv.nn (i := x8) (by first | omega | grind)) (by first | omega | grind)) rfl <| g0 (iR (k := 0) Tryz.isAgg3 zz3 hxv (cK (by first | omega | grind)) rfl (Nat.add_zero _) rfl rfl (v := (.int .i64 (gt x x8))) rfl) rfl <| g0 (aj rfl) rfl <| gn hK8 <| gr fun K9 hK9 => g0 (ak rfl) rfl <| g0 (ak rfl) rfl <| g0 (jB rfl rfl) rfl <| gn hK9 ?_; clear h ac wo; intro ac wo h
  refine dA h rfl (fun hc2 => ?_) (fun hc2 => ?_)
  ·
   have hq2 := hc2; try simp at hq2
   refine gz h <| gr fun K10 hK10 => g0 (ak rfl) rfl <| g0 (aj rfl) rfl <| gn hK10 <| gT ?_; clear h ac wo; intro ac wo h
   have hr1 := gj hL1 (show io x x8 = .ret (gt x x8) from (Eq.trans (cT hc1) (cT hc2)))
   have hd : lO x = (gt x x8) := (kq (hX1.trans hr1))
   exact ret h rfl (.tmp rfl .nil) rfl (h.retP (by rw [hd] <;> rfl) trivial)
  ·
   have hq2 := hc2; try simp at hq2
   refine gz h <| gS <| gN <| gx hK7 <| gR <| g0 (ch rfl rfl (r := ((x8 + 1 : Nat) : Int)) (by rw [wI]; first | omega | grind)) rfl <| g0 (ak rfl) rfl <| gx (fun _ _ => bV) ?_; clear h ac wo; intro ac wo h
   exact aU ⟨m1, (by omega), _, (by first | omega | grind), co hL1 (show io x x8 = .go _ from (Eq.trans (cT hc1) (cF hc2))), (by first | omega | grind), (h.pick [] (by decide)).sub ⟨rfl, rfl, rfl, rfl, trivial⟩⟩
 ·
  have hd1 := of_decide_eq_false hc1
  refine ep ?_
  have hx1 := dU hL1 (show io x x8 = .out x8 from (cF hc1))
  refine gz h <| gx hK3 <| gr fun K11 hK11 => g0 (ak rfl) rfl <| g0 (aj rfl) rfl <| gn hK11 <| gT ?_; clear h ac wo; intro ac wo h
  have hd : lO x = 0 := (eV (hX1.trans hx1))
  exact ret h rfl (.tmp rfl .nil) rfl (h.retP (by rw [hd] <;> rfl) trivial)
attribute [irreducible] lO
end Go.Sx
