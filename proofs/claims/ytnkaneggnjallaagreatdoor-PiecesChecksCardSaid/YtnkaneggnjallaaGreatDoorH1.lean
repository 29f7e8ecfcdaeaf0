/- A part of the proof that the law PiecesChecks answers true at every input and leaves its arguments as they were. -/
import Derived.Test.YtnkaneggnjallaaGreatDoorGarith
set_option linter.unusedVariables false
set_option linter.unusedSimpArgs false
open Go.Proofs.Tryz renaming sizeOf4 → zz4, sizeOf53 → zz53, sizeOf69 → zz69, zeroValue53 → vv53, isAgg53 → aa53, call45 → cc45, call95 → cc95, runUnderlying66 → uu66, sizeOf64 → zz64, runUnderlying64 → uu64, sizeOf63 → zz63, isAgg63 → aa63, runUnderlying63 → uu63, runUnderlying3 → uu3, runUnderlying55 → uu55, call115 → cc115, isAgg4 → aa4, runUnderlying112 → uu112, underlying4 → nn4
namespace Go.Sx
open Go Go.RowKit Go.Proofs
set_option maxRecDepth 100000
set_option maxHeartbeats 40000000
attribute [local irreducible] aA bT ak aH bJ aP aF aE cO bm aw
theorem qY : BuildF Tryz.prog 232 [.bool false, .string ⟨#[]⟩, .bool false, .string ⟨#[]⟩, .bool false, .string ⟨#[]⟩, .bool false, .string ⟨#[]⟩, .bool false, .bool false, .string ⟨#[]⟩, .bool false, .string ⟨#[]⟩, .bool false, .string ⟨#[]⟩, .bool false, .string ⟨#[]⟩, .bool false, .bool false, .bool false, .bool false, .string ⟨#[]⟩, .bool false, .string ⟨#[]⟩, .bool false, .string ⟨#[]⟩, .bool false, .string ⟨#[]⟩, .bool false, .string ⟨#[]⟩, .bool false, .string ⟨#[]⟩] [(0, 9), (9, 9), (18, 1), (19, 1), (20, 12)] := BuildF.of Tryz.zeroValue232 rfl Tryz.runUnderlying232 (by intro w; simp [zz4, zz53, zz69])
theorem jQ : BuildF Tryz.prog 73 [] [] := BuildF.of Tryz.zeroValue73 rfl Tryz.runUnderlying73 (by intro w; simp)
theorem kJ : SlT Tryz.prog 112 53 9 104 [.bool false, .string ⟨#[]⟩, .bool false, .string ⟨#[]⟩, .bool false, .string ⟨#[]⟩, .bool false, .string ⟨#[]⟩, .bool false] := ⟨Tryz.underlying112, Tryz.t53, _, Tryz.type53, rfl, rfl, rfl, rfl, rfl, by decide, by decide⟩
def bq (n : Int) : GR :=
 (bT n)
theorem eR (n : Int) (hn : -9223372036854775808 ≤ n ∧ n ≤ 9223372036854775807) (w0 : World)  : Calls Tryz.prog 95 #[(.int .i64 n)] w0 (dZ w0 (vR (bq n)) (SzR 40 (bq n))) := by
 refine enter (N := 5) (args := [(.int .i64 n)]) Tryz.func95 rfl rfl ?_; intro ac h
 have c1 := kO n 40 (by omega)  (by omega)
 have s1 := az (c1 w0)
 refine dL fun K1 hK1 => ?_
 refine al h (cR (⟨oQ, oQ, false⟩ : GR)) vv53 rfl rfl fun b1 => gn hK1 <| gr fun K2 hK2 => g0 (ah rfl) rfl <| gc (bK Tryz.call156 rfl) (kk c1) rfl <| gs 0 (cR (bT n)) rfl zz53 rfl rfl rfl rfl rfl rfl rfl <| gn hK2 <| gT ?_; clear h ac; intro ac wo h
 exact ret h rfl (.cell (v := (vR (bT n))) rfl (i := 0) rfl aa53 zz53 rfl rfl rfl .nil) rfl (h.retP (by unfold bq; rfl) (by unfold bq; exact s1))
attribute [irreducible] bq
def af (n : Int) (root : Bool) : GR :=
 bif root then
  (⟨(ak n), (ak 2), false⟩ : GR)
 else
  (bq n)
theorem fB (n : Int) (root : Bool) (hn : -9223372036854775808 ≤ n ∧ n ≤ 9223372036854775807) (w0 : World)  : Calls Tryz.prog 28 #[(.int .i64 n), (.bool root)] w0 (dZ w0 (vR (af n root)) (SzR 40 (af n root))) := by
 refine enter (N := 12) (args := [(.int .i64 n), (.bool root)]) Tryz.func28 rfl rfl ?_; intro ac h
 refine dL fun K1 hK1 => ?_
 refine al h (cR (⟨oQ, oQ, false⟩ : GR)) vv53 rfl rfl fun b1 => gn hK1 <| gq fun K2 hK2 => gr fun K3 hK3 => g0 (ah rfl) rfl <| gn hK3 ?_; clear h ac; intro ac wo h
 refine cr h rfl (fun hc1 => ?_) (fun hc1 => ?_)
 ·
  have hq1 := hc1; try simp at hq1
  have c1 := bo n 40 (by omega)  (by omega)
  have s1 := az (c1 w0)
  have c2 := bo 2 40 (by omega)  (by omega)
  have s2 := az (c2 w0)
  refine gz h <| gr fun K4 hK4 => g0 (ah rfl) rfl <| gc (bK cc45 rfl) (kk c1) rfl <| gc (bK cc45 rfl) (kk c2) rfl <| g0 (bp bld53 rfl rfl (v := (vR (⟨(ak n), (ak 2), false⟩ : GR))) rfl) rfl <| gs 0 (cR (⟨(ak n), (ak 2), false⟩ : GR)) rfl zz53 rfl rfl rfl rfl rfl rfl rfl <| gn hK4 <| gT ?_; clear h ac wo; intro ac wo h
  have hd : af n root = (⟨(ak n), (ak 2), false⟩ : GR) := (cT hc1)
  exact ret h rfl (.cell (v := (vR (⟨(ak n), (ak 2), false⟩ : GR))) rfl (i := 0) rfl aa53 zz53 rfl rfl rfl .nil) rfl (h.retP (by rw [hd] <;> rfl) (by rw [hd]; exact ⟨s1, s2⟩))
 ·
  have hq1 := hc1; try simp at hq1
  have c3 := eR n (by omega)
  have s3 := Calls.pr (c3 w0)
  refine gz h <| gS <| gx hK2 <| gr fun K5 hK5 => g0 (ah rfl) rfl <| gc (bK cc95 rfl) (kk c3) rfl <| gs 0 (cR (bq n)) rfl zz53 rfl rfl rfl rfl rfl rfl rfl <| gn hK5 <| gT ?_; clear h ac wo; intro ac wo h
  have hd : af n root = (bq n) := (cF hc1)
  exact ret h rfl (.cell (v := (vR (bq n))) rfl (i := 0) rfl aa53 zz53 rfl rfl rfl .nil) rfl (h.retP (by rw [hd] <;> rfl) (by rw [hd]; exact s3))
attribute [irreducible] af
def aL (a : Int) (b : Int) : Iv :=
 (⟨(bq a), (bq b), false, false⟩ : Iv)
theorem ed (a : Int) (b : Int) (ha : -9223372036854775808 ≤ a ∧ a ≤ 9223372036854775807) (hb : -9223372036854775808 ≤ b ∧ b ≤ 9223372036854775807) (w0 : World)  : Calls Tryz.prog 78 #[(.int .i64 a), (.int .i64 b)] w0 (dZ w0 (vV (aL a b)) (SzV 40 (aL a b))) := by
 refine enter (N := 10) (args := [(.int .i64 a), (.int .i64 b)]) Tryz.func78 rfl rfl ?_; intro ac h
 have c1 := eR a (by omega)
 have s1 := Calls.pr (c1 w0)
 have c2 := eR b (by omega)
 have s2 := Calls.pr (c2 w0)
 refine dL fun K1 hK1 => ?_
 refine al h (cV (⟨(⟨oQ, oQ, false⟩ : GR), (⟨oQ, oQ, false⟩ : GR), false, false⟩ : Iv)) Tryz.zeroValue55 rfl rfl fun b1 => gn hK1 <| gr fun K2 hK2 => g0 (ah rfl) rfl <| gc (bK cc95 rfl) (kk c1) rfl <| g0 (ah rfl) rfl <| gc (bK cc95 rfl) (kk c2) rfl <| g0 (bp lw rfl rfl (v := (vV (⟨(bq a), (bq b), false, false⟩ : Iv))) rfl) rfl <| gs 0 (cV (⟨(bq a), (bq b), false, false⟩ : Iv)) rfl Tryz.sizeOf55 rfl rfl rfl rfl rfl rfl rfl <| gn hK2 <| gT ?_; clear h ac; intro ac wo h
 exact ret h rfl (.cell (v := (vV (⟨(bq a), (bq b), false, false⟩ : Iv))) rfl (i := 0) rfl Tryz.isAgg55 Tryz.sizeOf55 rfl rfl rfl .nil) rfl (h.retP (by unfold aL; rfl) (by unfold aL; exact ⟨s1, s2⟩))
attribute [irreducible] aL
def aj (s : Stp) : Qd :=
 (⟨(ak (Int.tmod s.c0 4)), (ak (Int.tmod s.c1 3)), (ak (Int.tmod s.c2 2))⟩ : Qd)
theorem f5 (s : Stp) (w0 : World)  : Calls Tryz.prog 29 #[(vS s)] w0 (dZ w0 (vD (aj s)) (SzD 40 (aj s))) := by
  refine enter (N := 22) (args := [(vS s)]) Tryz.func29 rfl rfl ?_; intro ac h
  have t0 := nu s.c0 4 (by decide)
  have t1 := nu s.c1 3 (by decide)
  have t2 := nu s.c2 2 (by decide)
  refine dL fun K1 hK1 => ?_
  refine bx h (cS s) rfl rfl rfl fun b1 => ga (cD oD) Tryz.zeroValue69 rfl rfl fun b2 => gn hK1 <| gq fun K2 hK2 => ?_; clear h ac; intro ac wo h
  have c1 := bo (Int.tmod s.c0 4) 40 (by omega)  (by omega)
  have s1 := az (c1 w0)
  have s2 := az ((bo (Int.tmod s.c1 3) 40 (by omega)  (by omega)) w0)
  have s3 := az ((bo (Int.tmod s.c2 2) 40 (by omega)  (by omega)) w0)
  refine cj mixed [⟨.det (ptr b1 4), []⟩, ⟨.det (ptr b1 4), []⟩, ⟨.det (.int .i8 s.c0), [1]⟩, ⟨.det (.int .i8 (Int.tmod s.c0 4)), []⟩, ⟨.det (.int .i64 (Int.tmod s.c0 4)), []⟩, ⟨.det (vQ (ak (Int.tmod s.c0 4))), []⟩, ⟨.det (ptr b1 4), []⟩, ⟨.det (ptr b1 5), []⟩, ⟨.det (.int .i8 s.c1), [1]⟩, ⟨.det (.int .i8 (Int.tmod s.c1 3)), []⟩, ⟨.det (.int .i64 (Int.tmod s.c1 3)), []⟩, ⟨.det (vQ (ak (Int.tmod s.c1 3))), []⟩, ⟨.det (ptr b1 4), []⟩, ⟨.det (ptr b1 6), []⟩, ⟨.det (.int .i8 s.c2), [1]⟩, ⟨.det (.int .i8 (Int.tmod s.c2 2)), []⟩, ⟨.det (.int .i64 (Int.tmod s.c2 2)), []⟩, ⟨.det (vQ (ak (Int.tmod s.c2 2))), []⟩, ⟨.det (vD (⟨(ak (Int.tmod s.c0 4)), (ak (Int.tmod s.c1 3)), (ak (Int.tmod s.c2 2))⟩ : Qd)), []⟩, ⟨.det undef, [0]⟩] [⟨.blk b2 (cD oD) 69, [(19, .con (.blk b2 (cD (⟨(ak (Int.tmod s.c0 4)), (ak (Int.tmod s.c1 3)), (ak (Int.tmod s.c2 2))⟩ : Qd)) 69))]⟩, ⟨.blk b1 (cS s) 66, []⟩] h rfl (by kernel_rfl) ⟨?_, ?_, ?_, ?_, ?_, ?_, ?_, ?_, ?_, ?_, ?_, ?_, ?_, ?_, ?_, ?_, ?_, ?_, ?_, ?_, trivial⟩ ?_
  · intro ξ hφ; exact ax (fa uu66 rfl zz64 rfl rfl rfl (k' := 4))
  · intro ξ hφ; exact ax (pS (i := 0) uu64 zz63 rfl rfl (by decide))
  · intro ξ hφ; exact cq [.blk b1 (cS s) 66] rfl rfl (aX aa63 zz63 rfl rfl rfl (v := (.int .i8 s.c0)) rfl)
  · intro ξ hφ; exact ax (fF rfl rfl (r := (Int.tmod s.c0 4)) (by decide) rfl)
  · intro ξ hφ; exact ax (ba uu63 uu3 rfl (r := (Int.tmod s.c0 4)) (by rw [IntKind.wrap_i64]; first | omega | grind))
  · intro ξ hφ; exact dU (dS (bK cc45 rfl) (kk c1))
  · intro ξ hφ; exact ax (fa uu66 rfl zz64 rfl rfl rfl (k' := 4))
  · intro ξ hφ; exact ax (pS (i := 1) uu64 zz63 rfl rfl (by decide))
  · intro ξ hφ; exact cq [.blk b1 (cS s) 66] rfl rfl (aX aa63 zz63 rfl rfl rfl (v := (.int .i8 s.c1)) rfl)
  · intro ξ hφ; exact ax (fF rfl rfl (r := (Int.tmod s.c1 3)) (by decide) rfl)
  · intro ξ hφ; exact ax (ba uu63 uu3 rfl (r := (Int.tmod s.c1 3)) (by rw [IntKind.wrap_i64]; first | omega | grind))
  · intro ξ hφ; exact dU (dS (bK cc45 rfl) (kk (bo (Int.tmod s.c1 3) 40 (by omega)  (by omega))))
  · intro ξ hφ; exact ax (fa uu66 rfl zz64 rfl rfl rfl (k' := 4))
  · intro ξ hφ; exact ax (pS (i := 2) uu64 zz63 rfl rfl (by decide))
  · intro ξ hφ; exact cq [.blk b1 (cS s) 66] rfl rfl (aX aa63 zz63 rfl rfl rfl (v := (.int .i8 s.c2)) rfl)
  · intro ξ hφ; exact ax (fF rfl rfl (r := (Int.tmod s.c2 2)) (by decide) rfl)
  · intro ξ hφ; exact ax (ba uu63 uu3 rfl (r := (Int.tmod s.c2 2)) (by rw [IntKind.wrap_i64]; first | omega | grind))
  · intro ξ hφ; exact dU (dS (bK cc45 rfl) (kk (bo (Int.tmod s.c2 2) 40 (by omega)  (by omega))))
  · intro ξ hφ; exact ax (bp qX rfl rfl (v := (vD (⟨(ak (Int.tmod s.c0 4)), (ak (Int.tmod s.c1 3)), (ak (Int.tmod s.c2 2))⟩ : Qd))) rfl)
  · intro ξ hφ; exact fM [.blk b2 (cD oD) 69] [.blk b2 (cD (⟨(ak (Int.tmod s.c0 4)), (ak (Int.tmod s.c1 3)), (ak (Int.tmod s.c2 2))⟩ : Qd)) 69] rfl rfl (gK zz69 rfl rfl rfl rfl rfl rfl rfl)
  clear h ac wo; intro ξ ac wo hφ h
  replace h : St w0 22 [(2, (ptr b2 0))] [.blk b2 (cD (⟨(ak (Int.tmod s.c0 4)), (ak (Int.tmod s.c1 3)), (ak (Int.tmod s.c2 2))⟩ : Qd)) 69, .blk b1 (cS s) 66] ac wo := (h.pick [0, 1] (by decide)).sub ⟨rfl, trivial⟩
  clear hφ ξ
  refine hK2 _ _ ?_
  refine e8 ?_
  exact ret h rfl (.cell (v := (vD (⟨(ak (Int.tmod s.c0 4)), (ak (Int.tmod s.c1 3)), (ak (Int.tmod s.c2 2))⟩ : Qd))) rfl (i := 0) rfl Tryz.isAgg69 zz69 rfl rfl rfl .nil) rfl (h.retP (by unfold aj; rfl) (by unfold aj; exact ⟨s1, s2, s3⟩))
attribute [irreducible] aj
def aM (iv : Iv) (a : GR) (b : GR) (gap : Bool) : Bool :=
 bif gap then
  ((decide ((aA iv.lo a) ≤ 0)) && (decide ((aA b iv.hi) ≤ 0)))
 else
  (((decide ((aA iv.lo a) < 0)) || (((aA iv.lo a) == 0) && (!iv.openLo))) && ((decide ((aA b iv.hi) < 0)) || (((aA b iv.hi) == 0) && (!iv.openHi))))
theorem iM (iv : Iv) (a : GR) (b : GR) (gap : Bool) (ziv : SzV 30 iv) (za : SzR 30 a) (zb : SzR 30 b) (w0 : World)  : Calls Tryz.prog 94 #[(vV iv), (vR a), (vR b), (.bool gap)] w0 (dZ w0 (.bool (aM iv a b gap)) (True)) := by
 refine enter (N := 50) (args := [(vV iv), (vR a), (vR b), (.bool gap)]) Tryz.func94 rfl rfl ?_; intro ac h
 have p2 := az ((b0 iv.lo a 10 (by omega) ziv.1 za) w0)
 have p4 := az ((b0 b iv.hi 10 (by omega) zb ziv.2) w0)
 refine dL fun K1 hK1 => ?_
 refine bx h (cV iv) rfl rfl rfl fun b1 => gb (cR a) rfl rfl rfl fun b2 => gb (cR b) rfl rfl rfl fun b3 => g0 (ag rfl) rfl <| gn hK1 <| gq fun K2 hK2 => ?_; clear h ac; intro ac wo h
 refine cj mixed [dv _, dw _ [2], dw _ [1], dv _, dw _ [0], dv _, dw _ [2], dv _, dv _, dv _] [⟨_, []⟩, ⟨_, []⟩, ⟨_, []⟩] h rfl (by kernel_rfl) ⟨fun _ _ => ax (fa uu55 rfl zz53 rfl rfl rfl (k' := 0)), fun _ _ => cq _ rfl rfl (aX aa53 zz53 rfl rfl rfl (v := (vR iv.lo)) rfl), fun _ _ => cq _ rfl rfl (aX aa53 zz53 rfl rfl rfl (v := (vR a)) rfl), fun _ _ => dU (dS (bK cc115 rfl) (kk (b0 iv.lo a 10 (by omega) ziv.1 za))), fun _ _ => cq _ rfl rfl (aX aa53 zz53 rfl rfl rfl (v := (vR b)) rfl), fun _ _ => ax (fa uu55 rfl zz53 rfl rfl rfl (k' := 9)), fun _ _ => cq _ rfl rfl (aX aa53 zz53 rfl rfl rfl (v := (vR iv.hi)) rfl), fun _ _ => dU (dS (bK cc115 rfl) (kk (b0 b iv.hi 10 (by omega) zb ziv.2))), fun _ _ => ax (ag rfl), fun _ _ => ax (ag rfl), trivial⟩ ?_
 clear h ac wo; intro ξ ac wo hφ h
 replace h : St w0 50 [(3, (.bool gap)), (4, (ptr b1 0)), (9, (.int .i64 (aA iv.lo a))), (10, (.int .i64 (aA b iv.hi)))] [.blk b3 (cR b) 53, .blk b2 (cR a) 53, .blk b1 (cV iv) 55] ac wo := (h.pick [0, 1, 2] (by decide)).sub ⟨rfl, rfl, rfl, rfl, trivial⟩
 clear hφ ξ
 refine gz h <| gx hK2 <| gq fun K3 hK3 => gr fun K4 hK4 => g0 (ah rfl) rfl <| gn hK4 ?_; clear h ac wo; intro ac wo h
 refine cr h rfl (fun hc1 => ?_) (fun hc1 => ?_)
 ·
  have hq1 := hc1; try simp at hq1
  refine gz h <| gr fun K5 hK5 => g0 (ah rfl) rfl <| g0 (r_leq rfl rfl) rfl <| g0 (ah rfl) rfl <| ge1 rfl rfl (fun hg => (Rd.of_nil (ah rfl)).step) rfl <| ge1 rfl rfl (fun hg => (Rd.of_nil (r_leq (ar rfl hg) rfl)).step) rfl <| g0 (dQ rfl (fun e => (ar rfl e))) rfl <| g0 (ag rfl) rfl <| gn hK5 <| gT ?_; clear h ac wo; intro ac wo h
  have hd : aM iv a b gap = ((decide ((aA iv.lo a) ≤ 0)) && (decide ((aA b iv.hi) ≤ 0))) := (cT hc1)
  exact ret h rfl (.tmp rfl .nil) rfl (h.retP (by rw [hd] <;> rfl) trivial)
 ·
  have hq1 := hc1; try simp at hq1
  refine gz h <| gS <| gx hK3 <| gr fun K6 hK6 => g0 (ah rfl) rfl <| g0 (dJ rfl rfl) rfl <| g0 (ah rfl) rfl <| ge2 rfl rfl (fun hg => (Rd.of_nil (ah rfl)).step) rfl <| ge2 rfl rfl (fun hg => (Rd.of_nil (dP (ar rfl hg) rfl)).step) rfl <| ge2 rfl rfl (fun hg => (Rd.of_nil (ah (ar rfl hg))).step) rfl <| ge3 rfl rfl (fun hg => (Rd.of_nil (fa uu55 rfl zz4 rfl rfl rfl (k' := 18))).step) rfl <| ge3 rfl rfl (fun hg => (Rd.of_mem (i := 2) (aX aa4 zz4 (ar rfl hg) rfl rfl (v := (.bool iv.openLo)) rfl) rfl).step) rfl <| ge3 rfl rfl (fun hg => (Rd.of_nil (ex (ar rfl hg))).step) rfl <| ge2 rfl rfl (fun hg => (Rd.of_nil (dQ (ar rfl hg) (fun e => (ar rfl (andI hg e))))).step) rfl <| g0 (nr rfl (fun e => (ar rfl (ns e)))) rfl <| g0 (ah rfl) rfl <| ge1 rfl rfl (fun hg => (Rd.of_nil (ah rfl)).step) rfl <| ge1 rfl rfl (fun hg => (Rd.of_nil (dJ (ar rfl hg) rfl)).step) rfl <| ge1 rfl rfl (fun hg => (Rd.of_nil (ah (ar rfl hg))).step) rfl <| ge4 rfl rfl (fun hg => (Rd.of_nil (ah rfl)).step) rfl <| ge4 rfl rfl (fun hg => (Rd.of_nil (dP (ar rfl hg) rfl)).step) rfl <| ge4 rfl rfl (fun hg => (Rd.of_nil (ah (ar rfl hg))).step) rfl <| ge3 rfl rfl (fun hg => (Rd.of_nil (fa uu55 rfl zz4 rfl rfl rfl (k' := 19))).step) rfl <| ge3 rfl rfl (fun hg => (Rd.of_mem (i := 2) (aX aa4 zz4 (ar rfl hg) rfl rfl (v := (.bool iv.openHi)) rfl) rfl).step) rfl <| ge3 rfl rfl (fun hg => (Rd.of_nil (ex (ar rfl hg))).step) rfl <| ge4 rfl rfl (fun hg => (Rd.of_nil (dQ (ar rfl hg) (fun e => (ar rfl (andI hg e))))).step) rfl <| ge1 rfl rfl (fun hg => (Rd.of_nil (nr (ar rfl hg) (fun e => (ar rfl (andI hg (ns e)))))).step) rfl <| g0 (dQ rfl (fun e => (ar rfl e))) rfl <| g0 (ag rfl) rfl <| gn hK6 ?_; clear h ac wo; intro ac wo h
  replace h := h.sub (F' := [(8, (.bool (((decide ((aA iv.lo a) < 0)) || (((aA iv.lo a) == 0) && (!iv.openLo))) && ((decide ((aA b iv.hi) < 0)) || (((aA b iv.hi) == 0) && (!iv.openHi))))))]) ⟨rfl, trivial⟩
  refine e8 ?_
  have hd : aM iv a b gap = (((decide ((aA iv.lo a) < 0)) || (((aA iv.lo a) == 0) && (!iv.openLo))) && ((decide ((aA b iv.hi) < 0)) || (((aA b iv.hi) == 0) && (!iv.openHi)))) := (cF hc1)
  exact ret h rfl (.tmp rfl .nil) rfl (h.retP (by rw [hd] <;> rfl) trivial)
attribute [irreducible] aM
def fQ (l : List GR) (x : GR) (i : Nat) : (List GR) :=
 (l ++ [x])
def bu (l : List GR) (x : GR) (i : Nat) : Nx Nat (List GR) :=
 bif (decide (((i : Nat) : Int) < ((l.length : Nat) : Int))) then
  bif ((aA x (gt l i)) == 0) then
   .ret l
  else
   bif ((aA x (gt l i)) == (-1)) then
    .ret ((([] ++ (l.take i)) ++ [x]) ++ (l.drop i))
   else
    .go (i + 1)
 else
  .out i
def ap (l : List GR) (x : GR) : (List GR) :=
 fin (bS (fun s => bu l x s) ((l.length - 0) + 1) 0) (fun s => fQ l x s) (fun r => r)
theorem fP (l : List GR) (lv : Value) (x : GR) (hl : l.length ≤ 1000) (zl : All (SzR 30) l) (zx : SzR 30 x) (w0 w : World) (B : Asn) (hbel : Below w0.heap.size w0 w) (hsep : ∃ Z_, Sep w0.heap.size w [.row (α := GR) 53 lv l, B] Z_)  : Calls Tryz.prog 140 #[lv, (vR x)] w (RetY w0 (fun v => All (SzR 30) (ap l x) ∧ (ap l x).length ≤ l.length + 1) (fun v => [.row (α := GR) 53 v (ap l x), B])) := by
 refine lL (N := 39) (args := [lv, (vR x)]) Tryz.func140 rfl rfl hbel hsep ?_; intro ac h
 have hlenl := h.len 0 rfl
 refine dL fun K1 hK1 => ?_
 refine bx h (cR x) rfl rfl rfl fun b1 => g0 (ag rfl) rfl <| gn hK1 <| gq fun K2 hK2 => gr fun K3 hK3 => g0 (ag rfl) rfl <| gn hK3 <| gB ?_; clear h ac; intro ac wo h
 obtain ⟨X1, hX1⟩ : ∃ X, bS (fun s => bu l x s) ((l.length - 0) + 1) 0 = X := ⟨_, rfl⟩
 refine wp_loop_ghost (fun n_ a_ w_ => ∃ (i : Nat), ((l.length - i) < n_) ∧ (bS (fun s => bu l x s) n_ i = X1) ∧ (i ≤ l.length) ∧ St w0 39 [(0, lv), (3, (ptr b1 0)), (5, (.int .i64 ((i : Nat) : Int)))] [.blk b1 (cR x) 53, .row (α := GR) 53 lv l, B] a_ w_) ((l.length - 0) + 1) ⟨0, (by omega), hX1, (by first | omega | grind), (h.sub ⟨rfl, rfl, rfl, trivial⟩)⟩ ?_
 clear h ac wo; rintro n1 ac wo ⟨i, hm1, hL1, hi, h⟩
 obtain ⟨m1, rfl⟩ : ∃ m, n1 = m + 1 := ⟨n1 - 1, by omega⟩
 refine gz h <| gq fun K4 hK4 => gr fun K5 hK5 => g0 (ah rfl) rfl <| g0 (ah rfl) rfl ?_; clear h ac wo; intro ac wo h
 refine rd0 h (dk uu112 rfl (h.row_sl 1 rfl)) rfl <| g0 (dJ rfl rfl) rfl <| gn hK5 ?_; clear h ac wo; intro ac wo h
 refine cr h rfl (fun hc1 => ?_) (fun hc1 => ?_)
 ·
  have hd1 := of_decide_eq_true hc1
  refine dF ?_
  refine hK4 _ _ ?_
  refine dg fun K6 hK6 => ?_
  refine fx ?_
  refine dg fun K7 hK7 => ?_
  have p2 := az ((b0 x (gt l i) 10 (by omega) zx (All.gt zl (kv _))) w0)
  refine cj mixed [dw _ [0], dv _, dv _, dv _, dw _ [1], dv _] [⟨_, []⟩, ⟨_, []⟩, ⟨_, []⟩] h rfl (by kernel_rfl) ⟨fun _ _ => cq _ rfl rfl (aX aa53 zz53 rfl rfl rfl (v := (vR x)) rfl), fun _ _ => om rfl, fun _ _ => om rfl, fun _ _ => ax (da (i := i) uu112 zz53 rfl rfl (h.row_nn 1 rfl (by first | omega | grind)) (by first | omega | grind)), fun _ _ => cq _ rfl rfl (dl (k := 0) aa53 zz53 (bF (by first | omega | grind)) rfl (Nat.add_zero _) rfl rfl (v := (vR (gt l i))) rfl), fun _ _ => dU (dS (bK cc115 rfl) (kk (b0 x (gt l i) 10 (by omega) zx (All.gt zl (kv _))))), trivial⟩ ?_
  clear h ac wo; intro ξ ac wo hφ h
  replace h : St w0 39 [(0, lv), (3, (ptr b1 0)), (5, (.int .i64 ((i : Nat) : Int))), (17, (.int .i64 (aA x (gt l i))))] [.blk b1 (cR x) 53, .row (α := GR) 53 lv l, B] ac wo := (h.pick [0, 1, 2] (by decide)).sub ⟨rfl, rfl, rfl, rfl, trivial⟩
  clear hφ ξ
  refine gz h <| gx hK7 <| gB <| gr fun K8 hK8 => g0 (dP rfl rfl) rfl <| g0 (ag rfl) rfl <| gn hK8 ?_; clear h ac wo; intro ac wo h
  refine cr h rfl (fun hc2 => ?_) (fun hc2 => ?_)
  ·
   have hd2 := eq_of_beq hc2
   refine gz h <| gr fun K9 hK9 => g0 (ah rfl) rfl <| g0 (ag rfl) rfl <| gn hK9 <| gT ?_; clear h ac wo; intro ac wo h
   have hr1 := eO hL1 (show bu l x i = .ret l from (Eq.trans (cT hc1) (cT hc2)))
   have hd : ap l x = l := (je (hX1.trans hr1))
   exact ret h rfl (.tmp rfl .nil) rfl ((h.pick [1, 2] (by decide)).retY (by rw [hd]; exact ⟨zl, (by first | omega | grind)⟩) (by rw [hd]; rfl))
  ·
   have hd2 := ne_of_beq_false hc2
   refine gz h <| gr fun K10 hK10 => g0 (dP rfl rfl) rfl <| g0 (ag rfl) rfl <| gn hK10 ?_; clear h ac wo; intro ac wo h
   refine cr h rfl (fun hc3 => ?_) (fun hc3 => ?_)
   ·
    have hd3 := eq_of_beq hc3
    refine dg fun K11 hK11 => ?_
    replace h := h.emps 2
    refine cj mixed [⟨.nd (.one 0 fun v => NN v 0), [3]⟩, dv _, dv _, dv _, ⟨.nd (.con True), [3, 1]⟩, dw _ [0], ⟨.nd (.one 6 fun v => NN v 1), [4]⟩, ⟨.nd (.con True), [3, 4]⟩, dv _, dv _, dv _, ⟨.nd (.con True), [3, 1]⟩, ⟨.nd (.two 12 11 fun a b => a = b), []⟩] [⟨_, []⟩, ⟨_, []⟩, ⟨_, []⟩, ⟨.emp, [(0, .one 0 fun v => .row (α := GR) 53 v ([])), (4, .one 4 fun v => .row (α := GR) 53 v ([] ++ (l.take i))), (7, .one 7 fun v => .row (α := GR) 53 v (([] ++ (l.take i)) ++ [x])), (11, .one 11 fun v => .row (α := GR) 53 v ((([] ++ (l.take i)) ++ [x]) ++ (l.drop i)))]⟩, ⟨.emp, [(6, .one 6 fun v => .row (α := GR) 53 v ([x]))]⟩] h rfl (by kernel_rfl) ⟨fun _ _ => ky (ψ := fun v => NN v 0) (B := fun v => [.row (α := GR) 53 v ([])]) [.emp] rfl (fun v _ => by simp only [ec, bD] <;> rfl) (fun v hv => by simpa [DF.one, bD] using hv) (jn (cz (α := GR) (xs := []) (vs := []) [] kJ rfl rfl rfl (by decide))), fun _ _ => om rfl, fun _ _ => om rfl, fun _ _ => ax (r_cut (n := i) uu112 zz53 rfl rfl (h.row_view 1 rfl) (by first | omega | grind)), fun ξ hφ => ky (B := fun v => [.row (α := GR) 53 v ([] ++ (l.take i)), .row (α := GR) 53 lv l]) [.row (α := GR) 53 (ξ 0) ([]), .row (α := GR) 53 lv l] rfl (fun v _ => by simp only [ec, bD] <;> rfl) (fun _ _ => trivial) (ee (xs := []) (ys := (l.take i)) kJ (fun w hs => ((row_view hs 0 rfl).cut (by first | omega | grind))) rfl rfl (by first | omega | grind)), fun _ _ => cq _ rfl rfl (aX aa53 zz53 rfl rfl rfl (v := (vR x)) rfl), fun _ _ => ky (ψ := fun v => NN v 1) (B := fun v => [.row (α := GR) 53 v ([x])]) [.emp] rfl (fun v _ => by simp only [ec, bD] <;> rfl) (fun v hv => by simpa [DF.one, bD] using hv) (jn (cz (α := GR) (xs := [.tmp 28]) (vs := [(vR x)]) [x] kJ rfl rfl rfl (by decide))), fun ξ hφ => ky (B := fun v => [.row (α := GR) 53 v (([] ++ (l.take i)) ++ [x]), .row (α := GR) 53 (ξ 6) ([x])]) [.row (α := GR) 53 (ξ 4) ([] ++ (l.take i)), .row (α := GR) 53 (ξ 6) ([x])] rfl (fun v _ => by simp only [ec, bD] <;> rfl) (fun _ _ => trivial) (ee (xs := ([] ++ (l.take i))) (ys := [x]) kJ (fun w hs => (row_view hs 0 rfl)) rfl rfl (by first | omega | grind)), fun _ _ => om rfl, fun _ _ => om rfl, fun _ _ => ax (r_from (n := i) uu112 zz53 rfl rfl (h.row_view 1 rfl) (by first | omega | grind)), fun ξ hφ => ky (B := fun v => [.row (α := GR) 53 v ((([] ++ (l.take i)) ++ [x]) ++ (l.drop i)), .row (α := GR) 53 lv l]) [.row (α := GR) 53 (ξ 7) (([] ++ (l.take i)) ++ [x]), .row (α := GR) 53 lv l] rfl (fun v _ => by simp only [ec, bD] <;> rfl) (fun _ _ => trivial) (ee (xs := (([] ++ (l.take i)) ++ [x])) (ys := (l.drop i)) kJ (fun w hs => ((row_view hs 0 rfl).dropv (by first | omega | grind))) rfl rfl (by first | omega | grind)), fun ξ hφ => ob_n (φ := .two 12 11 fun a b => a = b) (v := ξ 11) [] rfl rfl (by show upd ξ 12 (ξ 11) 12 = upd ξ 12 (ξ 11) 11; rw [bD, iC (by decide)]) (ag rfl), trivial⟩ ?_
    clear h ac wo; intro ξ ac wo hφ h
    replace h : St w0 39 [(4, ξ 12)] [.blk b1 (cR x) 53, .row (α := GR) 53 lv l, B, .row (α := GR) 53 (ξ 11) ((([] ++ (l.take i)) ++ [x]) ++ (l.drop i))] ac wo := (h.pick [0, 1, 2, 3] (by decide)).sub ⟨rfl, trivial⟩
    rw [show ξ 12 = ξ 11 from hφ 12] at h
    generalize hsv11 : ξ 11 = sv3 at h; clear hsv11
    clear hφ ξ
    refine hK11 _ _ ?_
    refine e8 ?_
    have hr1 := eO hL1 (show bu l x i = .ret ((([] ++ (l.take i)) ++ [x]) ++ (l.drop i)) from (Eq.trans (cT hc1) (Eq.trans (cF hc2) (cT hc3))))
    have hd : ap l x = ((([] ++ (l.take i)) ++ [x]) ++ (l.drop i)) := (je (hX1.trans hr1))
    exact ret h rfl (.tmp rfl .nil) rfl ((h.pick [3, 2] (by decide)).retY (by rw [hd]; exact ⟨(All.app (All.app (All.app All.nil (All.take zl)) (All.cons zx All.nil)) (All.drop zl)), (by first | omega | grind)⟩) (by rw [hd]; rfl))
   ·
    have hd3 := ne_of_beq_false hc3
    refine gz h <| gS <| gN <| gN <| gx hK6 <| gR <| g0 (ah rfl) rfl <| g0 (bI rfl rfl (r := ((i + 1 : Nat) : Int)) (by rw [IntKind.wrap_i64]; first | omega | grind)) rfl <| g0 (ag rfl) rfl <| gx (fun _ _ => bG) ?_; clear h ac wo; intro ac wo h
    exact aI ⟨m1, (by omega), _, (by first | omega | grind), bU hL1 (show bu l x i = .go _ from (Eq.trans (cT hc1) (Eq.trans (cF hc2) (cF hc3)))), (by first | omega | grind), (h.pick [0, 1, 2] (by decide)).sub ⟨rfl, rfl, rfl, trivial⟩⟩
 ·
  have hd1 := of_decide_eq_false hc1
  refine dX ?_
  have hx1 := dR hL1 (show bu l x i = .out i from (cF hc1))
  refine gz h <| gx hK2 <| gr fun K12 hK12 => g0 (ah rfl) rfl <| g1 0 rfl (aX aa53 zz53 rfl rfl rfl (v := (vR x)) rfl) rfl ?_; clear h ac wo; intro ac wo h
  refine nw h (cz (α := GR) (xs := [.tmp 36]) (vs := [(vR x)]) [x] kJ rfl rfl rfl (by decide)) rfl ?_; clear h ac wo; intro sv4 ac wo nnsv4 h
  refine on2 h 2 0 rfl rfl (ee (xs := l) (ys := [x]) kJ (fun w hs => (row_view hs 0 rfl)) rfl rfl (by first | omega | grind)) rfl ?_; clear h ac wo; intro sv5 ac wo apsv5 h
  refine rd0 h (ag rfl) rfl <| gn hK12 <| gT ?_; clear h ac wo; intro ac wo h
  have hd : ap l x = (l ++ [x]) := (eW (hX1.trans hx1))
  exact ret h rfl (.tmp rfl .nil) rfl ((h.pick [0, 3] (by decide)).retY (by rw [hd]; exact ⟨(All.app zl (All.cons zx All.nil)), (by first | omega | grind)⟩) (by rw [hd]; rfl))
attribute [irreducible] ap
end Go.Sx
namespace Go.Sx
open Go Go.RowKit Go.Proofs
set_option maxRecDepth 100000
set_option maxHeartbeats 40000000
attribute [local irreducible] aA bT ak aH bJ aP aF aE cO bm aw
theorem eqi55 : EqIn Tryz.prog 5 55 vV := eqS (c := cV) (fun _ => rfl) Tryz.underlying55 Tryz.stoodInHeld55 fun d x y w hd => by
 refine Eq.trans (eqF (by decide) (d7 aa53 zz53 (v := vR (x.lo)) rfl w) (d7 aa53 zz53 (v := vR (y.lo)) rfl w) (eqi53 d _ _ w (by omega)) (eqF (by decide) (d7 aa53 zz53 (v := vR (x.hi)) rfl w) (d7 aa53 zz53 (v := vR (y.hi)) rfl w) (eqi53 d _ _ w (by omega)) (eqF (by decide) (fL aa4 rfl w) (fL aa4 rfl w) (eqB nn4 d (by omega) _ _ w) (eqF (by decide) (fL aa4 rfl w) (fL aa4 rfl w) (eqB nn4 d (by omega) _ _ w) eqF0)))) ?_
 congr 1
 rw [decide_eq_decide]
 cases x; cases y; simp
theorem eqp55 : EqP Tryz.prog 55 vV := EqIn.p (k := 5) rfl (c := fun x => (cV x).toArray) (fun _ => rfl) Tryz.eqGuardType55 eqi55
end Go.Sx
