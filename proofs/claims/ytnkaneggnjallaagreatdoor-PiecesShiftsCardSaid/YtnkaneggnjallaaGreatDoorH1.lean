/- A part of the proof that the law PiecesShifts answers true at every input and leaves its arguments as they were. -/
import Derived.Test.YtnkaneggnjallaaGreatDoorGarith
set_option linter.unusedVariables false
set_option linter.unusedSimpArgs false
open Go.Proofs.Tryz renaming sizeOf4 → zz4, sizeOf53 → zz53, sizeOf69 → zz69, zeroValue53 → vv53, isAgg53 → aa53, call45 → cc45, call95 → cc95, runUnderlying66 → uu66, sizeOf64 → zz64, runUnderlying64 → uu64, sizeOf63 → zz63, isAgg63 → aa63, runUnderlying63 → uu63, runUnderlying3 → uu3, runUnderlying55 → uu55, call115 → cc115, isAgg4 → aa4, runUnderlying112 → uu112, underlying4 → nn4
namespace Go.Sx
open Go Go.RowKit Go.Proofs
set_option maxRecDepth 100000
set_option maxHeartbeats 40000000
attribute [local irreducible] aD bN ah aL bt aN aK aF cY bj ar
theorem rK : BuildF Tryz.prog 232 [.bool false, .string ⟨#[]⟩, .bool false, .string ⟨#[]⟩, .bool false, .string ⟨#[]⟩, .bool false, .string ⟨#[]⟩, .bool false, .bool false, .string ⟨#[]⟩, .bool false, .string ⟨#[]⟩, .bool false, .string ⟨#[]⟩, .bool false, .string ⟨#[]⟩, .bool false, .bool false, .bool false, .bool false, .string ⟨#[]⟩, .bool false, .string ⟨#[]⟩, .bool false, .string ⟨#[]⟩, .bool false, .string ⟨#[]⟩, .bool false, .string ⟨#[]⟩, .bool false, .string ⟨#[]⟩] [(0, 9), (9, 9), (18, 1), (19, 1), (20, 12)] := BuildF.of Tryz.zeroValue232 rfl Tryz.runUnderlying232 (by intro w; simp [zz4, zz53, zz69])
theorem oJ : BuildF Tryz.prog 73 [] [] := BuildF.of Tryz.zeroValue73 rfl Tryz.runUnderlying73 (by intro w; simp)
theorem ls : SlT Tryz.prog 112 53 9 104 [.bool false, .string ⟨#[]⟩, .bool false, .string ⟨#[]⟩, .bool false, .string ⟨#[]⟩, .bool false, .string ⟨#[]⟩, .bool false] := ⟨Tryz.underlying112, Tryz.t53, _, Tryz.type53, rfl, rfl, rfl, rfl, rfl, by decide, by decide⟩
def bA (n : Int) : GR :=
 (bN n)
theorem fd (n : Int) (hn : -9223372036854775808 ≤ n ∧ n ≤ 9223372036854775807) (w0 : World)  : Calls Tryz.prog 95 #[(.int .i64 n)] w0 (ec w0 (vR (bA n)) (SzR 40 (bA n))) := by
 refine enter (N := 5) (args := [(.int .i64 n)]) Tryz.func95 rfl rfl ?_; intro ac h
 have c1 := lz n 40 (by omega)  (by omega)
 have s1 := aA (c1 w0)
 refine dU fun K1 hK1 => ?_
 refine al h (cR (⟨oQ, oQ, false⟩ : GR)) vv53 rfl rfl fun b1 => gn hK1 <| gr fun K2 hK2 => g0 (af rfl) rfl <| gc (bL Tryz.call156 rfl) (kk c1) rfl <| gs 0 (cR (bN n)) rfl zz53 rfl rfl rfl rfl rfl rfl rfl <| gn hK2 <| gT ?_; clear h ac; intro ac wo h
 exact ret h rfl (.cell (v := (vR (bN n))) rfl (i := 0) rfl aa53 zz53 rfl rfl rfl .nil) rfl (h.retP (by unfold bA; rfl) (by unfold bA; exact s1))
attribute [irreducible] bA
def ad (n : Int) (root : Bool) : GR :=
 bif root then
  (⟨(ah n), (ah 2), false⟩ : GR)
 else
  (bA n)
theorem fS (n : Int) (root : Bool) (hn : -9223372036854775808 ≤ n ∧ n ≤ 9223372036854775807) (w0 : World)  : Calls Tryz.prog 28 #[(.int .i64 n), (.bool root)] w0 (ec w0 (vR (ad n root)) (SzR 40 (ad n root))) := by
 refine enter (N := 12) (args := [(.int .i64 n), (.bool root)]) Tryz.func28 rfl rfl ?_; intro ac h
 refine dU fun K1 hK1 => ?_
 refine al h (cR (⟨oQ, oQ, false⟩ : GR)) vv53 rfl rfl fun b1 => gn hK1 <| gq fun K2 hK2 => gr fun K3 hK3 => g0 (af rfl) rfl <| gn hK3 ?_; clear h ac; intro ac wo h
 refine cO h rfl (fun hc1 => ?_) (fun hc1 => ?_)
 ·
  have hq1 := hc1; try simp at hq1
  have c1 := bD n 40 (by omega)  (by omega)
  have s1 := aA (c1 w0)
  have c2 := bD 2 40 (by omega)  (by omega)
  have s2 := aA (c2 w0)
  refine gz h <| gr fun K4 hK4 => g0 (af rfl) rfl <| gc (bL cc45 rfl) (kk c1) rfl <| gc (bL cc45 rfl) (kk c2) rfl <| g0 (bC bld53 rfl rfl (v := (vR (⟨(ah n), (ah 2), false⟩ : GR))) rfl) rfl <| gs 0 (cR (⟨(ah n), (ah 2), false⟩ : GR)) rfl zz53 rfl rfl rfl rfl rfl rfl rfl <| gn hK4 <| gT ?_; clear h ac wo; intro ac wo h
  have hd : ad n root = (⟨(ah n), (ah 2), false⟩ : GR) := (cT hc1)
  exact ret h rfl (.cell (v := (vR (⟨(ah n), (ah 2), false⟩ : GR))) rfl (i := 0) rfl aa53 zz53 rfl rfl rfl .nil) rfl (h.retP (by rw [hd] <;> rfl) (by rw [hd]; exact ⟨s1, s2⟩))
 ·
  have hq1 := hc1; try simp at hq1
  have c3 := fd n (by omega)
  have s3 := Calls.pr (c3 w0)
  refine gz h <| gS <| gx hK2 <| gr fun K5 hK5 => g0 (af rfl) rfl <| gc (bL cc95 rfl) (kk c3) rfl <| gs 0 (cR (bA n)) rfl zz53 rfl rfl rfl rfl rfl rfl rfl <| gn hK5 <| gT ?_; clear h ac wo; intro ac wo h
  have hd : ad n root = (bA n) := (cF hc1)
  exact ret h rfl (.cell (v := (vR (bA n))) rfl (i := 0) rfl aa53 zz53 rfl rfl rfl .nil) rfl (h.retP (by rw [hd] <;> rfl) (by rw [hd]; exact s3))
attribute [irreducible] ad
def aP (a : Int) (b : Int) : Iv :=
 (⟨(bA a), (bA b), false, false⟩ : Iv)
theorem eu (a : Int) (b : Int) (ha : -9223372036854775808 ≤ a ∧ a ≤ 9223372036854775807) (hb : -9223372036854775808 ≤ b ∧ b ≤ 9223372036854775807) (w0 : World)  : Calls Tryz.prog 78 #[(.int .i64 a), (.int .i64 b)] w0 (ec w0 (vV (aP a b)) (SzV 40 (aP a b))) := by
 refine enter (N := 10) (args := [(.int .i64 a), (.int .i64 b)]) Tryz.func78 rfl rfl ?_; intro ac h
 have c1 := fd a (by omega)
 have s1 := Calls.pr (c1 w0)
 have c2 := fd b (by omega)
 have s2 := Calls.pr (c2 w0)
 refine dU fun K1 hK1 => ?_
 refine al h (cV (⟨(⟨oQ, oQ, false⟩ : GR), (⟨oQ, oQ, false⟩ : GR), false, false⟩ : Iv)) Tryz.zeroValue55 rfl rfl fun b1 => gn hK1 <| gr fun K2 hK2 => g0 (af rfl) rfl <| gc (bL cc95 rfl) (kk c1) rfl <| g0 (af rfl) rfl <| gc (bL cc95 rfl) (kk c2) rfl <| g0 (bC ma rfl rfl (v := (vV (⟨(bA a), (bA b), false, false⟩ : Iv))) rfl) rfl <| gs 0 (cV (⟨(bA a), (bA b), false, false⟩ : Iv)) rfl Tryz.sizeOf55 rfl rfl rfl rfl rfl rfl rfl <| gn hK2 <| gT ?_; clear h ac; intro ac wo h
 exact ret h rfl (.cell (v := (vV (⟨(bA a), (bA b), false, false⟩ : Iv))) rfl (i := 0) rfl Tryz.isAgg55 Tryz.sizeOf55 rfl rfl rfl .nil) rfl (h.retP (by unfold aP; rfl) (by unfold aP; exact ⟨s1, s2⟩))
attribute [irreducible] aP
def ag (s : Stp) : Qd :=
 (⟨(ah (Int.tmod s.c0 4)), (ah (Int.tmod s.c1 3)), (ah (Int.tmod s.c2 2))⟩ : Qd)
theorem gL (s : Stp) (w0 : World)  : Calls Tryz.prog 29 #[(vS s)] w0 (ec w0 (vD (ag s)) (SzD 40 (ag s))) := by
  refine enter (N := 22) (args := [(vS s)]) Tryz.func29 rfl rfl ?_; intro ac h
  have t0 := oa s.c0 4 (by decide)
  have t1 := oa s.c1 3 (by decide)
  have t2 := oa s.c2 2 (by decide)
  refine dU fun K1 hK1 => ?_
  refine bx h (cS s) rfl rfl rfl fun b1 => ga (cD oD) Tryz.zeroValue69 rfl rfl fun b2 => gn hK1 <| gq fun K2 hK2 => ?_; clear h ac; intro ac wo h
  have c1 := bD (Int.tmod s.c0 4) 40 (by omega)  (by omega)
  have s1 := aA (c1 w0)
  have s2 := aA ((bD (Int.tmod s.c1 3) 40 (by omega)  (by omega)) w0)
  have s3 := aA ((bD (Int.tmod s.c2 2) 40 (by omega)  (by omega)) w0)
  refine cv mixed [⟨.det (ptr b1 4), []⟩, ⟨.det (ptr b1 4), []⟩, ⟨.det (.int .i8 s.c0), [1]⟩, ⟨.det (.int .i8 (Int.tmod s.c0 4)), []⟩, ⟨.det (.int .i64 (Int.tmod s.c0 4)), []⟩, ⟨.det (vQ (ah (Int.tmod s.c0 4))), []⟩, ⟨.det (ptr b1 4), []⟩, ⟨.det (ptr b1 5), []⟩, ⟨.det (.int .i8 s.c1), [1]⟩, ⟨.det (.int .i8 (Int.tmod s.c1 3)), []⟩, ⟨.det (.int .i64 (Int.tmod s.c1 3)), []⟩, ⟨.det (vQ (ah (Int.tmod s.c1 3))), []⟩, ⟨.det (ptr b1 4), []⟩, ⟨.det (ptr b1 6), []⟩, ⟨.det (.int .i8 s.c2), [1]⟩, ⟨.det (.int .i8 (Int.tmod s.c2 2)), []⟩, ⟨.det (.int .i64 (Int.tmod s.c2 2)), []⟩, ⟨.det (vQ (ah (Int.tmod s.c2 2))), []⟩, ⟨.det (vD (⟨(ah (Int.tmod s.c0 4)), (ah (Int.tmod s.c1 3)), (ah (Int.tmod s.c2 2))⟩ : Qd)), []⟩, ⟨.det undef, [0]⟩] [⟨.blk b2 (cD oD) 69, [(19, .con (.blk b2 (cD (⟨(ah (Int.tmod s.c0 4)), (ah (Int.tmod s.c1 3)), (ah (Int.tmod s.c2 2))⟩ : Qd)) 69))]⟩, ⟨.blk b1 (cS s) 66, []⟩] h rfl (by kernel_rfl) ⟨?_, ?_, ?_, ?_, ?_, ?_, ?_, ?_, ?_, ?_, ?_, ?_, ?_, ?_, ?_, ?_, ?_, ?_, ?_, ?_, trivial⟩ ?_
  · intro ξ hφ; exact aC (fa uu66 rfl zz64 rfl rfl rfl (k' := 4))
  · intro ξ hφ; exact aC (qH (i := 0) uu64 zz63 rfl rfl (by decide))
  · intro ξ hφ; exact cr [.blk b1 (cS s) 66] rfl rfl (aX aa63 zz63 rfl rfl rfl (v := (.int .i8 s.c0)) rfl)
  · intro ξ hφ; exact aC (gC rfl rfl (r := (Int.tmod s.c0 4)) (by decide) rfl)
  · intro ξ hφ; exact aC (be uu63 uu3 rfl (r := (Int.tmod s.c0 4)) (by rw [IntKind.wrap_i64]; first | omega | grind))
  · intro ξ hφ; exact dW (dr (bL cc45 rfl) (kk c1))
  · intro ξ hφ; exact aC (fa uu66 rfl zz64 rfl rfl rfl (k' := 4))
  · intro ξ hφ; exact aC (qH (i := 1) uu64 zz63 rfl rfl (by decide))
  · intro ξ hφ; exact cr [.blk b1 (cS s) 66] rfl rfl (aX aa63 zz63 rfl rfl rfl (v := (.int .i8 s.c1)) rfl)
  · intro ξ hφ; exact aC (gC rfl rfl (r := (Int.tmod s.c1 3)) (by decide) rfl)
  · intro ξ hφ; exact aC (be uu63 uu3 rfl (r := (Int.tmod s.c1 3)) (by rw [IntKind.wrap_i64]; first | omega | grind))
  · intro ξ hφ; exact dW (dr (bL cc45 rfl) (kk (bD (Int.tmod s.c1 3) 40 (by omega)  (by omega))))
  · intro ξ hφ; exact aC (fa uu66 rfl zz64 rfl rfl rfl (k' := 4))
  · intro ξ hφ; exact aC (qH (i := 2) uu64 zz63 rfl rfl (by decide))
  · intro ξ hφ; exact cr [.blk b1 (cS s) 66] rfl rfl (aX aa63 zz63 rfl rfl rfl (v := (.int .i8 s.c2)) rfl)
  · intro ξ hφ; exact aC (gC rfl rfl (r := (Int.tmod s.c2 2)) (by decide) rfl)
  · intro ξ hφ; exact aC (be uu63 uu3 rfl (r := (Int.tmod s.c2 2)) (by rw [IntKind.wrap_i64]; first | omega | grind))
  · intro ξ hφ; exact dW (dr (bL cc45 rfl) (kk (bD (Int.tmod s.c2 2) 40 (by omega)  (by omega))))
  · intro ξ hφ; exact aC (bC qg rfl rfl (v := (vD (⟨(ah (Int.tmod s.c0 4)), (ah (Int.tmod s.c1 3)), (ah (Int.tmod s.c2 2))⟩ : Qd))) rfl)
  · intro ξ hφ; exact gh [.blk b2 (cD oD) 69] [.blk b2 (cD (⟨(ah (Int.tmod s.c0 4)), (ah (Int.tmod s.c1 3)), (ah (Int.tmod s.c2 2))⟩ : Qd)) 69] rfl rfl (gH zz69 rfl rfl rfl rfl rfl rfl rfl)
  clear h ac wo; intro ξ ac wo hφ h
  replace h : St w0 22 [(2, (ptr b2 0))] [.blk b2 (cD (⟨(ah (Int.tmod s.c0 4)), (ah (Int.tmod s.c1 3)), (ah (Int.tmod s.c2 2))⟩ : Qd)) 69, .blk b1 (cS s) 66] ac wo := (h.pick [0, 1] (by decide)).sub ⟨rfl, trivial⟩
  clear hφ ξ
  refine hK2 _ _ ?_
  refine fw ?_
  exact ret h rfl (.cell (v := (vD (⟨(ah (Int.tmod s.c0 4)), (ah (Int.tmod s.c1 3)), (ah (Int.tmod s.c2 2))⟩ : Qd))) rfl (i := 0) rfl Tryz.isAgg69 zz69 rfl rfl rfl .nil) rfl (h.retP (by unfold ag; rfl) (by unfold ag; exact ⟨s1, s2, s3⟩))
attribute [irreducible] ag
def aQ (iv : Iv) (a : GR) (b : GR) (gap : Bool) : Bool :=
 bif gap then
  ((decide ((aD iv.lo a) ≤ 0)) && (decide ((aD b iv.hi) ≤ 0)))
 else
  (((decide ((aD iv.lo a) < 0)) || (((aD iv.lo a) == 0) && (!iv.openLo))) && ((decide ((aD b iv.hi) < 0)) || (((aD b iv.hi) == 0) && (!iv.openHi))))
theorem jb (iv : Iv) (a : GR) (b : GR) (gap : Bool) (ziv : SzV 30 iv) (za : SzR 30 a) (zb : SzR 30 b) (w0 : World)  : Calls Tryz.prog 94 #[(vV iv), (vR a), (vR b), (.bool gap)] w0 (ec w0 (.bool (aQ iv a b gap)) (True)) := by
 refine enter (N := 50) (args := [(vV iv), (vR a), (vR b), (.bool gap)]) Tryz.func94 rfl rfl ?_; intro ac h
 have p2 := aA ((cC iv.lo a 10 (by omega) ziv.1 za) w0)
 have p4 := aA ((cC b iv.hi 10 (by omega) zb ziv.2) w0)
 refine dU fun K1 hK1 => ?_
 refine bx h (cV iv) rfl rfl rfl fun b1 => gb (cR a) rfl rfl rfl fun b2 => gb (cR b) rfl rfl rfl fun b3 => g0 (ae rfl) rfl <| gn hK1 <| gq fun K2 hK2 => ?_; clear h ac; intro ac wo h
 refine cv mixed [dv _, dw _ [2], dw _ [1], dv _, dw _ [0], dv _, dw _ [2], dv _, dv _, dv _] [⟨_, []⟩, ⟨_, []⟩, ⟨_, []⟩] h rfl (by kernel_rfl) ⟨fun _ _ => aC (fa uu55 rfl zz53 rfl rfl rfl (k' := 0)), fun _ _ => cr _ rfl rfl (aX aa53 zz53 rfl rfl rfl (v := (vR iv.lo)) rfl), fun _ _ => cr _ rfl rfl (aX aa53 zz53 rfl rfl rfl (v := (vR a)) rfl), fun _ _ => dW (dr (bL cc115 rfl) (kk (cC iv.lo a 10 (by omega) ziv.1 za))), fun _ _ => cr _ rfl rfl (aX aa53 zz53 rfl rfl rfl (v := (vR b)) rfl), fun _ _ => aC (fa uu55 rfl zz53 rfl rfl rfl (k' := 9)), fun _ _ => cr _ rfl rfl (aX aa53 zz53 rfl rfl rfl (v := (vR iv.hi)) rfl), fun _ _ => dW (dr (bL cc115 rfl) (kk (cC b iv.hi 10 (by omega) zb ziv.2))), fun _ _ => aC (ae rfl), fun _ _ => aC (ae rfl), trivial⟩ ?_
 clear h ac wo; intro ξ ac wo hφ h
 replace h : St w0 50 [(3, (.bool gap)), (4, (ptr b1 0)), (9, (.int .i64 (aD iv.lo a))), (10, (.int .i64 (aD b iv.hi)))] [.blk b3 (cR b) 53, .blk b2 (cR a) 53, .blk b1 (cV iv) 55] ac wo := (h.pick [0, 1, 2] (by decide)).sub ⟨rfl, rfl, rfl, rfl, trivial⟩
 clear hφ ξ
 refine gz h <| gx hK2 <| gq fun K3 hK3 => gr fun K4 hK4 => g0 (af rfl) rfl <| gn hK4 ?_; clear h ac wo; intro ac wo h
 refine cO h rfl (fun hc1 => ?_) (fun hc1 => ?_)
 ·
  have hq1 := hc1; try simp at hq1
  refine gz h <| gr fun K5 hK5 => g0 (af rfl) rfl <| g0 (r_leq rfl rfl) rfl <| g0 (af rfl) rfl <| ge1 rfl rfl (fun hg => (Rd.of_nil (af rfl)).step) rfl <| ge1 rfl rfl (fun hg => (Rd.of_nil (r_leq (ap rfl hg) rfl)).step) rfl <| g0 (ef rfl (fun e => (ap rfl e))) rfl <| g0 (ae rfl) rfl <| gn hK5 <| gT ?_; clear h ac wo; intro ac wo h
  have hd : aQ iv a b gap = ((decide ((aD iv.lo a) ≤ 0)) && (decide ((aD b iv.hi) ≤ 0))) := (cT hc1)
  exact ret h rfl (.tmp rfl .nil) rfl (h.retP (by rw [hd] <;> rfl) trivial)
 ·
  have hq1 := hc1; try simp at hq1
  refine gz h <| gS <| gx hK3 <| gr fun K6 hK6 => g0 (af rfl) rfl <| g0 (dY rfl rfl) rfl <| g0 (af rfl) rfl <| ge2 rfl rfl (fun hg => (Rd.of_nil (af rfl)).step) rfl <| ge2 rfl rfl (fun hg => (Rd.of_nil (fj (ap rfl hg) rfl)).step) rfl <| ge2 rfl rfl (fun hg => (Rd.of_nil (af (ap rfl hg))).step) rfl <| ge3 rfl rfl (fun hg => (Rd.of_nil (fa uu55 rfl zz4 rfl rfl rfl (k' := 18))).step) rfl <| ge3 rfl rfl (fun hg => (Rd.of_mem (i := 2) (aX aa4 zz4 (ap rfl hg) rfl rfl (v := (.bool iv.openLo)) rfl) rfl).step) rfl <| ge3 rfl rfl (fun hg => (Rd.of_nil (eZ (ap rfl hg))).step) rfl <| ge2 rfl rfl (fun hg => (Rd.of_nil (ef (ap rfl hg) (fun e => (ap rfl (andI hg e))))).step) rfl <| g0 (np rfl (fun e => (ap rfl (nq e)))) rfl <| g0 (af rfl) rfl <| ge1 rfl rfl (fun hg => (Rd.of_nil (af rfl)).step) rfl <| ge1 rfl rfl (fun hg => (Rd.of_nil (dY (ap rfl hg) rfl)).step) rfl <| ge1 rfl rfl (fun hg => (Rd.of_nil (af (ap rfl hg))).step) rfl <| ge4 rfl rfl (fun hg => (Rd.of_nil (af rfl)).step) rfl <| ge4 rfl rfl (fun hg => (Rd.of_nil (fj (ap rfl hg) rfl)).step) rfl <| ge4 rfl rfl (fun hg => (Rd.of_nil (af (ap rfl hg))).step) rfl <| ge3 rfl rfl (fun hg => (Rd.of_nil (fa uu55 rfl zz4 rfl rfl rfl (k' := 19))).step) rfl <| ge3 rfl rfl (fun hg => (Rd.of_mem (i := 2) (aX aa4 zz4 (ap rfl hg) rfl rfl (v := (.bool iv.openHi)) rfl) rfl).step) rfl <| ge3 rfl rfl (fun hg => (Rd.of_nil (eZ (ap rfl hg))).step) rfl <| ge4 rfl rfl (fun hg => (Rd.of_nil (ef (ap rfl hg) (fun e => (ap rfl (andI hg e))))).step) rfl <| ge1 rfl rfl (fun hg => (Rd.of_nil (np (ap rfl hg) (fun e => (ap rfl (andI hg (nq e)))))).step) rfl <| g0 (ef rfl (fun e => (ap rfl e))) rfl <| g0 (ae rfl) rfl <| gn hK6 ?_; clear h ac wo; intro ac wo h
  replace h := h.sub (F' := [(8, (.bool (((decide ((aD iv.lo a) < 0)) || (((aD iv.lo a) == 0) && (!iv.openLo))) && ((decide ((aD b iv.hi) < 0)) || (((aD b iv.hi) == 0) && (!iv.openHi))))))]) ⟨rfl, trivial⟩
  refine fw ?_
  have hd : aQ iv a b gap = (((decide ((aD iv.lo a) < 0)) || (((aD iv.lo a) == 0) && (!iv.openLo))) && ((decide ((aD b iv.hi) < 0)) || (((aD b iv.hi) == 0) && (!iv.openHi)))) := (cF hc1)
  exact ret h rfl (.tmp rfl .nil) rfl (h.retP (by rw [hd] <;> rfl) trivial)
attribute [irreducible] aQ
def gu (l : List GR) (x : GR) (i : Nat) : (List GR) :=
 (l ++ [x])
def bG (l : List GR) (x : GR) (i : Nat) : Nx Nat (List GR) :=
 bif (decide (((i : Nat) : Int) < ((l.length : Nat) : Int))) then
  bif ((aD x (gt l i)) == 0) then
   .ret l
  else
   bif ((aD x (gt l i)) == (-1)) then
    .ret ((([] ++ (l.take i)) ++ [x]) ++ (l.drop i))
   else
    .go (i + 1)
 else
  .out i
def aq (l : List GR) (x : GR) : (List GR) :=
 fin (b9 (fun s => bG l x s) ((l.length - 0) + 1) 0) (fun s => gu l x s) (fun r => r)
theorem gp (l : List GR) (lv : Value) (x : GR) (hl : l.length ≤ 1000) (zl : All (SzR 30) l) (zx : SzR 30 x) (w0 w : World) (B : Asn) (hbel : Below w0.heap.size w0 w) (hsep : ∃ Z_, Sep w0.heap.size w [.row (α := GR) 53 lv l, B] Z_)  : Calls Tryz.prog 140 #[lv, (vR x)] w (RetY w0 (fun v => All (SzR 30) (aq l x) ∧ (aq l x).length ≤ l.length + 1) (fun v => [.row (α := GR) 53 v (aq l x), B])) := by
 refine ms (N := 39) (args := [lv, (vR x)]) Tryz.func140 rfl rfl hbel hsep ?_; intro ac h
 have hlenl := h.len 0 rfl
 refine dU fun K1 hK1 => ?_
 refine bx h (cR x) rfl rfl rfl fun b1 => g0 (ae rfl) rfl <| gn hK1 <| gq fun K2 hK2 => gr fun K3 hK3 => g0 (ae rfl) rfl <| gn hK3 <| gB ?_; clear h ac; intro ac wo h
 obtain ⟨X1, hX1⟩ : ∃ X, b9 (fun s => bG l x s) ((l.length - 0) + 1) 0 = X := ⟨_, rfl⟩
 refine wp_loop_ghost (fun n_ a_ w_ => ∃ (i : Nat), ((l.length - i) < n_) ∧ (b9 (fun s => bG l x s) n_ i = X1) ∧ (i ≤ l.length) ∧ St w0 39 [(0, lv), (3, (ptr b1 0)), (5, (.int .i64 ((i : Nat) : Int)))] [.blk b1 (cR x) 53, .row (α := GR) 53 lv l, B] a_ w_) ((l.length - 0) + 1) ⟨0, (by omega), hX1, (by first | omega | grind), (h.sub ⟨rfl, rfl, rfl, trivial⟩)⟩ ?_
 clear h ac wo; rintro n1 ac wo ⟨i, hm1, hL1, hi, h⟩
 obtain ⟨m1, rfl⟩ : ∃ m, n1 = m + 1 := ⟨n1 - 1, by omega⟩
 refine gz h <| gq fun K4 hK4 => gr fun K5 hK5 => g0 (af rfl) rfl <| g0 (af rfl) rfl ?_; clear h ac wo; intro ac wo h
 refine rd0 h (du uu112 rfl (h.row_sl 1 rfl)) rfl <| g0 (dY rfl rfl) rfl <| gn hK5 ?_; clear h ac wo; intro ac wo h
 refine cO h rfl (fun hc1 => ?_) (fun hc1 => ?_)
 ·
  have hd1 := of_decide_eq_true hc1
  refine dZ ?_
  refine hK4 _ _ ?_
  refine dy fun K6 hK6 => ?_
  refine fH ?_
  refine dy fun K7 hK7 => ?_
  have p2 := aA ((cC x (gt l i) 10 (by omega) zx (All.gt zl (lc _))) w0)
  refine cv mixed [dw _ [0], dv _, dv _, dv _, dw _ [1], dv _] [⟨_, []⟩, ⟨_, []⟩, ⟨_, []⟩] h rfl (by kernel_rfl) ⟨fun _ _ => cr _ rfl rfl (aX aa53 zz53 rfl rfl rfl (v := (vR x)) rfl), fun _ _ => om rfl, fun _ _ => om rfl, fun _ _ => aC (dK (i := i) uu112 zz53 rfl rfl (h.row_nn 1 rfl (by first | omega | grind)) (by first | omega | grind)), fun _ _ => cr _ rfl rfl (dL (k := 0) aa53 zz53 (bU (by first | omega | grind)) rfl (Nat.add_zero _) rfl rfl (v := (vR (gt l i))) rfl), fun _ _ => dW (dr (bL cc115 rfl) (kk (cC x (gt l i) 10 (by omega) zx (All.gt zl (lc _))))), trivial⟩ ?_
  clear h ac wo; intro ξ ac wo hφ h
  replace h : St w0 39 [(0, lv), (3, (ptr b1 0)), (5, (.int .i64 ((i : Nat) : Int))), (17, (.int .i64 (aD x (gt l i))))] [.blk b1 (cR x) 53, .row (α := GR) 53 lv l, B] ac wo := (h.pick [0, 1, 2] (by decide)).sub ⟨rfl, rfl, rfl, rfl, trivial⟩
  clear hφ ξ
  refine gz h <| gx hK7 <| gB <| gr fun K8 hK8 => g0 (fj rfl rfl) rfl <| g0 (ae rfl) rfl <| gn hK8 ?_; clear h ac wo; intro ac wo h
  refine cO h rfl (fun hc2 => ?_) (fun hc2 => ?_)
  ·
   have hd2 := eq_of_beq hc2
   refine gz h <| gr fun K9 hK9 => g0 (af rfl) rfl <| g0 (ae rfl) rfl <| gn hK9 <| gT ?_; clear h ac wo; intro ac wo h
   have hr1 := fy hL1 (show bG l x i = .ret l from (Eq.trans (cT hc1) (cT hc2)))
   have hd : aq l x = l := (k9 (hX1.trans hr1))
   exact ret h rfl (.tmp rfl .nil) rfl ((h.pick [1, 2] (by decide)).retY (by rw [hd]; exact ⟨zl, (by first | omega | grind)⟩) (by rw [hd]; rfl))
  ·
   have hd2 := ne_of_beq_false hc2
   refine gz h <| gr fun K10 hK10 => g0 (fj rfl rfl) rfl <| g0 (ae rfl) rfl <| gn hK10 ?_; clear h ac wo; intro ac wo h
   refine cO h rfl (fun hc3 => ?_) (fun hc3 => ?_)
   ·
    have hd3 := eq_of_beq hc3
    refine dy fun K11 hK11 => ?_
    replace h := h.emps 2
    refine cv mixed [⟨.nd (.one 0 fun v => NN v 0), [3]⟩, dv _, dv _, dv _, ⟨.nd (.con True), [3, 1]⟩, dw _ [0], ⟨.nd (.one 6 fun v => NN v 1), [4]⟩, ⟨.nd (.con True), [3, 4]⟩, dv _, dv _, dv _, ⟨.nd (.con True), [3, 1]⟩, ⟨.nd (.two 12 11 fun a b => a = b), []⟩] [⟨_, []⟩, ⟨_, []⟩, ⟨_, []⟩, ⟨.emp, [(0, .one 0 fun v => .row (α := GR) 53 v ([])), (4, .one 4 fun v => .row (α := GR) 53 v ([] ++ (l.take i))), (7, .one 7 fun v => .row (α := GR) 53 v (([] ++ (l.take i)) ++ [x])), (11, .one 11 fun v => .row (α := GR) 53 v ((([] ++ (l.take i)) ++ [x]) ++ (l.drop i)))]⟩, ⟨.emp, [(6, .one 6 fun v => .row (α := GR) 53 v ([x]))]⟩] h rfl (by kernel_rfl) ⟨fun _ _ => kR (ψ := fun v => NN v 0) (B := fun v => [.row (α := GR) 53 v ([])]) [.emp] rfl (fun v _ => by simp only [ej, bB] <;> rfl) (fun v hv => by simpa [DF.one, bB] using hv) (jN (cK (α := GR) (xs := []) (vs := []) [] ls rfl rfl rfl (by decide))), fun _ _ => om rfl, fun _ _ => om rfl, fun _ _ => aC (r_cut (n := i) uu112 zz53 rfl rfl (h.row_view 1 rfl) (by first | omega | grind)), fun ξ hφ => kR (B := fun v => [.row (α := GR) 53 v ([] ++ (l.take i)), .row (α := GR) 53 lv l]) [.row (α := GR) 53 (ξ 0) ([]), .row (α := GR) 53 lv l] rfl (fun v _ => by simp only [ej, bB] <;> rfl) (fun _ _ => trivial) (er (xs := []) (ys := (l.take i)) ls (fun w hs => ((row_view hs 0 rfl).cut (by first | omega | grind))) rfl rfl (by first | omega | grind)), fun _ _ => cr _ rfl rfl (aX aa53 zz53 rfl rfl rfl (v := (vR x)) rfl), fun _ _ => kR (ψ := fun v => NN v 1) (B := fun v => [.row (α := GR) 53 v ([x])]) [.emp] rfl (fun v _ => by simp only [ej, bB] <;> rfl) (fun v hv => by simpa [DF.one, bB] using hv) (jN (cK (α := GR) (xs := [.tmp 28]) (vs := [(vR x)]) [x] ls rfl rfl rfl (by decide))), fun ξ hφ => kR (B := fun v => [.row (α := GR) 53 v (([] ++ (l.take i)) ++ [x]), .row (α := GR) 53 (ξ 6) ([x])]) [.row (α := GR) 53 (ξ 4) ([] ++ (l.take i)), .row (α := GR) 53 (ξ 6) ([x])] rfl (fun v _ => by simp only [ej, bB] <;> rfl) (fun _ _ => trivial) (er (xs := ([] ++ (l.take i))) (ys := [x]) ls (fun w hs => (row_view hs 0 rfl)) rfl rfl (by first | omega | grind)), fun _ _ => om rfl, fun _ _ => om rfl, fun _ _ => aC (r_from (n := i) uu112 zz53 rfl rfl (h.row_view 1 rfl) (by first | omega | grind)), fun ξ hφ => kR (B := fun v => [.row (α := GR) 53 v ((([] ++ (l.take i)) ++ [x]) ++ (l.drop i)), .row (α := GR) 53 lv l]) [.row (α := GR) 53 (ξ 7) (([] ++ (l.take i)) ++ [x]), .row (α := GR) 53 lv l] rfl (fun v _ => by simp only [ej, bB] <;> rfl) (fun _ _ => trivial) (er (xs := (([] ++ (l.take i)) ++ [x])) (ys := (l.drop i)) ls (fun w hs => ((row_view hs 0 rfl).dropv (by first | omega | grind))) rfl rfl (by first | omega | grind)), fun ξ hφ => ob_n (φ := .two 12 11 fun a b => a = b) (v := ξ 11) [] rfl rfl (by show upd ξ 12 (ξ 11) 12 = upd ξ 12 (ξ 11) 11; rw [bB, io (by decide)]) (ae rfl), trivial⟩ ?_
    clear h ac wo; intro ξ ac wo hφ h
    replace h : St w0 39 [(4, ξ 12)] [.blk b1 (cR x) 53, .row (α := GR) 53 lv l, B, .row (α := GR) 53 (ξ 11) ((([] ++ (l.take i)) ++ [x]) ++ (l.drop i))] ac wo := (h.pick [0, 1, 2, 3] (by decide)).sub ⟨rfl, trivial⟩
    rw [show ξ 12 = ξ 11 from hφ 12] at h
    generalize hsv11 : ξ 11 = sv3 at h; clear hsv11
    clear hφ ξ
    refine hK11 _ _ ?_
    refine fw ?_
    have hr1 := fy hL1 (show bG l x i = .ret ((([] ++ (l.take i)) ++ [x]) ++ (l.drop i)) from (Eq.trans (cT hc1) (Eq.trans (cF hc2) (cT hc3))))
    have hd : aq l x = ((([] ++ (l.take i)) ++ [x]) ++ (l.drop i)) := (k9 (hX1.trans hr1))
    exact ret h rfl (.tmp rfl .nil) rfl ((h.pick [3, 2] (by decide)).retY (by rw [hd]; exact ⟨(All.app (All.app (All.app All.nil (All.take zl)) (All.cons zx All.nil)) (All.drop zl)), (by first | omega | grind)⟩) (by rw [hd]; rfl))
   ·
    have hd3 := ne_of_beq_false hc3
    refine gz h <| gS <| gN <| gN <| gx hK6 <| gR <| g0 (af rfl) rfl <| g0 (bM rfl rfl (r := ((i + 1 : Nat) : Int)) (by rw [IntKind.wrap_i64]; first | omega | grind)) rfl <| g0 (ae rfl) rfl <| gx (fun _ _ => bR) ?_; clear h ac wo; intro ac wo h
    exact aM ⟨m1, (by omega), _, (by first | omega | grind), b0 hL1 (show bG l x i = .go _ from (Eq.trans (cT hc1) (Eq.trans (cF hc2) (cF hc3)))), (by first | omega | grind), (h.pick [0, 1, 2] (by decide)).sub ⟨rfl, rfl, rfl, trivial⟩⟩
 ·
  have hd1 := of_decide_eq_false hc1
  refine d8 ?_
  have hx1 := dX hL1 (show bG l x i = .out i from (cF hc1))
  refine gz h <| gx hK2 <| gr fun K12 hK12 => g0 (af rfl) rfl <| g1 0 rfl (aX aa53 zz53 rfl rfl rfl (v := (vR x)) rfl) rfl ?_; clear h ac wo; intro ac wo h
  refine nw h (cK (α := GR) (xs := [.tmp 36]) (vs := [(vR x)]) [x] ls rfl rfl rfl (by decide)) rfl ?_; clear h ac wo; intro sv4 ac wo nnsv4 h
  refine on2 h 2 0 rfl rfl (er (xs := l) (ys := [x]) ls (fun w hs => (row_view hs 0 rfl)) rfl rfl (by first | omega | grind)) rfl ?_; clear h ac wo; intro sv5 ac wo apsv5 h
  refine rd0 h (ae rfl) rfl <| gn hK12 <| gT ?_; clear h ac wo; intro ac wo h
  have hd : aq l x = (l ++ [x]) := (eQ (hX1.trans hx1))
  exact ret h rfl (.tmp rfl .nil) rfl ((h.pick [0, 3] (by decide)).retY (by rw [hd]; exact ⟨(All.app zl (All.cons zx All.nil)), (by first | omega | grind)⟩) (by rw [hd]; rfl))
attribute [irreducible] aq
end Go.Sx
namespace Go.Sx
open Go Go.RowKit Go.Proofs
set_option maxRecDepth 100000
set_option maxHeartbeats 40000000
attribute [local irreducible] aD bN ah aL bt aN aK aF cY bj ar
theorem eqi55 : EqIn Tryz.prog 5 55 vV := eqS (c := cV) (fun _ => rfl) Tryz.underlying55 Tryz.stoodInHeld55 fun d x y w hd => by
 refine Eq.trans (eqF (by decide) (ep aa53 zz53 (v := vR (x.lo)) rfl w) (ep aa53 zz53 (v := vR (y.lo)) rfl w) (eqi53 d _ _ w (by omega)) (eqF (by decide) (ep aa53 zz53 (v := vR (x.hi)) rfl w) (ep aa53 zz53 (v := vR (y.hi)) rfl w) (eqi53 d _ _ w (by omega)) (eqF (by decide) (gg aa4 rfl w) (gg aa4 rfl w) (eqB nn4 d (by omega) _ _ w) (eqF (by decide) (gg aa4 rfl w) (gg aa4 rfl w) (eqB nn4 d (by omega) _ _ w) eqF0)))) ?_
 congr 1
 rw [decide_eq_decide]
 cases x; cases y; simp
theorem eqp55 : EqP Tryz.prog 55 vV := EqIn.p (k := 5) rfl (c := fun x => (cV x).toArray) (fun _ => rfl) Tryz.eqGuardType55 eqi55
end Go.Sx
