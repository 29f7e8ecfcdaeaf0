/- A part of the proof that the law PiecesRefines answers true at every input and leaves its arguments as they were. -/
import Derived.Test.YtnkaneggnjallaaGreatDoorGarith
set_option linter.unusedVariables false
set_option linter.unusedSimpArgs false
open Go.Proofs.Tryz renaming runUnderlying158 → uu158, sizeOf3 → zz3, sizeOf4 → zz4, sizeOf53 → zz53, sizeOf69 → zz69, runUnderlying31 → uu31, zeroValue53 → vv53, isAgg53 → aa53, call45 → cc45, call95 → cc95, sizeOf55 → zz55, runUnderlying66 → uu66, sizeOf64 → zz64, runUnderlying64 → uu64, sizeOf63 → zz63, isAgg63 → aa63, runUnderlying63 → uu63, runUnderlying3 → uu3, runUnderlying55 → uu55, call115 → cc115, isAgg4 → aa4, runUnderlying112 → uu112, underlying4 → nn4, runUnderlying26 → uu26, sizeOf57 → zz57, runUnderlying57 → uu57, runUnderlying149 → uu149, sizeOf158 → zz158
namespace Go.Sx
open Go Go.RowKit Go.Proofs
set_option maxRecDepth 100000
set_option maxHeartbeats 40000000
attribute [local irreducible] ao bU aj az bE aP aE aA dG cj aQ
theorem qV : BuildF Tryz.prog 158 [.bool false, .string ⟨#[]⟩, .bool false, .string ⟨#[]⟩, .bool false, .string ⟨#[]⟩, .bool false, .string ⟨#[]⟩, .bool false, .bool false, .string ⟨#[]⟩, .bool false, .string ⟨#[]⟩, .bool false, .string ⟨#[]⟩, .bool false, .string ⟨#[]⟩, .bool false, .bool false, .bool false, .int .i64 0] [(0, 9), (9, 9), (18, 1), (19, 1), (20, 1)] := BuildF.of Tryz.zeroValue158 rfl uu158 (by intro w; simp [zz3, zz4, zz53])
theorem qT : BuildF Tryz.prog 232 [.bool false, .string ⟨#[]⟩, .bool false, .string ⟨#[]⟩, .bool false, .string ⟨#[]⟩, .bool false, .string ⟨#[]⟩, .bool false, .bool false, .string ⟨#[]⟩, .bool false, .string ⟨#[]⟩, .bool false, .string ⟨#[]⟩, .bool false, .string ⟨#[]⟩, .bool false, .bool false, .bool false, .bool false, .string ⟨#[]⟩, .bool false, .string ⟨#[]⟩, .bool false, .string ⟨#[]⟩, .bool false, .string ⟨#[]⟩, .bool false, .string ⟨#[]⟩, .bool false, .string ⟨#[]⟩] [(0, 9), (9, 9), (18, 1), (19, 1), (20, 12)] := BuildF.of Tryz.zeroValue232 rfl Tryz.runUnderlying232 (by intro w; simp [zz4, zz53, zz69])
theorem bld31 : BuildF Tryz.prog 31 [] [] := BuildF.of Tryz.zeroValue31 rfl uu31 (by intro w; simp)
theorem bld73 : BuildF Tryz.prog 73 [] [] := BuildF.of Tryz.zeroValue73 rfl Tryz.runUnderlying73 (by intro w; simp)
theorem k8 : SlT Tryz.prog 112 53 9 104 [.bool false, .string ⟨#[]⟩, .bool false, .string ⟨#[]⟩, .bool false, .string ⟨#[]⟩, .bool false, .string ⟨#[]⟩, .bool false] := ⟨Tryz.underlying112, Tryz.t53, _, Tryz.type53, rfl, rfl, rfl, rfl, rfl, by decide, by decide⟩
def bF (n : Int) : GR :=
 (bU n)
theorem fh (n : Int) (hn : -9223372036854775808 ≤ n ∧ n ≤ 9223372036854775807) (w0 : World)  : Calls Tryz.prog 95 #[(.int .i64 n)] w0 (eE w0 (vR (bF n)) (SzR 40 (bF n))) := by
 refine enter (N := 5) (args := [(.int .i64 n)]) Tryz.func95 rfl rfl ?_; intro ac h
 have c1 := lc n 40 (by omega)  (by omega)
 have s1 := ax (c1 w0)
 refine d8 fun K1 hK1 => ?_
 refine al h (cR (⟨oQ, oQ, false⟩ : GR)) vv53 rfl rfl fun b1 => gn hK1 <| gr fun K2 hK2 => g0 (af rfl) rfl <| gc (c8 Tryz.call156 rfl) (kk c1) rfl <| gs 0 (cR (bU n)) rfl zz53 rfl rfl rfl rfl rfl rfl rfl <| gn hK2 <| gT ?_; clear h ac; intro ac wo h
 exact ret h rfl (.cell (v := (vR (bU n))) rfl (i := 0) rfl aa53 zz53 rfl rfl rfl .nil) rfl (h.retP (by unfold bF; rfl) (by unfold bF; exact s1))
attribute [irreducible] bF
def ad (n : Int) (root : Bool) : GR :=
 bif root then
  (⟨(aj n), (aj 2), false⟩ : GR)
 else
  (bF n)
theorem fX (n : Int) (root : Bool) (hn : -9223372036854775808 ≤ n ∧ n ≤ 9223372036854775807) (w0 : World)  : Calls Tryz.prog 28 #[(.int .i64 n), (.bool root)] w0 (eE w0 (vR (ad n root)) (SzR 40 (ad n root))) := by
 refine enter (N := 12) (args := [(.int .i64 n), (.bool root)]) Tryz.func28 rfl rfl ?_; intro ac h
 refine d8 fun K1 hK1 => ?_
 refine al h (cR (⟨oQ, oQ, false⟩ : GR)) vv53 rfl rfl fun b1 => gn hK1 <| gq fun K2 hK2 => gr fun K3 hK3 => g0 (af rfl) rfl <| gn hK3 ?_; clear h ac; intro ac wo h
 refine dg h rfl (fun hc1 => ?_) (fun hc1 => ?_)
 ·
  have hq1 := hc1; try simp at hq1
  have c1 := bJ n 40 (by omega)  (by omega)
  have s1 := ax (c1 w0)
  have c2 := bJ 2 40 (by omega)  (by omega)
  have s2 := ax (c2 w0)
  refine gz h <| gr fun K4 hK4 => g0 (af rfl) rfl <| gc (c8 cc45 rfl) (kk c1) rfl <| gc (c8 cc45 rfl) (kk c2) rfl <| g0 (bG bld53 rfl rfl (v := (vR (⟨(aj n), (aj 2), false⟩ : GR))) rfl) rfl <| gs 0 (cR (⟨(aj n), (aj 2), false⟩ : GR)) rfl zz53 rfl rfl rfl rfl rfl rfl rfl <| gn hK4 <| gT ?_; clear h ac wo; intro ac wo h
  have hd : ad n root = (⟨(aj n), (aj 2), false⟩ : GR) := (cT hc1)
  exact ret h rfl (.cell (v := (vR (⟨(aj n), (aj 2), false⟩ : GR))) rfl (i := 0) rfl aa53 zz53 rfl rfl rfl .nil) rfl (h.retP (by rw [hd] <;> rfl) (by rw [hd]; exact ⟨s1, s2⟩))
 ·
  have hq1 := hc1; try simp at hq1
  have c3 := fh n (by omega)
  have s3 := Calls.pr (c3 w0)
  refine gz h <| gS <| gx hK2 <| gr fun K5 hK5 => g0 (af rfl) rfl <| gc (c8 cc95 rfl) (kk c3) rfl <| gs 0 (cR (bF n)) rfl zz53 rfl rfl rfl rfl rfl rfl rfl <| gn hK5 <| gT ?_; clear h ac wo; intro ac wo h
  have hd : ad n root = (bF n) := (cF hc1)
  exact ret h rfl (.cell (v := (vR (bF n))) rfl (i := 0) rfl aa53 zz53 rfl rfl rfl .nil) rfl (h.retP (by rw [hd] <;> rfl) (by rw [hd]; exact s3))
attribute [irreducible] ad
def aO (a : Int) (b : Int) : Iv :=
 (⟨(bF a), (bF b), false, false⟩ : Iv)
theorem eG (a : Int) (b : Int) (ha : -9223372036854775808 ≤ a ∧ a ≤ 9223372036854775807) (hb : -9223372036854775808 ≤ b ∧ b ≤ 9223372036854775807) (w0 : World)  : Calls Tryz.prog 78 #[(.int .i64 a), (.int .i64 b)] w0 (eE w0 (vV (aO a b)) (SzV 40 (aO a b))) := by
 refine enter (N := 10) (args := [(.int .i64 a), (.int .i64 b)]) Tryz.func78 rfl rfl ?_; intro ac h
 have c1 := fh a (by omega)
 have s1 := Calls.pr (c1 w0)
 have c2 := fh b (by omega)
 have s2 := Calls.pr (c2 w0)
 refine d8 fun K1 hK1 => ?_
 refine al h (cV (⟨(⟨oQ, oQ, false⟩ : GR), (⟨oQ, oQ, false⟩ : GR), false, false⟩ : Iv)) Tryz.zeroValue55 rfl rfl fun b1 => gn hK1 <| gr fun K2 hK2 => g0 (af rfl) rfl <| gc (c8 cc95 rfl) (kk c1) rfl <| g0 (af rfl) rfl <| gc (c8 cc95 rfl) (kk c2) rfl <| g0 (bG kx rfl rfl (v := (vV (⟨(bF a), (bF b), false, false⟩ : Iv))) rfl) rfl <| gs 0 (cV (⟨(bF a), (bF b), false, false⟩ : Iv)) rfl zz55 rfl rfl rfl rfl rfl rfl rfl <| gn hK2 <| gT ?_; clear h ac; intro ac wo h
 exact ret h rfl (.cell (v := (vV (⟨(bF a), (bF b), false, false⟩ : Iv))) rfl (i := 0) rfl Tryz.isAgg55 zz55 rfl rfl rfl .nil) rfl (h.retP (by unfold aO; rfl) (by unfold aO; exact ⟨s1, s2⟩))
attribute [irreducible] aO
def ag (s : Stp) : Qd :=
 (⟨(aj (Int.tmod s.c0 4)), (aj (Int.tmod s.c1 3)), (aj (Int.tmod s.c2 2))⟩ : Qd)
theorem gM (s : Stp) (w0 : World)  : Calls Tryz.prog 29 #[(vS s)] w0 (eE w0 (vD (ag s)) (SzD 40 (ag s))) := by
  refine enter (N := 22) (args := [(vS s)]) Tryz.func29 rfl rfl ?_; intro ac h
  have t0 := nE s.c0 4 (by decide)
  have t1 := nE s.c1 3 (by decide)
  have t2 := nE s.c2 2 (by decide)
  refine d8 fun K1 hK1 => ?_
  refine bx h (cS s) rfl rfl rfl fun b1 => ga (cD oD) Tryz.zeroValue69 rfl rfl fun b2 => gn hK1 <| gq fun K2 hK2 => ?_; clear h ac; intro ac wo h
  have c1 := bJ (Int.tmod s.c0 4) 40 (by omega)  (by omega)
  have s1 := ax (c1 w0)
  have s2 := ax ((bJ (Int.tmod s.c1 3) 40 (by omega)  (by omega)) w0)
  have s3 := ax ((bJ (Int.tmod s.c2 2) 40 (by omega)  (by omega)) w0)
  refine cb mixed [⟨.det (ptr b1 4), []⟩, ⟨.det (ptr b1 4), []⟩, ⟨.det (.int .i8 s.c0), [1]⟩, ⟨.det (.int .i8 (Int.tmod s.c0 4)), []⟩, ⟨.det (.int .i64 (Int.tmod s.c0 4)), []⟩, ⟨.det (vQ (aj (Int.tmod s.c0 4))), []⟩, ⟨.det (ptr b1 4), []⟩, ⟨.det (ptr b1 5), []⟩, ⟨.det (.int .i8 s.c1), [1]⟩, ⟨.det (.int .i8 (Int.tmod s.c1 3)), []⟩, ⟨.det (.int .i64 (Int.tmod s.c1 3)), []⟩, ⟨.det (vQ (aj (Int.tmod s.c1 3))), []⟩, ⟨.det (ptr b1 4), []⟩, ⟨.det (ptr b1 6), []⟩, ⟨.det (.int .i8 s.c2), [1]⟩, ⟨.det (.int .i8 (Int.tmod s.c2 2)), []⟩, ⟨.det (.int .i64 (Int.tmod s.c2 2)), []⟩, ⟨.det (vQ (aj (Int.tmod s.c2 2))), []⟩, ⟨.det (vD (⟨(aj (Int.tmod s.c0 4)), (aj (Int.tmod s.c1 3)), (aj (Int.tmod s.c2 2))⟩ : Qd)), []⟩, ⟨.det undef, [0]⟩] [⟨.blk b2 (cD oD) 69, [(19, .con (.blk b2 (cD (⟨(aj (Int.tmod s.c0 4)), (aj (Int.tmod s.c1 3)), (aj (Int.tmod s.c2 2))⟩ : Qd)) 69))]⟩, ⟨.blk b1 (cS s) 66, []⟩] h rfl (by kernel_rfl) ⟨?_, ?_, ?_, ?_, ?_, ?_, ?_, ?_, ?_, ?_, ?_, ?_, ?_, ?_, ?_, ?_, ?_, ?_, ?_, ?_, trivial⟩ ?_
  · intro ξ hφ; exact aq (fa uu66 rfl zz64 rfl rfl rfl (k' := 4))
  · intro ξ hφ; exact aq (i6 (i := 0) uu64 zz63 rfl rfl (by decide))
  · intro ξ hφ; exact cp [.blk b1 (cS s) 66] rfl rfl (aS aa63 zz63 rfl rfl rfl (v := (.int .i8 s.c0)) rfl)
  · intro ξ hφ; exact aq (gW rfl rfl (r := (Int.tmod s.c0 4)) (by decide) rfl)
  · intro ξ hφ; exact aq (ba uu63 uu3 rfl (r := (Int.tmod s.c0 4)) (by rw [IntKind.wrap_i64]; first | omega | grind))
  · intro ξ hφ; exact eg (ec (c8 cc45 rfl) (kk c1))
  · intro ξ hφ; exact aq (fa uu66 rfl zz64 rfl rfl rfl (k' := 4))
  · intro ξ hφ; exact aq (i6 (i := 1) uu64 zz63 rfl rfl (by decide))
  · intro ξ hφ; exact cp [.blk b1 (cS s) 66] rfl rfl (aS aa63 zz63 rfl rfl rfl (v := (.int .i8 s.c1)) rfl)
  · intro ξ hφ; exact aq (gW rfl rfl (r := (Int.tmod s.c1 3)) (by decide) rfl)
  · intro ξ hφ; exact aq (ba uu63 uu3 rfl (r := (Int.tmod s.c1 3)) (by rw [IntKind.wrap_i64]; first | omega | grind))
  · intro ξ hφ; exact eg (ec (c8 cc45 rfl) (kk (bJ (Int.tmod s.c1 3) 40 (by omega)  (by omega))))
  · intro ξ hφ; exact aq (fa uu66 rfl zz64 rfl rfl rfl (k' := 4))
  · intro ξ hφ; exact aq (i6 (i := 2) uu64 zz63 rfl rfl (by decide))
  · intro ξ hφ; exact cp [.blk b1 (cS s) 66] rfl rfl (aS aa63 zz63 rfl rfl rfl (v := (.int .i8 s.c2)) rfl)
  · intro ξ hφ; exact aq (gW rfl rfl (r := (Int.tmod s.c2 2)) (by decide) rfl)
  · intro ξ hφ; exact aq (ba uu63 uu3 rfl (r := (Int.tmod s.c2 2)) (by rw [IntKind.wrap_i64]; first | omega | grind))
  · intro ξ hφ; exact eg (ec (c8 cc45 rfl) (kk (bJ (Int.tmod s.c2 2) 40 (by omega)  (by omega))))
  · intro ξ hφ; exact aq (bG qS rfl rfl (v := (vD (⟨(aj (Int.tmod s.c0 4)), (aj (Int.tmod s.c1 3)), (aj (Int.tmod s.c2 2))⟩ : Qd))) rfl)
  · intro ξ hφ; exact ff [.blk b2 (cD oD) 69] [.blk b2 (cD (⟨(aj (Int.tmod s.c0 4)), (aj (Int.tmod s.c1 3)), (aj (Int.tmod s.c2 2))⟩ : Qd)) 69] rfl rfl (fp zz69 rfl rfl rfl rfl rfl rfl rfl)
  clear h ac wo; intro ξ ac wo hφ h
  replace h : St w0 22 [(2, (ptr b2 0))] [.blk b2 (cD (⟨(aj (Int.tmod s.c0 4)), (aj (Int.tmod s.c1 3)), (aj (Int.tmod s.c2 2))⟩ : Qd)) 69, .blk b1 (cS s) 66] ac wo := (h.pick [0, 1] (by decide)).sub ⟨rfl, trivial⟩
  clear hφ ξ
  refine hK2 _ _ ?_
  refine e7 ?_
  exact ret h rfl (.cell (v := (vD (⟨(aj (Int.tmod s.c0 4)), (aj (Int.tmod s.c1 3)), (aj (Int.tmod s.c2 2))⟩ : Qd))) rfl (i := 0) rfl Tryz.isAgg69 zz69 rfl rfl rfl .nil) rfl (h.retP (by unfold ag; rfl) (by unfold ag; exact ⟨s1, s2, s3⟩))
attribute [irreducible] ag
def cm (iv : Iv) (a : GR) (b : GR) (gap : Bool) : Bool :=
 bif gap then
  ((decide ((ao iv.lo a) ≤ 0)) && (decide ((ao b iv.hi) ≤ 0)))
 else
  (((decide ((ao iv.lo a) < 0)) || (((ao iv.lo a) == 0) && (!iv.openLo))) && ((decide ((ao b iv.hi) < 0)) || (((ao b iv.hi) == 0) && (!iv.openHi))))
theorem gw (iv : Iv) (a : GR) (b : GR) (gap : Bool) (ziv : SzV 30 iv) (za : SzR 30 a) (zb : SzR 30 b) (w0 : World)  : Calls Tryz.prog 94 #[(vV iv), (vR a), (vR b), (.bool gap)] w0 (eE w0 (.bool (cm iv a b gap)) (True)) := by
 refine enter (N := 50) (args := [(vV iv), (vR a), (vR b), (.bool gap)]) Tryz.func94 rfl rfl ?_; intro ac h
 have p2 := ax ((aL iv.lo a 10 (by omega) ziv.1 za) w0)
 have p4 := ax ((aL b iv.hi 10 (by omega) zb ziv.2) w0)
 refine d8 fun K1 hK1 => ?_
 refine bx h (cV iv) rfl rfl rfl fun b1 => gb (cR a) rfl rfl rfl fun b2 => gb (cR b) rfl rfl rfl fun b3 => g0 (ae rfl) rfl <| gn hK1 <| gq fun K2 hK2 => ?_; clear h ac; intro ac wo h
 refine cb mixed [dv _, dw _ [2], dw _ [1], dv _, dw _ [0], dv _, dw _ [2], dv _, dv _, dv _] [⟨_, []⟩, ⟨_, []⟩, ⟨_, []⟩] h rfl (by kernel_rfl) ⟨fun _ _ => aq (fa uu55 rfl zz53 rfl rfl rfl (k' := 0)), fun _ _ => cp _ rfl rfl (aS aa53 zz53 rfl rfl rfl (v := (vR iv.lo)) rfl), fun _ _ => cp _ rfl rfl (aS aa53 zz53 rfl rfl rfl (v := (vR a)) rfl), fun _ _ => eg (ec (c8 cc115 rfl) (kk (aL iv.lo a 10 (by omega) ziv.1 za))), fun _ _ => cp _ rfl rfl (aS aa53 zz53 rfl rfl rfl (v := (vR b)) rfl), fun _ _ => aq (fa uu55 rfl zz53 rfl rfl rfl (k' := 9)), fun _ _ => cp _ rfl rfl (aS aa53 zz53 rfl rfl rfl (v := (vR iv.hi)) rfl), fun _ _ => eg (ec (c8 cc115 rfl) (kk (aL b iv.hi 10 (by omega) zb ziv.2))), fun _ _ => aq (ae rfl), fun _ _ => aq (ae rfl), trivial⟩ ?_
 clear h ac wo; intro ξ ac wo hφ h
 replace h : St w0 50 [(3, (.bool gap)), (4, (ptr b1 0)), (9, (.int .i64 (ao iv.lo a))), (10, (.int .i64 (ao b iv.hi)))] [.blk b3 (cR b) 53, .blk b2 (cR a) 53, .blk b1 (cV iv) 55] ac wo := (h.pick [0, 1, 2] (by decide)).sub ⟨rfl, rfl, rfl, rfl, trivial⟩
 clear hφ ξ
 refine gz h <| gx hK2 <| gq fun K3 hK3 => gr fun K4 hK4 => g0 (af rfl) rfl <| gn hK4 ?_; clear h ac wo; intro ac wo h
 refine dg h rfl (fun hc1 => ?_) (fun hc1 => ?_)
 ·
  have hq1 := hc1; try simp at hq1
  refine gz h <| gr fun K5 hK5 => g0 (af rfl) rfl <| g0 (r_leq rfl rfl) rfl <| g0 (af rfl) rfl <| ge1 rfl rfl (fun hg => (Rd.of_nil (af rfl)).step) rfl <| ge1 rfl rfl (fun hg => (Rd.of_nil (r_leq (an rfl hg) rfl)).step) rfl <| g0 (de rfl (fun e => (an rfl e))) rfl <| g0 (ae rfl) rfl <| gn hK5 <| gT ?_; clear h ac wo; intro ac wo h
  have hd : cm iv a b gap = ((decide ((ao iv.lo a) ≤ 0)) && (decide ((ao b iv.hi) ≤ 0))) := (cT hc1)
  exact ret h rfl (.tmp rfl .nil) rfl (h.retP (by rw [hd] <;> rfl) trivial)
 ·
  have hq1 := hc1; try simp at hq1
  refine gz h <| gS <| gx hK3 <| gr fun K6 hK6 => g0 (af rfl) rfl <| g0 (dk rfl rfl) rfl <| g0 (af rfl) rfl <| ge2 rfl rfl (fun hg => (Rd.of_nil (af rfl)).step) rfl <| ge2 rfl rfl (fun hg => (Rd.of_nil (es (an rfl hg) rfl)).step) rfl <| ge2 rfl rfl (fun hg => (Rd.of_nil (af (an rfl hg))).step) rfl <| ge3 rfl rfl (fun hg => (Rd.of_nil (fa uu55 rfl zz4 rfl rfl rfl (k' := 18))).step) rfl <| ge3 rfl rfl (fun hg => (Rd.of_mem (i := 2) (aS aa4 zz4 (an rfl hg) rfl rfl (v := (.bool iv.openLo)) rfl) rfl).step) rfl <| ge3 rfl rfl (fun hg => (Rd.of_nil (dV (an rfl hg))).step) rfl <| ge2 rfl rfl (fun hg => (Rd.of_nil (de (an rfl hg) (fun e => (an rfl (ke hg e))))).step) rfl <| g0 (kI rfl (fun e => (an rfl (kM e)))) rfl <| g0 (af rfl) rfl <| ge1 rfl rfl (fun hg => (Rd.of_nil (af rfl)).step) rfl <| ge1 rfl rfl (fun hg => (Rd.of_nil (dk (an rfl hg) rfl)).step) rfl <| ge1 rfl rfl (fun hg => (Rd.of_nil (af (an rfl hg))).step) rfl <| ge4 rfl rfl (fun hg => (Rd.of_nil (af rfl)).step) rfl <| ge4 rfl rfl (fun hg => (Rd.of_nil (es (an rfl hg) rfl)).step) rfl <| ge4 rfl rfl (fun hg => (Rd.of_nil (af (an rfl hg))).step) rfl <| ge3 rfl rfl (fun hg => (Rd.of_nil (fa uu55 rfl zz4 rfl rfl rfl (k' := 19))).step) rfl <| ge3 rfl rfl (fun hg => (Rd.of_mem (i := 2) (aS aa4 zz4 (an rfl hg) rfl rfl (v := (.bool iv.openHi)) rfl) rfl).step) rfl <| ge3 rfl rfl (fun hg => (Rd.of_nil (dV (an rfl hg))).step) rfl <| ge4 rfl rfl (fun hg => (Rd.of_nil (de (an rfl hg) (fun e => (an rfl (ke hg e))))).step) rfl <| ge1 rfl rfl (fun hg => (Rd.of_nil (kI (an rfl hg) (fun e => (an rfl (ke hg (kM e)))))).step) rfl <| g0 (de rfl (fun e => (an rfl e))) rfl <| g0 (ae rfl) rfl <| gn hK6 ?_; clear h ac wo; intro ac wo h
  replace h := h.sub (F' := [(8, (.bool (((decide ((ao iv.lo a) < 0)) || (((ao iv.lo a) == 0) && (!iv.openLo))) && ((decide ((ao b iv.hi) < 0)) || (((ao b iv.hi) == 0) && (!iv.openHi))))))]) ⟨rfl, trivial⟩
  refine e7 ?_
  have hd : cm iv a b gap = (((decide ((ao iv.lo a) < 0)) || (((ao iv.lo a) == 0) && (!iv.openLo))) && ((decide ((ao b iv.hi) < 0)) || (((ao b iv.hi) == 0) && (!iv.openHi)))) := (cF hc1)
  exact ret h rfl (.tmp rfl .nil) rfl (h.retP (by rw [hd] <;> rfl) trivial)
attribute [irreducible] cm
def gy (l : List GR) (x : GR) (i : Nat) : (List GR) :=
 (l ++ [x])
def bK (l : List GR) (x : GR) (i : Nat) : Nx Nat (List GR) :=
 bif (decide (((i : Nat) : Int) < ((l.length : Nat) : Int))) then
  bif ((ao x (gt l i)) == 0) then
   .ret l
  else
   bif ((ao x (gt l i)) == (-1)) then
    .ret ((([] ++ (l.take i)) ++ [x]) ++ (l.drop i))
   else
    .go (i + 1)
 else
  .out i
def ak (l : List GR) (x : GR) : (List GR) :=
 fin (bQ (fun s => bK l x s) ((l.length - 0) + 1) 0) (fun s => gy l x s) (fun r => r)
theorem eF (l : List GR) (lv : Value) (x : GR) (hl : l.length ≤ 1000) (zl : All (SzR 30) l) (zx : SzR 30 x) (w0 w : World) (B : Asn) (hbel : Below w0.heap.size w0 w) (hsep : ∃ Z_, Sep w0.heap.size w [.row (α := GR) 53 lv l, B] Z_)  : Calls Tryz.prog 140 #[lv, (vR x)] w (RetY w0 (fun v => All (SzR 30) (ak l x) ∧ (ak l x).length ≤ l.length + 1) (fun v => [.row (α := GR) 53 v (ak l x), B])) := by
 refine jA (N := 39) (args := [lv, (vR x)]) Tryz.func140 rfl rfl hbel hsep ?_; intro ac h
 have hlenl := h.len 0 rfl
 refine d8 fun K1 hK1 => ?_
 refine bx h (cR x) rfl rfl rfl fun b1 => g0 (ae rfl) rfl <| gn hK1 <| gq fun K2 hK2 => gr fun K3 hK3 => g0 (ae rfl) rfl <| gn hK3 <| gB ?_; clear h ac; intro ac wo h
 obtain ⟨X1, hX1⟩ : ∃ X, bQ (fun s => bK l x s) ((l.length - 0) + 1) 0 = X := ⟨_, rfl⟩
 refine wp_loop_ghost (fun n_ a_ w_ => ∃ (i : Nat), ((l.length - i) < n_) ∧ (bQ (fun s => bK l x s) n_ i = X1) ∧ (i ≤ l.length) ∧ St w0 39 [(0, lv), (3, (ptr b1 0)), (5, (.int .i64 ((i : Nat) : Int)))] [.blk b1 (cR x) 53, .row (α := GR) 53 lv l, B] a_ w_) ((l.length - 0) + 1) ⟨0, (by omega), hX1, (by first | omega | grind), (h.sub ⟨rfl, rfl, rfl, trivial⟩)⟩ ?_
 clear h ac wo; rintro n1 ac wo ⟨i, hm1, hL1, hi, h⟩
 obtain ⟨m1, rfl⟩ : ∃ m, n1 = m + 1 := ⟨n1 - 1, by omega⟩
 refine gz h <| gq fun K4 hK4 => gr fun K5 hK5 => g0 (af rfl) rfl <| g0 (af rfl) rfl ?_; clear h ac wo; intro ac wo h
 refine rd0 h (dp uu112 rfl (h.row_sl 1 rfl)) rfl <| g0 (dk rfl rfl) rfl <| gn hK5 ?_; clear h ac wo; intro ac wo h
 refine dg h rfl (fun hc1 => ?_) (fun hc1 => ?_)
 ·
  have hd1 := of_decide_eq_true hc1
  refine dI ?_
  refine hK4 _ _ ?_
  refine di fun K6 hK6 => ?_
  refine eX ?_
  refine di fun K7 hK7 => ?_
  have p2 := ax ((aL x (gt l i) 10 (by omega) zx (All.gt zl (ip _))) w0)
  refine cb mixed [dw _ [0], dv _, dv _, dv _, dw _ [1], dv _] [⟨_, []⟩, ⟨_, []⟩, ⟨_, []⟩] h rfl (by kernel_rfl) ⟨fun _ _ => cp _ rfl rfl (aS aa53 zz53 rfl rfl rfl (v := (vR x)) rfl), fun _ _ => om rfl, fun _ _ => om rfl, fun _ _ => aq (dh (i := i) uu112 zz53 rfl rfl (h.row_nn 1 rfl (by first | omega | grind)) (by first | omega | grind)), fun _ _ => cp _ rfl rfl (dA (k := 0) aa53 zz53 (bi (by first | omega | grind)) rfl (Nat.add_zero _) rfl rfl (v := (vR (gt l i))) rfl), fun _ _ => eg (ec (c8 cc115 rfl) (kk (aL x (gt l i) 10 (by omega) zx (All.gt zl (ip _))))), trivial⟩ ?_
  clear h ac wo; intro ξ ac wo hφ h
  replace h : St w0 39 [(0, lv), (3, (ptr b1 0)), (5, (.int .i64 ((i : Nat) : Int))), (17, (.int .i64 (ao x (gt l i))))] [.blk b1 (cR x) 53, .row (α := GR) 53 lv l, B] ac wo := (h.pick [0, 1, 2] (by decide)).sub ⟨rfl, rfl, rfl, rfl, trivial⟩
  clear hφ ξ
  refine gz h <| gx hK7 <| gB <| gr fun K8 hK8 => g0 (es rfl rfl) rfl <| g0 (ae rfl) rfl <| gn hK8 ?_; clear h ac wo; intro ac wo h
  refine dg h rfl (fun hc2 => ?_) (fun hc2 => ?_)
  ·
   have hd2 := eq_of_beq hc2
   refine gz h <| gr fun K9 hK9 => g0 (af rfl) rfl <| g0 (ae rfl) rfl <| gn hK9 <| gT ?_; clear h ac wo; intro ac wo h
   have hr1 := jl hL1 (show bK l x i = .ret l from (Eq.trans (cT hc1) (cT hc2)))
   have hd : ak l x = l := (pj (hX1.trans hr1))
   exact ret h rfl (.tmp rfl .nil) rfl ((h.pick [1, 2] (by decide)).retY (by rw [hd]; exact ⟨zl, (by first | omega | grind)⟩) (by rw [hd]; rfl))
  ·
   have hd2 := ne_of_beq_false hc2
   refine gz h <| gr fun K10 hK10 => g0 (es rfl rfl) rfl <| g0 (ae rfl) rfl <| gn hK10 ?_; clear h ac wo; intro ac wo h
   refine dg h rfl (fun hc3 => ?_) (fun hc3 => ?_)
   ·
    have hd3 := eq_of_beq hc3
    refine di fun K11 hK11 => ?_
    replace h := h.emps 2
    refine cb mixed [⟨.nd (.one 0 fun v => NN v 0), [3]⟩, dv _, dv _, dv _, ⟨.nd (.con True), [3, 1]⟩, dw _ [0], ⟨.nd (.one 6 fun v => NN v 1), [4]⟩, ⟨.nd (.con True), [3, 4]⟩, dv _, dv _, dv _, ⟨.nd (.con True), [3, 1]⟩, ⟨.nd (.two 12 11 fun a b => a = b), []⟩] [⟨_, []⟩, ⟨_, []⟩, ⟨_, []⟩, ⟨.emp, [(0, .one 0 fun v => .row (α := GR) 53 v ([])), (4, .one 4 fun v => .row (α := GR) 53 v ([] ++ (l.take i))), (7, .one 7 fun v => .row (α := GR) 53 v (([] ++ (l.take i)) ++ [x])), (11, .one 11 fun v => .row (α := GR) 53 v ((([] ++ (l.take i)) ++ [x]) ++ (l.drop i)))]⟩, ⟨.emp, [(6, .one 6 fun v => .row (α := GR) 53 v ([x]))]⟩] h rfl (by kernel_rfl) ⟨fun _ _ => iD (ψ := fun v => NN v 0) (B := fun v => [.row (α := GR) 53 v ([])]) [.emp] rfl (fun v _ => by simp only [dO, aX] <;> rfl) (fun v hv => by simpa [DF.one, aX] using hv) (gV (cn (α := GR) (xs := []) (vs := []) [] k8 rfl rfl rfl (by decide))), fun _ _ => om rfl, fun _ _ => om rfl, fun _ _ => aq (r_cut (n := i) uu112 zz53 rfl rfl (h.row_view 1 rfl) (by first | omega | grind)), fun ξ hφ => iD (B := fun v => [.row (α := GR) 53 v ([] ++ (l.take i)), .row (α := GR) 53 lv l]) [.row (α := GR) 53 (ξ 0) ([]), .row (α := GR) 53 lv l] rfl (fun v _ => by simp only [dO, aX] <;> rfl) (fun _ _ => trivial) (d4 (xs := []) (ys := (l.take i)) k8 (fun w hs => ((row_view hs 0 rfl).cut (by first | omega | grind))) rfl rfl (by first | omega | grind)), fun _ _ => cp _ rfl rfl (aS aa53 zz53 rfl rfl rfl (v := (vR x)) rfl), fun _ _ => iD (ψ := fun v => NN v 1) (B := fun v => [.row (α := GR) 53 v ([x])]) [.emp] rfl (fun v _ => by simp only [dO, aX] <;> rfl) (fun v hv => by simpa [DF.one, aX] using hv) (gV (cn (α := GR) (xs := [.tmp 28]) (vs := [(vR x)]) [x] k8 rfl rfl rfl (by decide))), fun ξ hφ => iD (B := fun v => [.row (α := GR) 53 v (([] ++ (l.take i)) ++ [x]), .row (α := GR) 53 (ξ 6) ([x])]) [.row (α := GR) 53 (ξ 4) ([] ++ (l.take i)), .row (α := GR) 53 (ξ 6) ([x])] rfl (fun v _ => by simp only [dO, aX] <;> rfl) (fun _ _ => trivial) (d4 (xs := ([] ++ (l.take i))) (ys := [x]) k8 (fun w hs => (row_view hs 0 rfl)) rfl rfl (by first | omega | grind)), fun _ _ => om rfl, fun _ _ => om rfl, fun _ _ => aq (r_from (n := i) uu112 zz53 rfl rfl (h.row_view 1 rfl) (by first | omega | grind)), fun ξ hφ => iD (B := fun v => [.row (α := GR) 53 v ((([] ++ (l.take i)) ++ [x]) ++ (l.drop i)), .row (α := GR) 53 lv l]) [.row (α := GR) 53 (ξ 7) (([] ++ (l.take i)) ++ [x]), .row (α := GR) 53 lv l] rfl (fun v _ => by simp only [dO, aX] <;> rfl) (fun _ _ => trivial) (d4 (xs := (([] ++ (l.take i)) ++ [x])) (ys := (l.drop i)) k8 (fun w hs => ((row_view hs 0 rfl).dropv (by first | omega | grind))) rfl rfl (by first | omega | grind)), fun ξ hφ => o8 (φ := .two 12 11 fun a b => a = b) (v := ξ 11) [] rfl rfl (by show upd ξ 12 (ξ 11) 12 = upd ξ 12 (ξ 11) 11; rw [aX, fO (by decide)]) (ae rfl), trivial⟩ ?_
    clear h ac wo; intro ξ ac wo hφ h
    replace h : St w0 39 [(4, ξ 12)] [.blk b1 (cR x) 53, .row (α := GR) 53 lv l, B, .row (α := GR) 53 (ξ 11) ((([] ++ (l.take i)) ++ [x]) ++ (l.drop i))] ac wo := (h.pick [0, 1, 2, 3] (by decide)).sub ⟨rfl, trivial⟩
    rw [show ξ 12 = ξ 11 from hφ 12] at h
    generalize hsv11 : ξ 11 = sv3 at h; clear hsv11
    clear hφ ξ
    refine hK11 _ _ ?_
    refine e7 ?_
    have hr1 := jl hL1 (show bK l x i = .ret ((([] ++ (l.take i)) ++ [x]) ++ (l.drop i)) from (Eq.trans (cT hc1) (Eq.trans (cF hc2) (cT hc3))))
    have hd : ak l x = ((([] ++ (l.take i)) ++ [x]) ++ (l.drop i)) := (pj (hX1.trans hr1))
    exact ret h rfl (.tmp rfl .nil) rfl ((h.pick [3, 2] (by decide)).retY (by rw [hd]; exact ⟨(All.app (All.app (All.app All.nil (All.take zl)) (All.cons zx All.nil)) (All.drop zl)), (by first | omega | grind)⟩) (by rw [hd]; rfl))
   ·
    have hd3 := ne_of_beq_false hc3
    refine gz h <| gS <| gN <| gN <| gx hK6 <| gR <| g0 (af rfl) rfl <| g0 (bt rfl rfl (r := ((i + 1 : Nat) : Int)) (by rw [IntKind.wrap_i64]; first | omega | grind)) rfl <| g0 (ae rfl) rfl <| gx (fun _ _ => bo) ?_; clear h ac wo; intro ac wo h
    exact aC ⟨m1, (by omega), _, (by first | omega | grind), bA hL1 (show bK l x i = .go _ from (Eq.trans (cT hc1) (Eq.trans (cF hc2) (cF hc3)))), (by first | omega | grind), (h.pick [0, 1, 2] (by decide)).sub ⟨rfl, rfl, rfl, trivial⟩⟩
 ·
  have hd1 := of_decide_eq_false hc1
  refine dK ?_
  have hx1 := dz hL1 (show bK l x i = .out i from (cF hc1))
  refine gz h <| gx hK2 <| gr fun K12 hK12 => g0 (af rfl) rfl <| g1 0 rfl (aS aa53 zz53 rfl rfl rfl (v := (vR x)) rfl) rfl ?_; clear h ac wo; intro ac wo h
  refine nw h (cn (α := GR) (xs := [.tmp 36]) (vs := [(vR x)]) [x] k8 rfl rfl rfl (by decide)) rfl ?_; clear h ac wo; intro sv4 ac wo nnsv4 h
  refine on2 h 2 0 rfl rfl (d4 (xs := l) (ys := [x]) k8 (fun w hs => (row_view hs 0 rfl)) rfl rfl (by first | omega | grind)) rfl ?_; clear h ac wo; intro sv5 ac wo apsv5 h
  refine rd0 h (ae rfl) rfl <| gn hK12 <| gT ?_; clear h ac wo; intro ac wo h
  have hd : ak l x = (l ++ [x]) := (ew (hX1.trans hx1))
  exact ret h rfl (.tmp rfl .nil) rfl ((h.pick [0, 3] (by decide)).retY (by rw [hd]; exact ⟨(All.app zl (All.cons zx All.nil)), (by first | omega | grind)⟩) (by rw [hd]; rfl))
attribute [irreducible] ak
end Go.Sx
namespace Go.Sx
open Go Go.RowKit Go.Proofs
set_option maxRecDepth 100000
set_option maxHeartbeats 40000000
attribute [local irreducible] ao bU aj az bE aP aE aA dG cj aQ
theorem eqi55 : EqIn Tryz.prog 5 55 vV := eqS (c := cV) (fun _ => rfl) Tryz.underlying55 Tryz.stoodInHeld55 fun d x y w hd => by
 refine Eq.trans (eqF (by decide) (eA aa53 zz53 (v := vR (x.lo)) rfl w) (eA aa53 zz53 (v := vR (y.lo)) rfl w) (eqi53 d _ _ w (by omega)) (eqF (by decide) (eA aa53 zz53 (v := vR (x.hi)) rfl w) (eA aa53 zz53 (v := vR (y.hi)) rfl w) (eqi53 d _ _ w (by omega)) (eqF (by decide) (gk aa4 rfl w) (gk aa4 rfl w) (eqB nn4 d (by omega) _ _ w) (eqF (by decide) (gk aa4 rfl w) (gk aa4 rfl w) (eqB nn4 d (by omega) _ _ w) eqF0)))) ?_
 congr 1
 rw [decide_eq_decide]
 cases x; cases y; simp
theorem eqp55 : EqP Tryz.prog 55 vV := EqIn.p (k := 5) rfl (c := fun x => (cV x).toArray) (fun _ => rfl) Tryz.eqGuardType55 eqi55
theorem oa : SlT Tryz.prog 149 158 21 224 [.bool false, .string ⟨#[]⟩, .bool false, .string ⟨#[]⟩, .bool false, .string ⟨#[]⟩, .bool false, .string ⟨#[]⟩, .bool false, .bool false, .string ⟨#[]⟩, .bool false, .string ⟨#[]⟩, .bool false, .string ⟨#[]⟩, .bool false, .string ⟨#[]⟩, .bool false, .bool false, .bool false, .int .i64 0] := ⟨Tryz.underlying149, Tryz.t158, _, Tryz.type158, rfl, rfl, rfl, rfl, rfl, by decide, by decide⟩
theorem m9 (w : World) : (method (Tryz.prog.types.size + Made.depth) 31 (.agg #[]) "Equal").run Tryz.prog w = .ok (301, .agg #[]) w := jT (P := Tryz.prog) (T := 31) Tryz.type31 (by kernel_rfl) uu31 w
theorem mj (w : World) : (nilAhead (Tryz.prog.types.size + Made.depth) 31 (.agg #[]) "Equal").run Tryz.prog w = .ok (some false) w := kp (P := Tryz.prog) (T := 31) (f := 301) Tryz.type31 (by kernel_rfl) uu31 w
def cA (f : Int) (g : Int) : Bool :=
 (f == g)
theorem i0 (f : Int) (g : Int) (w0 : World)  : Calls Tryz.prog 301 #[(.agg #[]), (.int .i64 f), (.int .i64 g)] w0 (eE w0 (.bool (cA f g)) (True)) := by
 refine enter (N := 10) (args := [(.agg #[]), (.int .i64 f), (.int .i64 g)]) Tryz.func301 rfl rfl ?_; intro ac h
 refine d8 fun K1 hK1 => ?_
 refine bx h [] rfl rfl rfl fun b1 => g0 (ae rfl) rfl <| gn hK1 <| gr fun K2 hK2 => g0 (af rfl) rfl <| g0 (af rfl) rfl <| g0 (es rfl rfl) rfl <| g0 (ae rfl) rfl <| gn hK2 <| gT ?_; clear h ac; intro ac wo h
 exact ret h rfl (.tmp rfl .nil) rfl (h.retP (by unfold cA; rfl) trivial)
attribute [irreducible] cA
def aT (f : Int) (g : Int) (t : GR) : Bool :=
 (f == g)
theorem ed (f : Int) (g : Int) (t : GR) (zt : SzR 30 t) (w0 : World)  : Calls Tryz.prog 303 #[(.agg #[]), (.int .i64 f), (.int .i64 g), (vR t)] w0 (eE w0 (.bool (aT f g t)) (True)) := by
 refine enter (N := 12) (args := [(.agg #[]), (.int .i64 f), (.int .i64 g), (vR t)]) Tryz.func303 rfl rfl ?_; intro ac h
 refine d8 fun K1 hK1 => ?_
 refine bx h [] rfl rfl rfl fun b1 => gb (cR t) rfl rfl rfl fun b2 => g0 (ae rfl) rfl <| gn hK1 <| gr fun K2 hK2 => g0 (af rfl) rfl <| g0 (af rfl) rfl <| g0 (es rfl rfl) rfl <| g0 (ae rfl) rfl <| gn hK2 <| gT ?_; clear h ac; intro ac wo h
 exact ret h rfl (.tmp rfl .nil) rfl (h.retP (by unfold aT; rfl) trivial)
attribute [irreducible] aT
def aY (f : Int) (t : GR) : Int :=
 f
theorem iO (f : Int) (t : GR) (zt : SzR 30 t) (w0 : World)  : Calls Tryz.prog 302 #[(.agg #[]), (.int .i64 f), (vR t)] w0 (eE w0 (.int .i64 (aY f t)) (True)) := by
 refine enter (N := 8) (args := [(.agg #[]), (.int .i64 f), (vR t)]) Tryz.func302 rfl rfl ?_; intro ac h
 refine d8 fun K1 hK1 => ?_
 refine bx h [] rfl rfl rfl fun b1 => gb (cR t) rfl rfl rfl fun b2 => g0 (ae rfl) rfl <| gn hK1 <| gr fun K2 hK2 => g0 (af rfl) rfl <| g0 (ae rfl) rfl <| gn hK2 <| gT ?_; clear h ac; intro ac wo h
 exact ret h rfl (.tmp rfl .nil) rfl (h.retP (by unfold aY; rfl) trivial)
attribute [irreducible] aY
def fN (l : List (U Int)) (more : List GR) (out : List GR) (i : Nat) : (List GR) :=
 out
def ci (l : List (U Int)) (more : List GR) (out : List GR) (i : Nat) : Nx ((List GR) × Nat) (List GR) :=
 bif (decide (((i : Nat) : Int) < ((l.length : Nat) : Int))) then
  .go ((ak (ak out (((gt l i).iv).lo)) (((gt l i).iv).hi)), (i + 1))
 else
  .out (out, i)
def bI (l : List (U Int)) (more : List GR) : (List GR) :=
 fin (bQ (fun s => ci l more s.1 s.2) ((l.length - 0) + 1) (more, 0)) (fun s => fN l more s.1 s.2) (fun r => r)
theorem iK (l : List (U Int)) (lv : Value) (more : List GR) (morev : Value) (hl : l.length ≤ 100) (hm : more.length ≤ 100) (zl : All (SzUI 30) l) (zmore : All (SzR 30) more) (w0 w : World) (B : Asn) (hbel : Below w0.heap.size w0 w) (hsep : ∃ Z_, Sep w0.heap.size w [.row (α := GR) 53 morev more, B] Z_) (hlv : View w0 lv l) : Calls Tryz.prog 90 #[lv, morev] w (RetY w0 (fun v => All (SzR 30) (bI l more) ∧ (bI l more).length ≤ more.length + 2 * l.length) (fun v => [.row (α := GR) 53 v (bI l more), B])) := by
 refine jA (N := 30) (args := [lv, morev]) Tryz.func90 rfl rfl hbel hsep ?_; intro ac h
 have hlenl := hlv.len
 have hlenmore := h.len 0 rfl
 refine d8 fun K1 hK1 => ?_
 refine rd0 h (ae rfl) rfl <| gn hK1 <| gr fun K2 hK2 => g0 (af rfl) rfl <| g0 (ae rfl) rfl <| gn hK2 <| gq fun K3 hK3 => gr fun K4 hK4 => g0 (ae rfl) rfl <| gn hK4 <| gB ?_; clear h ac; intro ac wo h
 obtain ⟨X1, hX1⟩ : ∃ X, bQ (fun s => ci l more s.1 s.2) ((l.length - 0) + 1) (more, 0) = X := ⟨_, rfl⟩
 refine wp_loop_ghost (fun n_ a_ w_ => ∃ (out : List GR) (i : Nat) (outv : Value), ((l.length - i) < n_) ∧ (bQ (fun s => ci l more s.1 s.2) n_ (out, i) = X1) ∧ (i ≤ l.length) ∧ (All (SzR 30) out) ∧ (out.length ≤ more.length + 2 * i) ∧ St w0 30 [(0, lv), (5, outv), (6, (.int .i64 ((i : Nat) : Int)))] [.row (α := GR) 53 outv out, B] a_ w_) ((l.length - 0) + 1) ⟨more, 0, morev, (by omega), hX1, (by first | omega | grind), zmore, (by first | omega | grind), (h.sub ⟨rfl, rfl, rfl, trivial⟩)⟩ ?_
 clear h ac wo; rintro n1 ac wo ⟨out, i, outv, hm1, hL1, hi, zout, hol, h⟩
 obtain ⟨m1, rfl⟩ : ∃ m, n1 = m + 1 := ⟨n1 - 1, by omega⟩
 refine gz h <| gq fun K5 hK5 => gr fun K6 hK6 => g0 (af rfl) rfl <| g0 (af rfl) rfl <| g0 (dp uu26 rfl hlv.sl) rfl <| g0 (dk rfl rfl) rfl <| gn hK6 ?_; clear h ac wo; intro ac wo h
 refine dg h rfl (fun hc1 => ?_) (fun hc1 => ?_)
 ·
  have hd1 := of_decide_eq_true hc1
  refine dI ?_
  refine hK5 _ _ ?_
  refine di fun K7 hK7 => ?_
  refine eX ?_
  refine cb mixed [dv _, dv _, dv _, dv _, dv _, dv _, dv _, ⟨.nd (.con (All (SzR 30) (ak out (((gt l i).iv).lo)) ∧ (ak out (((gt l i).iv).lo)).length ≤ out.length + 1)), [0]⟩, dv _, dv _, dv _, dv _, dv _, dv _, ⟨.nd (.con (All (SzR 30) (ak (ak out (((gt l i).iv).lo)) (((gt l i).iv).hi)) ∧ (ak (ak out (((gt l i).iv).lo)) (((gt l i).iv).hi)).length ≤ (ak out (((gt l i).iv).lo)).length + 1)), [0]⟩, ⟨.nd (.two 15 14 fun a b => a = b), []⟩] [⟨.row (α := GR) 53 outv out, [(7, .one 7 fun v => .row (α := GR) 53 v (ak out (((gt l i).iv).lo))), (14, .one 14 fun v => .row (α := GR) 53 v (ak (ak out (((gt l i).iv).lo)) (((gt l i).iv).hi)))]⟩, ⟨_, []⟩] h rfl (by kernel_rfl) ⟨fun _ _ => om rfl, fun _ _ => om rfl, fun _ _ => om rfl, fun _ _ => aq (dh (i := i) uu26 zz57 rfl rfl (hlv.nn (i := i) (by first | omega | grind)) (by first | omega | grind)), fun _ _ => aq (fs uu57 rfl zz55 rfl (hlv.nn (i := 0) (by first | omega | grind)) rfl rfl (k' := i * 21 + 0)), fun _ _ => aq (fs uu55 rfl zz53 rfl (hlv.nn (i := 0) (by first | omega | grind)) rfl (by first | rfl | (simp only [Nat.add_assoc] <;> rfl)) (k' := i * 21 + 0)), fun _ _ => aq (dX (k := 0) aa53 zz53 hlv (bi (by first | omega | grind)) rfl rfl rfl rfl (v := (vR (((gt l i).iv).lo))) rfl), fun _ _ => iD (ψ := fun _ => All (SzR 30) (ak out (((gt l i).iv).lo)) ∧ (ak out (((gt l i).iv).lo)).length ≤ out.length + 1) (B := fun v => [.row (α := GR) 53 v (ak out (((gt l i).iv).lo))]) [.row (α := GR) 53 outv out] rfl (fun v _ => by simp only [dO, aX] <;> rfl) (fun v hv => hv) (kG (vs := [outv, (vR (((gt l i).iv).lo))]) (A := fun v => [.row (α := GR) 53 v (ak out (((gt l i).iv).lo))]) (c8 Tryz.call140 rfl) (fun w_ B_ hB_ hS_ => eF out outv (((gt l i).iv).lo) (by first | omega | grind) zout (All.gt zl (ji _)).1 w0 w_ B_ hB_ hS_ )), fun _ _ => om rfl, fun _ _ => om rfl, fun _ _ => aq (dh (i := i) uu26 zz57 rfl rfl (hlv.nn (i := i) (by first | omega | grind)) (by first | omega | grind)), fun _ _ => aq (fs uu57 rfl zz55 rfl (hlv.nn (i := 0) (by first | omega | grind)) rfl rfl (k' := i * 21 + 0)), fun _ _ => aq (fs uu55 rfl zz53 rfl (hlv.nn (i := 0) (by first | omega | grind)) rfl (by first | rfl | (simp only [Nat.add_assoc] <;> rfl)) (k' := i * 21 + 9)), fun _ _ => aq (dX (k := 9) aa53 zz53 hlv (bi (by first | omega | grind)) rfl rfl rfl rfl (v := (vR (((gt l i).iv).hi))) rfl), (fun ξ hφ => by have of5_7 : All (SzR 30) (ak out (((gt l i).iv).lo)) ∧ (ak out (((gt l i).iv).lo)).length ≤ out.length + 1 := hφ 7 rfl; have pof5_7 := of5_7.2; exact iD (ψ := fun _ => All (SzR 30) (ak (ak out (((gt l i).iv).lo)) (((gt l i).iv).hi)) ∧ (ak (ak out (((gt l i).iv).lo)) (((gt l i).iv).hi)).length ≤ (ak out (((gt l i).iv).lo)).length + 1) (B := fun v => [.row (α := GR) 53 v (ak (ak out (((gt l i).iv).lo)) (((gt l i).iv).hi))]) [.row (α := GR) 53 (ξ 7) (ak out (((gt l i).iv).lo))] rfl (fun v _ => by simp only [dO, aX] <;> rfl) (fun v hv => hv) (kG (vs := [(ξ 7), (vR (((gt l i).iv).hi))]) (A := fun v => [.row (α := GR) 53 v (ak (ak out (((gt l i).iv).lo)) (((gt l i).iv).hi))]) (c8 Tryz.call140 rfl) (fun w_ B_ hB_ hS_ => eF (ak out (((gt l i).iv).lo)) (ξ 7) (((gt l i).iv).hi) (by first | omega | grind) of5_7.1 (All.gt zl (ji _)).2 w0 w_ B_ hB_ hS_ ))), (fun ξ hφ => by have of5_7 : All (SzR 30) (ak out (((gt l i).iv).lo)) ∧ (ak out (((gt l i).iv).lo)).length ≤ out.length + 1 := hφ 7 rfl; have pof5_7 := of5_7.2; have of5_14 : All (SzR 30) (ak (ak out (((gt l i).iv).lo)) (((gt l i).iv).hi)) ∧ (ak (ak out (((gt l i).iv).lo)) (((gt l i).iv).hi)).length ≤ (ak out (((gt l i).iv).lo)).length + 1 := hφ 14 rfl; have pof5_14 := of5_14.2; exact o8 (φ := .two 15 14 fun a b => a = b) (v := ξ 14) [] rfl rfl (by show upd ξ 15 (ξ 14) 15 = upd ξ 15 (ξ 14) 14; rw [aX, fO (by decide)]) (ae rfl)), trivial⟩ ?_
  clear h ac wo; intro ξ ac wo hφ h
  replace h : St w0 30 [(0, lv), (5, ξ 15), (6, (.int .i64 ((i : Nat) : Int)))] [.row (α := GR) 53 (ξ 14) (ak (ak out (((gt l i).iv).lo)) (((gt l i).iv).hi)), B] ac wo := (h.pick [0, 1] (by decide)).sub ⟨rfl, rfl, rfl, trivial⟩
  have of5_7 : All (SzR 30) (ak out (((gt l i).iv).lo)) ∧ (ak out (((gt l i).iv).lo)).length ≤ out.length + 1 := hφ 7
  have pof5_7 := of5_7.2
  have of5_14 : All (SzR 30) (ak (ak out (((gt l i).iv).lo)) (((gt l i).iv).hi)) ∧ (ak (ak out (((gt l i).iv).lo)) (((gt l i).iv).hi)).length ≤ (ak out (((gt l i).iv).lo)).length + 1 := hφ 14
  have pof5_14 := of5_14.2
  rw [show ξ 15 = ξ 14 from hφ 15] at h
  generalize hsv14 : ξ 14 = sv1 at h; clear hsv14
  clear hφ ξ
  refine gz h <| gN <| gx hK7 <| gR <| g0 (af rfl) rfl <| g0 (bt rfl rfl (r := ((i + 1 : Nat) : Int)) (by rw [IntKind.wrap_i64]; first | omega | grind)) rfl <| g0 (ae rfl) rfl <| gx (fun _ _ => bo) ?_; clear h ac wo; intro ac wo h
  exact aC ⟨m1, (by omega), _, _, _, (by first | omega | grind), bA hL1 (show ci l more out i = .go _ from (cT hc1)), (by first | omega | grind), of5_14.1, (by first | omega | grind), (h.pick [0, 1] (by decide)).sub ⟨rfl, rfl, rfl, trivial⟩⟩
 ·
  have hd1 := of_decide_eq_false hc1
  refine dK ?_
  have hx1 := dz hL1 (show ci l more out i = .out (out, i) from (cF hc1))
  refine gz h <| gx hK3 <| gr fun K8 hK8 => g0 (af rfl) rfl <| g0 (ae rfl) rfl <| gn hK8 <| gT ?_; clear h ac wo; intro ac wo h
  have hd : bI l more = out := (ew (hX1.trans hx1))
  exact ret h rfl (.tmp rfl .nil) rfl ((h.pick [0, 1] (by decide)).retY (by rw [hd]; exact ⟨zout, (by first | omega | grind)⟩) (by rw [hd]; rfl))
attribute [irreducible] bI
def iu (l : List (U Int)) (ts : List GR) (out : List (At Int)) (i : Nat) (i2 : Nat) (out2 : List (At Int)) : (List (At Int)) :=
 out2
def eO (l : List (U Int)) (ts : List GR) (out : List (At Int)) (i : Nat) (i2 : Nat) (out2 : List (At Int)) (k3 : Nat) (out3 : List (At Int)) : Nx (Nat × (List (At Int))) (List (At Int)) :=
 .go ((i2 + 1), out3)
def bS (l : List (U Int)) (ts : List GR) (out : List (At Int)) (i : Nat) (i2 : Nat) (out2 : List (At Int)) (k3 : Nat) (out3 : List (At Int)) : Nx (Nat × (List (At Int))) (List (At Int)) :=
 bif (decide (((k3 : Nat) : Int) < ((l.length : Nat) : Int))) then
  bif (cm ((gt l k3).iv) ((gt out3 i2).frm) ((gt out3 i2).til) ((gt out3 i2).gap)) then
   .go ((k3 + 1), (out3.set i2 (⟨(gt out3 i2).frm, (gt out3 i2).til, (gt out3 i2).gap, true, (gt l k3).f⟩ : At Int)))
  else
   .go ((k3 + 1), out3)
 else
  .out (k3, out3)
def cd (l : List (U Int)) (ts : List GR) (out : List (At Int)) (i : Nat) (i2 : Nat) (out2 : List (At Int)) : Nx (Nat × (List (At Int))) (List (At Int)) :=
 bif (decide (((i2 : Nat) : Int) < ((out2.length : Nat) : Int))) then
  fin (bQ (fun s => bS l ts out i i2 out2 s.1 s.2) ((l.length - 0) + 1) (0, out2)) (fun s => eO l ts out i i2 out2 s.1 s.2) (fun r => .ret r)
 else
  .out (i2, out2)
def eP (l : List (U Int)) (ts : List GR) (out : List (At Int)) (i : Nat) : (List (At Int)) :=
 fin (bQ (fun s => cd l ts out i s.1 s.2) ((out.length - 0) + 1) (0, out)) (fun s => iu l ts out i s.1 s.2) (fun r => r)
def bB (l : List (U Int)) (ts : List GR) (out : List (At Int)) (i : Nat) : Nx ((List (At Int)) × Nat) (List (At Int)) :=
 bif (decide (((i : Nat) : Int) < ((ts.length : Nat) : Int))) then
  bif (decide (((i + 1 : Nat) : Int) < ((ts.length : Nat) : Int))) then
   .go (((out ++ [(⟨(gt ts i), (gt ts i), false, false, 0⟩ : At Int)]) ++ [(⟨(gt ts i), (gt ts (i + 1)), true, false, 0⟩ : At Int)]), (i + 1))
  else
   .go ((out ++ [(⟨(gt ts i), (gt ts i), false, false, 0⟩ : At Int)]), (i + 1))
 else
  .out (out, i)
def bT (l : List (U Int)) (ts : List GR) : (List (At Int)) :=
 fin (bQ (fun s => bB l ts s.1 s.2) ((ts.length - 0) + 1) ([], 0)) (fun s => eP l ts s.1 s.2) (fun r => r)
theorem fK (l : List (U Int)) (lv : Value) (ts : List GR) (tsv : Value) (hl : l.length ≤ 1000) (ht : ts.length ≤ 1000) (zl : All (SzUI 30) l) (zts : All (SzR 30) ts) (w0 : World) (hlv : View w0 lv l) (htsv : View w0 tsv ts) : Calls Tryz.prog 89 #[lv, tsv] w0 (RetR w0 158 (bT l ts) (All (SzAI 30) (bT l ts) ∧ Alt (bT l ts) ∧ (bT l ts).length ≤ 2 * ts.length)) := by
 refine enter (N := 92) (args := [lv, tsv]) Tryz.func89 rfl rfl ?_; intro ac h
 have hlenl := hlv.len
 have hlents := htsv.len
 refine d8 fun K1 hK1 => ?_
 refine rd0 h (ae rfl) rfl <| gn hK1 <| gr fun K2 hK2 => g0 (ae rfl) rfl <| gn hK2 <| gq fun K3 hK3 => gr fun K4 hK4 => g0 (ae rfl) rfl <| gn hK4 <| gB ?_; clear h ac; intro ac wo h
 replace h := h.nilRow (α := At Int) 158
 obtain ⟨X1, hX1⟩ : ∃ X, bQ (fun s => bB l ts s.1 s.2) ((ts.length - 0) + 1) ([], 0) = X := ⟨_, rfl⟩
 refine wp_loop_ghost (fun n_ a_ w_ => ∃ (out : List (At Int)) (i : Nat) (outv : Value), ((ts.length - i) < n_) ∧ (bQ (fun s => bB l ts s.1 s.2) n_ (out, i) = X1) ∧ (i ≤ ts.length) ∧ (All (SzAI 30) out) ∧ (out.length = 2 * i ∨ (i = ts.length ∧ out.length + 1 = 2 * i)) ∧ (Alt out) ∧ St w0 92 [(0, lv), (1, tsv), (5, outv), (6, (.int .i64 ((i : Nat) : Int)))] [.row (α := At Int) 158 outv out] a_ w_) ((ts.length - 0) + 1) ⟨[], 0, (.slice none 0 0), (by omega), hX1, (by first | omega | grind), All.nil, (Or.inl rfl), Alt.nil, (h.sub ⟨rfl, rfl, rfl, rfl, trivial⟩)⟩ ?_
 clear h ac wo; rintro n1 ac wo ⟨out, i, outv, hm1, hL1, hi, zout, hol, hal, h⟩
 obtain ⟨m1, rfl⟩ : ∃ m, n1 = m + 1 := ⟨n1 - 1, by omega⟩
 refine gz h <| gq fun K5 hK5 => gr fun K6 hK6 => g0 (af rfl) rfl <| g0 (af rfl) rfl <| g0 (dp uu112 rfl htsv.sl) rfl <| g0 (dk rfl rfl) rfl <| gn hK6 ?_; clear h ac wo; intro ac wo h
 refine dg h rfl (fun hc1 => ?_) (fun hc1 => ?_)
 ·
  have hd1 := of_decide_eq_true hc1
  refine dI ?_
  refine hK5 _ _ ?_
  refine di fun K7 hK7 => ?_
  refine eX ?_
  refine di fun K8 hK8 => ?_
  replace h := h.emps 1
  refine cb mixed [dv _, dv _, dv _, dv _, dv _, dv _, dv _, dv _, dv _, dv _, ⟨.nd (.one 10 fun v => NN v 1), [1]⟩, ⟨.nd (.con True), [0, 1]⟩, ⟨.nd (.two 12 11 fun a b => a = b), []⟩] [⟨.row (α := At Int) 158 outv out, [(11, .one 11 fun v => .row (α := At Int) 158 v (out ++ [(⟨(gt ts i), (gt ts i), false, false, 0⟩ : At Int)]))]⟩, ⟨.emp, [(10, .one 10 fun v => .row (α := At Int) 158 v ([(⟨(gt ts i), (gt ts i), false, false, 0⟩ : At Int)]))]⟩] h rfl (by kernel_rfl) ⟨fun _ _ => om rfl, fun _ _ => om rfl, fun _ _ => om rfl, fun _ _ => aq (dh (i := i) uu112 zz53 rfl rfl (htsv.nn (i := i) (by first | omega | grind)) (by first | omega | grind)), fun _ _ => aq (dX (k := 0) aa53 zz53 htsv (bi (by first | omega | grind)) rfl (Nat.add_zero _) rfl rfl (v := (vR (gt ts i))) rfl), fun _ _ => om rfl, fun _ _ => om rfl, fun _ _ => aq (dh (i := i) uu112 zz53 rfl rfl (htsv.nn (i := i) (by first | omega | grind)) (by first | omega | grind)), fun _ _ => aq (dX (k := 0) aa53 zz53 htsv (bi (by first | omega | grind)) rfl (Nat.add_zero _) rfl rfl (v := (vR (gt ts i))) rfl), fun _ _ => aq (bG qV rfl rfl (v := (vAI (⟨(gt ts i), (gt ts i), false, false, 0⟩ : At Int))) rfl), fun _ _ => iD (ψ := fun v => NN v 1) (B := fun v => [.row (α := At Int) 158 v ([(⟨(gt ts i), (gt ts i), false, false, 0⟩ : At Int)])]) [.emp] rfl (fun v _ => by simp only [dO, aX] <;> rfl) (fun v hv => by simpa [DF.one, aX] using hv) (gV (cn (α := At Int) (xs := [.tmp 24]) (vs := [(vAI (⟨(gt ts i), (gt ts i), false, false, 0⟩ : At Int))]) [(⟨(gt ts i), (gt ts i), false, false, 0⟩ : At Int)] oa rfl rfl rfl (by decide))), fun ξ hφ => iD (B := fun v => [.row (α := At Int) 158 v (out ++ [(⟨(gt ts i), (gt ts i), false, false, 0⟩ : At Int)]), .row (α := At Int) 158 (ξ 10) ([(⟨(gt ts i), (gt ts i), false, false, 0⟩ : At Int)])]) [.row (α := At Int) 158 outv out, .row (α := At Int) 158 (ξ 10) ([(⟨(gt ts i), (gt ts i), false, false, 0⟩ : At Int)])] rfl (fun v _ => by simp only [dO, aX] <;> rfl) (fun _ _ => trivial) (d4 (xs := out) (ys := [(⟨(gt ts i), (gt ts i), false, false, 0⟩ : At Int)]) oa (fun w hs => (row_view hs 0 rfl)) rfl rfl (by first | omega | grind)), fun ξ hφ => o8 (φ := .two 12 11 fun a b => a = b) (v := ξ 11) [] rfl rfl (by show upd ξ 12 (ξ 11) 12 = upd ξ 12 (ξ 11) 11; rw [aX, fO (by decide)]) (ae rfl), trivial⟩ ?_
  clear h ac wo; intro ξ ac wo hφ h
  replace h : St w0 92 [(0, lv), (1, tsv), (5, ξ 12), (6, (.int .i64 ((i : Nat) : Int)))] [.row (α := At Int) 158 (ξ 11) (out ++ [(⟨(gt ts i), (gt ts i), false, false, 0⟩ : At Int)])] ac wo := (h.pick [0] (by decide)).sub ⟨rfl, rfl, rfl, rfl, trivial⟩
  rw [show ξ 12 = ξ 11 from hφ 12] at h
  generalize hsv11 : ξ 11 = sv2 at h; clear hsv11
  clear hφ ξ
  refine gz h <| gx hK8 <| gr fun K9 hK9 => g0 (af rfl) rfl <| g0 (bt rfl rfl (r := ((i + 1 : Nat) : Int)) (by rw [IntKind.wrap_i64]; first | omega | grind)) rfl <| g0 (af rfl) rfl <| g0 (dp uu112 rfl htsv.sl) rfl <| g0 (dk rfl rfl) rfl <| gn hK9 ?_; clear h ac wo; intro ac wo h
  refine dg h rfl (fun hc2 => ?_) (fun hc2 => ?_)
  ·
   have hd2 := of_decide_eq_true hc2
   replace h := h.emps 1
   refine cb mixed [dv _, dv _, dv _, dv _, dv _, dv _, dv _, dv _, dv _, dv _, dv _, ⟨.nd (.one 11 fun v => NN v 1), [1]⟩, ⟨.nd (.con True), [0, 1]⟩, ⟨.nd (.two 13 12 fun a b => a = b), []⟩] [⟨.row (α := At Int) 158 sv2 (out ++ [(⟨(gt ts i), (gt ts i), false, false, 0⟩ : At Int)]), [(12, .one 12 fun v => .row (α := At Int) 158 v ((out ++ [(⟨(gt ts i), (gt ts i), false, false, 0⟩ : At Int)]) ++ [(⟨(gt ts i), (gt ts (i + 1)), true, false, 0⟩ : At Int)]))]⟩, ⟨.emp, [(11, .one 11 fun v => .row (α := At Int) 158 v ([(⟨(gt ts i), (gt ts (i + 1)), true, false, 0⟩ : At Int)]))]⟩] h rfl (by kernel_rfl) ⟨fun _ _ => om rfl, fun _ _ => om rfl, fun _ _ => om rfl, fun _ _ => aq (dh (i := i) uu112 zz53 rfl rfl (htsv.nn (i := i) (by first | omega | grind)) (by first | omega | grind)), fun _ _ => aq (dX (k := 0) aa53 zz53 htsv (bi (by first | omega | grind)) rfl (Nat.add_zero _) rfl rfl (v := (vR (gt ts i))) rfl), fun _ _ => om rfl, fun _ _ => om rfl, fun _ _ => aq (bt rfl rfl (r := ((i + 1 : Nat) : Int)) (by rw [IntKind.wrap_i64]; first | omega | grind)), fun _ _ => aq (dh (i := (i + 1)) uu112 zz53 rfl rfl (htsv.nn (i := (i + 1)) (by first | omega | grind)) (by first | omega | grind)), fun _ _ => aq (dX (k := 0) aa53 zz53 htsv (bi (by first | omega | grind)) rfl (Nat.add_zero _) rfl rfl (v := (vR (gt ts (i + 1)))) rfl), fun _ _ => aq (bG qV rfl rfl (v := (vAI (⟨(gt ts i), (gt ts (i + 1)), true, false, 0⟩ : At Int))) rfl), fun _ _ => iD (ψ := fun v => NN v 1) (B := fun v => [.row (α := At Int) 158 v ([(⟨(gt ts i), (gt ts (i + 1)), true, false, 0⟩ : At Int)])]) [.emp] rfl (fun v _ => by simp only [dO, aX] <;> rfl) (fun v hv => by simpa [DF.one, aX] using hv) (gV (cn (α := At Int) (xs := [.tmp 42]) (vs := [(vAI (⟨(gt ts i), (gt ts (i + 1)), true, false, 0⟩ : At Int))]) [(⟨(gt ts i), (gt ts (i + 1)), true, false, 0⟩ : At Int)] oa rfl rfl rfl (by decide))), fun ξ hφ => iD (B := fun v => [.row (α := At Int) 158 v ((out ++ [(⟨(gt ts i), (gt ts i), false, false, 0⟩ : At Int)]) ++ [(⟨(gt ts i), (gt ts (i + 1)), true, false, 0⟩ : At Int)]), .row (α := At Int) 158 (ξ 11) ([(⟨(gt ts i), (gt ts (i + 1)), true, false, 0⟩ : At Int)])]) [.row (α := At Int) 158 sv2 (out ++ [(⟨(gt ts i), (gt ts i), false, false, 0⟩ : At Int)]), .row (α := At Int) 158 (ξ 11) ([(⟨(gt ts i), (gt ts (i + 1)), true, false, 0⟩ : At Int)])] rfl (fun v _ => by simp only [dO, aX] <;> rfl) (fun _ _ => trivial) (d4 (xs := (out ++ [(⟨(gt ts i), (gt ts i), false, false, 0⟩ : At Int)])) (ys := [(⟨(gt ts i), (gt ts (i + 1)), true, false, 0⟩ : At Int)]) oa (fun w hs => (row_view hs 0 rfl)) rfl rfl (by first | omega | grind)), fun ξ hφ => o8 (φ := .two 13 12 fun a b => a = b) (v := ξ 12) [] rfl rfl (by show upd ξ 13 (ξ 12) 13 = upd ξ 13 (ξ 12) 12; rw [aX, fO (by decide)]) (ae rfl), trivial⟩ ?_
   clear h ac wo; intro ξ ac wo hφ h
   replace h : St w0 92 [(0, lv), (1, tsv), (5, ξ 13), (6, (.int .i64 ((i : Nat) : Int)))] [.row (α := At Int) 158 (ξ 12) ((out ++ [(⟨(gt ts i), (gt ts i), false, false, 0⟩ : At Int)]) ++ [(⟨(gt ts i), (gt ts (i + 1)), true, false, 0⟩ : At Int)])] ac wo := (h.pick [0] (by decide)).sub ⟨rfl, rfl, rfl, rfl, trivial⟩
   rw [show ξ 13 = ξ 12 from hφ 13] at h
   generalize hsv12 : ξ 12 = sv3 at h; clear hsv12
   clear hφ ξ
   refine gz h <| gN <| gx hK7 <| gR <| g0 (af rfl) rfl <| g0 (bt rfl rfl (r := ((i + 1 : Nat) : Int)) (by rw [IntKind.wrap_i64]; first | omega | grind)) rfl <| g0 (ae rfl) rfl <| gx (fun _ _ => bo) ?_; clear h ac wo; intro ac wo h
   have hnl : ¬ (i = ts.length) := by omega
   exact aC ⟨m1, (by omega), _, _, _, (by first | omega | grind), bA hL1 (show bB l ts out i = .go _ from (Eq.trans (cT hc1) (cT hc2))), (by first | omega | grind), (All.app (All.app zout (All.cons ⟨(All.gt zts (ip _)), (All.gt zts (ip _))⟩ All.nil)) (All.cons ⟨(All.gt zts (ip _)), (All.gt zts (ip _))⟩ All.nil)), (by simp; omega), (by first | exact (hal.snoc (by simp; omega)).snoc (by simp; omega) | exact hal.snoc (by simp; omega)), (h.pick [0] (by decide)).sub ⟨rfl, rfl, rfl, rfl, trivial⟩⟩
  ·
   have hd2 := of_decide_eq_false hc2
   refine gz h <| gS <| gN <| gx hK7 <| gR <| g0 (af rfl) rfl <| g0 (bt rfl rfl (r := ((i + 1 : Nat) : Int)) (by rw [IntKind.wrap_i64]; first | omega | grind)) rfl <| g0 (ae rfl) rfl <| gx (fun _ _ => bo) ?_; clear h ac wo; intro ac wo h
   have hnl : ¬ (i = ts.length) := by omega
   exact aC ⟨m1, (by omega), _, _, _, (by first | omega | grind), bA hL1 (show bB l ts out i = .go _ from (Eq.trans (cT hc1) (cF hc2))), (by first | omega | grind), (All.app zout (All.cons ⟨(All.gt zts (ip _)), (All.gt zts (ip _))⟩ All.nil)), (by simp; omega), (by first | exact (hal.snoc (by simp; omega)).snoc (by simp; omega) | exact hal.snoc (by simp; omega)), (h.pick [0] (by decide)).sub ⟨rfl, rfl, rfl, rfl, trivial⟩⟩
 ·
  have hd1 := of_decide_eq_false hc1
  refine dK ?_
  have hx1 := dz hL1 (show bB l ts out i = .out (out, i) from (cF hc1))
  refine gz h <| gx hK3 <| gq fun K10 hK10 => gr fun K11 hK11 => g0 (ae rfl) rfl <| gn hK11 <| gB ?_; clear h ac wo; intro ac wo h
  obtain ⟨X2, hX2⟩ : ∃ X, bQ (fun s => cd l ts out i s.1 s.2) ((out.length - 0) + 1) (0, out) = X := ⟨_, rfl⟩
  refine wp_loop_ghost (fun n_ a_ w_ => ∃ (i2 : Nat) (out2 : List (At Int)), ((out2.length - i2) < n_) ∧ (bQ (fun s => cd l ts out i s.1 s.2) n_ (i2, out2) = X2) ∧ (i2 ≤ out2.length) ∧ (All (SzAI 30) out2) ∧ (Alt out2) ∧ (out2.length ≤ 2 * ts.length) ∧ St w0 92 [(0, lv), (5, outv), (7, (.int .i64 ((i2 : Nat) : Int)))] [.row (α := At Int) 158 outv out2] a_ w_) ((out.length - 0) + 1) ⟨0, out, (by omega), hX2, (by first | omega | grind), zout, hal, (by first | omega | grind), (h.sub ⟨rfl, rfl, rfl, trivial⟩)⟩ ?_
  clear h ac wo; rintro n2 ac wo ⟨i2, out2, hm2, hL2, hi2, zout2, hal2, hle2, h⟩
  obtain ⟨m2, rfl⟩ : ∃ m, n2 = m + 1 := ⟨n2 - 1, by omega⟩
  refine gz h <| gq fun K12 hK12 => gr fun K13 hK13 => g0 (af rfl) rfl <| g0 (af rfl) rfl ?_; clear h ac wo; intro ac wo h
  refine rd0 h (dp uu149 rfl (h.row_sl 0 rfl)) rfl <| g0 (dk rfl rfl) rfl <| gn hK13 ?_; clear h ac wo; intro ac wo h
  refine dg h rfl (fun hc3 => ?_) (fun hc3 => ?_)
  ·
   have hd3 := of_decide_eq_true hc3
   refine gz h <| gS <| gx hK12 <| gq fun K14 hK14 => gB <| gr fun K15 hK15 => g0 (ae rfl) rfl <| gn hK15 <| gB ?_; clear h ac wo; intro ac wo h
   obtain ⟨X3, hX3⟩ : ∃ X, bQ (fun s => bS l ts out i i2 out2 s.1 s.2) ((l.length - 0) + 1) (0, out2) = X := ⟨_, rfl⟩
   refine wp_loop_ghost (fun n_ a_ w_ => ∃ (k3 : Nat) (out3 : List (At Int)), ((l.length - k3) < n_) ∧ (bQ (fun s => bS l ts out i i2 out2 s.1 s.2) n_ (k3, out3) = X3) ∧ (k3 ≤ l.length) ∧ (All (SzAI 30) out3) ∧ (out3.length = out2.length) ∧ (Alt out3) ∧ St w0 92 [(0, lv), (5, outv), (7, (.int .i64 ((i2 : Nat) : Int))), (8, (.int .i64 ((k3 : Nat) : Int)))] [.row (α := At Int) 158 outv out3] a_ w_) ((l.length - 0) + 1) ⟨0, out2, (by omega), hX3, (by first | omega | grind), zout2, rfl, hal2, (h.sub ⟨rfl, rfl, rfl, rfl, trivial⟩)⟩ ?_
   clear h ac wo; rintro n3 ac wo ⟨k3, out3, hm3, hL3, hk3, zout3, hl3, hal3, h⟩
   obtain ⟨m3, rfl⟩ : ∃ m, n3 = m + 1 := ⟨n3 - 1, by omega⟩
   refine gz h <| gq fun K16 hK16 => gr fun K17 hK17 => g0 (af rfl) rfl <| g0 (af rfl) rfl <| g0 (dp uu26 rfl hlv.sl) rfl <| g0 (dk rfl rfl) rfl <| gn hK17 ?_; clear h ac wo; intro ac wo h
   refine dg h rfl (fun hc4 => ?_) (fun hc4 => ?_)
   ·
    have hd4 := of_decide_eq_true hc4
    refine dI ?_
    refine hK16 _ _ ?_
    refine di fun K18 hK18 => ?_
    refine eX ?_
    refine di fun K19 hK19 => ?_
    refine cb mixed [dv _, dv _, dv _, dv _, dv _, dv _, dv _, dv _, dv _, dw _ [0], dv _, dv _, dv _, dv _, dw _ [0], dv _, dv _, dv _, dv _, dw _ [0], dv _] [⟨_, []⟩] h rfl (by kernel_rfl) ⟨fun _ _ => om rfl, fun _ _ => om rfl, fun _ _ => aq (dh (i := k3) uu26 zz57 rfl rfl (hlv.nn (i := k3) (by first | omega | grind)) (by first | omega | grind)), fun _ _ => aq (fs uu57 rfl zz55 rfl (hlv.nn (i := 0) (by first | omega | grind)) rfl rfl (k' := k3 * 21 + 0)), fun _ _ => aq (dX (k := 0) Tryz.isAgg55 zz55 hlv (bi (by first | omega | grind)) rfl rfl rfl rfl (v := (vV ((gt l k3).iv))) rfl), fun _ _ => om rfl, fun _ _ => om rfl, fun _ _ => aq (dh (i := i2) uu149 zz158 rfl rfl (h.row_nn 0 rfl (by first | omega | grind)) (by first | omega | grind)), fun _ _ => aq (fs uu158 rfl zz53 rfl (h.row_nn 0 rfl (by first | omega | grind)) rfl rfl (k' := i2 * 21 + 0)), fun _ _ => cp _ rfl rfl (dA (k := 0) aa53 zz53 (bi (by first | omega | grind)) rfl rfl rfl rfl (v := (vR ((gt out3 i2).frm))) rfl), fun _ _ => om rfl, fun _ _ => om rfl, fun _ _ => aq (dh (i := i2) uu149 zz158 rfl rfl (h.row_nn 0 rfl (by first | omega | grind)) (by first | omega | grind)), fun _ _ => aq (fs uu158 rfl zz53 rfl (h.row_nn 0 rfl (by first | omega | grind)) rfl rfl (k' := i2 * 21 + 9)), fun _ _ => cp _ rfl rfl (dA (k := 9) aa53 zz53 (bi (by first | omega | grind)) rfl rfl rfl rfl (v := (vR ((gt out3 i2).til))) rfl), fun _ _ => om rfl, fun _ _ => om rfl, fun _ _ => aq (dh (i := i2) uu149 zz158 rfl rfl (h.row_nn 0 rfl (by first | omega | grind)) (by first | omega | grind)), fun _ _ => aq (fs uu158 rfl zz4 rfl (h.row_nn 0 rfl (by first | omega | grind)) rfl rfl (k' := i2 * 21 + 18)), fun _ _ => cp _ rfl rfl (dA (k := 18) aa4 zz4 (bi (by first | omega | grind)) rfl rfl rfl rfl (v := (.bool ((gt out3 i2).gap))) rfl), fun _ _ => eg (ec (c8 Tryz.call94 rfl) (kk (gw ((gt l k3).iv) ((gt out3 i2).frm) ((gt out3 i2).til) ((gt out3 i2).gap) (All.gt zl (ji _)) (All.gt zout3 (hH _)).1 (All.gt zout3 (hH _)).2))), trivial⟩ ?_
    clear h ac wo; intro ξ ac wo hφ h
    replace h : St w0 92 [(0, lv), (5, outv), (7, (.int .i64 ((i2 : Nat) : Int))), (8, (.int .i64 ((k3 : Nat) : Int))), (77, (.bool (cm ((gt l k3).iv) ((gt out3 i2).frm) ((gt out3 i2).til) ((gt out3 i2).gap))))] [.row (α := At Int) 158 outv out3] ac wo := (h.pick [0] (by decide)).sub ⟨rfl, rfl, rfl, rfl, rfl, trivial⟩
    clear hφ ξ
    refine hK19 _ _ ?_
    refine dg h rfl (fun hc5 => ?_) (fun hc5 => ?_)
    ·
     have hq5 := hc5; try simp at hq5
     refine gz h <| gR <| g0 (af rfl) rfl <| g0 (af rfl) rfl <| g0 (af rfl) rfl <| g0 (af rfl) rfl <| g0 (af rfl) rfl <| g0 (af rfl) rfl <| g0 (dh (i := k3) uu26 zz57 rfl rfl (hlv.nn (i := k3) (by first | omega | grind)) (by first | omega | grind)) rfl <| g0 (fs uu57 rfl zz3 rfl (hlv.nn (i := 0) (by first | omega | grind)) rfl rfl (k' := k3 * 21 + 20)) rfl <| g0 (dX (k := 20) Tryz.isAgg3 zz3 hlv (bi (by first | omega | grind)) rfl rfl rfl rfl (v := (.int .i64 ((gt l k3).f))) rfl) rfl ?_; clear h ac wo; intro ac wo h
     refine rd0 h (dh (i := i2) uu149 zz158 rfl rfl (h.row_nn 0 rfl (by first | omega | grind)) (by first | omega | grind)) rfl ?_; clear h ac wo; intro ac wo h
     refine rd0 h (fs uu158 rfl zz4 rfl (h.row_nn 0 rfl (by first | omega | grind)) rfl rfl (k' := i2 * 21 + 19)) rfl ?_; clear h ac wo; intro ac wo h
     refine up h 0 rfl (fc (k := 19) (u' := (⟨(gt out3 i2).frm, (gt out3 i2).til, (gt out3 i2).gap, true, (gt out3 i2).f⟩ : At Int)) zz4 (bi (by first | omega | grind)) rfl rfl rfl rfl rfl rfl rfl rfl) ?_; clear h ac wo; intro ac wo h
     refine rd0 h (dh (i := i2) uu149 zz158 rfl rfl (h.row_nn 0 rfl (by first | omega | grind)) (by first | omega | grind)) rfl ?_; clear h ac wo; intro ac wo h
     refine rd0 h (fs uu158 rfl zz3 rfl (h.row_nn 0 rfl (by first | omega | grind)) rfl rfl (k' := i2 * 21 + 20)) rfl ?_; clear h ac wo; intro ac wo h
     refine up h 0 rfl (fc (k := 20) (u' := (⟨(gt out3 i2).frm, (gt out3 i2).til, (gt out3 i2).gap, true, (gt l k3).f⟩ : At Int)) zz3 (iE (by first | omega | grind)) rfl rfl rfl rfl rfl rfl rfl rfl) ?_; clear h ac wo; intro ac wo h
     replace h := h.rowEq 0 rfl (by rw [List.set_set] : _ = (out3.set i2 (⟨(gt out3 i2).frm, (gt out3 i2).til, (gt out3 i2).gap, true, (gt l k3).f⟩ : At Int)))
     refine gz h <| gx (fun _ _ => bo) <| gN <| gx hK18 <| gR <| g0 (af rfl) rfl <| g0 (bt rfl rfl (r := ((k3 + 1 : Nat) : Int)) (by rw [IntKind.wrap_i64]; first | omega | grind)) rfl <| g0 (ae rfl) rfl <| gx (fun _ _ => bo) ?_; clear h ac wo; intro ac wo h
     replace h := h.sub (F' := [(0, lv), (5, outv), (7, (.int .i64 ((i2 : Nat) : Int))), (8, (.int .i64 ((k3 + 1 : Nat) : Int)))]) ⟨rfl, rfl, rfl, rfl, trivial⟩
     exact aC ⟨m3, (by omega), _, _, (by first | omega | grind), bA hL3 (show bS l ts out i i2 out2 k3 out3 = .go _ from (Eq.trans (cT hc4) (cT hc5))), (by first | omega | grind), (All.set zout3 ⟨(All.gt zout3 (hH _)).1, (All.gt zout3 (hH _)).2⟩), (by first | exact hl3 | (simp; exact hl3)), (by first | exact hal3.set rfl | exact hal3), (h.pick [0] (by decide)).sub ⟨rfl, rfl, rfl, rfl, trivial⟩⟩
    ·
     have hq5 := hc5; try simp at hq5
     refine gz h <| gS <| gN <| gx hK18 <| gR <| g0 (af rfl) rfl <| g0 (bt rfl rfl (r := ((k3 + 1 : Nat) : Int)) (by rw [IntKind.wrap_i64]; first | omega | grind)) rfl <| g0 (ae rfl) rfl <| gx (fun _ _ => bo) ?_; clear h ac wo; intro ac wo h
     exact aC ⟨m3, (by omega), _, _, (by first | omega | grind), bA hL3 (show bS l ts out i i2 out2 k3 out3 = .go _ from (Eq.trans (cT hc4) (cF hc5))), (by first | omega | grind), zout3, (by first | exact hl3 | (simp; exact hl3)), (by first | exact hal3.set rfl | exact hal3), (h.pick [0] (by decide)).sub ⟨rfl, rfl, rfl, rfl, trivial⟩⟩
   ·
    have hd4 := of_decide_eq_false hc4
    refine dK ?_
    have hx3 := dz hL3 (show bS l ts out i i2 out2 k3 out3 = .out (k3, out3) from (cF hc4))
    refine gz h <| gx hK14 <| gR <| g0 (af rfl) rfl <| g0 (bt rfl rfl (r := ((i2 + 1 : Nat) : Int)) (by rw [IntKind.wrap_i64]; first | omega | grind)) rfl <| g0 (ae rfl) rfl <| gx (fun _ _ => bo) ?_; clear h ac wo; intro ac wo h
    exact aC ⟨m2, (by omega), _, _, (by first | omega | grind), bA hL2 (show cd l ts out i i2 out2 = .go _ from (Eq.trans (cT hc3) (ew (hX3.trans hx3)))), (by first | omega | grind), zout3, hal3, (by first | omega | grind), (h.pick [0] (by decide)).sub ⟨rfl, rfl, rfl, trivial⟩⟩
  ·
   have hd3 := of_decide_eq_false hc3
   refine dK ?_
   have hx2 := dz hL2 (show cd l ts out i i2 out2 = .out (i2, out2) from (cF hc3))
   refine gz h <| gx hK10 <| gr fun K20 hK20 => g0 (af rfl) rfl <| g0 (ae rfl) rfl <| gn hK20 <| gT ?_; clear h ac wo; intro ac wo h
   have hd : bT l ts = out2 := (Eq.trans (ew (hX1.trans hx1)) (ew (hX2.trans hx2)))
   exact ret h rfl (.tmp rfl .nil) rfl (by rw [hd]; exact h.retR 0 rfl ⟨zout2, ⟨hal2, by omega⟩⟩)
attribute [irreducible] bT
end Go.Sx
