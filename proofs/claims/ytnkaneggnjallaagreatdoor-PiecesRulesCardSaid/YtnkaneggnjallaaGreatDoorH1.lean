/- A part of the proof that the law PiecesRules answers true at every input and leaves its arguments as they were. -/
import Derived.Test.YtnkaneggnjallaaGreatDoorProg
import Derived.Test.YtnkaneggnjallaaGreatDoorGarith
import Derived.Test.YtnkaneggnjallaaGreatDoorA7
set_option linter.unusedVariables false
set_option linter.unusedSimpArgs false
namespace Go.Sx
open Go Go.RowKit Go.Proofs
set_option maxRecDepth 100000
def pc_coordinates (f : Ln) : Qd × Qd :=
  ((qu_Linear f.x0 f.x1), (qu_Linear f.y0 f.y1))
theorem pc_coordinates_ct (f : Ln) (k : Nat) (hk : k ≤ 40) (zf : SzN k f) (w0 : World) : Calls Tryz.prog 97 #[(vN f)] w0 (RetP w0 (.tuple #[(vD ((pc_coordinates f).1)), (vD ((pc_coordinates f).2))]) (SzD k ((pc_coordinates f).1) ∧ SzD k ((pc_coordinates f).2))) := by
  refine enter (N := 14) (args := [(vN f)]) Tryz.func97 rfl rfl ?_; intro ac h
  refine c_rs fun K1 hK1 => ?_
  refine bx h (cN f) rfl rfl rfl ?_; clear h ac; intro b1 ac wo h
  refine al h (cD (⟨(⟨(⟨false, 0⟩ : GI), (⟨false, 0⟩ : GI)⟩ : GQ), (⟨(⟨false, 0⟩ : GI), (⟨false, 0⟩ : GI)⟩ : GQ), (⟨(⟨false, 0⟩ : GI), (⟨false, 0⟩ : GI)⟩ : GQ)⟩ : Qd)) Tryz.zeroValue69 rfl rfl ?_; clear h ac wo; intro b2 ac wo h
  refine al h (cD (⟨(⟨(⟨false, 0⟩ : GI), (⟨false, 0⟩ : GI)⟩ : GQ), (⟨(⟨false, 0⟩ : GI), (⟨false, 0⟩ : GI)⟩ : GQ), (⟨(⟨false, 0⟩ : GI), (⟨false, 0⟩ : GI)⟩ : GQ)⟩ : Qd)) Tryz.zeroValue69 rfl rfl ?_; clear h ac wo; intro b3 ac wo h
  refine w_nil ?_
  refine hK1 _ _ ?_
  refine c_seq fun K2 hK2 => ?_
  have s1 := Calls_pr ((qu_Linear_ct f.x0 f.x1 k (by omega) zf.1 zf.2.1) w0)
  have s2 := Calls_pr ((qu_Linear_ct f.y0 f.y1 k (by omega) zf.2.2.1 zf.2.2.2) w0)
  refine draws mixed [⟨.det (ptr b1 0), []⟩, ⟨.det (vQ f.x0), [2]⟩, ⟨.det (ptr b1 4), []⟩, ⟨.det (vQ f.x1), [2]⟩, ⟨.det (vD (qu_Linear f.x0 f.x1)), []⟩, ⟨.det (ptr b1 8), []⟩, ⟨.det (vQ f.y0), [2]⟩, ⟨.det (ptr b1 12), []⟩, ⟨.det (vQ f.y1), [2]⟩, ⟨.det (vD (qu_Linear f.y0 f.y1)), []⟩, ⟨.det undef, [1]⟩, ⟨.det undef, [0]⟩] [⟨.blk b3 (cD (⟨(⟨(⟨false, 0⟩ : GI), (⟨false, 0⟩ : GI)⟩ : GQ), (⟨(⟨false, 0⟩ : GI), (⟨false, 0⟩ : GI)⟩ : GQ), (⟨(⟨false, 0⟩ : GI), (⟨false, 0⟩ : GI)⟩ : GQ)⟩ : Qd)) 69, [(11, .con (.blk b3 (cD (qu_Linear f.y0 f.y1)) 69))]⟩, ⟨.blk b2 (cD (⟨(⟨(⟨false, 0⟩ : GI), (⟨false, 0⟩ : GI)⟩ : GQ), (⟨(⟨false, 0⟩ : GI), (⟨false, 0⟩ : GI)⟩ : GQ), (⟨(⟨false, 0⟩ : GI), (⟨false, 0⟩ : GI)⟩ : GQ)⟩ : Qd)) 69, [(10, .con (.blk b2 (cD (qu_Linear f.x0 f.x1)) 69))]⟩, ⟨.blk b1 (cN f) 42, []⟩] h rfl (by kernel_rfl) ⟨?_, ?_, ?_, ?_, ?_, ?_, ?_, ?_, ?_, ?_, ?_, ?_, trivial⟩ ?_
  · intro ξ hφ; exact ob_r0 (r_fa Tryz.runUnderlying42 rfl Tryz.sizeOf40 (by decide) rfl rfl (k' := 0))
  · intro ξ hφ; exact ob_r [.blk b1 (cN f) 42] rfl rfl (r_ld Tryz.isAgg40 Tryz.sizeOf40 rfl rfl rfl (v := (vQ f.x0)) rfl)
  · intro ξ hφ; exact ob_r0 (r_fa Tryz.runUnderlying42 rfl Tryz.sizeOf40 (by decide) rfl rfl (k' := 4))
  · intro ξ hφ; exact ob_r [.blk b1 (cN f) 42] rfl rfl (r_ld Tryz.isAgg40 Tryz.sizeOf40 rfl rfl rfl (v := (vQ f.x1)) rfl)
  · intro ξ hφ; exact ob_s (s_clp Tryz.call31 (vs := [(vQ f.x0), (vQ f.x1)]) rfl (qu_Linear_ct f.x0 f.x1 k (by omega) zf.1 zf.2.1))
  · intro ξ hφ; exact ob_r0 (r_fa Tryz.runUnderlying42 rfl Tryz.sizeOf40 (by decide) rfl rfl (k' := 8))
  · intro ξ hφ; exact ob_r [.blk b1 (cN f) 42] rfl rfl (r_ld Tryz.isAgg40 Tryz.sizeOf40 rfl rfl rfl (v := (vQ f.y0)) rfl)
  · intro ξ hφ; exact ob_r0 (r_fa Tryz.runUnderlying42 rfl Tryz.sizeOf40 (by decide) rfl rfl (k' := 12))
  · intro ξ hφ; exact ob_r [.blk b1 (cN f) 42] rfl rfl (r_ld Tryz.isAgg40 Tryz.sizeOf40 rfl rfl rfl (v := (vQ f.y1)) rfl)
  · intro ξ hφ; exact ob_s (s_clp Tryz.call31 (vs := [(vQ f.y0), (vQ f.y1)]) rfl (qu_Linear_ct f.y0 f.y1 k (by omega) zf.2.2.1 zf.2.2.2))
  · intro ξ hφ; exact ob_u [.blk b2 (cD (⟨(⟨(⟨false, 0⟩ : GI), (⟨false, 0⟩ : GI)⟩ : GQ), (⟨(⟨false, 0⟩ : GI), (⟨false, 0⟩ : GI)⟩ : GQ), (⟨(⟨false, 0⟩ : GI), (⟨false, 0⟩ : GI)⟩ : GQ)⟩ : Qd)) 69] [.blk b2 (cD (qu_Linear f.x0 f.x1)) 69] rfl rfl (s_st Tryz.sizeOf69 rfl rfl rfl rfl rfl rfl rfl)
  · intro ξ hφ; exact ob_u [.blk b3 (cD (⟨(⟨(⟨false, 0⟩ : GI), (⟨false, 0⟩ : GI)⟩ : GQ), (⟨(⟨false, 0⟩ : GI), (⟨false, 0⟩ : GI)⟩ : GQ), (⟨(⟨false, 0⟩ : GI), (⟨false, 0⟩ : GI)⟩ : GQ)⟩ : Qd)) 69] [.blk b3 (cD (qu_Linear f.y0 f.y1)) 69] rfl rfl (s_st Tryz.sizeOf69 rfl rfl rfl rfl rfl rfl rfl)
  clear h ac wo; intro ξ ac wo hφ h
  replace h : St w0 14 [(2, (ptr b2 0)), (3, (ptr b3 0))] [.blk b3 (cD (qu_Linear f.y0 f.y1)) 69, .blk b2 (cD (qu_Linear f.x0 f.x1)) 69, .blk b1 (cN f) 42] ac wo := h.sub ⟨rfl, rfl, trivial⟩
  clear hφ ξ
  refine hK2 _ _ ?_
  refine c_ret ?_
  have hd : pc_coordinates f = ((qu_Linear f.x0 f.x1), (qu_Linear f.y0 f.y1)) := rfl
  exact ret (rs := [.cell 2 69, .cell 3 69]) h rfl (.cell (v := (vD (qu_Linear f.x0 f.x1))) rfl (i := 1) rfl Tryz.isAgg69 Tryz.sizeOf69 rfl rfl rfl (.cell (v := (vD (qu_Linear f.y0 f.y1))) rfl (i := 0) rfl Tryz.isAgg69 Tryz.sizeOf69 rfl rfl rfl .nil)) rfl (h.retP (by rw [hd] <;> rfl) (by rw [hd]; exact ⟨s1, s2⟩))
end Go.Sx
namespace Go.Sx
open Go Go.RowKit Go.Proofs
set_option maxRecDepth 100000
set_option maxHeartbeats 40000000
attribute [local irreducible] rl_Compare rl_FromInt ra_FromInt ra_Sign qu_Same qu_Reduce qu_Linear qu_Constant cmpInt pc_apart pc_instant
theorem bld73 : BuildF Tryz.prog 73 [] [] := BuildF.of Tryz.zeroValue73 rfl Tryz.runUnderlying73 (by intro w; simp)
def w13_number (n : Int) : GR :=
  (rl_FromInt n)
theorem w13_number_ct (n : Int) (hn : -9223372036854775808 ≤ n ∧ n ≤ 9223372036854775807) (w0 : World)  : Calls Tryz.prog 95 #[(.int .i64 n)] w0 (RetP w0 (vR (w13_number n)) (SzR 40 (w13_number n))) := by
  refine enter (N := 5) (args := [(.int .i64 n)]) Tryz.func95 rfl rfl ?_; intro ac h
  refine c_rs fun K1 hK1 => ?_
  refine al h (cR (⟨(⟨(⟨false, 0⟩ : GI), (⟨false, 0⟩ : GI)⟩ : GQ), (⟨(⟨false, 0⟩ : GI), (⟨false, 0⟩ : GI)⟩ : GQ), false⟩ : GR)) Tryz.zeroValue53 rfl rfl ?_; clear h ac; intro b1 ac wo h
  refine w_nil ?_
  refine hK1 _ _ ?_
  refine c_rs fun K2 hK2 => ?_
  refine rd0 h (r_move rfl) rfl ?_; clear h ac wo; intro ac wo h
  have s1 := Calls_pr ((rl_FromInt_ct n 40 (by omega)  (by omega)) w0)
  refine c_val (vs := [(.int .i64 n)]) h (ent_f Tryz.call156 rfl) (fun w_ hB_ hS_ => (rl_FromInt_ct n 40 (by omega)  (by omega)) w_) rfl ?_; clear h ac wo; intro ac wo h
  refine st h 0 (cR (rl_FromInt n)) rfl Tryz.sizeOf53 rfl rfl rfl rfl rfl rfl rfl ?_; clear h ac wo; intro ac wo h
  refine w_nil ?_
  refine hK2 _ _ ?_
  refine c_ret ?_
  have hd : w13_number n = (rl_FromInt n) := rfl
  exact ret (rs := [.cell 2 53]) h rfl (.cell (v := (vR (rl_FromInt n))) rfl (i := 0) rfl Tryz.isAgg53 Tryz.sizeOf53 rfl rfl rfl .nil) rfl (h.retP (by rw [hd] <;> rfl) (by rw [hd]; exact s1))
attribute [irreducible] w13_number
def w13_Instant (n : Int) (root : Bool) : GR :=
  bif root then
    (⟨(ra_FromInt n), (ra_FromInt 2), false⟩ : GR)
  else
    (w13_number n)
theorem w13_Instant_ct (n : Int) (root : Bool) (hn : -9223372036854775808 ≤ n ∧ n ≤ 9223372036854775807) (w0 : World)  : Calls Tryz.prog 28 #[(.int .i64 n), (.bool root)] w0 (RetP w0 (vR (w13_Instant n root)) (SzR 40 (w13_Instant n root))) := by
  refine enter (N := 12) (args := [(.int .i64 n), (.bool root)]) Tryz.func28 rfl rfl ?_; intro ac h
  refine c_rs fun K1 hK1 => ?_
  refine al h (cR (⟨(⟨(⟨false, 0⟩ : GI), (⟨false, 0⟩ : GI)⟩ : GQ), (⟨(⟨false, 0⟩ : GI), (⟨false, 0⟩ : GI)⟩ : GQ), false⟩ : GR)) Tryz.zeroValue53 rfl rfl ?_; clear h ac; intro b1 ac wo h
  refine w_nil ?_
  refine hK1 _ _ ?_
  refine c_seq fun K2 hK2 => ?_
  refine c_rs fun K3 hK3 => ?_
  refine rd0 h (r_move rfl) rfl ?_; clear h ac wo; intro ac wo h
  refine w_nil ?_
  refine hK3 _ _ ?_
  refine c_if (b := root) h rfl (fun hc1 => ?_) (fun hc1 => ?_)
  · skip
    have hq1 := hc1; try simp only [Bool.and_eq_true, Bool.or_eq_true, Bool.and_eq_false_iff, Bool.or_eq_false_iff, decide_eq_true_eq, decide_eq_false_iff_not, beq_iff_eq, beq_eq_false_iff_ne, bne_iff_ne, bne_eq_false_iff_eq, Bool.true_and, Bool.not_eq_true', Bool.not_eq_false', ne_eq] at hq1
    refine c_rs fun K4 hK4 => ?_
    refine rd0 h (r_move rfl) rfl ?_; clear h ac wo; intro ac wo h
    have s1 := Calls_pr ((ra_FromInt_ct n 40 (by omega)  (by omega)) w0)
    refine c_val (vs := [(.int .i64 n)]) h (ent_f Tryz.call45 rfl) (fun w_ hB_ hS_ => (ra_FromInt_ct n 40 (by omega)  (by omega)) w_) rfl ?_; clear h ac wo; intro ac wo h
    have s2 := Calls_pr ((ra_FromInt_ct 2 40 (by omega)  (by omega)) w0)
    refine c_val (vs := [(.int .i64 2)]) h (ent_f Tryz.call45 rfl) (fun w_ hB_ hS_ => (ra_FromInt_ct 2 40 (by omega)  (by omega)) w_) rfl ?_; clear h ac wo; intro ac wo h
    refine rd0 h (r_build (parts := [(0, .tmp 7), (1, .tmp 8)]) (vs := [(vQ (ra_FromInt n)), (vQ (ra_FromInt 2))]) bld53 rfl rfl (v := (vR (⟨(ra_FromInt n), (ra_FromInt 2), false⟩ : GR))) rfl) rfl ?_; clear h ac wo; intro ac wo h
    refine st h 0 (cR (⟨(ra_FromInt n), (ra_FromInt 2), false⟩ : GR)) rfl Tryz.sizeOf53 rfl rfl rfl rfl rfl rfl rfl ?_; clear h ac wo; intro ac wo h
    refine w_nil ?_
    refine hK4 _ _ ?_
    refine c_ret ?_
    have hd : w13_Instant n root = (⟨(ra_FromInt n), (ra_FromInt 2), false⟩ : GR) := (cT hc1)
    exact ret (rs := [.cell 4 53]) h rfl (.cell (v := (vR (⟨(ra_FromInt n), (ra_FromInt 2), false⟩ : GR))) rfl (i := 0) rfl Tryz.isAgg53 Tryz.sizeOf53 rfl rfl rfl .nil) rfl (h.retP (by rw [hd] <;> rfl) (by rw [hd]; exact ⟨s1, s2⟩))
  · skip
    have hq1 := hc1; try simp only [Bool.and_eq_true, Bool.or_eq_true, Bool.and_eq_false_iff, Bool.or_eq_false_iff, decide_eq_true_eq, decide_eq_false_iff_not, beq_iff_eq, beq_eq_false_iff_ne, bne_iff_ne, bne_eq_false_iff_eq, Bool.true_and, Bool.not_eq_true', Bool.not_eq_false', ne_eq] at hq1
    refine c_skip ?_
    refine hK2 _ _ ?_
    refine c_rs fun K5 hK5 => ?_
    refine rd0 h (r_move rfl) rfl ?_; clear h ac wo; intro ac wo h
    have s3 := Calls.pr ((fun w_ hB_ hS_ => w13_number_ct n (by omega) w_ ) _ h.bel h.sep)
    refine c_val (vs := [(.int .i64 n)]) h (ent_f Tryz.call95 rfl) (fun w_ hB_ hS_ => w13_number_ct n (by omega) w_ ) rfl ?_; clear h ac wo; intro ac wo h
    refine st h 0 (cR (w13_number n)) rfl Tryz.sizeOf53 rfl rfl rfl rfl rfl rfl rfl ?_; clear h ac wo; intro ac wo h
    refine w_nil ?_
    refine hK5 _ _ ?_
    refine c_ret ?_
    have hd : w13_Instant n root = (w13_number n) := (cF hc1)
    exact ret (rs := [.cell 4 53]) h rfl (.cell (v := (vR (w13_number n))) rfl (i := 0) rfl Tryz.isAgg53 Tryz.sizeOf53 rfl rfl rfl .nil) rfl (h.retP (by rw [hd] <;> rfl) (by rw [hd]; exact s3))
attribute [irreducible] w13_Instant
def w13_closed (a : Int) (b : Int) : Iv :=
  (⟨(w13_number a), (w13_number b), false, false⟩ : Iv)
theorem w13_closed_ct (a : Int) (b : Int) (ha : -9223372036854775808 ≤ a ∧ a ≤ 9223372036854775807) (hb : -9223372036854775808 ≤ b ∧ b ≤ 9223372036854775807) (w0 : World)  : Calls Tryz.prog 78 #[(.int .i64 a), (.int .i64 b)] w0 (RetP w0 (vV (w13_closed a b)) (SzV 40 (w13_closed a b))) := by
  refine enter (N := 10) (args := [(.int .i64 a), (.int .i64 b)]) Tryz.func78 rfl rfl ?_; intro ac h
  refine c_rs fun K1 hK1 => ?_
  refine al h (cV (⟨(⟨(⟨(⟨false, 0⟩ : GI), (⟨false, 0⟩ : GI)⟩ : GQ), (⟨(⟨false, 0⟩ : GI), (⟨false, 0⟩ : GI)⟩ : GQ), false⟩ : GR), (⟨(⟨(⟨false, 0⟩ : GI), (⟨false, 0⟩ : GI)⟩ : GQ), (⟨(⟨false, 0⟩ : GI), (⟨false, 0⟩ : GI)⟩ : GQ), false⟩ : GR), false, false⟩ : Iv)) Tryz.zeroValue55 rfl rfl ?_; clear h ac; intro b1 ac wo h
  refine w_nil ?_
  refine hK1 _ _ ?_
  refine c_rs fun K2 hK2 => ?_
  refine rd0 h (r_move rfl) rfl ?_; clear h ac wo; intro ac wo h
  have s1 := Calls.pr ((fun w_ hB_ hS_ => w13_number_ct a (by omega) w_ ) _ h.bel h.sep)
  refine c_val (vs := [(.int .i64 a)]) h (ent_f Tryz.call95 rfl) (fun w_ hB_ hS_ => w13_number_ct a (by omega) w_ ) rfl ?_; clear h ac wo; intro ac wo h
  refine rd0 h (r_move rfl) rfl ?_; clear h ac wo; intro ac wo h
  have s2 := Calls.pr ((fun w_ hB_ hS_ => w13_number_ct b (by omega) w_ ) _ h.bel h.sep)
  refine c_val (vs := [(.int .i64 b)]) h (ent_f Tryz.call95 rfl) (fun w_ hB_ hS_ => w13_number_ct b (by omega) w_ ) rfl ?_; clear h ac wo; intro ac wo h
  refine rd0 h (r_build (parts := [(0, .tmp 6), (1, .tmp 8)]) (vs := [(vR (w13_number a)), (vR (w13_number b))]) bld55 rfl rfl (v := (vV (⟨(w13_number a), (w13_number b), false, false⟩ : Iv))) rfl) rfl ?_; clear h ac wo; intro ac wo h
  refine st h 0 (cV (⟨(w13_number a), (w13_number b), false, false⟩ : Iv)) rfl Tryz.sizeOf55 rfl rfl rfl rfl rfl rfl rfl ?_; clear h ac wo; intro ac wo h
  refine w_nil ?_
  refine hK2 _ _ ?_
  refine c_ret ?_
  have hd : w13_closed a b = (⟨(w13_number a), (w13_number b), false, false⟩ : Iv) := rfl
  exact ret (rs := [.cell 4 55]) h rfl (.cell (v := (vV (⟨(w13_number a), (w13_number b), false, false⟩ : Iv))) rfl (i := 0) rfl Tryz.isAgg55 Tryz.sizeOf55 rfl rfl rfl .nil) rfl (h.retP (by rw [hd] <;> rfl) (by rw [hd]; exact ⟨s1, s2⟩))
attribute [irreducible] w13_closed
def w13_Step_Function (s : Stp) : Qd :=
  (⟨(ra_FromInt (Int.tmod s.c0 4)), (ra_FromInt (Int.tmod s.c1 3)), (ra_FromInt (Int.tmod s.c2 2))⟩ : Qd)
theorem w13_Step_Function_ct (s : Stp) (w0 : World)  : Calls Tryz.prog 29 #[(vS s)] w0 (RetP w0 (vD (w13_Step_Function s)) (SzD 40 (w13_Step_Function s))) := by
  refine enter (N := 22) (args := [(vS s)]) Tryz.func29 rfl rfl ?_; intro ac h
  have t0 := tmodb s.c0 4 (by decide)
  have t1 := tmodb s.c1 3 (by decide)
  have t2 := tmodb s.c2 2 (by decide)
  refine c_rs fun K1 hK1 => ?_
  refine bx h (cS s) rfl rfl rfl ?_; clear h ac; intro b1 ac wo h
  refine al h (cD (⟨(⟨(⟨false, 0⟩ : GI), (⟨false, 0⟩ : GI)⟩ : GQ), (⟨(⟨false, 0⟩ : GI), (⟨false, 0⟩ : GI)⟩ : GQ), (⟨(⟨false, 0⟩ : GI), (⟨false, 0⟩ : GI)⟩ : GQ)⟩ : Qd)) Tryz.zeroValue69 rfl rfl ?_; clear h ac wo; intro b2 ac wo h
  refine w_nil ?_
  refine hK1 _ _ ?_
  refine c_seq fun K2 hK2 => ?_
  have s1 := Calls_pr ((ra_FromInt_ct (Int.tmod s.c0 4) 40 (by omega)  (by omega)) w0)
  have s2 := Calls_pr ((ra_FromInt_ct (Int.tmod s.c1 3) 40 (by omega)  (by omega)) w0)
  have s3 := Calls_pr ((ra_FromInt_ct (Int.tmod s.c2 2) 40 (by omega)  (by omega)) w0)
  refine draws mixed [⟨.det (ptr b1 4), []⟩, ⟨.det (ptr b1 4), []⟩, ⟨.det (.int .i8 s.c0), [1]⟩, ⟨.det (.int .i8 (Int.tmod s.c0 4)), []⟩, ⟨.det (.int .i64 (Int.tmod s.c0 4)), []⟩, ⟨.det (vQ (ra_FromInt (Int.tmod s.c0 4))), []⟩, ⟨.det (ptr b1 4), []⟩, ⟨.det (ptr b1 5), []⟩, ⟨.det (.int .i8 s.c1), [1]⟩, ⟨.det (.int .i8 (Int.tmod s.c1 3)), []⟩, ⟨.det (.int .i64 (Int.tmod s.c1 3)), []⟩, ⟨.det (vQ (ra_FromInt (Int.tmod s.c1 3))), []⟩, ⟨.det (ptr b1 4), []⟩, ⟨.det (ptr b1 6), []⟩, ⟨.det (.int .i8 s.c2), [1]⟩, ⟨.det (.int .i8 (Int.tmod s.c2 2)), []⟩, ⟨.det (.int .i64 (Int.tmod s.c2 2)), []⟩, ⟨.det (vQ (ra_FromInt (Int.tmod s.c2 2))), []⟩, ⟨.det (vD (⟨(ra_FromInt (Int.tmod s.c0 4)), (ra_FromInt (Int.tmod s.c1 3)), (ra_FromInt (Int.tmod s.c2 2))⟩ : Qd)), []⟩, ⟨.det undef, [0]⟩] [⟨.blk b2 (cD (⟨(⟨(⟨false, 0⟩ : GI), (⟨false, 0⟩ : GI)⟩ : GQ), (⟨(⟨false, 0⟩ : GI), (⟨false, 0⟩ : GI)⟩ : GQ), (⟨(⟨false, 0⟩ : GI), (⟨false, 0⟩ : GI)⟩ : GQ)⟩ : Qd)) 69, [(19, .con (.blk b2 (cD (⟨(ra_FromInt (Int.tmod s.c0 4)), (ra_FromInt (Int.tmod s.c1 3)), (ra_FromInt (Int.tmod s.c2 2))⟩ : Qd)) 69))]⟩, ⟨.blk b1 (cS s) 66, []⟩] h rfl (by kernel_rfl) ⟨?_, ?_, ?_, ?_, ?_, ?_, ?_, ?_, ?_, ?_, ?_, ?_, ?_, ?_, ?_, ?_, ?_, ?_, ?_, ?_, trivial⟩ ?_
  · intro ξ hφ; exact ob_r0 (r_fa Tryz.runUnderlying66 rfl Tryz.sizeOf64 (by decide) rfl rfl (k' := 4))
  · intro ξ hφ; exact ob_r0 (r_iaA (i := 0) Tryz.runUnderlying64 Tryz.sizeOf63 rfl rfl (by decide))
  · intro ξ hφ; exact ob_r [.blk b1 (cS s) 66] rfl rfl (r_ld Tryz.isAgg63 Tryz.sizeOf63 rfl rfl rfl (v := (.int .i8 s.c0)) rfl)
  · intro ξ hφ; exact ob_r0 (r_rem rfl rfl (r := (Int.tmod s.c0 4)) (by decide) rfl)
  · intro ξ hφ; exact ob_r0 (r_convInt Tryz.runUnderlying63 Tryz.runUnderlying3 rfl (r := (Int.tmod s.c0 4)) (by rw [IntKind.wrap_i64]; first | omega | (simp only [len_bif, Bool.cond_decide, Bool.cond_eq_ite, List.length_append, List.length_set, List.length_cons, List.length_nil, List.length_take, List.length_drop, List.length_replicate] at *; omega)))
  · intro ξ hφ; exact ob_s (s_val (vs := [(.int .i64 (Int.tmod s.c0 4))]) (ent_f Tryz.call45 rfl) (fun w_ hB_ hS_ => (ra_FromInt_ct (Int.tmod s.c0 4) 40 (by omega)  (by omega)) w_))
  · intro ξ hφ; exact ob_r0 (r_fa Tryz.runUnderlying66 rfl Tryz.sizeOf64 (by decide) rfl rfl (k' := 4))
  · intro ξ hφ; exact ob_r0 (r_iaA (i := 1) Tryz.runUnderlying64 Tryz.sizeOf63 rfl rfl (by decide))
  · intro ξ hφ; exact ob_r [.blk b1 (cS s) 66] rfl rfl (r_ld Tryz.isAgg63 Tryz.sizeOf63 rfl rfl rfl (v := (.int .i8 s.c1)) rfl)
  · intro ξ hφ; exact ob_r0 (r_rem rfl rfl (r := (Int.tmod s.c1 3)) (by decide) rfl)
  · intro ξ hφ; exact ob_r0 (r_convInt Tryz.runUnderlying63 Tryz.runUnderlying3 rfl (r := (Int.tmod s.c1 3)) (by rw [IntKind.wrap_i64]; first | omega | (simp only [len_bif, Bool.cond_decide, Bool.cond_eq_ite, List.length_append, List.length_set, List.length_cons, List.length_nil, List.length_take, List.length_drop, List.length_replicate] at *; omega)))
  · intro ξ hφ; exact ob_s (s_val (vs := [(.int .i64 (Int.tmod s.c1 3))]) (ent_f Tryz.call45 rfl) (fun w_ hB_ hS_ => (ra_FromInt_ct (Int.tmod s.c1 3) 40 (by omega)  (by omega)) w_))
  · intro ξ hφ; exact ob_r0 (r_fa Tryz.runUnderlying66 rfl Tryz.sizeOf64 (by decide) rfl rfl (k' := 4))
  · intro ξ hφ; exact ob_r0 (r_iaA (i := 2) Tryz.runUnderlying64 Tryz.sizeOf63 rfl rfl (by decide))
  · intro ξ hφ; exact ob_r [.blk b1 (cS s) 66] rfl rfl (r_ld Tryz.isAgg63 Tryz.sizeOf63 rfl rfl rfl (v := (.int .i8 s.c2)) rfl)
  · intro ξ hφ; exact ob_r0 (r_rem rfl rfl (r := (Int.tmod s.c2 2)) (by decide) rfl)
  · intro ξ hφ; exact ob_r0 (r_convInt Tryz.runUnderlying63 Tryz.runUnderlying3 rfl (r := (Int.tmod s.c2 2)) (by rw [IntKind.wrap_i64]; first | omega | (simp only [len_bif, Bool.cond_decide, Bool.cond_eq_ite, List.length_append, List.length_set, List.length_cons, List.length_nil, List.length_take, List.length_drop, List.length_replicate] at *; omega)))
  · intro ξ hφ; exact ob_s (s_val (vs := [(.int .i64 (Int.tmod s.c2 2))]) (ent_f Tryz.call45 rfl) (fun w_ hB_ hS_ => (ra_FromInt_ct (Int.tmod s.c2 2) 40 (by omega)  (by omega)) w_))
  · intro ξ hφ; exact ob_r0 (r_build (parts := [(0, .tmp 8), (1, .tmp 14), (2, .tmp 20)]) (vs := [(vQ (ra_FromInt (Int.tmod s.c0 4))), (vQ (ra_FromInt (Int.tmod s.c1 3))), (vQ (ra_FromInt (Int.tmod s.c2 2)))]) bld69 rfl rfl (v := (vD (⟨(ra_FromInt (Int.tmod s.c0 4)), (ra_FromInt (Int.tmod s.c1 3)), (ra_FromInt (Int.tmod s.c2 2))⟩ : Qd))) rfl)
  · intro ξ hφ; exact ob_u [.blk b2 (cD (⟨(⟨(⟨false, 0⟩ : GI), (⟨false, 0⟩ : GI)⟩ : GQ), (⟨(⟨false, 0⟩ : GI), (⟨false, 0⟩ : GI)⟩ : GQ), (⟨(⟨false, 0⟩ : GI), (⟨false, 0⟩ : GI)⟩ : GQ)⟩ : Qd)) 69] [.blk b2 (cD (⟨(ra_FromInt (Int.tmod s.c0 4)), (ra_FromInt (Int.tmod s.c1 3)), (ra_FromInt (Int.tmod s.c2 2))⟩ : Qd)) 69] rfl rfl (s_st Tryz.sizeOf69 rfl rfl rfl rfl rfl rfl rfl)
  clear h ac wo; intro ξ ac wo hφ h
  replace h : St w0 22 [(2, (ptr b2 0))] [.blk b2 (cD (⟨(ra_FromInt (Int.tmod s.c0 4)), (ra_FromInt (Int.tmod s.c1 3)), (ra_FromInt (Int.tmod s.c2 2))⟩ : Qd)) 69, .blk b1 (cS s) 66] ac wo := (h.pick [0, 1] (by decide)).sub ⟨rfl, trivial⟩
  clear hφ ξ
  refine hK2 _ _ ?_
  refine c_ret ?_
  have hd : w13_Step_Function s = (⟨(ra_FromInt (Int.tmod s.c0 4)), (ra_FromInt (Int.tmod s.c1 3)), (ra_FromInt (Int.tmod s.c2 2))⟩ : Qd) := rfl
  exact ret (rs := [.cell 2 69]) h rfl (.cell (v := (vD (⟨(ra_FromInt (Int.tmod s.c0 4)), (ra_FromInt (Int.tmod s.c1 3)), (ra_FromInt (Int.tmod s.c2 2))⟩ : Qd))) rfl (i := 0) rfl Tryz.isAgg69 Tryz.sizeOf69 rfl rfl rfl .nil) rfl (h.retP (by rw [hd] <;> rfl) (by rw [hd]; exact ⟨s1, s2, s3⟩))
attribute [irreducible] w13_Step_Function
end Go.Sx
namespace Go.Sx
open Go Go.RowKit Go.Proofs
set_option maxRecDepth 100000
set_option maxHeartbeats 40000000
attribute [local irreducible] rl_Compare rl_FromInt ra_FromInt ra_Sign qu_Same qu_Reduce qu_Linear qu_Constant cmpInt pc_apart pc_instant
theorem eqi55 : EqIn Tryz.prog 5 55 vV := eqS (c := cV) (fun _ => rfl) Tryz.underlying55 Tryz.stoodInHeld55 fun d x y w hd => by
  refine Eq.trans (eqF (by decide) (part_agg Tryz.isAgg53 Tryz.sizeOf53 (v := vR (x.lo)) rfl w) (part_agg Tryz.isAgg53 Tryz.sizeOf53 (v := vR (y.lo)) rfl w) (eqi53 d _ _ w (by omega)) (eqF (by decide) (part_agg Tryz.isAgg53 Tryz.sizeOf53 (v := vR (x.hi)) rfl w) (part_agg Tryz.isAgg53 Tryz.sizeOf53 (v := vR (y.hi)) rfl w) (eqi53 d _ _ w (by omega)) (eqF (by decide) (part_one Tryz.isAgg4 rfl w) (part_one Tryz.isAgg4 rfl w) (eqB Tryz.underlying4 d (by omega) _ _ w) (eqF (by decide) (part_one Tryz.isAgg4 rfl w) (part_one Tryz.isAgg4 rfl w) (eqB Tryz.underlying4 d (by omega) _ _ w) eqF0)))) ?_
  congr 1
  rw [decide_eq_decide]
  cases x; cases y; simp
theorem eqp55 : EqP Tryz.prog 55 vV := EqIn.p (k := 5) rfl (c := fun x => (cV x).toArray) (fun _ => rfl) Tryz.eqGuardType55 eqi55
end Go.Sx
namespace Go.Sx
open Go Go.RowKit Go.Proofs
set_option maxRecDepth 100000
set_option maxHeartbeats 40000000
attribute [local irreducible] rl_Compare rl_FromInt ra_FromInt ra_Sign qu_Same qu_Reduce qu_Linear qu_Constant cmpInt pc_apart pc_instant
def cmpOrL_K1 (x : List Int) (x8 : Nat) : Int :=
  0
def cmpOrL_B1 (x : List Int) (x8 : Nat) : Nx Nat Int :=
  bif (decide (((x8 : Nat) : Int) < ((x.length : Nat) : Int))) then
    bif ((gt x x8) != 0) then
      .ret (gt x x8)
    else
      .go (x8 + 1)
  else
    .out x8
def cmpOrL (x : List Int) : Int :=
  fin (loopF (fun s => cmpOrL_B1 x s) ((x.length - 0) + 1) 0) (fun s => cmpOrL_K1 x s) (fun r => r)
theorem cmpOrL_ct (x : List Int) (xv : Value) (w0 : World) (hxv : View w0 xv x) : Calls Tryz.prog 148 #[xv] w0 (RetP w0 (.int .i64 (cmpOrL x)) (True)) := by
  refine enter (N := 18) (args := [xv]) Tryz.func148 rfl rfl ?_; intro ac h
  have hlenx := hxv.len
  refine c_rs fun K1 hK1 => ?_
  refine rd0 h (r_assign rfl (v := (.int .i64 0))) rfl ?_; clear h ac; intro ac wo h
  refine w_nil ?_
  refine hK1 _ _ ?_
  refine c_rs fun K2 hK2 => ?_
  refine rd0 h (r_assign rfl (v := (.int .i64 0))) rfl ?_; clear h ac wo; intro ac wo h
  refine w_nil ?_
  refine hK2 _ _ ?_
  refine c_seq fun K3 hK3 => ?_
  refine c_rs fun K4 hK4 => ?_
  refine rd0 h (r_move rfl) rfl ?_; clear h ac wo; intro ac wo h
  refine rd0 h (r_len Tryz.runUnderlying256 rfl hxv.sl) rfl ?_; clear h ac wo; intro ac wo h
  refine rd0 h (r_move rfl (v := (.int .i64 0))) rfl ?_; clear h ac wo; intro ac wo h
  refine w_nil ?_
  refine hK4 _ _ ?_
  refine c_block ?_
  obtain ⟨X1, hX1⟩ : ∃ X, loopF (fun s => cmpOrL_B1 x s) ((x.length - 0) + 1) 0 = X := ⟨_, rfl⟩
  refine wp_loop_ghost (fun n_ a_ w_ => ∃ (x8 : Nat), ((x.length - x8) < n_) ∧ (loopF (fun s => cmpOrL_B1 x s) n_ x8 = X1) ∧ (x8 ≤ x.length) ∧ St w0 18 [(3, (.int .i64 0)), (6, xv), (7, (.int .i64 ((x.length : Nat) : Int))), (8, (.int .i64 ((x8 : Nat) : Int)))] [] a_ w_) ((x.length - 0) + 1) ⟨0, (by omega), hX1, (by first | assumption | omega | (simp only [len_bif, Bool.cond_decide, Bool.cond_eq_ite, List.length_append, List.length_set, List.length_cons, List.length_nil, List.length_take, List.length_drop, List.length_replicate] at *; done) | (simp only [len_bif, Bool.cond_decide, Bool.cond_eq_ite, List.length_append, List.length_set, List.length_cons, List.length_nil, List.length_take, List.length_drop, List.length_replicate] at *; omega) | (simp only [len_bif, Bool.cond_decide, Bool.cond_eq_ite, List.length_append, List.length_set, List.length_cons, List.length_nil, List.length_take, List.length_drop, List.length_replicate]; omega)), (h.sub ⟨rfl, rfl, rfl, rfl, trivial⟩)⟩ ?_
  clear h ac wo; rintro n1 ac wo ⟨x8, hm1, hL1, hx8, h⟩
  obtain ⟨m1, rfl⟩ : ∃ m, n1 = m + 1 := ⟨n1 - 1, by omega⟩
  refine c_rs fun K5 hK5 => ?_
  refine rd0 h (r_lss rfl rfl) rfl ?_; clear h ac wo; intro ac wo h
  refine w_nil ?_
  refine hK5 _ _ ?_
  refine c_seq fun K6 hK6 => ?_
  refine c_if (b := (decide (((x8 : Nat) : Int) < ((x.length : Nat) : Int)))) h rfl (fun hc1 => ?_) (fun hc1 => ?_)
  · skip
    have hd1 := of_decide_eq_true hc1
    refine c_skip ?_
    refine hK6 _ _ ?_
    refine c_seq fun K7 hK7 => ?_
    refine c_block ?_
    refine c_rs fun K8 hK8 => ?_
    refine rd0 h (r_ia (i := x8) Tryz.runUnderlying256 Tryz.sizeOf3 rfl rfl (hxv.nn (i := x8) (by first | assumption | omega | (simp only [len_bif, Bool.cond_decide, Bool.cond_eq_ite, List.length_append, List.length_set, List.length_cons, List.length_nil, List.length_take, List.length_drop, List.length_replicate] at *; done) | (simp only [len_bif, Bool.cond_decide, Bool.cond_eq_ite, List.length_append, List.length_set, List.length_cons, List.length_nil, List.length_take, List.length_drop, List.length_replicate] at *; omega) | (simp only [len_bif, Bool.cond_decide, Bool.cond_eq_ite, List.length_append, List.length_set, List.length_cons, List.length_nil, List.length_take, List.length_drop, List.length_replicate]; omega))) (by first | assumption | omega | (simp only [len_bif, Bool.cond_decide, Bool.cond_eq_ite, List.length_append, List.length_set, List.length_cons, List.length_nil, List.length_take, List.length_drop, List.length_replicate] at *; done) | (simp only [len_bif, Bool.cond_decide, Bool.cond_eq_ite, List.length_append, List.length_set, List.length_cons, List.length_nil, List.length_take, List.length_drop, List.length_replicate] at *; omega) | (simp only [len_bif, Bool.cond_decide, Bool.cond_eq_ite, List.length_append, List.length_set, List.length_cons, List.length_nil, List.length_take, List.length_drop, List.length_replicate]; omega))) rfl ?_; clear h ac wo; intro ac wo h
    refine rd0 h (r_ldV (k := 0) Tryz.isAgg3 Tryz.sizeOf3 hxv (get_gt (by first | assumption | omega | (simp only [len_bif, Bool.cond_decide, Bool.cond_eq_ite, List.length_append, List.length_set, List.length_cons, List.length_nil, List.length_take, List.length_drop, List.length_replicate] at *; done) | (simp only [len_bif, Bool.cond_decide, Bool.cond_eq_ite, List.length_append, List.length_set, List.length_cons, List.length_nil, List.length_take, List.length_drop, List.length_replicate] at *; omega) | (simp only [len_bif, Bool.cond_decide, Bool.cond_eq_ite, List.length_append, List.length_set, List.length_cons, List.length_nil, List.length_take, List.length_drop, List.length_replicate]; omega))) rfl (Nat.add_zero _) rfl rfl (v := (.int .i64 (gt x x8))) rfl) rfl ?_; clear h ac wo; intro ac wo h
    refine rd0 h (r_assign rfl) rfl ?_; clear h ac wo; intro ac wo h
    refine w_nil ?_
    refine hK8 _ _ ?_
    refine c_rs fun K9 hK9 => ?_
    refine rd0 h (r_move rfl) rfl ?_; clear h ac wo; intro ac wo h
    refine rd0 h (r_move rfl) rfl ?_; clear h ac wo; intro ac wo h
    refine rd0 h (r_neq rfl rfl) rfl ?_; clear h ac wo; intro ac wo h
    refine w_nil ?_
    refine hK9 _ _ ?_
    refine c_if (b := ((gt x x8) != 0)) h rfl (fun hc2 => ?_) (fun hc2 => ?_)
    · skip
      have hq2 := hc2; try simp only [Bool.and_eq_true, Bool.or_eq_true, Bool.and_eq_false_iff, Bool.or_eq_false_iff, decide_eq_true_eq, decide_eq_false_iff_not, beq_iff_eq, beq_eq_false_iff_ne, bne_iff_ne, bne_eq_false_iff_eq, Bool.true_and, Bool.not_eq_true', Bool.not_eq_false', ne_eq] at hq2
      refine c_rs fun K10 hK10 => ?_
      refine rd0 h (r_move rfl) rfl ?_; clear h ac wo; intro ac wo h
      refine rd0 h (r_assign rfl) rfl ?_; clear h ac wo; intro ac wo h
      refine w_nil ?_
      refine hK10 _ _ ?_
      refine c_ret ?_
      have hr1 := loop_ret hL1 (show cmpOrL_B1 x x8 = .ret (gt x x8) from (Eq.trans (cT hc1) (cT hc2)))
      have hd : cmpOrL x = (gt x x8) := (fin_r (hX1.trans hr1))
      exact ret (rs := [.tmp 2]) h rfl (.tmp rfl .nil) rfl (h.retP (by rw [hd] <;> rfl) trivial)
    · skip
      have hq2 := hc2; try simp only [Bool.and_eq_true, Bool.or_eq_true, Bool.and_eq_false_iff, Bool.or_eq_false_iff, decide_eq_true_eq, decide_eq_false_iff_not, beq_iff_eq, beq_eq_false_iff_ne, bne_iff_ne, bne_eq_false_iff_eq, Bool.true_and, Bool.not_eq_true', Bool.not_eq_false', ne_eq] at hq2
      refine c_skip ?_
      refine b_norm ?_
      refine hK7 _ _ ?_
      refine c_r ?_
      refine rd0 h (r_add rfl rfl (r := ((x8 + 1 : Nat) : Int)) (by rw [IntKind.wrap_i64]; first | omega | (simp only [len_bif, Bool.cond_decide, Bool.cond_eq_ite, List.length_append, List.length_set, List.length_cons, List.length_nil, List.length_take, List.length_drop, List.length_replicate] at *; omega))) rfl ?_; clear h ac wo; intro ac wo h
      refine rd0 h (r_move rfl) rfl ?_; clear h ac wo; intro ac wo h
      refine w_nil ?_
      exact next_round ⟨m1, (by omega), (x8 + 1), (by first | assumption | omega | (simp only [len_bif, Bool.cond_decide, Bool.cond_eq_ite, List.length_append, List.length_set, List.length_cons, List.length_nil, List.length_take, List.length_drop, List.length_replicate] at *; done) | (simp only [len_bif, Bool.cond_decide, Bool.cond_eq_ite, List.length_append, List.length_set, List.length_cons, List.length_nil, List.length_take, List.length_drop, List.length_replicate] at *; omega) | (simp only [len_bif, Bool.cond_decide, Bool.cond_eq_ite, List.length_append, List.length_set, List.length_cons, List.length_nil, List.length_take, List.length_drop, List.length_replicate]; omega)), loop_go hL1 (show cmpOrL_B1 x x8 = .go (x8 + 1) from (Eq.trans (cT hc1) (cF hc2))), (by first | assumption | omega | (simp only [len_bif, Bool.cond_decide, Bool.cond_eq_ite, List.length_append, List.length_set, List.length_cons, List.length_nil, List.length_take, List.length_drop, List.length_replicate] at *; done) | (simp only [len_bif, Bool.cond_decide, Bool.cond_eq_ite, List.length_append, List.length_set, List.length_cons, List.length_nil, List.length_take, List.length_drop, List.length_replicate] at *; omega) | (simp only [len_bif, Bool.cond_decide, Bool.cond_eq_ite, List.length_append, List.length_set, List.length_cons, List.length_nil, List.length_take, List.length_drop, List.length_replicate]; omega)), (h.pick [] (by decide)).sub ⟨rfl, rfl, rfl, rfl, trivial⟩⟩
  · skip
    have hd1 := of_decide_eq_false hc1
    refine c_exit ?_
    have hx1 := loop_out hL1 (show cmpOrL_B1 x x8 = .out x8 from (cF hc1))
    refine hK3 _ _ ?_
    refine c_rs fun K11 hK11 => ?_
    refine rd0 h (r_move rfl) rfl ?_; clear h ac wo; intro ac wo h
    refine rd0 h (r_assign rfl) rfl ?_; clear h ac wo; intro ac wo h
    refine w_nil ?_
    refine hK11 _ _ ?_
    refine c_ret ?_
    have hd : cmpOrL x = 0 := (fin_l (hX1.trans hx1))
    exact ret (rs := [.tmp 2]) h rfl (.tmp rfl .nil) rfl (h.retP (by rw [hd] <;> rfl) trivial)
attribute [irreducible] cmpOrL
end Go.Sx
