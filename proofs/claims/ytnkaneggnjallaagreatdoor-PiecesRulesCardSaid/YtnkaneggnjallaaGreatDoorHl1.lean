/- A part of the proof that the law PiecesRules answers true at every input and leaves its arguments as they were. -/
import Derived.Test.YtnkaneggnjallaaGreatDoorH1
set_option linter.unusedVariables false
set_option linter.unusedSimpArgs false
namespace Go.Sx
open Go Go.RowKit Go.Proofs
set_option maxRecDepth 100000
set_option maxHeartbeats 40000000
attribute [local irreducible] rl_Compare rl_FromInt ra_FromInt ra_Sign qu_Same qu_Reduce qu_Linear qu_Constant cmpInt pc_apart pc_instant
theorem eqi42 : EqIn Tryz.prog 4 42 vN := eqS (c := cN) (fun _ => rfl) Tryz.underlying42 Tryz.stoodInHeld42 fun d x y w hd => by
  refine Eq.trans (eqF (by decide) (part_agg Tryz.isAgg40 Tryz.sizeOf40 (v := vQ (x.x0)) rfl w) (part_agg Tryz.isAgg40 Tryz.sizeOf40 (v := vQ (y.x0)) rfl w) (eqi40 d _ _ w (by omega)) (eqF (by decide) (part_agg Tryz.isAgg40 Tryz.sizeOf40 (v := vQ (x.x1)) rfl w) (part_agg Tryz.isAgg40 Tryz.sizeOf40 (v := vQ (y.x1)) rfl w) (eqi40 d _ _ w (by omega)) (eqF (by decide) (part_agg Tryz.isAgg40 Tryz.sizeOf40 (v := vQ (x.y0)) rfl w) (part_agg Tryz.isAgg40 Tryz.sizeOf40 (v := vQ (y.y0)) rfl w) (eqi40 d _ _ w (by omega)) (eqF (by decide) (part_agg Tryz.isAgg40 Tryz.sizeOf40 (v := vQ (x.y1)) rfl w) (part_agg Tryz.isAgg40 Tryz.sizeOf40 (v := vQ (y.y1)) rfl w) (eqi40 d _ _ w (by omega)) eqF0)))) ?_
  congr 1
  rw [decide_eq_decide]
  cases x; cases y; simp
theorem eqp42 : EqP Tryz.prog 42 vN := EqIn.p (k := 4) rfl (c := fun x => (cN x).toArray) (fun _ => rfl) Tryz.eqGuardType42 eqi42
def pc_Lines_Equal (f : Ln) (g : Ln) : Bool :=
  (decide (f = g))
theorem pc_Lines_Equal_ct (f : Ln) (g : Ln) (zf : SzN 20 f) (zg : SzN 20 g) (w0 : World)  : Calls Tryz.prog 34 #[(.agg #[]), (vN f), (vN g)] w0 (RetP w0 (.bool (pc_Lines_Equal f g)) (True)) := by
  refine enter (N := 10) (args := [(.agg #[]), (vN f), (vN g)]) Tryz.func34 rfl rfl ?_; intro ac h
  refine c_rs fun K1 hK1 => ?_
  refine bx h [] rfl rfl rfl ?_; clear h ac; intro b1 ac wo h
  refine bx h (cN f) rfl rfl rfl ?_; clear h ac wo; intro b2 ac wo h
  refine bx h (cN g) rfl rfl rfl ?_; clear h ac wo; intro b3 ac wo h
  refine rd0 h (r_assign rfl (v := (.bool false))) rfl ?_; clear h ac wo; intro ac wo h
  refine w_nil ?_
  refine hK1 _ _ ?_
  refine c_rs fun K2 hK2 => ?_
  refine rd1 h 1 rfl (r_ld Tryz.isAgg42 Tryz.sizeOf42 rfl rfl rfl (v := (vN f)) rfl) rfl ?_; clear h ac wo; intro ac wo h
  refine rd1 h 0 rfl (r_ld Tryz.isAgg42 Tryz.sizeOf42 rfl rfl rfl (v := (vN g)) rfl) rfl ?_; clear h ac wo; intro ac wo h
  refine rd0 h (r_eqlT eqp42 rfl rfl (b := f) (c := g)) rfl ?_; clear h ac wo; intro ac wo h
  refine rd0 h (r_assign rfl) rfl ?_; clear h ac wo; intro ac wo h
  refine w_nil ?_
  refine hK2 _ _ ?_
  refine c_ret ?_
  have hd : pc_Lines_Equal f g = (decide (f = g)) := rfl
  exact ret (rs := [.tmp 6]) h rfl (.tmp rfl .nil) rfl (h.retP (by rw [hd] <;> rfl) trivial)
attribute [irreducible] pc_Lines_Equal
def pc_Lines_Same (f : Ln) (g : Ln) (t : GR) : Bool :=
  ((qu_Same ((pc_coordinates f).1) ((pc_coordinates g).1) t) && (qu_Same ((pc_coordinates f).2) ((pc_coordinates g).2) t))
theorem pc_Lines_Same_ct (f : Ln) (g : Ln) (t : GR) (zf : SzN 20 f) (zg : SzN 20 g) (zt : SzR 30 t) (w0 : World)  : Calls Tryz.prog 33 #[(.agg #[]), (vN f), (vN g), (vR t)] w0 (RetP w0 (.bool (pc_Lines_Same f g t)) (True)) := by
  refine enter (N := 33) (args := [(.agg #[]), (vN f), (vN g), (vR t)]) Tryz.func33 rfl rfl ?_; intro ac h
  refine c_rs fun K1 hK1 => ?_
  refine bx h [] rfl rfl rfl ?_; clear h ac; intro b1 ac wo h
  refine bx h (cN f) rfl rfl rfl ?_; clear h ac wo; intro b2 ac wo h
  refine bx h (cN g) rfl rfl rfl ?_; clear h ac wo; intro b3 ac wo h
  refine bx h (cR t) rfl rfl rfl ?_; clear h ac wo; intro b4 ac wo h
  refine rd0 h (r_assign rfl (v := (.bool false))) rfl ?_; clear h ac wo; intro ac wo h
  refine w_nil ?_
  refine hK1 _ _ ?_
  refine c_rs fun K2 hK2 => ?_
  refine rd1 h 2 rfl (r_ld Tryz.isAgg42 Tryz.sizeOf42 rfl rfl rfl (v := (vN f)) rfl) rfl ?_; clear h ac wo; intro ac wo h
  have s1 := Calls_pr ((pc_coordinates_ct f 20 (by omega) zf) w0)
  refine c_val (vs := [(vN f)]) h (ent_f Tryz.call97 rfl) (fun w_ hB_ hS_ => (pc_coordinates_ct f 20 (by omega) zf) w_) rfl ?_; clear h ac wo; intro ac wo h
  refine rd0 h (r_move rfl) rfl ?_; clear h ac wo; intro ac wo h
  refine rd0 h (r_extract (vs := [(vD ((pc_coordinates f).1)), (vD ((pc_coordinates f).2))]) rfl rfl) rfl ?_; clear h ac wo; intro ac wo h
  refine rd0 h (r_extract (vs := [(vD ((pc_coordinates f).1)), (vD ((pc_coordinates f).2))]) rfl rfl) rfl ?_; clear h ac wo; intro ac wo h
  refine al h (cD (⟨(⟨(⟨false, 0⟩ : GI), (⟨false, 0⟩ : GI)⟩ : GQ), (⟨(⟨false, 0⟩ : GI), (⟨false, 0⟩ : GI)⟩ : GQ), (⟨(⟨false, 0⟩ : GI), (⟨false, 0⟩ : GI)⟩ : GQ)⟩ : Qd)) Tryz.zeroValue69 rfl rfl ?_; clear h ac wo; intro b5 ac wo h
  refine al h (cD (⟨(⟨(⟨false, 0⟩ : GI), (⟨false, 0⟩ : GI)⟩ : GQ), (⟨(⟨false, 0⟩ : GI), (⟨false, 0⟩ : GI)⟩ : GQ), (⟨(⟨false, 0⟩ : GI), (⟨false, 0⟩ : GI)⟩ : GQ)⟩ : Qd)) Tryz.zeroValue69 rfl rfl ?_; clear h ac wo; intro b6 ac wo h
  refine st h 1 (cD ((pc_coordinates f).1)) rfl Tryz.sizeOf69 rfl rfl rfl rfl rfl rfl rfl ?_; clear h ac wo; intro ac wo h
  refine st h 0 (cD ((pc_coordinates f).2)) rfl Tryz.sizeOf69 rfl rfl rfl rfl rfl rfl rfl ?_; clear h ac wo; intro ac wo h
  refine w_nil ?_
  refine hK2 _ _ ?_
  refine c_rs fun K3 hK3 => ?_
  refine rd1 h 3 rfl (r_ld Tryz.isAgg42 Tryz.sizeOf42 rfl rfl rfl (v := (vN g)) rfl) rfl ?_; clear h ac wo; intro ac wo h
  have s2 := Calls_pr ((pc_coordinates_ct g 20 (by omega) zg) w0)
  refine c_val (vs := [(vN g)]) h (ent_f Tryz.call97 rfl) (fun w_ hB_ hS_ => (pc_coordinates_ct g 20 (by omega) zg) w_) rfl ?_; clear h ac wo; intro ac wo h
  refine rd0 h (r_move rfl) rfl ?_; clear h ac wo; intro ac wo h
  refine rd0 h (r_extract (vs := [(vD ((pc_coordinates g).1)), (vD ((pc_coordinates g).2))]) rfl rfl) rfl ?_; clear h ac wo; intro ac wo h
  refine rd0 h (r_extract (vs := [(vD ((pc_coordinates g).1)), (vD ((pc_coordinates g).2))]) rfl rfl) rfl ?_; clear h ac wo; intro ac wo h
  refine al h (cD (⟨(⟨(⟨false, 0⟩ : GI), (⟨false, 0⟩ : GI)⟩ : GQ), (⟨(⟨false, 0⟩ : GI), (⟨false, 0⟩ : GI)⟩ : GQ), (⟨(⟨false, 0⟩ : GI), (⟨false, 0⟩ : GI)⟩ : GQ)⟩ : Qd)) Tryz.zeroValue69 rfl rfl ?_; clear h ac wo; intro b7 ac wo h
  refine al h (cD (⟨(⟨(⟨false, 0⟩ : GI), (⟨false, 0⟩ : GI)⟩ : GQ), (⟨(⟨false, 0⟩ : GI), (⟨false, 0⟩ : GI)⟩ : GQ), (⟨(⟨false, 0⟩ : GI), (⟨false, 0⟩ : GI)⟩ : GQ)⟩ : Qd)) Tryz.zeroValue69 rfl rfl ?_; clear h ac wo; intro b8 ac wo h
  refine st h 1 (cD ((pc_coordinates g).1)) rfl Tryz.sizeOf69 rfl rfl rfl rfl rfl rfl rfl ?_; clear h ac wo; intro ac wo h
  refine st h 0 (cD ((pc_coordinates g).2)) rfl Tryz.sizeOf69 rfl rfl rfl rfl rfl rfl rfl ?_; clear h ac wo; intro ac wo h
  refine w_nil ?_
  refine hK3 _ _ ?_
  replace h := h.sub (F' := [(7, (ptr b4 0)), (9, (ptr b5 0)), (10, (ptr b6 0)), (11, (ptr b7 0)), (12, (ptr b8 0))]) ⟨rfl, rfl, rfl, rfl, rfl, trivial⟩
  refine c_rs fun K4 hK4 => ?_
  refine rd1 h 3 rfl (r_ld Tryz.isAgg69 Tryz.sizeOf69 rfl rfl rfl (v := (vD ((pc_coordinates f).1))) rfl) rfl ?_; clear h ac wo; intro ac wo h
  refine rd1 h 1 rfl (r_ld Tryz.isAgg69 Tryz.sizeOf69 rfl rfl rfl (v := (vD ((pc_coordinates g).1))) rfl) rfl ?_; clear h ac wo; intro ac wo h
  refine rd1 h 4 rfl (r_ld Tryz.isAgg53 Tryz.sizeOf53 rfl rfl rfl (v := (vR t)) rfl) rfl ?_; clear h ac wo; intro ac wo h
  refine c_val (vs := [(vD ((pc_coordinates f).1)), (vD ((pc_coordinates g).1)), (vR t)]) h (ent_f Tryz.call30 rfl) (fun w_ hB_ hS_ => (qu_Same_ct ((pc_coordinates f).1) ((pc_coordinates g).1) t 6 (by omega) s1.1 s2.1 (SzR_le zt (by omega))) w_) rfl ?_; clear h ac wo; intro ac wo h
  refine rd0 h (r_move rfl) rfl ?_; clear h ac wo; intro ac wo h
  refine gd (j := 4) (c := true) (b := (qu_Same ((pc_coordinates f).1) ((pc_coordinates g).1) t)) (g := (qu_Same ((pc_coordinates f).1) ((pc_coordinates g).1) t)) h rfl rfl g_t (fun hg => (Rd.of_mem (i := 2) (r_ld Tryz.isAgg69 Tryz.sizeOf69 rfl rfl rfl (v := (vD ((pc_coordinates f).2))) rfl) rfl).step) rfl ?_; clear h ac wo; intro ac wo h
  refine gd (j := 4) (c := true) (b := (qu_Same ((pc_coordinates f).1) ((pc_coordinates g).1) t)) (g := (qu_Same ((pc_coordinates f).1) ((pc_coordinates g).1) t)) h rfl rfl g_t (fun hg => (Rd.of_mem (i := 0) (r_ld Tryz.isAgg69 Tryz.sizeOf69 rfl rfl rfl (v := (vD ((pc_coordinates g).2))) rfl) rfl).step) rfl ?_; clear h ac wo; intro ac wo h
  refine gd (j := 4) (c := true) (b := (qu_Same ((pc_coordinates f).1) ((pc_coordinates g).1) t)) (g := (qu_Same ((pc_coordinates f).1) ((pc_coordinates g).1) t)) h rfl rfl g_t (fun hg => (Rd.of_mem (i := 4) (r_ld Tryz.isAgg53 Tryz.sizeOf53 rfl rfl rfl (v := (vR t)) rfl) rfl).step) rfl ?_; clear h ac wo; intro ac wo h
  refine gd (j := 4) (c := true) (b := (qu_Same ((pc_coordinates f).1) ((pc_coordinates g).1) t)) (g := (qu_Same ((pc_coordinates f).1) ((pc_coordinates g).1) t)) h rfl rfl g_t (fun hg => s_val (vs := [(vD ((pc_coordinates f).2)), (vD ((pc_coordinates g).2)), (vR t)]) (ent_f Tryz.call30 (evs_cons (gv_ev rfl hg) (evs_cons (gv_ev rfl hg) (evs_cons (gv_ev rfl hg) rfl)))) (fun w_ hB_ hS_ => (qu_Same_ct ((pc_coordinates f).2) ((pc_coordinates g).2) t 6 (by omega) s1.2 s2.2 (SzR_le zt (by omega))) w_)) rfl ?_; clear h ac wo; intro ac wo h
  refine rd0 h (r_and rfl (fun e => (gv_ev rfl e))) rfl ?_; clear h ac wo; intro ac wo h
  refine rd0 h (r_assign rfl) rfl ?_; clear h ac wo; intro ac wo h
  refine w_nil ?_
  refine hK4 _ _ ?_
  replace h := h.sub (F' := [(8, (.bool ((qu_Same ((pc_coordinates f).1) ((pc_coordinates g).1) t) && (qu_Same ((pc_coordinates f).2) ((pc_coordinates g).2) t))))]) ⟨rfl, trivial⟩
  refine c_ret ?_
  have hd : pc_Lines_Same f g t = ((qu_Same ((pc_coordinates f).1) ((pc_coordinates g).1) t) && (qu_Same ((pc_coordinates f).2) ((pc_coordinates g).2) t)) := rfl
  exact ret (rs := [.tmp 8]) h rfl (.tmp rfl .nil) rfl (h.retP (by rw [hd] <;> rfl) trivial)
attribute [irreducible] pc_Lines_Same
def pc_Lines_Reduce (f : Ln) (t : GR) : Ln :=
  (⟨(qu_Reduce ((pc_coordinates f).1) t).c0, (qu_Reduce ((pc_coordinates f).1) t).c1, (qu_Reduce ((pc_coordinates f).2) t).c0, (qu_Reduce ((pc_coordinates f).2) t).c1⟩ : Ln)
theorem pc_Lines_Reduce_ct (f : Ln) (t : GR) (zf : SzN 30 f) (zt : SzR 30 t) (w0 : World)  : Calls Tryz.prog 32 #[(.agg #[]), (vN f), (vR t)] w0 (RetP w0 (vN (pc_Lines_Reduce f t)) (SzN 20 (pc_Lines_Reduce f t))) := by
  refine enter (N := 29) (args := [(.agg #[]), (vN f), (vR t)]) Tryz.func32 rfl rfl ?_; intro ac h
  refine c_rs fun K1 hK1 => ?_
  refine bx h [] rfl rfl rfl ?_; clear h ac; intro b1 ac wo h
  refine bx h (cN f) rfl rfl rfl ?_; clear h ac wo; intro b2 ac wo h
  refine bx h (cR t) rfl rfl rfl ?_; clear h ac wo; intro b3 ac wo h
  refine al h (cN (⟨(⟨(⟨false, 0⟩ : GI), (⟨false, 0⟩ : GI)⟩ : GQ), (⟨(⟨false, 0⟩ : GI), (⟨false, 0⟩ : GI)⟩ : GQ), (⟨(⟨false, 0⟩ : GI), (⟨false, 0⟩ : GI)⟩ : GQ), (⟨(⟨false, 0⟩ : GI), (⟨false, 0⟩ : GI)⟩ : GQ)⟩ : Ln)) Tryz.zeroValue42 rfl rfl ?_; clear h ac wo; intro b4 ac wo h
  refine w_nil ?_
  refine hK1 _ _ ?_
  refine c_rs fun K2 hK2 => ?_
  refine rd1 h 2 rfl (r_ld Tryz.isAgg42 Tryz.sizeOf42 rfl rfl rfl (v := (vN f)) rfl) rfl ?_; clear h ac wo; intro ac wo h
  have s1 := Calls_pr ((pc_coordinates_ct f 30 (by omega) zf) w0)
  refine c_val (vs := [(vN f)]) h (ent_f Tryz.call97 rfl) (fun w_ hB_ hS_ => (pc_coordinates_ct f 30 (by omega) zf) w_) rfl ?_; clear h ac wo; intro ac wo h
  refine rd0 h (r_move rfl) rfl ?_; clear h ac wo; intro ac wo h
  refine rd0 h (r_extract (vs := [(vD ((pc_coordinates f).1)), (vD ((pc_coordinates f).2))]) rfl rfl) rfl ?_; clear h ac wo; intro ac wo h
  refine rd0 h (r_extract (vs := [(vD ((pc_coordinates f).1)), (vD ((pc_coordinates f).2))]) rfl rfl) rfl ?_; clear h ac wo; intro ac wo h
  refine al h (cD (⟨(⟨(⟨false, 0⟩ : GI), (⟨false, 0⟩ : GI)⟩ : GQ), (⟨(⟨false, 0⟩ : GI), (⟨false, 0⟩ : GI)⟩ : GQ), (⟨(⟨false, 0⟩ : GI), (⟨false, 0⟩ : GI)⟩ : GQ)⟩ : Qd)) Tryz.zeroValue69 rfl rfl ?_; clear h ac wo; intro b5 ac wo h
  refine al h (cD (⟨(⟨(⟨false, 0⟩ : GI), (⟨false, 0⟩ : GI)⟩ : GQ), (⟨(⟨false, 0⟩ : GI), (⟨false, 0⟩ : GI)⟩ : GQ), (⟨(⟨false, 0⟩ : GI), (⟨false, 0⟩ : GI)⟩ : GQ)⟩ : Qd)) Tryz.zeroValue69 rfl rfl ?_; clear h ac wo; intro b6 ac wo h
  refine st h 1 (cD ((pc_coordinates f).1)) rfl Tryz.sizeOf69 rfl rfl rfl rfl rfl rfl rfl ?_; clear h ac wo; intro ac wo h
  refine st h 0 (cD ((pc_coordinates f).2)) rfl Tryz.sizeOf69 rfl rfl rfl rfl rfl rfl rfl ?_; clear h ac wo; intro ac wo h
  refine w_nil ?_
  refine hK2 _ _ ?_
  refine c_seq fun K3 hK3 => ?_
  have s2 := Calls_pr ((qu_Reduce_ct ((pc_coordinates f).1) t 20 (by omega) s1.1 zt) w0)
  have s3 := Calls_pr ((qu_Reduce_ct ((pc_coordinates f).2) t 20 (by omega) s1.2 zt) w0)
  refine draws mixed [⟨.det (vD ((pc_coordinates f).1)), [1]⟩, ⟨.det (vR t), [3]⟩, ⟨.det (vD (qu_Reduce ((pc_coordinates f).1) t)), []⟩, ⟨.det (vD ((pc_coordinates f).2)), [0]⟩, ⟨.det (vR t), [3]⟩, ⟨.det (vD (qu_Reduce ((pc_coordinates f).2) t)), []⟩, ⟨.det undef, [1]⟩, ⟨.det undef, [0]⟩] [⟨.blk b6 (cD ((pc_coordinates f).2)) 69, [(7, .con (.blk b6 (cD (qu_Reduce ((pc_coordinates f).2) t)) 69))]⟩, ⟨.blk b5 (cD ((pc_coordinates f).1)) 69, [(6, .con (.blk b5 (cD (qu_Reduce ((pc_coordinates f).1) t)) 69))]⟩, ⟨.blk b4 (cN (⟨(⟨(⟨false, 0⟩ : GI), (⟨false, 0⟩ : GI)⟩ : GQ), (⟨(⟨false, 0⟩ : GI), (⟨false, 0⟩ : GI)⟩ : GQ), (⟨(⟨false, 0⟩ : GI), (⟨false, 0⟩ : GI)⟩ : GQ), (⟨(⟨false, 0⟩ : GI), (⟨false, 0⟩ : GI)⟩ : GQ)⟩ : Ln)) 42, []⟩, ⟨.blk b3 (cR t) 53, []⟩, ⟨.blk b2 (cN f) 42, []⟩, ⟨.blk b1 [] 43, []⟩] h rfl (by kernel_rfl) ⟨?_, ?_, ?_, ?_, ?_, ?_, ?_, ?_, trivial⟩ ?_
  · intro ξ hφ; exact ob_r [.blk b5 (cD ((pc_coordinates f).1)) 69] rfl rfl (r_ld Tryz.isAgg69 Tryz.sizeOf69 rfl rfl rfl (v := (vD ((pc_coordinates f).1))) rfl)
  · intro ξ hφ; exact ob_r [.blk b3 (cR t) 53] rfl rfl (r_ld Tryz.isAgg53 Tryz.sizeOf53 rfl rfl rfl (v := (vR t)) rfl)
  · intro ξ hφ; exact ob_s (s_val (vs := [(vD ((pc_coordinates f).1)), (vR t)]) (ent_f Tryz.call37 rfl) (fun w_ hB_ hS_ => (qu_Reduce_ct ((pc_coordinates f).1) t 20 (by omega) s1.1 zt) w_))
  · intro ξ hφ; exact ob_r [.blk b6 (cD ((pc_coordinates f).2)) 69] rfl rfl (r_ld Tryz.isAgg69 Tryz.sizeOf69 rfl rfl rfl (v := (vD ((pc_coordinates f).2))) rfl)
  · intro ξ hφ; exact ob_r [.blk b3 (cR t) 53] rfl rfl (r_ld Tryz.isAgg53 Tryz.sizeOf53 rfl rfl rfl (v := (vR t)) rfl)
  · intro ξ hφ; exact ob_s (s_val (vs := [(vD ((pc_coordinates f).2)), (vR t)]) (ent_f Tryz.call37 rfl) (fun w_ hB_ hS_ => (qu_Reduce_ct ((pc_coordinates f).2) t 20 (by omega) s1.2 zt) w_))
  · intro ξ hφ; exact ob_u [.blk b5 (cD ((pc_coordinates f).1)) 69] [.blk b5 (cD (qu_Reduce ((pc_coordinates f).1) t)) 69] rfl rfl (s_st Tryz.sizeOf69 rfl rfl rfl rfl rfl rfl rfl)
  · intro ξ hφ; exact ob_u [.blk b6 (cD ((pc_coordinates f).2)) 69] [.blk b6 (cD (qu_Reduce ((pc_coordinates f).2) t)) 69] rfl rfl (s_st Tryz.sizeOf69 rfl rfl rfl rfl rfl rfl rfl)
  clear h ac wo; intro ξ ac wo hφ h
  replace h : St w0 29 [(6, (ptr b4 0)), (7, (ptr b5 0)), (8, (ptr b6 0))] [.blk b6 (cD (qu_Reduce ((pc_coordinates f).2) t)) 69, .blk b5 (cD (qu_Reduce ((pc_coordinates f).1) t)) 69, .blk b4 (cN (⟨(⟨(⟨false, 0⟩ : GI), (⟨false, 0⟩ : GI)⟩ : GQ), (⟨(⟨false, 0⟩ : GI), (⟨false, 0⟩ : GI)⟩ : GQ), (⟨(⟨false, 0⟩ : GI), (⟨false, 0⟩ : GI)⟩ : GQ), (⟨(⟨false, 0⟩ : GI), (⟨false, 0⟩ : GI)⟩ : GQ)⟩ : Ln)) 42, .blk b3 (cR t) 53, .blk b2 (cN f) 42, .blk b1 [] 43] ac wo := (h.pick [0, 1, 2, 3, 4, 5] (by decide)).sub ⟨rfl, rfl, rfl, trivial⟩
  clear hφ ξ
  refine hK3 _ _ ?_
  refine c_rs fun K4 hK4 => ?_
  refine rd0 h (r_fa Tryz.runUnderlying69 rfl Tryz.sizeOf40 (by decide) rfl rfl (k' := 0)) rfl ?_; clear h ac wo; intro ac wo h
  refine rd1 h 1 rfl (r_ld Tryz.isAgg40 Tryz.sizeOf40 rfl rfl rfl (v := (vQ ((qu_Reduce ((pc_coordinates f).1) t).c0))) rfl) rfl ?_; clear h ac wo; intro ac wo h
  refine rd0 h (r_fa Tryz.runUnderlying69 rfl Tryz.sizeOf40 (by decide) rfl rfl (k' := 4)) rfl ?_; clear h ac wo; intro ac wo h
  refine rd1 h 1 rfl (r_ld Tryz.isAgg40 Tryz.sizeOf40 rfl rfl rfl (v := (vQ ((qu_Reduce ((pc_coordinates f).1) t).c1))) rfl) rfl ?_; clear h ac wo; intro ac wo h
  refine rd0 h (r_fa Tryz.runUnderlying69 rfl Tryz.sizeOf40 (by decide) rfl rfl (k' := 0)) rfl ?_; clear h ac wo; intro ac wo h
  refine rd1 h 0 rfl (r_ld Tryz.isAgg40 Tryz.sizeOf40 rfl rfl rfl (v := (vQ ((qu_Reduce ((pc_coordinates f).2) t).c0))) rfl) rfl ?_; clear h ac wo; intro ac wo h
  refine rd0 h (r_fa Tryz.runUnderlying69 rfl Tryz.sizeOf40 (by decide) rfl rfl (k' := 4)) rfl ?_; clear h ac wo; intro ac wo h
  refine rd1 h 0 rfl (r_ld Tryz.isAgg40 Tryz.sizeOf40 rfl rfl rfl (v := (vQ ((qu_Reduce ((pc_coordinates f).2) t).c1))) rfl) rfl ?_; clear h ac wo; intro ac wo h
  refine rd0 h (r_build (parts := [(0, .tmp 21), (1, .tmp 23), (2, .tmp 25), (3, .tmp 27)]) (vs := [(vQ ((qu_Reduce ((pc_coordinates f).1) t).c0)), (vQ ((qu_Reduce ((pc_coordinates f).1) t).c1)), (vQ ((qu_Reduce ((pc_coordinates f).2) t).c0)), (vQ ((qu_Reduce ((pc_coordinates f).2) t).c1))]) bld42 rfl rfl (v := (vN (⟨(qu_Reduce ((pc_coordinates f).1) t).c0, (qu_Reduce ((pc_coordinates f).1) t).c1, (qu_Reduce ((pc_coordinates f).2) t).c0, (qu_Reduce ((pc_coordinates f).2) t).c1⟩ : Ln))) rfl) rfl ?_; clear h ac wo; intro ac wo h
  refine st h 2 (cN (⟨(qu_Reduce ((pc_coordinates f).1) t).c0, (qu_Reduce ((pc_coordinates f).1) t).c1, (qu_Reduce ((pc_coordinates f).2) t).c0, (qu_Reduce ((pc_coordinates f).2) t).c1⟩ : Ln)) rfl Tryz.sizeOf42 rfl rfl rfl rfl rfl rfl rfl ?_; clear h ac wo; intro ac wo h
  refine w_nil ?_
  refine hK4 _ _ ?_
  refine c_ret ?_
  have hd : pc_Lines_Reduce f t = (⟨(qu_Reduce ((pc_coordinates f).1) t).c0, (qu_Reduce ((pc_coordinates f).1) t).c1, (qu_Reduce ((pc_coordinates f).2) t).c0, (qu_Reduce ((pc_coordinates f).2) t).c1⟩ : Ln) := rfl
  exact ret (rs := [.cell 6 42]) h rfl (.cell (v := (vN (⟨(qu_Reduce ((pc_coordinates f).1) t).c0, (qu_Reduce ((pc_coordinates f).1) t).c1, (qu_Reduce ((pc_coordinates f).2) t).c0, (qu_Reduce ((pc_coordinates f).2) t).c1⟩ : Ln))) rfl (i := 2) rfl Tryz.isAgg42 Tryz.sizeOf42 rfl rfl rfl .nil) rfl (h.retP (by rw [hd] <;> rfl) (by rw [hd]; exact ⟨s2.1, s2.2.1, s3.1, s3.2.1⟩))
attribute [irreducible] pc_Lines_Reduce
end Go.Sx
