/- A part of the proof that the law PiecesRules answers true at every input and leaves its arguments as they were. -/
import Derived.Test.YtnkaneggnjallaaGreatDoorH1
set_option linter.unusedVariables false
set_option linter.unusedSimpArgs false
namespace Go.Sx
open Go Go.RowKit Go.Proofs
set_option maxRecDepth 100000
set_option maxHeartbeats 40000000
attribute [local irreducible] rl_Compare rl_FromInt ra_FromInt ra_Sign qu_Same qu_Reduce qu_Linear qu_Constant cmpInt pc_apart pc_instant
theorem slt24 : SlT Tryz.prog 24 87 32 360 [.bool false, .string ⟨#[]⟩, .bool false, .string ⟨#[]⟩, .bool false, .string ⟨#[]⟩, .bool false, .string ⟨#[]⟩, .bool false, .bool false, .string ⟨#[]⟩, .bool false, .string ⟨#[]⟩, .bool false, .string ⟨#[]⟩, .bool false, .string ⟨#[]⟩, .bool false, .bool false, .bool false, .bool false, .string ⟨#[]⟩, .bool false, .string ⟨#[]⟩, .bool false, .string ⟨#[]⟩, .bool false, .string ⟨#[]⟩, .bool false, .string ⟨#[]⟩, .bool false, .string ⟨#[]⟩] := ⟨Tryz.underlying24, Tryz.t87, _, Tryz.type87, rfl, rfl, rfl, rfl, rfl, by decide, by decide⟩
def pc_Quads_Equal (f : Qd) (g : Qd) : Bool :=
  (decide (f = g))
theorem pc_Quads_Equal_ct (f : Qd) (g : Qd) (zf : SzD 20 f) (zg : SzD 20 g) (w0 : World)  : Calls Tryz.prog 305 #[(.agg #[]), (vD f), (vD g)] w0 (RetP w0 (.bool (pc_Quads_Equal f g)) (True)) := by
  refine enter (N := 10) (args := [(.agg #[]), (vD f), (vD g)]) Tryz.func305 rfl rfl ?_; intro ac h
  refine c_rs fun K1 hK1 => ?_
  refine bx h [] rfl rfl rfl ?_; clear h ac; intro b1 ac wo h
  refine bx h (cD f) rfl rfl rfl ?_; clear h ac wo; intro b2 ac wo h
  refine bx h (cD g) rfl rfl rfl ?_; clear h ac wo; intro b3 ac wo h
  refine rd0 h (r_assign rfl (v := (.bool false))) rfl ?_; clear h ac wo; intro ac wo h
  refine w_nil ?_
  refine hK1 _ _ ?_
  refine c_rs fun K2 hK2 => ?_
  refine rd1 h 1 rfl (r_ld Tryz.isAgg69 Tryz.sizeOf69 rfl rfl rfl (v := (vD f)) rfl) rfl ?_; clear h ac wo; intro ac wo h
  refine rd1 h 0 rfl (r_ld Tryz.isAgg69 Tryz.sizeOf69 rfl rfl rfl (v := (vD g)) rfl) rfl ?_; clear h ac wo; intro ac wo h
  refine rd0 h (r_eqlT eqp69 rfl rfl (b := f) (c := g)) rfl ?_; clear h ac wo; intro ac wo h
  refine rd0 h (r_assign rfl) rfl ?_; clear h ac wo; intro ac wo h
  refine w_nil ?_
  refine hK2 _ _ ?_
  refine c_ret ?_
  have hd : pc_Quads_Equal f g = (decide (f = g)) := rfl
  exact ret (rs := [.tmp 6]) h rfl (.tmp rfl .nil) rfl (h.retP (by rw [hd] <;> rfl) trivial)
attribute [irreducible] pc_Quads_Equal
def pc_Quads_Same (f : Qd) (g : Qd) (t : GR) : Bool :=
  (qu_Same f g t)
theorem pc_Quads_Same_ct (f : Qd) (g : Qd) (t : GR) (zf : SzD 20 f) (zg : SzD 20 g) (zt : SzR 30 t) (w0 : World)  : Calls Tryz.prog 35 #[(.agg #[]), (vD f), (vD g), (vR t)] w0 (RetP w0 (.bool (pc_Quads_Same f g t)) (True)) := by
  refine enter (N := 13) (args := [(.agg #[]), (vD f), (vD g), (vR t)]) Tryz.func35 rfl rfl ?_; intro ac h
  refine c_rs fun K1 hK1 => ?_
  refine bx h [] rfl rfl rfl ?_; clear h ac; intro b1 ac wo h
  refine bx h (cD f) rfl rfl rfl ?_; clear h ac wo; intro b2 ac wo h
  refine bx h (cD g) rfl rfl rfl ?_; clear h ac wo; intro b3 ac wo h
  refine bx h (cR t) rfl rfl rfl ?_; clear h ac wo; intro b4 ac wo h
  refine rd0 h (r_assign rfl (v := (.bool false))) rfl ?_; clear h ac wo; intro ac wo h
  refine w_nil ?_
  refine hK1 _ _ ?_
  refine c_rs fun K2 hK2 => ?_
  refine rd1 h 2 rfl (r_ld Tryz.isAgg69 Tryz.sizeOf69 rfl rfl rfl (v := (vD f)) rfl) rfl ?_; clear h ac wo; intro ac wo h
  refine rd1 h 1 rfl (r_ld Tryz.isAgg69 Tryz.sizeOf69 rfl rfl rfl (v := (vD g)) rfl) rfl ?_; clear h ac wo; intro ac wo h
  refine rd1 h 0 rfl (r_ld Tryz.isAgg53 Tryz.sizeOf53 rfl rfl rfl (v := (vR t)) rfl) rfl ?_; clear h ac wo; intro ac wo h
  refine c_val (vs := [(vD f), (vD g), (vR t)]) h (ent_f Tryz.call30 rfl) (fun w_ hB_ hS_ => (qu_Same_ct f g t 6 (by omega) zf zg (SzR_le zt (by omega))) w_) rfl ?_; clear h ac wo; intro ac wo h
  refine rd0 h (r_assign rfl) rfl ?_; clear h ac wo; intro ac wo h
  refine w_nil ?_
  refine hK2 _ _ ?_
  refine c_ret ?_
  have hd : pc_Quads_Same f g t = (qu_Same f g t) := rfl
  exact ret (rs := [.tmp 8]) h rfl (.tmp rfl .nil) rfl (h.retP (by rw [hd] <;> rfl) trivial)
attribute [irreducible] pc_Quads_Same
def pc_Quads_Reduce (f : Qd) (t : GR) : Qd :=
  (qu_Reduce f t)
theorem pc_Quads_Reduce_ct (f : Qd) (t : GR) (zf : SzD 30 f) (zt : SzR 30 t) (w0 : World)  : Calls Tryz.prog 36 #[(.agg #[]), (vD f), (vR t)] w0 (RetP w0 (vD (pc_Quads_Reduce f t)) (SzD 20 (pc_Quads_Reduce f t))) := by
  refine enter (N := 10) (args := [(.agg #[]), (vD f), (vR t)]) Tryz.func36 rfl rfl ?_; intro ac h
  refine c_rs fun K1 hK1 => ?_
  refine bx h [] rfl rfl rfl ?_; clear h ac; intro b1 ac wo h
  refine bx h (cD f) rfl rfl rfl ?_; clear h ac wo; intro b2 ac wo h
  refine bx h (cR t) rfl rfl rfl ?_; clear h ac wo; intro b3 ac wo h
  refine al h (cD (⟨(⟨(⟨false, 0⟩ : GI), (⟨false, 0⟩ : GI)⟩ : GQ), (⟨(⟨false, 0⟩ : GI), (⟨false, 0⟩ : GI)⟩ : GQ), (⟨(⟨false, 0⟩ : GI), (⟨false, 0⟩ : GI)⟩ : GQ)⟩ : Qd)) Tryz.zeroValue69 rfl rfl ?_; clear h ac wo; intro b4 ac wo h
  refine w_nil ?_
  refine hK1 _ _ ?_
  refine c_rs fun K2 hK2 => ?_
  refine rd1 h 2 rfl (r_ld Tryz.isAgg69 Tryz.sizeOf69 rfl rfl rfl (v := (vD f)) rfl) rfl ?_; clear h ac wo; intro ac wo h
  refine rd1 h 1 rfl (r_ld Tryz.isAgg53 Tryz.sizeOf53 rfl rfl rfl (v := (vR t)) rfl) rfl ?_; clear h ac wo; intro ac wo h
  have s1 := Calls_pr ((qu_Reduce_ct f t 20 (by omega) zf zt) w0)
  refine c_val (vs := [(vD f), (vR t)]) h (ent_f Tryz.call37 rfl) (fun w_ hB_ hS_ => (qu_Reduce_ct f t 20 (by omega) zf zt) w_) rfl ?_; clear h ac wo; intro ac wo h
  refine st h 0 (cD (qu_Reduce f t)) rfl Tryz.sizeOf69 rfl rfl rfl rfl rfl rfl rfl ?_; clear h ac wo; intro ac wo h
  refine w_nil ?_
  refine hK2 _ _ ?_
  refine c_ret ?_
  have hd : pc_Quads_Reduce f t = (qu_Reduce f t) := rfl
  exact ret (rs := [.cell 6 69]) h rfl (.cell (v := (vD (qu_Reduce f t))) rfl (i := 0) rfl Tryz.isAgg69 Tryz.sizeOf69 rfl rfl rfl .nil) rfl (h.retP (by rw [hd] <;> rfl) (by rw [hd]; exact s1))
attribute [irreducible] pc_Quads_Reduce
def slices_Clone_Quad_pieces_Unit_Quad (s : List (U Qd)) : (List (U Qd)) := s
theorem slices_Clone_Quad_pieces_Unit_Quad_ct (s : List (U Qd)) (sv : Value) (hl : s.length ≤ 1000) (zs : All (SzUD 30) s) (w0 : World) (hsv : View w0 sv s) : Calls Tryz.prog 166 #[sv] w0 (RetR w0 87 (slices_Clone_Quad_pieces_Unit_Quad s) (All (SzUD 30) (slices_Clone_Quad_pieces_Unit_Quad s) ∧ (slices_Clone_Quad_pieces_Unit_Quad s) = s ∧ (slices_Clone_Quad_pieces_Unit_Quad s).length = s.length)) := by
  refine enter (N := 8) (args := [sv]) Tryz.func166 rfl rfl ?_; intro ac h
  have hlens := hsv.len
  refine c_rs fun K1 hK1 => ?_
  refine rd0 h (r_assign rfl (v := (.slice none 0 0))) rfl ?_; clear h ac; intro ac wo h
  refine w_nil ?_
  refine hK1 _ _ ?_
  refine c_seq fun K2 hK2 => ?_
  refine c_rs fun K3 hK3 => ?_
  refine rd0 h (r_move rfl) rfl ?_; clear h ac wo; intro ac wo h
  refine rd0 h (r_eqlSN Tryz.underlying24 hsv.sl rfl) rfl ?_; clear h ac wo; intro ac wo h
  refine w_nil ?_
  refine hK3 _ _ ?_
  refine c_if (b := (slNil sv)) h rfl (fun hc1 => ?_) (fun hc1 => ?_)
  · skip
    have hq1 := hc1; try simp only [Bool.and_eq_true, Bool.or_eq_true, Bool.and_eq_false_iff, Bool.or_eq_false_iff, decide_eq_true_eq, decide_eq_false_iff_not, beq_iff_eq, beq_eq_false_iff_ne, bne_iff_ne, bne_eq_false_iff_eq, Bool.true_and, Bool.not_eq_true', Bool.not_eq_false', ne_eq] at hq1
    refine c_rs fun K4 hK4 => ?_
    refine rd0 h (r_assign rfl (v := (.slice none 0 0))) rfl ?_; clear h ac wo; intro ac wo h
    refine w_nil ?_
    refine hK4 _ _ ?_
    refine c_ret ?_
    replace h := h.nilRow (α := U Qd) 87
    have hd : slices_Clone_Quad_pieces_Unit_Quad s = [] := (hsv.nil hc1).1
    exact ret (rs := [.tmp 2]) h rfl (.tmp rfl .nil) rfl (by rw [hd]; exact h.retR 0 rfl ⟨All.nil, ⟨(hsv.nil hc1).1.symm, by rw [(hsv.nil hc1).1]⟩⟩)
  · skip
    have hq1 := hc1; try simp only [Bool.and_eq_true, Bool.or_eq_true, Bool.and_eq_false_iff, Bool.or_eq_false_iff, decide_eq_true_eq, decide_eq_false_iff_not, beq_iff_eq, beq_eq_false_iff_ne, bne_iff_ne, bne_eq_false_iff_eq, Bool.true_and, Bool.not_eq_true', Bool.not_eq_false', ne_eq] at hq1
    refine c_skip ?_
    refine hK2 _ _ ?_
    refine c_rs fun K5 hK5 => ?_
    refine nw h (s_sliceN (α := U Qd) (xs := []) (vs := []) [] slt24 rfl rfl rfl (by decide)) rfl ?_; clear h ac wo; intro sv2 ac wo nnsv2 h
    refine rd0 h (r_move rfl) rfl ?_; clear h ac wo; intro ac wo h
    refine on1 h 0 rfl (s_appV (xs := []) (ys := s) slt24 hsv rfl rfl (by first | assumption | omega | (simp only [len_bif, Bool.cond_decide, Bool.cond_eq_ite, List.length_append, List.length_set, List.length_cons, List.length_nil, List.length_take, List.length_drop, List.length_replicate] at *; done) | (simp only [len_bif, Bool.cond_decide, Bool.cond_eq_ite, List.length_append, List.length_set, List.length_cons, List.length_nil, List.length_take, List.length_drop, List.length_replicate] at *; omega) | (simp only [len_bif, Bool.cond_decide, Bool.cond_eq_ite, List.length_append, List.length_set, List.length_cons, List.length_nil, List.length_take, List.length_drop, List.length_replicate]; omega))) rfl ?_; clear h ac wo; intro sv3 ac wo apsv3 h
    refine rd0 h (r_assign rfl) rfl ?_; clear h ac wo; intro ac wo h
    refine w_nil ?_
    refine hK5 _ _ ?_
    refine c_ret ?_
    have hd : slices_Clone_Quad_pieces_Unit_Quad s = ([] ++ s) := rfl
    exact ret (rs := [.tmp 2]) h rfl (.tmp rfl .nil) rfl (by rw [hd]; exact h.retR 0 rfl ⟨(All.app All.nil zs), ⟨rfl, rfl⟩⟩)
attribute [irreducible] slices_Clone_Quad_pieces_Unit_Quad
def pc_sorted_Quad_1_1 (i : Iv) : Int :=
  bif i.openLo then
    1
  else
    0
theorem pc_sorted_Quad_1_1_ct (i : Iv) (zi : SzV 30 i) (w0 : World)  : Calls Tryz.prog 169 #[(vV i)] w0 (RetP w0 (.int .i64 (pc_sorted_Quad_1_1 i)) ((-1 ≤ (pc_sorted_Quad_1_1 i) ∧ (pc_sorted_Quad_1_1 i) ≤ 1))) := by
  refine enter (N := 5) (args := [(vV i)]) Tryz.func169 rfl rfl ?_; intro ac h
  refine c_rs fun K1 hK1 => ?_
  refine bx h (cV i) rfl rfl rfl ?_; clear h ac; intro b1 ac wo h
  refine rd0 h (r_assign rfl (v := (.int .i64 0))) rfl ?_; clear h ac wo; intro ac wo h
  refine w_nil ?_
  refine hK1 _ _ ?_
  refine c_seq fun K2 hK2 => ?_
  refine c_rs fun K3 hK3 => ?_
  refine rd0 h (r_fa Tryz.runUnderlying55 rfl Tryz.sizeOf4 (by decide) rfl rfl (k' := 18)) rfl ?_; clear h ac wo; intro ac wo h
  refine rd1 h 0 rfl (r_ld Tryz.isAgg4 Tryz.sizeOf4 rfl rfl rfl (v := (.bool i.openLo)) rfl) rfl ?_; clear h ac wo; intro ac wo h
  refine w_nil ?_
  refine hK3 _ _ ?_
  refine c_if (b := i.openLo) h rfl (fun hc1 => ?_) (fun hc1 => ?_)
  · skip
    have hq1 := hc1; try simp only [Bool.and_eq_true, Bool.or_eq_true, Bool.and_eq_false_iff, Bool.or_eq_false_iff, decide_eq_true_eq, decide_eq_false_iff_not, beq_iff_eq, beq_eq_false_iff_ne, bne_iff_ne, bne_eq_false_iff_eq, Bool.true_and, Bool.not_eq_true', Bool.not_eq_false', ne_eq] at hq1
    refine c_rs fun K4 hK4 => ?_
    refine rd0 h (r_assign rfl (v := (.int .i64 1))) rfl ?_; clear h ac wo; intro ac wo h
    refine w_nil ?_
    refine hK4 _ _ ?_
    refine c_ret ?_
    have hd : pc_sorted_Quad_1_1 i = 1 := (cT hc1)
    exact ret (rs := [.tmp 2]) h rfl (.tmp rfl .nil) rfl (h.retP (by rw [hd] <;> rfl) (by rw [hd]; exact (by first | assumption | omega | (simp only [len_bif, Bool.cond_decide, Bool.cond_eq_ite, List.length_append, List.length_set, List.length_cons, List.length_nil, List.length_take, List.length_drop, List.length_replicate] at *; done) | (simp only [len_bif, Bool.cond_decide, Bool.cond_eq_ite, List.length_append, List.length_set, List.length_cons, List.length_nil, List.length_take, List.length_drop, List.length_replicate] at *; omega) | (simp only [len_bif, Bool.cond_decide, Bool.cond_eq_ite, List.length_append, List.length_set, List.length_cons, List.length_nil, List.length_take, List.length_drop, List.length_replicate]; omega))))
  · skip
    have hq1 := hc1; try simp only [Bool.and_eq_true, Bool.or_eq_true, Bool.and_eq_false_iff, Bool.or_eq_false_iff, decide_eq_true_eq, decide_eq_false_iff_not, beq_iff_eq, beq_eq_false_iff_ne, bne_iff_ne, bne_eq_false_iff_eq, Bool.true_and, Bool.not_eq_true', Bool.not_eq_false', ne_eq] at hq1
    refine c_skip ?_
    refine hK2 _ _ ?_
    refine c_rs fun K5 hK5 => ?_
    refine rd0 h (r_assign rfl (v := (.int .i64 0))) rfl ?_; clear h ac wo; intro ac wo h
    refine w_nil ?_
    refine hK5 _ _ ?_
    refine c_ret ?_
    have hd : pc_sorted_Quad_1_1 i = 0 := (cF hc1)
    exact ret (rs := [.tmp 2]) h rfl (.tmp rfl .nil) rfl (h.retP (by rw [hd] <;> rfl) (by rw [hd]; exact (by first | assumption | omega | (simp only [len_bif, Bool.cond_decide, Bool.cond_eq_ite, List.length_append, List.length_set, List.length_cons, List.length_nil, List.length_take, List.length_drop, List.length_replicate] at *; done) | (simp only [len_bif, Bool.cond_decide, Bool.cond_eq_ite, List.length_append, List.length_set, List.length_cons, List.length_nil, List.length_take, List.length_drop, List.length_replicate] at *; omega) | (simp only [len_bif, Bool.cond_decide, Bool.cond_eq_ite, List.length_append, List.length_set, List.length_cons, List.length_nil, List.length_take, List.length_drop, List.length_replicate]; omega))))
attribute [irreducible] pc_sorted_Quad_1_1
def pc_held_Quad (l : List (U Qd)) (t : GR) : Bool :=
  (((decide (((l.length : Nat) : Int) > 0)) && (decide (((gt l (l.length - 1)).iv).hi = t))) && (!((gt l (l.length - 1)).iv).openHi))
theorem pc_held_Quad_ct (l : List (U Qd)) (lv : Value) (t : GR) (zl : All (SzUD 20) l) (zt : SzR 30 t) (w0 : World) (hlv : View w0 lv l) : Calls Tryz.prog 107 #[lv, (vR t)] w0 (RetP w0 (.bool (pc_held_Quad l t)) (True)) := by
  refine enter (N := 31) (args := [lv, (vR t)]) Tryz.func107 rfl rfl ?_; intro ac h
  have hlenl := hlv.len
  refine c_rs fun K1 hK1 => ?_
  refine bx h (cR t) rfl rfl rfl ?_; clear h ac; intro b1 ac wo h
  refine rd0 h (r_assign rfl (v := (.bool false))) rfl ?_; clear h ac wo; intro ac wo h
  refine w_nil ?_
  refine hK1 _ _ ?_
  refine c_rs fun K2 hK2 => ?_
  refine rd0 h (r_move rfl) rfl ?_; clear h ac wo; intro ac wo h
  refine rd0 h (r_len Tryz.runUnderlying24 rfl hlv.sl) rfl ?_; clear h ac wo; intro ac wo h
  refine rd0 h (r_assign rfl) rfl ?_; clear h ac wo; intro ac wo h
  refine w_nil ?_
  refine hK2 _ _ ?_
  refine c_seq fun K3 hK3 => ?_
  refine draws mixed [⟨.det (.int .i64 ((l.length : Nat) : Int)), []⟩, ⟨.det (.bool (decide (((l.length : Nat) : Int) > 0))), []⟩, ⟨.det (.bool (decide (((l.length : Nat) : Int) > 0))), []⟩, ⟨.det (gv (decide (((l.length : Nat) : Int) > 0)) lv), []⟩, ⟨.det (gv (decide (((l.length : Nat) : Int) > 0)) (.int .i64 ((l.length : Nat) : Int))), []⟩, ⟨.det (gv (decide (((l.length : Nat) : Int) > 0)) (.int .i64 (((l.length - 1) : Nat) : Int))), []⟩, ⟨.det (gv (decide (((l.length : Nat) : Int) > 0)) (sel lv ((l.length - 1) * 32))), []⟩, ⟨.det (gv (decide (((l.length : Nat) : Int) > 0)) (sel lv ((l.length - 1) * 32 + 0))), []⟩, ⟨.det (gv (decide (((l.length : Nat) : Int) > 0)) (sel lv ((l.length - 1) * 32 + 9))), []⟩, ⟨.det (gv (decide (((l.length : Nat) : Int) > 0)) (vR (((gt l (l.length - 1)).iv).hi))), []⟩, ⟨.det (gv (decide (((l.length : Nat) : Int) > 0)) (vR t)), [0]⟩, ⟨.det (gv (decide (((l.length : Nat) : Int) > 0)) (.bool (decide (((gt l (l.length - 1)).iv).hi = t)))), []⟩, ⟨.det (.bool ((decide (((l.length : Nat) : Int) > 0)) && (decide (((gt l (l.length - 1)).iv).hi = t)))), []⟩, ⟨.det (.bool ((decide (((l.length : Nat) : Int) > 0)) && (decide (((gt l (l.length - 1)).iv).hi = t)))), []⟩, ⟨.det (gv ((decide (((l.length : Nat) : Int) > 0)) && (decide (((gt l (l.length - 1)).iv).hi = t))) lv), []⟩, ⟨.det (gv ((decide (((l.length : Nat) : Int) > 0)) && (decide (((gt l (l.length - 1)).iv).hi = t))) (.int .i64 ((l.length : Nat) : Int))), []⟩, ⟨.det (gv ((decide (((l.length : Nat) : Int) > 0)) && (decide (((gt l (l.length - 1)).iv).hi = t))) (.int .i64 (((l.length - 1) : Nat) : Int))), []⟩, ⟨.det (gv ((decide (((l.length : Nat) : Int) > 0)) && (decide (((gt l (l.length - 1)).iv).hi = t))) (sel lv ((l.length - 1) * 32))), []⟩, ⟨.det (gv ((decide (((l.length : Nat) : Int) > 0)) && (decide (((gt l (l.length - 1)).iv).hi = t))) (sel lv ((l.length - 1) * 32 + 0))), []⟩, ⟨.det (gv ((decide (((l.length : Nat) : Int) > 0)) && (decide (((gt l (l.length - 1)).iv).hi = t))) (sel lv ((l.length - 1) * 32 + 19))), []⟩, ⟨.det (gv ((decide (((l.length : Nat) : Int) > 0)) && (decide (((gt l (l.length - 1)).iv).hi = t))) (.bool (((gt l (l.length - 1)).iv).openHi))), []⟩, ⟨.det (gv ((decide (((l.length : Nat) : Int) > 0)) && (decide (((gt l (l.length - 1)).iv).hi = t))) (.bool (!((gt l (l.length - 1)).iv).openHi))), []⟩, ⟨.det (.bool (((decide (((l.length : Nat) : Int) > 0)) && (decide (((gt l (l.length - 1)).iv).hi = t))) && (!((gt l (l.length - 1)).iv).openHi))), []⟩, ⟨.det (.bool (((decide (((l.length : Nat) : Int) > 0)) && (decide (((gt l (l.length - 1)).iv).hi = t))) && (!((gt l (l.length - 1)).iv).openHi))), []⟩] [⟨.blk b1 (cR t) 53, []⟩] h rfl (by kernel_rfl) ⟨?_, ?_, ?_, ?_, ?_, ?_, ?_, ?_, ?_, ?_, ?_, ?_, ?_, ?_, ?_, ?_, ?_, ?_, ?_, ?_, ?_, ?_, ?_, ?_, trivial⟩ ?_
  · intro ξ hφ; exact ob_r0 (r_move rfl)
  · intro ξ hφ; exact ob_r0 (r_gtr rfl rfl)
  · intro ξ hφ; exact ob_r0 (r_move rfl)
  · intro ξ hφ; exact ob_g (c := true) (b := (decide (((l.length : Nat) : Int) > 0))) (g := (decide (((l.length : Nat) : Int) > 0))) [] rfl rfl rfl rfl g_t (fun hg => Rd.step (r_move rfl))
  · intro ξ hφ; exact ob_g (c := true) (b := (decide (((l.length : Nat) : Int) > 0))) (g := (decide (((l.length : Nat) : Int) > 0))) [] rfl rfl rfl rfl g_t (fun hg => Rd.step (r_move rfl))
  · intro ξ hφ; exact ob_g (c := true) (b := (decide (((l.length : Nat) : Int) > 0))) (g := (decide (((l.length : Nat) : Int) > 0))) [] rfl rfl rfl rfl g_t (fun hg => Rd.step (r_sub (gv_ev rfl hg) rfl (r := (((l.length - 1) : Nat) : Int)) (by (try simp only [Bool.and_eq_true, Bool.or_eq_true, Bool.and_eq_false_iff, Bool.or_eq_false_iff, decide_eq_true_eq, decide_eq_false_iff_not, beq_iff_eq, beq_eq_false_iff_ne, bne_iff_ne, bne_eq_false_iff_eq, Bool.true_and, Bool.not_eq_true', Bool.not_eq_false', ne_eq] at hg); rw [IntKind.wrap_i64]; first | omega | (simp only [len_bif, Bool.cond_decide, Bool.cond_eq_ite, List.length_append, List.length_set, List.length_cons, List.length_nil, List.length_take, List.length_drop, List.length_replicate] at *; omega))))
  · intro ξ hφ; exact ob_g (c := true) (b := (decide (((l.length : Nat) : Int) > 0))) (g := (decide (((l.length : Nat) : Int) > 0))) [] rfl rfl rfl rfl g_t (fun hg => Rd.step (r_ia (i := (l.length - 1)) Tryz.runUnderlying24 Tryz.sizeOf87 (gv_ev rfl hg) (gv_ev rfl hg) (hlv.nn (i := (l.length - 1)) (by (try simp only [Bool.and_eq_true, Bool.or_eq_true, Bool.and_eq_false_iff, Bool.or_eq_false_iff, decide_eq_true_eq, decide_eq_false_iff_not, beq_iff_eq, beq_eq_false_iff_ne, bne_iff_ne, bne_eq_false_iff_eq, Bool.true_and, Bool.not_eq_true', Bool.not_eq_false', ne_eq] at hg); first | omega | (simp only [len_bif, Bool.cond_decide, Bool.cond_eq_ite, List.length_append, List.length_set, List.length_cons, List.length_nil, List.length_take, List.length_drop, List.length_replicate] at *; omega))) (by (try simp only [Bool.and_eq_true, Bool.or_eq_true, Bool.and_eq_false_iff, Bool.or_eq_false_iff, decide_eq_true_eq, decide_eq_false_iff_not, beq_iff_eq, beq_eq_false_iff_ne, bne_iff_ne, bne_eq_false_iff_eq, Bool.true_and, Bool.not_eq_true', Bool.not_eq_false', ne_eq] at hg); first | omega | (simp only [len_bif, Bool.cond_decide, Bool.cond_eq_ite, List.length_append, List.length_set, List.length_cons, List.length_nil, List.length_take, List.length_drop, List.length_replicate] at *; omega))))
  · intro ξ hφ; exact ob_g (c := true) (b := (decide (((l.length : Nat) : Int) > 0))) (g := (decide (((l.length : Nat) : Int) > 0))) [] rfl rfl rfl rfl g_t (fun hg => Rd.step (r_faS Tryz.runUnderlying87 rfl Tryz.sizeOf55 (by decide) (hlv.nn (i := 0) (by (try simp only [Bool.and_eq_true, Bool.or_eq_true, Bool.and_eq_false_iff, Bool.or_eq_false_iff, decide_eq_true_eq, decide_eq_false_iff_not, beq_iff_eq, beq_eq_false_iff_ne, bne_iff_ne, bne_eq_false_iff_eq, Bool.true_and, Bool.not_eq_true', Bool.not_eq_false', ne_eq] at hg); first | omega | (simp only [len_bif, Bool.cond_decide, Bool.cond_eq_ite, List.length_append, List.length_set, List.length_cons, List.length_nil, List.length_take, List.length_drop, List.length_replicate] at *; omega))) (gv_ev rfl hg) rfl (k' := (l.length - 1) * 32 + 0)))
  · intro ξ hφ; exact ob_g (c := true) (b := (decide (((l.length : Nat) : Int) > 0))) (g := (decide (((l.length : Nat) : Int) > 0))) [] rfl rfl rfl rfl g_t (fun hg => Rd.step (r_faS Tryz.runUnderlying55 rfl Tryz.sizeOf53 (by decide) (hlv.nn (i := 0) (by (try simp only [Bool.and_eq_true, Bool.or_eq_true, Bool.and_eq_false_iff, Bool.or_eq_false_iff, decide_eq_true_eq, decide_eq_false_iff_not, beq_iff_eq, beq_eq_false_iff_ne, bne_iff_ne, bne_eq_false_iff_eq, Bool.true_and, Bool.not_eq_true', Bool.not_eq_false', ne_eq] at hg); first | omega | (simp only [len_bif, Bool.cond_decide, Bool.cond_eq_ite, List.length_append, List.length_set, List.length_cons, List.length_nil, List.length_take, List.length_drop, List.length_replicate] at *; omega))) (gv_ev rfl hg) (by first | rfl | (simp only [Nat.add_assoc] <;> rfl)) (k' := (l.length - 1) * 32 + 9)))
  · intro ξ hφ; exact ob_g (c := true) (b := (decide (((l.length : Nat) : Int) > 0))) (g := (decide (((l.length : Nat) : Int) > 0))) [] rfl rfl rfl rfl g_t (fun hg => Rd.step (r_ldV (k := 9) Tryz.isAgg53 Tryz.sizeOf53 hlv (get_gt (by (try simp only [Bool.and_eq_true, Bool.or_eq_true, Bool.and_eq_false_iff, Bool.or_eq_false_iff, decide_eq_true_eq, decide_eq_false_iff_not, beq_iff_eq, beq_eq_false_iff_ne, bne_iff_ne, bne_eq_false_iff_eq, Bool.true_and, Bool.not_eq_true', Bool.not_eq_false', ne_eq] at hg); first | omega | (simp only [len_bif, Bool.cond_decide, Bool.cond_eq_ite, List.length_append, List.length_set, List.length_cons, List.length_nil, List.length_take, List.length_drop, List.length_replicate] at *; omega))) (gv_ev rfl hg) rfl rfl rfl (v := (vR (((gt l (l.length - 1)).iv).hi))) rfl))
  · intro ξ hφ; exact ob_g (c := true) (b := (decide (((l.length : Nat) : Int) > 0))) (g := (decide (((l.length : Nat) : Int) > 0))) [.blk b1 (cR t) 53] rfl rfl rfl rfl g_t (fun hg => Rd.step (r_ld Tryz.isAgg53 Tryz.sizeOf53 rfl rfl rfl (v := (vR t)) rfl))
  · intro ξ hφ; exact ob_g (c := true) (b := (decide (((l.length : Nat) : Int) > 0))) (g := (decide (((l.length : Nat) : Int) > 0))) [] rfl rfl rfl rfl g_t (fun hg => Rd.step (r_eqlT eqp53 (gv_ev rfl hg) (gv_ev rfl hg) (b := (((gt l (l.length - 1)).iv).hi)) (c := t)))
  · intro ξ hφ; exact ob_r0 (r_and rfl (fun e => (gv_ev rfl e)))
  · intro ξ hφ; exact ob_r0 (r_move rfl)
  · intro ξ hφ; exact ob_g (c := true) (b := ((decide (((l.length : Nat) : Int) > 0)) && (decide (((gt l (l.length - 1)).iv).hi = t)))) (g := ((decide (((l.length : Nat) : Int) > 0)) && (decide (((gt l (l.length - 1)).iv).hi = t)))) [] rfl rfl rfl rfl g_t (fun hg => Rd.step (r_move rfl))
  · intro ξ hφ; exact ob_g (c := true) (b := ((decide (((l.length : Nat) : Int) > 0)) && (decide (((gt l (l.length - 1)).iv).hi = t)))) (g := ((decide (((l.length : Nat) : Int) > 0)) && (decide (((gt l (l.length - 1)).iv).hi = t)))) [] rfl rfl rfl rfl g_t (fun hg => Rd.step (r_move rfl))
  · intro ξ hφ; exact ob_g (c := true) (b := ((decide (((l.length : Nat) : Int) > 0)) && (decide (((gt l (l.length - 1)).iv).hi = t)))) (g := ((decide (((l.length : Nat) : Int) > 0)) && (decide (((gt l (l.length - 1)).iv).hi = t)))) [] rfl rfl rfl rfl g_t (fun hg => Rd.step (r_sub (gv_ev rfl hg) rfl (r := (((l.length - 1) : Nat) : Int)) (by (try simp only [Bool.and_eq_true, Bool.or_eq_true, Bool.and_eq_false_iff, Bool.or_eq_false_iff, decide_eq_true_eq, decide_eq_false_iff_not, beq_iff_eq, beq_eq_false_iff_ne, bne_iff_ne, bne_eq_false_iff_eq, Bool.true_and, Bool.not_eq_true', Bool.not_eq_false', ne_eq] at hg); rw [IntKind.wrap_i64]; first | omega | (simp only [len_bif, Bool.cond_decide, Bool.cond_eq_ite, List.length_append, List.length_set, List.length_cons, List.length_nil, List.length_take, List.length_drop, List.length_replicate] at *; omega))))
  · intro ξ hφ; exact ob_g (c := true) (b := ((decide (((l.length : Nat) : Int) > 0)) && (decide (((gt l (l.length - 1)).iv).hi = t)))) (g := ((decide (((l.length : Nat) : Int) > 0)) && (decide (((gt l (l.length - 1)).iv).hi = t)))) [] rfl rfl rfl rfl g_t (fun hg => Rd.step (r_ia (i := (l.length - 1)) Tryz.runUnderlying24 Tryz.sizeOf87 (gv_ev rfl hg) (gv_ev rfl hg) (hlv.nn (i := (l.length - 1)) (by (try simp only [Bool.and_eq_true, Bool.or_eq_true, Bool.and_eq_false_iff, Bool.or_eq_false_iff, decide_eq_true_eq, decide_eq_false_iff_not, beq_iff_eq, beq_eq_false_iff_ne, bne_iff_ne, bne_eq_false_iff_eq, Bool.true_and, Bool.not_eq_true', Bool.not_eq_false', ne_eq] at hg); first | omega | (simp only [len_bif, Bool.cond_decide, Bool.cond_eq_ite, List.length_append, List.length_set, List.length_cons, List.length_nil, List.length_take, List.length_drop, List.length_replicate] at *; omega))) (by (try simp only [Bool.and_eq_true, Bool.or_eq_true, Bool.and_eq_false_iff, Bool.or_eq_false_iff, decide_eq_true_eq, decide_eq_false_iff_not, beq_iff_eq, beq_eq_false_iff_ne, bne_iff_ne, bne_eq_false_iff_eq, Bool.true_and, Bool.not_eq_true', Bool.not_eq_false', ne_eq] at hg); first | omega | (simp only [len_bif, Bool.cond_decide, Bool.cond_eq_ite, List.length_append, List.length_set, List.length_cons, List.length_nil, List.length_take, List.length_drop, List.length_replicate] at *; omega))))
  · intro ξ hφ; exact ob_g (c := true) (b := ((decide (((l.length : Nat) : Int) > 0)) && (decide (((gt l (l.length - 1)).iv).hi = t)))) (g := ((decide (((l.length : Nat) : Int) > 0)) && (decide (((gt l (l.length - 1)).iv).hi = t)))) [] rfl rfl rfl rfl g_t (fun hg => Rd.step (r_faS Tryz.runUnderlying87 rfl Tryz.sizeOf55 (by decide) (hlv.nn (i := 0) (by (try simp only [Bool.and_eq_true, Bool.or_eq_true, Bool.and_eq_false_iff, Bool.or_eq_false_iff, decide_eq_true_eq, decide_eq_false_iff_not, beq_iff_eq, beq_eq_false_iff_ne, bne_iff_ne, bne_eq_false_iff_eq, Bool.true_and, Bool.not_eq_true', Bool.not_eq_false', ne_eq] at hg); first | omega | (simp only [len_bif, Bool.cond_decide, Bool.cond_eq_ite, List.length_append, List.length_set, List.length_cons, List.length_nil, List.length_take, List.length_drop, List.length_replicate] at *; omega))) (gv_ev rfl hg) rfl (k' := (l.length - 1) * 32 + 0)))
  · intro ξ hφ; exact ob_g (c := true) (b := ((decide (((l.length : Nat) : Int) > 0)) && (decide (((gt l (l.length - 1)).iv).hi = t)))) (g := ((decide (((l.length : Nat) : Int) > 0)) && (decide (((gt l (l.length - 1)).iv).hi = t)))) [] rfl rfl rfl rfl g_t (fun hg => Rd.step (r_faS Tryz.runUnderlying55 rfl Tryz.sizeOf4 (by decide) (hlv.nn (i := 0) (by (try simp only [Bool.and_eq_true, Bool.or_eq_true, Bool.and_eq_false_iff, Bool.or_eq_false_iff, decide_eq_true_eq, decide_eq_false_iff_not, beq_iff_eq, beq_eq_false_iff_ne, bne_iff_ne, bne_eq_false_iff_eq, Bool.true_and, Bool.not_eq_true', Bool.not_eq_false', ne_eq] at hg); first | omega | (simp only [len_bif, Bool.cond_decide, Bool.cond_eq_ite, List.length_append, List.length_set, List.length_cons, List.length_nil, List.length_take, List.length_drop, List.length_replicate] at *; omega))) (gv_ev rfl hg) (by first | rfl | (simp only [Nat.add_assoc] <;> rfl)) (k' := (l.length - 1) * 32 + 19)))
  · intro ξ hφ; exact ob_g (c := true) (b := ((decide (((l.length : Nat) : Int) > 0)) && (decide (((gt l (l.length - 1)).iv).hi = t)))) (g := ((decide (((l.length : Nat) : Int) > 0)) && (decide (((gt l (l.length - 1)).iv).hi = t)))) [] rfl rfl rfl rfl g_t (fun hg => Rd.step (r_ldV (k := 19) Tryz.isAgg4 Tryz.sizeOf4 hlv (get_gt (by (try simp only [Bool.and_eq_true, Bool.or_eq_true, Bool.and_eq_false_iff, Bool.or_eq_false_iff, decide_eq_true_eq, decide_eq_false_iff_not, beq_iff_eq, beq_eq_false_iff_ne, bne_iff_ne, bne_eq_false_iff_eq, Bool.true_and, Bool.not_eq_true', Bool.not_eq_false', ne_eq] at hg); first | omega | (simp only [len_bif, Bool.cond_decide, Bool.cond_eq_ite, List.length_append, List.length_set, List.length_cons, List.length_nil, List.length_take, List.length_drop, List.length_replicate] at *; omega))) (gv_ev rfl hg) rfl rfl rfl (v := (.bool (((gt l (l.length - 1)).iv).openHi))) rfl))
  · intro ξ hφ; exact ob_g (c := true) (b := ((decide (((l.length : Nat) : Int) > 0)) && (decide (((gt l (l.length - 1)).iv).hi = t)))) (g := ((decide (((l.length : Nat) : Int) > 0)) && (decide (((gt l (l.length - 1)).iv).hi = t)))) [] rfl rfl rfl rfl g_t (fun hg => Rd.step (r_not (gv_ev rfl hg)))
  · intro ξ hφ; exact ob_r0 (r_and rfl (fun e => (gv_ev rfl e)))
  · intro ξ hφ; exact ob_r0 (r_assign rfl)
  clear h ac wo; intro ξ ac wo hφ h
  replace h : St w0 31 [(4, (.bool (((decide (((l.length : Nat) : Int) > 0)) && (decide (((gt l (l.length - 1)).iv).hi = t))) && (!((gt l (l.length - 1)).iv).openHi))))] [.blk b1 (cR t) 53] ac wo := (h.pick [0] (by decide)).sub ⟨rfl, trivial⟩
  clear hφ ξ
  refine hK3 _ _ ?_
  refine c_ret ?_
  have hd : pc_held_Quad l t = (((decide (((l.length : Nat) : Int) > 0)) && (decide (((gt l (l.length - 1)).iv).hi = t))) && (!((gt l (l.length - 1)).iv).openHi)) := rfl
  exact ret (rs := [.tmp 4]) h rfl (.tmp rfl .nil) rfl (h.retP (by rw [hd] <;> rfl) trivial)
attribute [irreducible] pc_held_Quad
def pc_atoms_Quad_K1 (l : List (U Qd)) (x10 : Nat) (out : List (U Qd)) : (List (U Qd)) :=
  out
def pc_atoms_Quad_B1 (l : List (U Qd)) (x10 : Nat) (out : List (U Qd)) : Nx (Nat × (List (U Qd))) (List (U Qd)) :=
  bif (decide (((x10 : Nat) : Int) < ((l.length : Nat) : Int))) then
    bif (!((gt l x10).iv).openLo) then
      bif (pc_instant ((gt l x10).iv)) then
        .go ((x10 + 1), (out ++ [(⟨(⟨((gt l x10).iv).lo, ((gt l x10).iv).lo, false, false⟩ : Iv), (gt l x10).f⟩ : U Qd)]))
      else
        bif (!((gt l x10).iv).openHi) then
          .go ((x10 + 1), (((out ++ [(⟨(⟨((gt l x10).iv).lo, ((gt l x10).iv).lo, false, false⟩ : Iv), (gt l x10).f⟩ : U Qd)]) ++ [(⟨(⟨((gt l x10).iv).lo, ((gt l x10).iv).hi, true, true⟩ : Iv), (gt l x10).f⟩ : U Qd)]) ++ [(⟨(⟨((gt l x10).iv).hi, ((gt l x10).iv).hi, false, false⟩ : Iv), (gt l x10).f⟩ : U Qd)]))
        else
          .go ((x10 + 1), ((out ++ [(⟨(⟨((gt l x10).iv).lo, ((gt l x10).iv).lo, false, false⟩ : Iv), (gt l x10).f⟩ : U Qd)]) ++ [(⟨(⟨((gt l x10).iv).lo, ((gt l x10).iv).hi, true, true⟩ : Iv), (gt l x10).f⟩ : U Qd)]))
    else
      bif (pc_instant ((gt l x10).iv)) then
        .go ((x10 + 1), out)
      else
        bif (!((gt l x10).iv).openHi) then
          .go ((x10 + 1), ((out ++ [(⟨(⟨((gt l x10).iv).lo, ((gt l x10).iv).hi, true, true⟩ : Iv), (gt l x10).f⟩ : U Qd)]) ++ [(⟨(⟨((gt l x10).iv).hi, ((gt l x10).iv).hi, false, false⟩ : Iv), (gt l x10).f⟩ : U Qd)]))
        else
          .go ((x10 + 1), (out ++ [(⟨(⟨((gt l x10).iv).lo, ((gt l x10).iv).hi, true, true⟩ : Iv), (gt l x10).f⟩ : U Qd)]))
  else
    .out (x10, out)
def pc_atoms_Quad (l : List (U Qd)) : (List (U Qd)) :=
  fin (loopF (fun s => pc_atoms_Quad_B1 l s.1 s.2) ((l.length - 0) + 1) (0, [])) (fun s => pc_atoms_Quad_K1 l s.1 s.2) (fun r => r)
theorem pc_atoms_Quad_ct (l : List (U Qd)) (lv : Value) (hl : l.length ≤ 1000) (zl : All (SzUD 30) l) (w0 : World) (hlv : View w0 lv l) : Calls Tryz.prog 106 #[lv] w0 (RetR w0 87 (pc_atoms_Quad l) (All (SzUD 30) (pc_atoms_Quad l) ∧ (pc_atoms_Quad l).length ≤ 3 * l.length)) := by
  refine enter (N := 54) (args := [lv]) Tryz.func106 rfl rfl ?_; intro ac h
  have hlenl := hlv.len
  refine c_rs fun K1 hK1 => ?_
  refine rd0 h (r_assign rfl (v := (.slice none 0 0))) rfl ?_; clear h ac; intro ac wo h
  refine w_nil ?_
  refine hK1 _ _ ?_
  refine c_rs fun K2 hK2 => ?_
  refine al h [.slice none 0 0] Tryz.zeroValue24 rfl rfl ?_; clear h ac wo; intro b1 ac wo h
  refine w_nil ?_
  refine hK2 _ _ ?_
  refine c_rs fun K3 hK3 => ?_
  refine rd0 h (r_makeFunc (vs := [(ptr b1 0)]) rfl) rfl ?_; clear h ac wo; intro ac wo h
  refine rd0 h (r_assign rfl) rfl ?_; clear h ac wo; intro ac wo h
  refine w_nil ?_
  refine hK3 _ _ ?_
  refine c_seq fun K4 hK4 => ?_
  refine c_rs fun K5 hK5 => ?_
  refine rd0 h (r_move rfl) rfl ?_; clear h ac wo; intro ac wo h
  refine rd0 h (r_len Tryz.runUnderlying24 rfl hlv.sl) rfl ?_; clear h ac wo; intro ac wo h
  refine rd0 h (r_move rfl (v := (.int .i64 0))) rfl ?_; clear h ac wo; intro ac wo h
  refine w_nil ?_
  refine hK5 _ _ ?_
  refine c_block ?_
  replace h := h.nilRow (α := U Qd) 87
  obtain ⟨X1, hX1⟩ : ∃ X, loopF (fun s => pc_atoms_Quad_B1 l s.1 s.2) ((l.length - 0) + 1) (0, []) = X := ⟨_, rfl⟩
  refine wp_loop_ghost (fun n_ a_ w_ => ∃ (x10 : Nat) (out : List (U Qd)) (outv : Value), ((l.length - x10) < n_) ∧ (loopF (fun s => pc_atoms_Quad_B1 l s.1 s.2) n_ (x10, out) = X1) ∧ (x10 ≤ l.length) ∧ (All (SzUD 30) out) ∧ (out.length ≤ 3 * x10) ∧ St w0 54 [(3, (ptr b1 0)), (4, (.func (.func 170) #[] #[(ptr b1 0)])), (8, lv), (9, (.int .i64 ((l.length : Nat) : Int))), (10, (.int .i64 ((x10 : Nat) : Int)))] [.row (α := U Qd) 87 outv out, .blk b1 [outv] 24] a_ w_) ((l.length - 0) + 1) ⟨0, [], (.slice none 0 0), (by omega), hX1, (by first | assumption | omega | (simp only [len_bif, Bool.cond_decide, Bool.cond_eq_ite, List.length_append, List.length_set, List.length_cons, List.length_nil, List.length_take, List.length_drop, List.length_replicate] at *; done) | (simp only [len_bif, Bool.cond_decide, Bool.cond_eq_ite, List.length_append, List.length_set, List.length_cons, List.length_nil, List.length_take, List.length_drop, List.length_replicate] at *; omega) | (simp only [len_bif, Bool.cond_decide, Bool.cond_eq_ite, List.length_append, List.length_set, List.length_cons, List.length_nil, List.length_take, List.length_drop, List.length_replicate]; omega)), All.nil, (by first | assumption | omega | (simp only [len_bif, Bool.cond_decide, Bool.cond_eq_ite, List.length_append, List.length_set, List.length_cons, List.length_nil, List.length_take, List.length_drop, List.length_replicate] at *; done) | (simp only [len_bif, Bool.cond_decide, Bool.cond_eq_ite, List.length_append, List.length_set, List.length_cons, List.length_nil, List.length_take, List.length_drop, List.length_replicate] at *; omega) | (simp only [len_bif, Bool.cond_decide, Bool.cond_eq_ite, List.length_append, List.length_set, List.length_cons, List.length_nil, List.length_take, List.length_drop, List.length_replicate]; omega)), (h.sub ⟨rfl, rfl, rfl, rfl, rfl, trivial⟩)⟩ ?_
  clear h ac wo; rintro n1 ac wo ⟨x10, out, outv, hm1, hL1, hx10, zout, hol, h⟩
  obtain ⟨m1, rfl⟩ : ∃ m, n1 = m + 1 := ⟨n1 - 1, by omega⟩
  refine c_rs fun K6 hK6 => ?_
  refine rd0 h (r_lss rfl rfl) rfl ?_; clear h ac wo; intro ac wo h
  refine w_nil ?_
  refine hK6 _ _ ?_
  refine c_seq fun K7 hK7 => ?_
  refine c_if (b := (decide (((x10 : Nat) : Int) < ((l.length : Nat) : Int)))) h rfl (fun hc1 => ?_) (fun hc1 => ?_)
  · skip
    have hd1 := of_decide_eq_true hc1
    refine c_skip ?_
    refine hK7 _ _ ?_
    refine c_seq fun K8 hK8 => ?_
    refine c_block ?_
    refine c_rs fun K9 hK9 => ?_
    refine rd0 h (r_ia (i := x10) Tryz.runUnderlying24 Tryz.sizeOf87 rfl rfl (hlv.nn (i := x10) (by first | assumption | omega | (simp only [len_bif, Bool.cond_decide, Bool.cond_eq_ite, List.length_append, List.length_set, List.length_cons, List.length_nil, List.length_take, List.length_drop, List.length_replicate] at *; done) | (simp only [len_bif, Bool.cond_decide, Bool.cond_eq_ite, List.length_append, List.length_set, List.length_cons, List.length_nil, List.length_take, List.length_drop, List.length_replicate] at *; omega) | (simp only [len_bif, Bool.cond_decide, Bool.cond_eq_ite, List.length_append, List.length_set, List.length_cons, List.length_nil, List.length_take, List.length_drop, List.length_replicate]; omega))) (by first | assumption | omega | (simp only [len_bif, Bool.cond_decide, Bool.cond_eq_ite, List.length_append, List.length_set, List.length_cons, List.length_nil, List.length_take, List.length_drop, List.length_replicate] at *; done) | (simp only [len_bif, Bool.cond_decide, Bool.cond_eq_ite, List.length_append, List.length_set, List.length_cons, List.length_nil, List.length_take, List.length_drop, List.length_replicate] at *; omega) | (simp only [len_bif, Bool.cond_decide, Bool.cond_eq_ite, List.length_append, List.length_set, List.length_cons, List.length_nil, List.length_take, List.length_drop, List.length_replicate]; omega))) rfl ?_; clear h ac wo; intro ac wo h
    refine rd0 h (r_ldV (k := 0) Tryz.isAgg87 Tryz.sizeOf87 hlv (get_gt (by first | assumption | omega | (simp only [len_bif, Bool.cond_decide, Bool.cond_eq_ite, List.length_append, List.length_set, List.length_cons, List.length_nil, List.length_take, List.length_drop, List.length_replicate] at *; done) | (simp only [len_bif, Bool.cond_decide, Bool.cond_eq_ite, List.length_append, List.length_set, List.length_cons, List.length_nil, List.length_take, List.length_drop, List.length_replicate] at *; omega) | (simp only [len_bif, Bool.cond_decide, Bool.cond_eq_ite, List.length_append, List.length_set, List.length_cons, List.length_nil, List.length_take, List.length_drop, List.length_replicate]; omega))) rfl (Nat.add_zero _) rfl rfl (v := (vUD (gt l x10))) rfl) rfl ?_; clear h ac wo; intro ac wo h
    refine al h (cUD (⟨(⟨(⟨(⟨(⟨false, 0⟩ : GI), (⟨false, 0⟩ : GI)⟩ : GQ), (⟨(⟨false, 0⟩ : GI), (⟨false, 0⟩ : GI)⟩ : GQ), false⟩ : GR), (⟨(⟨(⟨false, 0⟩ : GI), (⟨false, 0⟩ : GI)⟩ : GQ), (⟨(⟨false, 0⟩ : GI), (⟨false, 0⟩ : GI)⟩ : GQ), false⟩ : GR), false, false⟩ : Iv), (⟨(⟨(⟨false, 0⟩ : GI), (⟨false, 0⟩ : GI)⟩ : GQ), (⟨(⟨false, 0⟩ : GI), (⟨false, 0⟩ : GI)⟩ : GQ), (⟨(⟨false, 0⟩ : GI), (⟨false, 0⟩ : GI)⟩ : GQ)⟩ : Qd)⟩ : U Qd)) Tryz.zeroValue87 rfl rfl ?_; clear h ac wo; intro b2 ac wo h
    refine st h 0 (cUD (gt l x10)) rfl Tryz.sizeOf87 rfl rfl rfl rfl rfl rfl rfl ?_; clear h ac wo; intro ac wo h
    refine w_nil ?_
    refine hK9 _ _ ?_
    refine c_seq fun K10 hK10 => ?_
    refine c_rs fun K11 hK11 => ?_
    refine rd0 h (r_fa Tryz.runUnderlying87 rfl Tryz.sizeOf55 (by decide) rfl rfl (k' := 0)) rfl ?_; clear h ac wo; intro ac wo h
    refine rd0 h (r_fa Tryz.runUnderlying55 rfl Tryz.sizeOf4 (by decide) rfl rfl (k' := 18)) rfl ?_; clear h ac wo; intro ac wo h
    refine rd1 h 0 rfl (r_ld Tryz.isAgg4 Tryz.sizeOf4 rfl rfl rfl (v := (.bool (((gt l x10).iv).openLo))) rfl) rfl ?_; clear h ac wo; intro ac wo h
    refine rd0 h (r_not rfl) rfl ?_; clear h ac wo; intro ac wo h
    refine w_nil ?_
    refine hK11 _ _ ?_
    refine c_if (b := (!((gt l x10).iv).openLo)) h rfl (fun hc2 => ?_) (fun hc2 => ?_)
    · skip
      have hq2 := hc2; try simp only [Bool.and_eq_true, Bool.or_eq_true, Bool.and_eq_false_iff, Bool.or_eq_false_iff, decide_eq_true_eq, decide_eq_false_iff_not, beq_iff_eq, beq_eq_false_iff_ne, bne_iff_ne, bne_eq_false_iff_eq, Bool.true_and, Bool.not_eq_true', Bool.not_eq_false', ne_eq] at hq2
      refine c_r ?_
      refine rd0 h (r_move rfl) rfl ?_; clear h ac wo; intro ac wo h
      refine rd0 h (r_fa Tryz.runUnderlying87 rfl Tryz.sizeOf55 (by decide) rfl rfl (k' := 0)) rfl ?_; clear h ac wo; intro ac wo h
      refine rd0 h (r_fa Tryz.runUnderlying55 rfl Tryz.sizeOf53 (by decide) rfl rfl (k' := 0)) rfl ?_; clear h ac wo; intro ac wo h
      refine rd1 h 0 rfl (r_ld Tryz.isAgg53 Tryz.sizeOf53 rfl rfl rfl (v := (vR (((gt l x10).iv).lo))) rfl) rfl ?_; clear h ac wo; intro ac wo h
      refine rd0 h (r_fa Tryz.runUnderlying87 rfl Tryz.sizeOf69 (by decide) rfl rfl (k' := 20)) rfl ?_; clear h ac wo; intro ac wo h
      refine rd1 h 0 rfl (r_ld Tryz.isAgg69 Tryz.sizeOf69 rfl rfl rfl (v := (vD ((gt l x10).f))) rfl) rfl ?_; clear h ac wo; intro ac wo h
      refine inl (vs := [(vR (((gt l x10).iv).lo)), (vD ((gt l x10).f)), (ptr b1 0)]) (M := 13) h (ent_v (vs := [(vR (((gt l x10).iv).lo)), (vD ((gt l x10).f))]) (cap := [(ptr b1 0)]) Tryz.call170 rfl rfl) Tryz.func170 rfl rfl rfl ?_
      clear h ac; intro R1 hR1 ac h
      refine c_rs fun K12 hK12 => ?_
      refine bx h (cR (((gt l x10).iv).lo)) rfl rfl rfl ?_; clear h ac wo; intro b3 ac wo h
      refine bx h (cD ((gt l x10).f)) rfl rfl rfl ?_; clear h ac wo; intro b4 ac wo h
      refine w_nil ?_
      refine hK12 _ _ ?_
      refine c_r ?_
      refine rd1 h 4 rfl (r_ld Tryz.isAgg24 Tryz.sizeOf24 rfl rfl rfl (v := outv) rfl) rfl ?_; clear h ac wo; intro ac wo h
      refine rd1 h 1 rfl (r_ld Tryz.isAgg53 Tryz.sizeOf53 rfl rfl rfl (v := (vR (((gt l x10).iv).lo))) rfl) rfl ?_; clear h ac wo; intro ac wo h
      refine rd1 h 1 rfl (r_ld Tryz.isAgg53 Tryz.sizeOf53 rfl rfl rfl (v := (vR (((gt l x10).iv).lo))) rfl) rfl ?_; clear h ac wo; intro ac wo h
      refine rd0 h (r_build (parts := [(0, .tmp 6), (1, .tmp 7)]) (vs := [(vR (((gt l x10).iv).lo)), (vR (((gt l x10).iv).lo))]) bld55 rfl rfl (v := (vV (⟨((gt l x10).iv).lo, ((gt l x10).iv).lo, false, false⟩ : Iv))) rfl) rfl ?_; clear h ac wo; intro ac wo h
      refine rd1 h 0 rfl (r_ld Tryz.isAgg69 Tryz.sizeOf69 rfl rfl rfl (v := (vD ((gt l x10).f))) rfl) rfl ?_; clear h ac wo; intro ac wo h
      refine rd0 h (r_build (parts := [(0, .tmp 8), (1, .tmp 9)]) (vs := [(vV (⟨((gt l x10).iv).lo, ((gt l x10).iv).lo, false, false⟩ : Iv)), (vD ((gt l x10).f))]) bld87 rfl rfl (v := (vUD (⟨(⟨((gt l x10).iv).lo, ((gt l x10).iv).lo, false, false⟩ : Iv), (gt l x10).f⟩ : U Qd))) rfl) rfl ?_; clear h ac wo; intro ac wo h
      refine nw h (s_sliceN (α := U Qd) (xs := [.tmp 10]) (vs := [(vUD (⟨(⟨((gt l x10).iv).lo, ((gt l x10).iv).lo, false, false⟩ : Iv), (gt l x10).f⟩ : U Qd))]) [(⟨(⟨((gt l x10).iv).lo, ((gt l x10).iv).lo, false, false⟩ : Iv), (gt l x10).f⟩ : U Qd)] slt24 rfl rfl rfl (by decide)) rfl ?_; clear h ac wo; intro sv2 ac wo nnsv2 h
      refine on2 h 4 0 rfl rfl (s_appG (xs := out) (ys := [(⟨(⟨((gt l x10).iv).lo, ((gt l x10).iv).lo, false, false⟩ : Iv), (gt l x10).f⟩ : U Qd)]) slt24 (fun w hs => (row_view hs 0 rfl)) rfl rfl (by first | assumption | omega | (simp only [len_bif, Bool.cond_decide, Bool.cond_eq_ite, List.length_append, List.length_set, List.length_cons, List.length_nil, List.length_take, List.length_drop, List.length_replicate] at *; done) | (simp only [len_bif, Bool.cond_decide, Bool.cond_eq_ite, List.length_append, List.length_set, List.length_cons, List.length_nil, List.length_take, List.length_drop, List.length_replicate] at *; omega) | (simp only [len_bif, Bool.cond_decide, Bool.cond_eq_ite, List.length_append, List.length_set, List.length_cons, List.length_nil, List.length_take, List.length_drop, List.length_replicate]; omega))) rfl ?_; clear h ac wo; intro sv3 ac wo apsv3 h
      refine st h 5 [sv3] rfl Tryz.sizeOf24 rfl rfl (sl_cells (h.row_sl 0 rfl)) rfl (sl_one (h.row_sl 0 rfl)) rfl rfl ?_; clear h ac wo; intro ac wo h
      refine w_nil ?_
      refine retN (rs := []) (vs := []) h rfl .nil rfl (hR1 _ _ _ h.bel h.sep ?_)
      clear h ac hR1; intro ac h
      refine w_nil ?_
      refine hK10 _ _ ?_
      refine c_seq fun K13 hK13 => ?_
      refine c_rs fun K14 hK14 => ?_
      refine rd0 h (r_fa Tryz.runUnderlying87 rfl Tryz.sizeOf55 (by decide) rfl rfl (k' := 0)) rfl ?_; clear h ac wo; intro ac wo h
      refine rd1 h 4 rfl (r_ld Tryz.isAgg55 Tryz.sizeOf55 rfl rfl rfl (v := (vV ((gt l x10).iv))) rfl) rfl ?_; clear h ac wo; intro ac wo h
      refine c_val (vs := [(vV ((gt l x10).iv))]) h (ent_f Tryz.call83 rfl) (fun w_ hB_ hS_ => (pc_instant_ct ((gt l x10).iv)) w_) rfl ?_; clear h ac wo; intro ac wo h
      refine w_nil ?_
      refine hK14 _ _ ?_
      replace h := h.sub (F' := [(3, (ptr b1 0)), (4, (.func (.func 170) #[] #[(ptr b1 0)])), (8, lv), (9, (.int .i64 ((l.length : Nat) : Int))), (10, (.int .i64 ((x10 : Nat) : Int))), (6, (ptr b2 0)), (27, (.bool (pc_instant ((gt l x10).iv))))]) ⟨rfl, rfl, rfl, rfl, rfl, rfl, rfl, trivial⟩
      refine c_if (b := (pc_instant ((gt l x10).iv))) h rfl (fun hc3 => ?_) (fun hc3 => ?_)
      · skip
        have hq3 := hc3; try simp only [Bool.and_eq_true, Bool.or_eq_true, Bool.and_eq_false_iff, Bool.or_eq_false_iff, decide_eq_true_eq, decide_eq_false_iff_not, beq_iff_eq, beq_eq_false_iff_ne, bne_iff_ne, bne_eq_false_iff_eq, Bool.true_and, Bool.not_eq_true', Bool.not_eq_false', ne_eq] at hq3
        refine c_exit ?_
        refine hK8 _ _ ?_
        refine c_r ?_
        refine rd0 h (r_add rfl rfl (r := ((x10 + 1 : Nat) : Int)) (by rw [IntKind.wrap_i64]; first | omega | (simp only [len_bif, Bool.cond_decide, Bool.cond_eq_ite, List.length_append, List.length_set, List.length_cons, List.length_nil, List.length_take, List.length_drop, List.length_replicate] at *; omega))) rfl ?_; clear h ac wo; intro ac wo h
        refine rd0 h (r_move rfl) rfl ?_; clear h ac wo; intro ac wo h
        refine w_nil ?_
        exact next_round ⟨m1, (by omega), (x10 + 1), (out ++ [(⟨(⟨((gt l x10).iv).lo, ((gt l x10).iv).lo, false, false⟩ : Iv), (gt l x10).f⟩ : U Qd)]), sv3, (by first | assumption | omega | (simp only [len_bif, Bool.cond_decide, Bool.cond_eq_ite, List.length_append, List.length_set, List.length_cons, List.length_nil, List.length_take, List.length_drop, List.length_replicate] at *; done) | (simp only [len_bif, Bool.cond_decide, Bool.cond_eq_ite, List.length_append, List.length_set, List.length_cons, List.length_nil, List.length_take, List.length_drop, List.length_replicate] at *; omega) | (simp only [len_bif, Bool.cond_decide, Bool.cond_eq_ite, List.length_append, List.length_set, List.length_cons, List.length_nil, List.length_take, List.length_drop, List.length_replicate]; omega)), loop_go hL1 (show pc_atoms_Quad_B1 l x10 out = .go ((x10 + 1), (out ++ [(⟨(⟨((gt l x10).iv).lo, ((gt l x10).iv).lo, false, false⟩ : Iv), (gt l x10).f⟩ : U Qd)])) from (Eq.trans (cT hc1) (Eq.trans (cT hc2) (cT hc3)))), (by first | assumption | omega | (simp only [len_bif, Bool.cond_decide, Bool.cond_eq_ite, List.length_append, List.length_set, List.length_cons, List.length_nil, List.length_take, List.length_drop, List.length_replicate] at *; done) | (simp only [len_bif, Bool.cond_decide, Bool.cond_eq_ite, List.length_append, List.length_set, List.length_cons, List.length_nil, List.length_take, List.length_drop, List.length_replicate] at *; omega) | (simp only [len_bif, Bool.cond_decide, Bool.cond_eq_ite, List.length_append, List.length_set, List.length_cons, List.length_nil, List.length_take, List.length_drop, List.length_replicate]; omega)), (All.app zout (All.cons ⟨⟨((All.gt zl (SzUD_d _)).1).1, ((All.gt zl (SzUD_d _)).1).1⟩, (All.gt zl (SzUD_d _)).2⟩ All.nil)), (by first | assumption | omega | (simp only [len_bif, Bool.cond_decide, Bool.cond_eq_ite, List.length_append, List.length_set, List.length_cons, List.length_nil, List.length_take, List.length_drop, List.length_replicate] at *; done) | (simp only [len_bif, Bool.cond_decide, Bool.cond_eq_ite, List.length_append, List.length_set, List.length_cons, List.length_nil, List.length_take, List.length_drop, List.length_replicate] at *; omega) | (simp only [len_bif, Bool.cond_decide, Bool.cond_eq_ite, List.length_append, List.length_set, List.length_cons, List.length_nil, List.length_take, List.length_drop, List.length_replicate]; omega)), (h.pick [0, 5] (by decide)).sub ⟨rfl, rfl, rfl, rfl, rfl, trivial⟩⟩
      · skip
        have hq3 := hc3; try simp only [Bool.and_eq_true, Bool.or_eq_true, Bool.and_eq_false_iff, Bool.or_eq_false_iff, decide_eq_true_eq, decide_eq_false_iff_not, beq_iff_eq, beq_eq_false_iff_ne, bne_iff_ne, bne_eq_false_iff_eq, Bool.true_and, Bool.not_eq_true', Bool.not_eq_false', ne_eq] at hq3
        refine c_skip ?_
        refine hK13 _ _ ?_
        refine c_rs fun K15 hK15 => ?_
        refine rd1 h 5 rfl (r_ld Tryz.isAgg24 Tryz.sizeOf24 rfl rfl rfl (v := sv3) rfl) rfl ?_; clear h ac wo; intro ac wo h
        refine rd0 h (r_fa Tryz.runUnderlying87 rfl Tryz.sizeOf55 (by decide) rfl rfl (k' := 0)) rfl ?_; clear h ac wo; intro ac wo h
        refine rd0 h (r_fa Tryz.runUnderlying55 rfl Tryz.sizeOf53 (by decide) rfl rfl (k' := 0)) rfl ?_; clear h ac wo; intro ac wo h
        refine rd1 h 4 rfl (r_ld Tryz.isAgg53 Tryz.sizeOf53 rfl rfl rfl (v := (vR (((gt l x10).iv).lo))) rfl) rfl ?_; clear h ac wo; intro ac wo h
        refine rd0 h (r_fa Tryz.runUnderlying87 rfl Tryz.sizeOf55 (by decide) rfl rfl (k' := 0)) rfl ?_; clear h ac wo; intro ac wo h
        refine rd0 h (r_fa Tryz.runUnderlying55 rfl Tryz.sizeOf53 (by decide) rfl rfl (k' := 9)) rfl ?_; clear h ac wo; intro ac wo h
        refine rd1 h 4 rfl (r_ld Tryz.isAgg53 Tryz.sizeOf53 rfl rfl rfl (v := (vR (((gt l x10).iv).hi))) rfl) rfl ?_; clear h ac wo; intro ac wo h
        refine rd0 h (r_build (parts := [(0, .tmp 31), (1, .tmp 34), (2, .const (.bool true)), (3, .const (.bool true))]) (vs := [(vR (((gt l x10).iv).lo)), (vR (((gt l x10).iv).hi)), (.bool true), (.bool true)]) bld55 rfl rfl (v := (vV (⟨((gt l x10).iv).lo, ((gt l x10).iv).hi, true, true⟩ : Iv))) rfl) rfl ?_; clear h ac wo; intro ac wo h
        refine rd0 h (r_fa Tryz.runUnderlying87 rfl Tryz.sizeOf69 (by decide) rfl rfl (k' := 20)) rfl ?_; clear h ac wo; intro ac wo h
        refine rd1 h 4 rfl (r_ld Tryz.isAgg69 Tryz.sizeOf69 rfl rfl rfl (v := (vD ((gt l x10).f))) rfl) rfl ?_; clear h ac wo; intro ac wo h
        refine rd0 h (r_build (parts := [(0, .tmp 35), (1, .tmp 37)]) (vs := [(vV (⟨((gt l x10).iv).lo, ((gt l x10).iv).hi, true, true⟩ : Iv)), (vD ((gt l x10).f))]) bld87 rfl rfl (v := (vUD (⟨(⟨((gt l x10).iv).lo, ((gt l x10).iv).hi, true, true⟩ : Iv), (gt l x10).f⟩ : U Qd))) rfl) rfl ?_; clear h ac wo; intro ac wo h
        refine nw h (s_sliceN (α := U Qd) (xs := [.tmp 38]) (vs := [(vUD (⟨(⟨((gt l x10).iv).lo, ((gt l x10).iv).hi, true, true⟩ : Iv), (gt l x10).f⟩ : U Qd))]) [(⟨(⟨((gt l x10).iv).lo, ((gt l x10).iv).hi, true, true⟩ : Iv), (gt l x10).f⟩ : U Qd)] slt24 rfl rfl rfl (by decide)) rfl ?_; clear h ac wo; intro sv4 ac wo nnsv4 h
        refine on2 h 1 0 rfl rfl (s_appG (xs := (out ++ [(⟨(⟨((gt l x10).iv).lo, ((gt l x10).iv).lo, false, false⟩ : Iv), (gt l x10).f⟩ : U Qd)])) (ys := [(⟨(⟨((gt l x10).iv).lo, ((gt l x10).iv).hi, true, true⟩ : Iv), (gt l x10).f⟩ : U Qd)]) slt24 (fun w hs => (row_view hs 0 rfl)) rfl rfl (by first | assumption | omega | (simp only [len_bif, Bool.cond_decide, Bool.cond_eq_ite, List.length_append, List.length_set, List.length_cons, List.length_nil, List.length_take, List.length_drop, List.length_replicate] at *; done) | (simp only [len_bif, Bool.cond_decide, Bool.cond_eq_ite, List.length_append, List.length_set, List.length_cons, List.length_nil, List.length_take, List.length_drop, List.length_replicate] at *; omega) | (simp only [len_bif, Bool.cond_decide, Bool.cond_eq_ite, List.length_append, List.length_set, List.length_cons, List.length_nil, List.length_take, List.length_drop, List.length_replicate]; omega))) rfl ?_; clear h ac wo; intro sv5 ac wo apsv5 h
        refine st h 6 [sv5] rfl Tryz.sizeOf24 rfl rfl (sl_cells (h.row_sl 0 rfl)) rfl (sl_one (h.row_sl 0 rfl)) rfl rfl ?_; clear h ac wo; intro ac wo h
        refine w_nil ?_
        refine hK15 _ _ ?_
        refine c_rs fun K16 hK16 => ?_
        refine rd0 h (r_fa Tryz.runUnderlying87 rfl Tryz.sizeOf55 (by decide) rfl rfl (k' := 0)) rfl ?_; clear h ac wo; intro ac wo h
        refine rd0 h (r_fa Tryz.runUnderlying55 rfl Tryz.sizeOf4 (by decide) rfl rfl (k' := 19)) rfl ?_; clear h ac wo; intro ac wo h
        refine rd1 h 5 rfl (r_ld Tryz.isAgg4 Tryz.sizeOf4 rfl rfl rfl (v := (.bool (((gt l x10).iv).openHi))) rfl) rfl ?_; clear h ac wo; intro ac wo h
        refine rd0 h (r_not rfl) rfl ?_; clear h ac wo; intro ac wo h
        refine w_nil ?_
        refine hK16 _ _ ?_
        replace h := h.sub (F' := [(3, (ptr b1 0)), (4, (.func (.func 170) #[] #[(ptr b1 0)])), (8, lv), (9, (.int .i64 ((l.length : Nat) : Int))), (10, (.int .i64 ((x10 : Nat) : Int))), (6, (ptr b2 0)), (44, (.bool (!((gt l x10).iv).openHi)))]) ⟨rfl, rfl, rfl, rfl, rfl, rfl, rfl, trivial⟩
        refine c_if (b := (!((gt l x10).iv).openHi)) h rfl (fun hc4 => ?_) (fun hc4 => ?_)
        · skip
          have hq4 := hc4; try simp only [Bool.and_eq_true, Bool.or_eq_true, Bool.and_eq_false_iff, Bool.or_eq_false_iff, decide_eq_true_eq, decide_eq_false_iff_not, beq_iff_eq, beq_eq_false_iff_ne, bne_iff_ne, bne_eq_false_iff_eq, Bool.true_and, Bool.not_eq_true', Bool.not_eq_false', ne_eq] at hq4
          refine c_r ?_
          refine rd0 h (r_move rfl) rfl ?_; clear h ac wo; intro ac wo h
          refine rd0 h (r_fa Tryz.runUnderlying87 rfl Tryz.sizeOf55 (by decide) rfl rfl (k' := 0)) rfl ?_; clear h ac wo; intro ac wo h
          refine rd0 h (r_fa Tryz.runUnderlying55 rfl Tryz.sizeOf53 (by decide) rfl rfl (k' := 9)) rfl ?_; clear h ac wo; intro ac wo h
          refine rd1 h 5 rfl (r_ld Tryz.isAgg53 Tryz.sizeOf53 rfl rfl rfl (v := (vR (((gt l x10).iv).hi))) rfl) rfl ?_; clear h ac wo; intro ac wo h
          refine rd0 h (r_fa Tryz.runUnderlying87 rfl Tryz.sizeOf69 (by decide) rfl rfl (k' := 20)) rfl ?_; clear h ac wo; intro ac wo h
          refine rd1 h 5 rfl (r_ld Tryz.isAgg69 Tryz.sizeOf69 rfl rfl rfl (v := (vD ((gt l x10).f))) rfl) rfl ?_; clear h ac wo; intro ac wo h
          refine inl (vs := [(vR (((gt l x10).iv).hi)), (vD ((gt l x10).f)), (ptr b1 0)]) (M := 13) h (ent_v (vs := [(vR (((gt l x10).iv).hi)), (vD ((gt l x10).f))]) (cap := [(ptr b1 0)]) Tryz.call170 rfl rfl) Tryz.func170 rfl rfl rfl ?_
          clear h ac; intro R2 hR2 ac h
          refine c_rs fun K17 hK17 => ?_
          refine bx h (cR (((gt l x10).iv).hi)) rfl rfl rfl ?_; clear h ac wo; intro b5 ac wo h
          refine bx h (cD ((gt l x10).f)) rfl rfl rfl ?_; clear h ac wo; intro b6 ac wo h
          refine w_nil ?_
          refine hK17 _ _ ?_
          refine c_r ?_
          refine rd1 h 8 rfl (r_ld Tryz.isAgg24 Tryz.sizeOf24 rfl rfl rfl (v := sv5) rfl) rfl ?_; clear h ac wo; intro ac wo h
          refine rd1 h 1 rfl (r_ld Tryz.isAgg53 Tryz.sizeOf53 rfl rfl rfl (v := (vR (((gt l x10).iv).hi))) rfl) rfl ?_; clear h ac wo; intro ac wo h
          refine rd1 h 1 rfl (r_ld Tryz.isAgg53 Tryz.sizeOf53 rfl rfl rfl (v := (vR (((gt l x10).iv).hi))) rfl) rfl ?_; clear h ac wo; intro ac wo h
          refine rd0 h (r_build (parts := [(0, .tmp 6), (1, .tmp 7)]) (vs := [(vR (((gt l x10).iv).hi)), (vR (((gt l x10).iv).hi))]) bld55 rfl rfl (v := (vV (⟨((gt l x10).iv).hi, ((gt l x10).iv).hi, false, false⟩ : Iv))) rfl) rfl ?_; clear h ac wo; intro ac wo h
          refine rd1 h 0 rfl (r_ld Tryz.isAgg69 Tryz.sizeOf69 rfl rfl rfl (v := (vD ((gt l x10).f))) rfl) rfl ?_; clear h ac wo; intro ac wo h
          refine rd0 h (r_build (parts := [(0, .tmp 8), (1, .tmp 9)]) (vs := [(vV (⟨((gt l x10).iv).hi, ((gt l x10).iv).hi, false, false⟩ : Iv)), (vD ((gt l x10).f))]) bld87 rfl rfl (v := (vUD (⟨(⟨((gt l x10).iv).hi, ((gt l x10).iv).hi, false, false⟩ : Iv), (gt l x10).f⟩ : U Qd))) rfl) rfl ?_; clear h ac wo; intro ac wo h
          refine nw h (s_sliceN (α := U Qd) (xs := [.tmp 10]) (vs := [(vUD (⟨(⟨((gt l x10).iv).hi, ((gt l x10).iv).hi, false, false⟩ : Iv), (gt l x10).f⟩ : U Qd))]) [(⟨(⟨((gt l x10).iv).hi, ((gt l x10).iv).hi, false, false⟩ : Iv), (gt l x10).f⟩ : U Qd)] slt24 rfl rfl rfl (by decide)) rfl ?_; clear h ac wo; intro sv6 ac wo nnsv6 h
          refine on2 h 3 0 rfl rfl (s_appG (xs := ((out ++ [(⟨(⟨((gt l x10).iv).lo, ((gt l x10).iv).lo, false, false⟩ : Iv), (gt l x10).f⟩ : U Qd)]) ++ [(⟨(⟨((gt l x10).iv).lo, ((gt l x10).iv).hi, true, true⟩ : Iv), (gt l x10).f⟩ : U Qd)])) (ys := [(⟨(⟨((gt l x10).iv).hi, ((gt l x10).iv).hi, false, false⟩ : Iv), (gt l x10).f⟩ : U Qd)]) slt24 (fun w hs => (row_view hs 0 rfl)) rfl rfl (by first | assumption | omega | (simp only [len_bif, Bool.cond_decide, Bool.cond_eq_ite, List.length_append, List.length_set, List.length_cons, List.length_nil, List.length_take, List.length_drop, List.length_replicate] at *; done) | (simp only [len_bif, Bool.cond_decide, Bool.cond_eq_ite, List.length_append, List.length_set, List.length_cons, List.length_nil, List.length_take, List.length_drop, List.length_replicate] at *; omega) | (simp only [len_bif, Bool.cond_decide, Bool.cond_eq_ite, List.length_append, List.length_set, List.length_cons, List.length_nil, List.length_take, List.length_drop, List.length_replicate]; omega))) rfl ?_; clear h ac wo; intro sv7 ac wo apsv7 h
          refine st h 9 [sv7] rfl Tryz.sizeOf24 rfl rfl (sl_cells (h.row_sl 0 rfl)) rfl (sl_one (h.row_sl 0 rfl)) rfl rfl ?_; clear h ac wo; intro ac wo h
          refine w_nil ?_
          refine retN (rs := []) (vs := []) h rfl .nil rfl (hR2 _ _ _ h.bel h.sep ?_)
          clear h ac hR2; intro ac h
          refine w_nil ?_
          refine b_norm ?_
          refine hK8 _ _ ?_
          refine c_r ?_
          refine rd0 h (r_add rfl rfl (r := ((x10 + 1 : Nat) : Int)) (by rw [IntKind.wrap_i64]; first | omega | (simp only [len_bif, Bool.cond_decide, Bool.cond_eq_ite, List.length_append, List.length_set, List.length_cons, List.length_nil, List.length_take, List.length_drop, List.length_replicate] at *; omega))) rfl ?_; clear h ac wo; intro ac wo h
          refine rd0 h (r_move rfl) rfl ?_; clear h ac wo; intro ac wo h
          refine w_nil ?_
          exact next_round ⟨m1, (by omega), (x10 + 1), (((out ++ [(⟨(⟨((gt l x10).iv).lo, ((gt l x10).iv).lo, false, false⟩ : Iv), (gt l x10).f⟩ : U Qd)]) ++ [(⟨(⟨((gt l x10).iv).lo, ((gt l x10).iv).hi, true, true⟩ : Iv), (gt l x10).f⟩ : U Qd)]) ++ [(⟨(⟨((gt l x10).iv).hi, ((gt l x10).iv).hi, false, false⟩ : Iv), (gt l x10).f⟩ : U Qd)]), sv7, (by first | assumption | omega | (simp only [len_bif, Bool.cond_decide, Bool.cond_eq_ite, List.length_append, List.length_set, List.length_cons, List.length_nil, List.length_take, List.length_drop, List.length_replicate] at *; done) | (simp only [len_bif, Bool.cond_decide, Bool.cond_eq_ite, List.length_append, List.length_set, List.length_cons, List.length_nil, List.length_take, List.length_drop, List.length_replicate] at *; omega) | (simp only [len_bif, Bool.cond_decide, Bool.cond_eq_ite, List.length_append, List.length_set, List.length_cons, List.length_nil, List.length_take, List.length_drop, List.length_replicate]; omega)), loop_go hL1 (show pc_atoms_Quad_B1 l x10 out = .go ((x10 + 1), (((out ++ [(⟨(⟨((gt l x10).iv).lo, ((gt l x10).iv).lo, false, false⟩ : Iv), (gt l x10).f⟩ : U Qd)]) ++ [(⟨(⟨((gt l x10).iv).lo, ((gt l x10).iv).hi, true, true⟩ : Iv), (gt l x10).f⟩ : U Qd)]) ++ [(⟨(⟨((gt l x10).iv).hi, ((gt l x10).iv).hi, false, false⟩ : Iv), (gt l x10).f⟩ : U Qd)])) from (Eq.trans (cT hc1) (Eq.trans (cT hc2) (Eq.trans (cF hc3) (cT hc4))))), (by first | assumption | omega | (simp only [len_bif, Bool.cond_decide, Bool.cond_eq_ite, List.length_append, List.length_set, List.length_cons, List.length_nil, List.length_take, List.length_drop, List.length_replicate] at *; done) | (simp only [len_bif, Bool.cond_decide, Bool.cond_eq_ite, List.length_append, List.length_set, List.length_cons, List.length_nil, List.length_take, List.length_drop, List.length_replicate] at *; omega) | (simp only [len_bif, Bool.cond_decide, Bool.cond_eq_ite, List.length_append, List.length_set, List.length_cons, List.length_nil, List.length_take, List.length_drop, List.length_replicate]; omega)), (All.app (All.app (All.app zout (All.cons ⟨⟨((All.gt zl (SzUD_d _)).1).1, ((All.gt zl (SzUD_d _)).1).1⟩, (All.gt zl (SzUD_d _)).2⟩ All.nil)) (All.cons ⟨⟨((All.gt zl (SzUD_d _)).1).1, ((All.gt zl (SzUD_d _)).1).2⟩, (All.gt zl (SzUD_d _)).2⟩ All.nil)) (All.cons ⟨⟨((All.gt zl (SzUD_d _)).1).2, ((All.gt zl (SzUD_d _)).1).2⟩, (All.gt zl (SzUD_d _)).2⟩ All.nil)), (by first | assumption | omega | (simp only [len_bif, Bool.cond_decide, Bool.cond_eq_ite, List.length_append, List.length_set, List.length_cons, List.length_nil, List.length_take, List.length_drop, List.length_replicate] at *; done) | (simp only [len_bif, Bool.cond_decide, Bool.cond_eq_ite, List.length_append, List.length_set, List.length_cons, List.length_nil, List.length_take, List.length_drop, List.length_replicate] at *; omega) | (simp only [len_bif, Bool.cond_decide, Bool.cond_eq_ite, List.length_append, List.length_set, List.length_cons, List.length_nil, List.length_take, List.length_drop, List.length_replicate]; omega)), (h.pick [0, 9] (by decide)).sub ⟨rfl, rfl, rfl, rfl, rfl, trivial⟩⟩
        · skip
          have hq4 := hc4; try simp only [Bool.and_eq_true, Bool.or_eq_true, Bool.and_eq_false_iff, Bool.or_eq_false_iff, decide_eq_true_eq, decide_eq_false_iff_not, beq_iff_eq, beq_eq_false_iff_ne, bne_iff_ne, bne_eq_false_iff_eq, Bool.true_and, Bool.not_eq_true', Bool.not_eq_false', ne_eq] at hq4
          refine c_skip ?_
          refine b_norm ?_
          refine hK8 _ _ ?_
          refine c_r ?_
          refine rd0 h (r_add rfl rfl (r := ((x10 + 1 : Nat) : Int)) (by rw [IntKind.wrap_i64]; first | omega | (simp only [len_bif, Bool.cond_decide, Bool.cond_eq_ite, List.length_append, List.length_set, List.length_cons, List.length_nil, List.length_take, List.length_drop, List.length_replicate] at *; omega))) rfl ?_; clear h ac wo; intro ac wo h
          refine rd0 h (r_move rfl) rfl ?_; clear h ac wo; intro ac wo h
          refine w_nil ?_
          exact next_round ⟨m1, (by omega), (x10 + 1), ((out ++ [(⟨(⟨((gt l x10).iv).lo, ((gt l x10).iv).lo, false, false⟩ : Iv), (gt l x10).f⟩ : U Qd)]) ++ [(⟨(⟨((gt l x10).iv).lo, ((gt l x10).iv).hi, true, true⟩ : Iv), (gt l x10).f⟩ : U Qd)]), sv5, (by first | assumption | omega | (simp only [len_bif, Bool.cond_decide, Bool.cond_eq_ite, List.length_append, List.length_set, List.length_cons, List.length_nil, List.length_take, List.length_drop, List.length_replicate] at *; done) | (simp only [len_bif, Bool.cond_decide, Bool.cond_eq_ite, List.length_append, List.length_set, List.length_cons, List.length_nil, List.length_take, List.length_drop, List.length_replicate] at *; omega) | (simp only [len_bif, Bool.cond_decide, Bool.cond_eq_ite, List.length_append, List.length_set, List.length_cons, List.length_nil, List.length_take, List.length_drop, List.length_replicate]; omega)), loop_go hL1 (show pc_atoms_Quad_B1 l x10 out = .go ((x10 + 1), ((out ++ [(⟨(⟨((gt l x10).iv).lo, ((gt l x10).iv).lo, false, false⟩ : Iv), (gt l x10).f⟩ : U Qd)]) ++ [(⟨(⟨((gt l x10).iv).lo, ((gt l x10).iv).hi, true, true⟩ : Iv), (gt l x10).f⟩ : U Qd)])) from (Eq.trans (cT hc1) (Eq.trans (cT hc2) (Eq.trans (cF hc3) (cF hc4))))), (by first | assumption | omega | (simp only [len_bif, Bool.cond_decide, Bool.cond_eq_ite, List.length_append, List.length_set, List.length_cons, List.length_nil, List.length_take, List.length_drop, List.length_replicate] at *; done) | (simp only [len_bif, Bool.cond_decide, Bool.cond_eq_ite, List.length_append, List.length_set, List.length_cons, List.length_nil, List.length_take, List.length_drop, List.length_replicate] at *; omega) | (simp only [len_bif, Bool.cond_decide, Bool.cond_eq_ite, List.length_append, List.length_set, List.length_cons, List.length_nil, List.length_take, List.length_drop, List.length_replicate]; omega)), (All.app (All.app zout (All.cons ⟨⟨((All.gt zl (SzUD_d _)).1).1, ((All.gt zl (SzUD_d _)).1).1⟩, (All.gt zl (SzUD_d _)).2⟩ All.nil)) (All.cons ⟨⟨((All.gt zl (SzUD_d _)).1).1, ((All.gt zl (SzUD_d _)).1).2⟩, (All.gt zl (SzUD_d _)).2⟩ All.nil)), (by first | assumption | omega | (simp only [len_bif, Bool.cond_decide, Bool.cond_eq_ite, List.length_append, List.length_set, List.length_cons, List.length_nil, List.length_take, List.length_drop, List.length_replicate] at *; done) | (simp only [len_bif, Bool.cond_decide, Bool.cond_eq_ite, List.length_append, List.length_set, List.length_cons, List.length_nil, List.length_take, List.length_drop, List.length_replicate] at *; omega) | (simp only [len_bif, Bool.cond_decide, Bool.cond_eq_ite, List.length_append, List.length_set, List.length_cons, List.length_nil, List.length_take, List.length_drop, List.length_replicate]; omega)), (h.pick [0, 6] (by decide)).sub ⟨rfl, rfl, rfl, rfl, rfl, trivial⟩⟩
    · skip
      have hq2 := hc2; try simp only [Bool.and_eq_true, Bool.or_eq_true, Bool.and_eq_false_iff, Bool.or_eq_false_iff, decide_eq_true_eq, decide_eq_false_iff_not, beq_iff_eq, beq_eq_false_iff_ne, bne_iff_ne, bne_eq_false_iff_eq, Bool.true_and, Bool.not_eq_true', Bool.not_eq_false', ne_eq] at hq2
      refine c_skip ?_
      refine hK10 _ _ ?_
      refine c_seq fun K18 hK18 => ?_
      refine c_rs fun K19 hK19 => ?_
      refine rd0 h (r_fa Tryz.runUnderlying87 rfl Tryz.sizeOf55 (by decide) rfl rfl (k' := 0)) rfl ?_; clear h ac wo; intro ac wo h
      refine rd1 h 0 rfl (r_ld Tryz.isAgg55 Tryz.sizeOf55 rfl rfl rfl (v := (vV ((gt l x10).iv))) rfl) rfl ?_; clear h ac wo; intro ac wo h
      refine c_val (vs := [(vV ((gt l x10).iv))]) h (ent_f Tryz.call83 rfl) (fun w_ hB_ hS_ => (pc_instant_ct ((gt l x10).iv)) w_) rfl ?_; clear h ac wo; intro ac wo h
      refine w_nil ?_
      refine hK19 _ _ ?_
      refine c_if (b := (pc_instant ((gt l x10).iv))) h rfl (fun hc5 => ?_) (fun hc5 => ?_)
      · skip
        have hq5 := hc5; try simp only [Bool.and_eq_true, Bool.or_eq_true, Bool.and_eq_false_iff, Bool.or_eq_false_iff, decide_eq_true_eq, decide_eq_false_iff_not, beq_iff_eq, beq_eq_false_iff_ne, bne_iff_ne, bne_eq_false_iff_eq, Bool.true_and, Bool.not_eq_true', Bool.not_eq_false', ne_eq] at hq5
        refine c_exit ?_
        refine hK8 _ _ ?_
        refine c_r ?_
        refine rd0 h (r_add rfl rfl (r := ((x10 + 1 : Nat) : Int)) (by rw [IntKind.wrap_i64]; first | omega | (simp only [len_bif, Bool.cond_decide, Bool.cond_eq_ite, List.length_append, List.length_set, List.length_cons, List.length_nil, List.length_take, List.length_drop, List.length_replicate] at *; omega))) rfl ?_; clear h ac wo; intro ac wo h
        refine rd0 h (r_move rfl) rfl ?_; clear h ac wo; intro ac wo h
        refine w_nil ?_
        exact next_round ⟨m1, (by omega), (x10 + 1), out, outv, (by first | assumption | omega | (simp only [len_bif, Bool.cond_decide, Bool.cond_eq_ite, List.length_append, List.length_set, List.length_cons, List.length_nil, List.length_take, List.length_drop, List.length_replicate] at *; done) | (simp only [len_bif, Bool.cond_decide, Bool.cond_eq_ite, List.length_append, List.length_set, List.length_cons, List.length_nil, List.length_take, List.length_drop, List.length_replicate] at *; omega) | (simp only [len_bif, Bool.cond_decide, Bool.cond_eq_ite, List.length_append, List.length_set, List.length_cons, List.length_nil, List.length_take, List.length_drop, List.length_replicate]; omega)), loop_go hL1 (show pc_atoms_Quad_B1 l x10 out = .go ((x10 + 1), out) from (Eq.trans (cT hc1) (Eq.trans (cF hc2) (cT hc5)))), (by first | assumption | omega | (simp only [len_bif, Bool.cond_decide, Bool.cond_eq_ite, List.length_append, List.length_set, List.length_cons, List.length_nil, List.length_take, List.length_drop, List.length_replicate] at *; done) | (simp only [len_bif, Bool.cond_decide, Bool.cond_eq_ite, List.length_append, List.length_set, List.length_cons, List.length_nil, List.length_take, List.length_drop, List.length_replicate] at *; omega) | (simp only [len_bif, Bool.cond_decide, Bool.cond_eq_ite, List.length_append, List.length_set, List.length_cons, List.length_nil, List.length_take, List.length_drop, List.length_replicate]; omega)), zout, (by first | assumption | omega | (simp only [len_bif, Bool.cond_decide, Bool.cond_eq_ite, List.length_append, List.length_set, List.length_cons, List.length_nil, List.length_take, List.length_drop, List.length_replicate] at *; done) | (simp only [len_bif, Bool.cond_decide, Bool.cond_eq_ite, List.length_append, List.length_set, List.length_cons, List.length_nil, List.length_take, List.length_drop, List.length_replicate] at *; omega) | (simp only [len_bif, Bool.cond_decide, Bool.cond_eq_ite, List.length_append, List.length_set, List.length_cons, List.length_nil, List.length_take, List.length_drop, List.length_replicate]; omega)), (h.pick [1, 2] (by decide)).sub ⟨rfl, rfl, rfl, rfl, rfl, trivial⟩⟩
      · skip
        have hq5 := hc5; try simp only [Bool.and_eq_true, Bool.or_eq_true, Bool.and_eq_false_iff, Bool.or_eq_false_iff, decide_eq_true_eq, decide_eq_false_iff_not, beq_iff_eq, beq_eq_false_iff_ne, bne_iff_ne, bne_eq_false_iff_eq, Bool.true_and, Bool.not_eq_true', Bool.not_eq_false', ne_eq] at hq5
        refine c_skip ?_
        refine hK18 _ _ ?_
        refine c_rs fun K20 hK20 => ?_
        refine rd1 h 2 rfl (r_ld Tryz.isAgg24 Tryz.sizeOf24 rfl rfl rfl (v := outv) rfl) rfl ?_; clear h ac wo; intro ac wo h
        refine rd0 h (r_fa Tryz.runUnderlying87 rfl Tryz.sizeOf55 (by decide) rfl rfl (k' := 0)) rfl ?_; clear h ac wo; intro ac wo h
        refine rd0 h (r_fa Tryz.runUnderlying55 rfl Tryz.sizeOf53 (by decide) rfl rfl (k' := 0)) rfl ?_; clear h ac wo; intro ac wo h
        refine rd1 h 0 rfl (r_ld Tryz.isAgg53 Tryz.sizeOf53 rfl rfl rfl (v := (vR (((gt l x10).iv).lo))) rfl) rfl ?_; clear h ac wo; intro ac wo h
        refine rd0 h (r_fa Tryz.runUnderlying87 rfl Tryz.sizeOf55 (by decide) rfl rfl (k' := 0)) rfl ?_; clear h ac wo; intro ac wo h
        refine rd0 h (r_fa Tryz.runUnderlying55 rfl Tryz.sizeOf53 (by decide) rfl rfl (k' := 9)) rfl ?_; clear h ac wo; intro ac wo h
        refine rd1 h 0 rfl (r_ld Tryz.isAgg53 Tryz.sizeOf53 rfl rfl rfl (v := (vR (((gt l x10).iv).hi))) rfl) rfl ?_; clear h ac wo; intro ac wo h
        refine rd0 h (r_build (parts := [(0, .tmp 31), (1, .tmp 34), (2, .const (.bool true)), (3, .const (.bool true))]) (vs := [(vR (((gt l x10).iv).lo)), (vR (((gt l x10).iv).hi)), (.bool true), (.bool true)]) bld55 rfl rfl (v := (vV (⟨((gt l x10).iv).lo, ((gt l x10).iv).hi, true, true⟩ : Iv))) rfl) rfl ?_; clear h ac wo; intro ac wo h
        refine rd0 h (r_fa Tryz.runUnderlying87 rfl Tryz.sizeOf69 (by decide) rfl rfl (k' := 20)) rfl ?_; clear h ac wo; intro ac wo h
        refine rd1 h 0 rfl (r_ld Tryz.isAgg69 Tryz.sizeOf69 rfl rfl rfl (v := (vD ((gt l x10).f))) rfl) rfl ?_; clear h ac wo; intro ac wo h
        refine rd0 h (r_build (parts := [(0, .tmp 35), (1, .tmp 37)]) (vs := [(vV (⟨((gt l x10).iv).lo, ((gt l x10).iv).hi, true, true⟩ : Iv)), (vD ((gt l x10).f))]) bld87 rfl rfl (v := (vUD (⟨(⟨((gt l x10).iv).lo, ((gt l x10).iv).hi, true, true⟩ : Iv), (gt l x10).f⟩ : U Qd))) rfl) rfl ?_; clear h ac wo; intro ac wo h
        refine nw h (s_sliceN (α := U Qd) (xs := [.tmp 38]) (vs := [(vUD (⟨(⟨((gt l x10).iv).lo, ((gt l x10).iv).hi, true, true⟩ : Iv), (gt l x10).f⟩ : U Qd))]) [(⟨(⟨((gt l x10).iv).lo, ((gt l x10).iv).hi, true, true⟩ : Iv), (gt l x10).f⟩ : U Qd)] slt24 rfl rfl rfl (by decide)) rfl ?_; clear h ac wo; intro sv8 ac wo nnsv8 h
        refine on2 h 2 0 rfl rfl (s_appG (xs := out) (ys := [(⟨(⟨((gt l x10).iv).lo, ((gt l x10).iv).hi, true, true⟩ : Iv), (gt l x10).f⟩ : U Qd)]) slt24 (fun w hs => (row_view hs 0 rfl)) rfl rfl (by first | assumption | omega | (simp only [len_bif, Bool.cond_decide, Bool.cond_eq_ite, List.length_append, List.length_set, List.length_cons, List.length_nil, List.length_take, List.length_drop, List.length_replicate] at *; done) | (simp only [len_bif, Bool.cond_decide, Bool.cond_eq_ite, List.length_append, List.length_set, List.length_cons, List.length_nil, List.length_take, List.length_drop, List.length_replicate] at *; omega) | (simp only [len_bif, Bool.cond_decide, Bool.cond_eq_ite, List.length_append, List.length_set, List.length_cons, List.length_nil, List.length_take, List.length_drop, List.length_replicate]; omega))) rfl ?_; clear h ac wo; intro sv9 ac wo apsv9 h
        refine st h 3 [sv9] rfl Tryz.sizeOf24 rfl rfl (sl_cells (h.row_sl 0 rfl)) rfl (sl_one (h.row_sl 0 rfl)) rfl rfl ?_; clear h ac wo; intro ac wo h
        refine w_nil ?_
        refine hK20 _ _ ?_
        replace h := h.sub (F' := [(3, (ptr b1 0)), (4, (.func (.func 170) #[] #[(ptr b1 0)])), (8, lv), (9, (.int .i64 ((l.length : Nat) : Int))), (10, (.int .i64 ((x10 : Nat) : Int))), (6, (ptr b2 0))]) ⟨rfl, rfl, rfl, rfl, rfl, rfl, trivial⟩
        refine c_rs fun K21 hK21 => ?_
        refine rd0 h (r_fa Tryz.runUnderlying87 rfl Tryz.sizeOf55 (by decide) rfl rfl (k' := 0)) rfl ?_; clear h ac wo; intro ac wo h
        refine rd0 h (r_fa Tryz.runUnderlying55 rfl Tryz.sizeOf4 (by decide) rfl rfl (k' := 19)) rfl ?_; clear h ac wo; intro ac wo h
        refine rd1 h 2 rfl (r_ld Tryz.isAgg4 Tryz.sizeOf4 rfl rfl rfl (v := (.bool (((gt l x10).iv).openHi))) rfl) rfl ?_; clear h ac wo; intro ac wo h
        refine rd0 h (r_not rfl) rfl ?_; clear h ac wo; intro ac wo h
        refine w_nil ?_
        refine hK21 _ _ ?_
        refine c_if (b := (!((gt l x10).iv).openHi)) h rfl (fun hc6 => ?_) (fun hc6 => ?_)
        · skip
          have hq6 := hc6; try simp only [Bool.and_eq_true, Bool.or_eq_true, Bool.and_eq_false_iff, Bool.or_eq_false_iff, decide_eq_true_eq, decide_eq_false_iff_not, beq_iff_eq, beq_eq_false_iff_ne, bne_iff_ne, bne_eq_false_iff_eq, Bool.true_and, Bool.not_eq_true', Bool.not_eq_false', ne_eq] at hq6
          refine c_r ?_
          refine rd0 h (r_move rfl) rfl ?_; clear h ac wo; intro ac wo h
          refine rd0 h (r_fa Tryz.runUnderlying87 rfl Tryz.sizeOf55 (by decide) rfl rfl (k' := 0)) rfl ?_; clear h ac wo; intro ac wo h
          refine rd0 h (r_fa Tryz.runUnderlying55 rfl Tryz.sizeOf53 (by decide) rfl rfl (k' := 9)) rfl ?_; clear h ac wo; intro ac wo h
          refine rd1 h 2 rfl (r_ld Tryz.isAgg53 Tryz.sizeOf53 rfl rfl rfl (v := (vR (((gt l x10).iv).hi))) rfl) rfl ?_; clear h ac wo; intro ac wo h
          refine rd0 h (r_fa Tryz.runUnderlying87 rfl Tryz.sizeOf69 (by decide) rfl rfl (k' := 20)) rfl ?_; clear h ac wo; intro ac wo h
          refine rd1 h 2 rfl (r_ld Tryz.isAgg69 Tryz.sizeOf69 rfl rfl rfl (v := (vD ((gt l x10).f))) rfl) rfl ?_; clear h ac wo; intro ac wo h
          refine inl (vs := [(vR (((gt l x10).iv).hi)), (vD ((gt l x10).f)), (ptr b1 0)]) (M := 13) h (ent_v (vs := [(vR (((gt l x10).iv).hi)), (vD ((gt l x10).f))]) (cap := [(ptr b1 0)]) Tryz.call170 rfl rfl) Tryz.func170 rfl rfl rfl ?_
          clear h ac; intro R3 hR3 ac h
          refine c_rs fun K22 hK22 => ?_
          refine bx h (cR (((gt l x10).iv).hi)) rfl rfl rfl ?_; clear h ac wo; intro b7 ac wo h
          refine bx h (cD ((gt l x10).f)) rfl rfl rfl ?_; clear h ac wo; intro b8 ac wo h
          refine w_nil ?_
          refine hK22 _ _ ?_
          refine c_r ?_
          refine rd1 h 5 rfl (r_ld Tryz.isAgg24 Tryz.sizeOf24 rfl rfl rfl (v := sv9) rfl) rfl ?_; clear h ac wo; intro ac wo h
          refine rd1 h 1 rfl (r_ld Tryz.isAgg53 Tryz.sizeOf53 rfl rfl rfl (v := (vR (((gt l x10).iv).hi))) rfl) rfl ?_; clear h ac wo; intro ac wo h
          refine rd1 h 1 rfl (r_ld Tryz.isAgg53 Tryz.sizeOf53 rfl rfl rfl (v := (vR (((gt l x10).iv).hi))) rfl) rfl ?_; clear h ac wo; intro ac wo h
          refine rd0 h (r_build (parts := [(0, .tmp 6), (1, .tmp 7)]) (vs := [(vR (((gt l x10).iv).hi)), (vR (((gt l x10).iv).hi))]) bld55 rfl rfl (v := (vV (⟨((gt l x10).iv).hi, ((gt l x10).iv).hi, false, false⟩ : Iv))) rfl) rfl ?_; clear h ac wo; intro ac wo h
          refine rd1 h 0 rfl (r_ld Tryz.isAgg69 Tryz.sizeOf69 rfl rfl rfl (v := (vD ((gt l x10).f))) rfl) rfl ?_; clear h ac wo; intro ac wo h
          refine rd0 h (r_build (parts := [(0, .tmp 8), (1, .tmp 9)]) (vs := [(vV (⟨((gt l x10).iv).hi, ((gt l x10).iv).hi, false, false⟩ : Iv)), (vD ((gt l x10).f))]) bld87 rfl rfl (v := (vUD (⟨(⟨((gt l x10).iv).hi, ((gt l x10).iv).hi, false, false⟩ : Iv), (gt l x10).f⟩ : U Qd))) rfl) rfl ?_; clear h ac wo; intro ac wo h
          refine nw h (s_sliceN (α := U Qd) (xs := [.tmp 10]) (vs := [(vUD (⟨(⟨((gt l x10).iv).hi, ((gt l x10).iv).hi, false, false⟩ : Iv), (gt l x10).f⟩ : U Qd))]) [(⟨(⟨((gt l x10).iv).hi, ((gt l x10).iv).hi, false, false⟩ : Iv), (gt l x10).f⟩ : U Qd)] slt24 rfl rfl rfl (by decide)) rfl ?_; clear h ac wo; intro sv10 ac wo nnsv10 h
          refine on2 h 3 0 rfl rfl (s_appG (xs := (out ++ [(⟨(⟨((gt l x10).iv).lo, ((gt l x10).iv).hi, true, true⟩ : Iv), (gt l x10).f⟩ : U Qd)])) (ys := [(⟨(⟨((gt l x10).iv).hi, ((gt l x10).iv).hi, false, false⟩ : Iv), (gt l x10).f⟩ : U Qd)]) slt24 (fun w hs => (row_view hs 0 rfl)) rfl rfl (by first | assumption | omega | (simp only [len_bif, Bool.cond_decide, Bool.cond_eq_ite, List.length_append, List.length_set, List.length_cons, List.length_nil, List.length_take, List.length_drop, List.length_replicate] at *; done) | (simp only [len_bif, Bool.cond_decide, Bool.cond_eq_ite, List.length_append, List.length_set, List.length_cons, List.length_nil, List.length_take, List.length_drop, List.length_replicate] at *; omega) | (simp only [len_bif, Bool.cond_decide, Bool.cond_eq_ite, List.length_append, List.length_set, List.length_cons, List.length_nil, List.length_take, List.length_drop, List.length_replicate]; omega))) rfl ?_; clear h ac wo; intro sv11 ac wo apsv11 h
          refine st h 6 [sv11] rfl Tryz.sizeOf24 rfl rfl (sl_cells (h.row_sl 0 rfl)) rfl (sl_one (h.row_sl 0 rfl)) rfl rfl ?_; clear h ac wo; intro ac wo h
          refine w_nil ?_
          refine retN (rs := []) (vs := []) h rfl .nil rfl (hR3 _ _ _ h.bel h.sep ?_)
          clear h ac hR3; intro ac h
          refine w_nil ?_
          refine b_norm ?_
          refine hK8 _ _ ?_
          refine c_r ?_
          refine rd0 h (r_add rfl rfl (r := ((x10 + 1 : Nat) : Int)) (by rw [IntKind.wrap_i64]; first | omega | (simp only [len_bif, Bool.cond_decide, Bool.cond_eq_ite, List.length_append, List.length_set, List.length_cons, List.length_nil, List.length_take, List.length_drop, List.length_replicate] at *; omega))) rfl ?_; clear h ac wo; intro ac wo h
          refine rd0 h (r_move rfl) rfl ?_; clear h ac wo; intro ac wo h
          refine w_nil ?_
          exact next_round ⟨m1, (by omega), (x10 + 1), ((out ++ [(⟨(⟨((gt l x10).iv).lo, ((gt l x10).iv).hi, true, true⟩ : Iv), (gt l x10).f⟩ : U Qd)]) ++ [(⟨(⟨((gt l x10).iv).hi, ((gt l x10).iv).hi, false, false⟩ : Iv), (gt l x10).f⟩ : U Qd)]), sv11, (by first | assumption | omega | (simp only [len_bif, Bool.cond_decide, Bool.cond_eq_ite, List.length_append, List.length_set, List.length_cons, List.length_nil, List.length_take, List.length_drop, List.length_replicate] at *; done) | (simp only [len_bif, Bool.cond_decide, Bool.cond_eq_ite, List.length_append, List.length_set, List.length_cons, List.length_nil, List.length_take, List.length_drop, List.length_replicate] at *; omega) | (simp only [len_bif, Bool.cond_decide, Bool.cond_eq_ite, List.length_append, List.length_set, List.length_cons, List.length_nil, List.length_take, List.length_drop, List.length_replicate]; omega)), loop_go hL1 (show pc_atoms_Quad_B1 l x10 out = .go ((x10 + 1), ((out ++ [(⟨(⟨((gt l x10).iv).lo, ((gt l x10).iv).hi, true, true⟩ : Iv), (gt l x10).f⟩ : U Qd)]) ++ [(⟨(⟨((gt l x10).iv).hi, ((gt l x10).iv).hi, false, false⟩ : Iv), (gt l x10).f⟩ : U Qd)])) from (Eq.trans (cT hc1) (Eq.trans (cF hc2) (Eq.trans (cF hc5) (cT hc6))))), (by first | assumption | omega | (simp only [len_bif, Bool.cond_decide, Bool.cond_eq_ite, List.length_append, List.length_set, List.length_cons, List.length_nil, List.length_take, List.length_drop, List.length_replicate] at *; done) | (simp only [len_bif, Bool.cond_decide, Bool.cond_eq_ite, List.length_append, List.length_set, List.length_cons, List.length_nil, List.length_take, List.length_drop, List.length_replicate] at *; omega) | (simp only [len_bif, Bool.cond_decide, Bool.cond_eq_ite, List.length_append, List.length_set, List.length_cons, List.length_nil, List.length_take, List.length_drop, List.length_replicate]; omega)), (All.app (All.app zout (All.cons ⟨⟨((All.gt zl (SzUD_d _)).1).1, ((All.gt zl (SzUD_d _)).1).2⟩, (All.gt zl (SzUD_d _)).2⟩ All.nil)) (All.cons ⟨⟨((All.gt zl (SzUD_d _)).1).2, ((All.gt zl (SzUD_d _)).1).2⟩, (All.gt zl (SzUD_d _)).2⟩ All.nil)), (by first | assumption | omega | (simp only [len_bif, Bool.cond_decide, Bool.cond_eq_ite, List.length_append, List.length_set, List.length_cons, List.length_nil, List.length_take, List.length_drop, List.length_replicate] at *; done) | (simp only [len_bif, Bool.cond_decide, Bool.cond_eq_ite, List.length_append, List.length_set, List.length_cons, List.length_nil, List.length_take, List.length_drop, List.length_replicate] at *; omega) | (simp only [len_bif, Bool.cond_decide, Bool.cond_eq_ite, List.length_append, List.length_set, List.length_cons, List.length_nil, List.length_take, List.length_drop, List.length_replicate]; omega)), (h.pick [0, 6] (by decide)).sub ⟨rfl, rfl, rfl, rfl, rfl, trivial⟩⟩
        · skip
          have hq6 := hc6; try simp only [Bool.and_eq_true, Bool.or_eq_true, Bool.and_eq_false_iff, Bool.or_eq_false_iff, decide_eq_true_eq, decide_eq_false_iff_not, beq_iff_eq, beq_eq_false_iff_ne, bne_iff_ne, bne_eq_false_iff_eq, Bool.true_and, Bool.not_eq_true', Bool.not_eq_false', ne_eq] at hq6
          refine c_skip ?_
          refine b_norm ?_
          refine hK8 _ _ ?_
          refine c_r ?_
          refine rd0 h (r_add rfl rfl (r := ((x10 + 1 : Nat) : Int)) (by rw [IntKind.wrap_i64]; first | omega | (simp only [len_bif, Bool.cond_decide, Bool.cond_eq_ite, List.length_append, List.length_set, List.length_cons, List.length_nil, List.length_take, List.length_drop, List.length_replicate] at *; omega))) rfl ?_; clear h ac wo; intro ac wo h
          refine rd0 h (r_move rfl) rfl ?_; clear h ac wo; intro ac wo h
          refine w_nil ?_
          exact next_round ⟨m1, (by omega), (x10 + 1), (out ++ [(⟨(⟨((gt l x10).iv).lo, ((gt l x10).iv).hi, true, true⟩ : Iv), (gt l x10).f⟩ : U Qd)]), sv9, (by first | assumption | omega | (simp only [len_bif, Bool.cond_decide, Bool.cond_eq_ite, List.length_append, List.length_set, List.length_cons, List.length_nil, List.length_take, List.length_drop, List.length_replicate] at *; done) | (simp only [len_bif, Bool.cond_decide, Bool.cond_eq_ite, List.length_append, List.length_set, List.length_cons, List.length_nil, List.length_take, List.length_drop, List.length_replicate] at *; omega) | (simp only [len_bif, Bool.cond_decide, Bool.cond_eq_ite, List.length_append, List.length_set, List.length_cons, List.length_nil, List.length_take, List.length_drop, List.length_replicate]; omega)), loop_go hL1 (show pc_atoms_Quad_B1 l x10 out = .go ((x10 + 1), (out ++ [(⟨(⟨((gt l x10).iv).lo, ((gt l x10).iv).hi, true, true⟩ : Iv), (gt l x10).f⟩ : U Qd)])) from (Eq.trans (cT hc1) (Eq.trans (cF hc2) (Eq.trans (cF hc5) (cF hc6))))), (by first | assumption | omega | (simp only [len_bif, Bool.cond_decide, Bool.cond_eq_ite, List.length_append, List.length_set, List.length_cons, List.length_nil, List.length_take, List.length_drop, List.length_replicate] at *; done) | (simp only [len_bif, Bool.cond_decide, Bool.cond_eq_ite, List.length_append, List.length_set, List.length_cons, List.length_nil, List.length_take, List.length_drop, List.length_replicate] at *; omega) | (simp only [len_bif, Bool.cond_decide, Bool.cond_eq_ite, List.length_append, List.length_set, List.length_cons, List.length_nil, List.length_take, List.length_drop, List.length_replicate]; omega)), (All.app zout (All.cons ⟨⟨((All.gt zl (SzUD_d _)).1).1, ((All.gt zl (SzUD_d _)).1).2⟩, (All.gt zl (SzUD_d _)).2⟩ All.nil)), (by first | assumption | omega | (simp only [len_bif, Bool.cond_decide, Bool.cond_eq_ite, List.length_append, List.length_set, List.length_cons, List.length_nil, List.length_take, List.length_drop, List.length_replicate] at *; done) | (simp only [len_bif, Bool.cond_decide, Bool.cond_eq_ite, List.length_append, List.length_set, List.length_cons, List.length_nil, List.length_take, List.length_drop, List.length_replicate] at *; omega) | (simp only [len_bif, Bool.cond_decide, Bool.cond_eq_ite, List.length_append, List.length_set, List.length_cons, List.length_nil, List.length_take, List.length_drop, List.length_replicate]; omega)), (h.pick [0, 3] (by decide)).sub ⟨rfl, rfl, rfl, rfl, rfl, trivial⟩⟩
  · skip
    have hd1 := of_decide_eq_false hc1
    refine c_exit ?_
    have hx1 := loop_out hL1 (show pc_atoms_Quad_B1 l x10 out = .out (x10, out) from (cF hc1))
    refine hK4 _ _ ?_
    refine c_rs fun K23 hK23 => ?_
    refine rd1 h 1 rfl (r_ld Tryz.isAgg24 Tryz.sizeOf24 rfl rfl rfl (v := outv) rfl) rfl ?_; clear h ac wo; intro ac wo h
    refine rd0 h (r_assign rfl) rfl ?_; clear h ac wo; intro ac wo h
    refine w_nil ?_
    refine hK23 _ _ ?_
    refine c_ret ?_
    have hd : pc_atoms_Quad l = out := (fin_l (hX1.trans hx1))
    exact ret (rs := [.tmp 2]) h rfl (.tmp rfl .nil) rfl (by rw [hd]; exact h.retR 0 rfl ⟨zout, (by first | assumption | omega | (simp only [len_bif, Bool.cond_decide, Bool.cond_eq_ite, List.length_append, List.length_set, List.length_cons, List.length_nil, List.length_take, List.length_drop, List.length_replicate] at *; done) | (simp only [len_bif, Bool.cond_decide, Bool.cond_eq_ite, List.length_append, List.length_set, List.length_cons, List.length_nil, List.length_take, List.length_drop, List.length_replicate] at *; omega) | (simp only [len_bif, Bool.cond_decide, Bool.cond_eq_ite, List.length_append, List.length_set, List.length_cons, List.length_nil, List.length_take, List.length_drop, List.length_replicate]; omega))⟩)
attribute [irreducible] pc_atoms_Quad
def pc_sorted_Quad_1 (a : U Qd) (b : U Qd) : Int :=
  (cmpOrL ([(rl_Compare a.iv.lo b.iv.lo), (cmpInt (pc_sorted_Quad_1_1 a.iv) (pc_sorted_Quad_1_1 b.iv)), (rl_Compare a.iv.hi b.iv.hi)]))
theorem pc_sorted_Quad_1_ct (a : U Qd) (b : U Qd) (za : SzUD 30 a) (zb : SzUD 30 b) (w0 : World)  : Calls Tryz.prog 168 #[(vUD a), (vUD b)] w0 (RetP w0 (.int .i64 (pc_sorted_Quad_1 a b)) (True)) := by
  refine enter (N := 31) (args := [(vUD a), (vUD b)]) Tryz.func168 rfl rfl ?_; intro ac h
  refine c_rs fun K1 hK1 => ?_
  refine bx h (cUD a) rfl rfl rfl ?_; clear h ac; intro b1 ac wo h
  refine bx h (cUD b) rfl rfl rfl ?_; clear h ac wo; intro b2 ac wo h
  refine rd0 h (r_assign rfl (v := (.int .i64 0))) rfl ?_; clear h ac wo; intro ac wo h
  refine w_nil ?_
  refine hK1 _ _ ?_
  refine c_rs fun K2 hK2 => ?_
  refine rd0 h (r_assign rfl) rfl ?_; clear h ac wo; intro ac wo h
  refine w_nil ?_
  refine hK2 _ _ ?_
  refine c_seq fun K3 hK3 => ?_
  have p2 := Calls_pr ((rl_Compare_ct a.iv.lo b.iv.lo 10 (by omega) za.1.1 zb.1.1) w0)
  have s3 := Calls.pr ((fun w_ hB_ hS_ => pc_sorted_Quad_1_1_ct a.iv za.1 w_ ) _ h.bel h.sep)
  have p4 := s3
  have s5 := Calls.pr ((fun w_ hB_ hS_ => pc_sorted_Quad_1_1_ct b.iv zb.1 w_ ) _ h.bel h.sep)
  have p6 := s5
  have p8 := Calls_pr ((cmpInt_ct (pc_sorted_Quad_1_1 a.iv) (pc_sorted_Quad_1_1 b.iv)) w0)
  have p10 := Calls_pr ((rl_Compare_ct a.iv.hi b.iv.hi 10 (by omega) za.1.2 zb.1.2) w0)
  replace h := h.emps 1
  refine draws mixed [⟨.det (ptr b1 0), []⟩, ⟨.det (ptr b1 0), []⟩, ⟨.det (vR a.iv.lo), [1]⟩, ⟨.det (ptr b2 0), []⟩, ⟨.det (ptr b2 0), []⟩, ⟨.det (vR b.iv.lo), [0]⟩, ⟨.det (.int .i64 (rl_Compare a.iv.lo b.iv.lo)), []⟩, ⟨.det (.func (.func 169) #[] #[]), []⟩, ⟨.det (ptr b1 0), []⟩, ⟨.det (vV a.iv), [1]⟩, ⟨.det (.int .i64 (pc_sorted_Quad_1_1 a.iv)), []⟩, ⟨.det (.func (.func 169) #[] #[]), []⟩, ⟨.det (ptr b2 0), []⟩, ⟨.det (vV b.iv), [0]⟩, ⟨.det (.int .i64 (pc_sorted_Quad_1_1 b.iv)), []⟩, ⟨.det (.int .i64 (cmpInt (pc_sorted_Quad_1_1 a.iv) (pc_sorted_Quad_1_1 b.iv))), []⟩, ⟨.det (ptr b1 0), []⟩, ⟨.det (ptr b1 9), []⟩, ⟨.det (vR a.iv.hi), [1]⟩, ⟨.det (ptr b2 0), []⟩, ⟨.det (ptr b2 9), []⟩, ⟨.det (vR b.iv.hi), [0]⟩, ⟨.det (.int .i64 (rl_Compare a.iv.hi b.iv.hi)), []⟩, ⟨.nd (.one 23 fun v => NN v 3), [2]⟩, ⟨.det (.int .i64 (cmpOrL ([(rl_Compare a.iv.lo b.iv.lo), (cmpInt (pc_sorted_Quad_1_1 a.iv) (pc_sorted_Quad_1_1 b.iv)), (rl_Compare a.iv.hi b.iv.hi)]))), [2]⟩, ⟨.det (.int .i64 (cmpOrL ([(rl_Compare a.iv.lo b.iv.lo), (cmpInt (pc_sorted_Quad_1_1 a.iv) (pc_sorted_Quad_1_1 b.iv)), (rl_Compare a.iv.hi b.iv.hi)]))), []⟩] [⟨.blk b2 (cUD b) 87, []⟩, ⟨.blk b1 (cUD a) 87, []⟩, ⟨.emp, [(23, .one 23 fun v => .row (α := Int) 3 v ([(rl_Compare a.iv.lo b.iv.lo), (cmpInt (pc_sorted_Quad_1_1 a.iv) (pc_sorted_Quad_1_1 b.iv)), (rl_Compare a.iv.hi b.iv.hi)]))]⟩] h rfl (by kernel_rfl) ⟨?_, ?_, ?_, ?_, ?_, ?_, ?_, ?_, ?_, ?_, ?_, ?_, ?_, ?_, ?_, ?_, ?_, ?_, ?_, ?_, ?_, ?_, ?_, ?_, ?_, ?_, trivial⟩ ?_
  · intro ξ hφ; exact ob_r0 (r_fa Tryz.runUnderlying87 rfl Tryz.sizeOf55 (by decide) rfl rfl (k' := 0))
  · intro ξ hφ; exact ob_r0 (r_fa Tryz.runUnderlying55 rfl Tryz.sizeOf53 (by decide) rfl rfl (k' := 0))
  · intro ξ hφ; exact ob_r [.blk b1 (cUD a) 87] rfl rfl (r_ld Tryz.isAgg53 Tryz.sizeOf53 rfl rfl rfl (v := (vR a.iv.lo)) rfl)
  · intro ξ hφ; exact ob_r0 (r_fa Tryz.runUnderlying87 rfl Tryz.sizeOf55 (by decide) rfl rfl (k' := 0))
  · intro ξ hφ; exact ob_r0 (r_fa Tryz.runUnderlying55 rfl Tryz.sizeOf53 (by decide) rfl rfl (k' := 0))
  · intro ξ hφ; exact ob_r [.blk b2 (cUD b) 87] rfl rfl (r_ld Tryz.isAgg53 Tryz.sizeOf53 rfl rfl rfl (v := (vR b.iv.lo)) rfl)
  · intro ξ hφ; exact ob_s (s_val (vs := [(vR a.iv.lo), (vR b.iv.lo)]) (ent_f Tryz.call115 rfl) (fun w_ hB_ hS_ => (rl_Compare_ct a.iv.lo b.iv.lo 10 (by omega) za.1.1 zb.1.1) w_))
  · intro ξ hφ; exact ob_r0 (r_move rfl)
  · intro ξ hφ; exact ob_r0 (r_fa Tryz.runUnderlying87 rfl Tryz.sizeOf55 (by decide) rfl rfl (k' := 0))
  · intro ξ hφ; exact ob_r [.blk b1 (cUD a) 87] rfl rfl (r_ld Tryz.isAgg55 Tryz.sizeOf55 rfl rfl rfl (v := (vV a.iv)) rfl)
  · intro ξ hφ; exact ob_s (s_val (vs := [(vV a.iv)]) (ent_v (vs := [(vV a.iv)]) (cap := []) Tryz.call169 rfl rfl) (fun w_ hB_ hS_ => pc_sorted_Quad_1_1_ct a.iv za.1 w_ ))
  · intro ξ hφ; exact ob_r0 (r_move rfl)
  · intro ξ hφ; exact ob_r0 (r_fa Tryz.runUnderlying87 rfl Tryz.sizeOf55 (by decide) rfl rfl (k' := 0))
  · intro ξ hφ; exact ob_r [.blk b2 (cUD b) 87] rfl rfl (r_ld Tryz.isAgg55 Tryz.sizeOf55 rfl rfl rfl (v := (vV b.iv)) rfl)
  · intro ξ hφ; exact ob_s (s_val (vs := [(vV b.iv)]) (ent_v (vs := [(vV b.iv)]) (cap := []) Tryz.call169 rfl rfl) (fun w_ hB_ hS_ => pc_sorted_Quad_1_1_ct b.iv zb.1 w_ ))
  · intro ξ hφ; exact ob_s (s_val (vs := [(.int .i64 (pc_sorted_Quad_1_1 a.iv)), (.int .i64 (pc_sorted_Quad_1_1 b.iv))]) (ent_f Tryz.call149 rfl) (fun w_ hB_ hS_ => (cmpInt_ct (pc_sorted_Quad_1_1 a.iv) (pc_sorted_Quad_1_1 b.iv)) w_))
  · intro ξ hφ; exact ob_r0 (r_fa Tryz.runUnderlying87 rfl Tryz.sizeOf55 (by decide) rfl rfl (k' := 0))
  · intro ξ hφ; exact ob_r0 (r_fa Tryz.runUnderlying55 rfl Tryz.sizeOf53 (by decide) rfl rfl (k' := 9))
  · intro ξ hφ; exact ob_r [.blk b1 (cUD a) 87] rfl rfl (r_ld Tryz.isAgg53 Tryz.sizeOf53 rfl rfl rfl (v := (vR a.iv.hi)) rfl)
  · intro ξ hφ; exact ob_r0 (r_fa Tryz.runUnderlying87 rfl Tryz.sizeOf55 (by decide) rfl rfl (k' := 0))
  · intro ξ hφ; exact ob_r0 (r_fa Tryz.runUnderlying55 rfl Tryz.sizeOf53 (by decide) rfl rfl (k' := 9))
  · intro ξ hφ; exact ob_r [.blk b2 (cUD b) 87] rfl rfl (r_ld Tryz.isAgg53 Tryz.sizeOf53 rfl rfl rfl (v := (vR b.iv.hi)) rfl)
  · intro ξ hφ; exact ob_s (s_val (vs := [(vR a.iv.hi), (vR b.iv.hi)]) (ent_f Tryz.call115 rfl) (fun w_ hB_ hS_ => (rl_Compare_ct a.iv.hi b.iv.hi 10 (by omega) za.1.2 zb.1.2) w_))
  · intro ξ hφ; exact ob_x (ψ := fun v => NN v 3) (B := fun v => [.row (α := Int) 3 v ([(rl_Compare a.iv.lo b.iv.lo), (cmpInt (pc_sorted_Quad_1_1 a.iv) (pc_sorted_Quad_1_1 b.iv)), (rl_Compare a.iv.hi b.iv.hi)])]) [.emp] rfl (fun v _ => by simp only [picks, upd_same] <;> rfl) (fun v hv => by simpa [DF.one, upd_same] using hv) (s_emp (s_sliceN (α := Int) (xs := [.tmp 12, .tmp 21, .tmp 28]) (vs := [(.int .i64 (rl_Compare a.iv.lo b.iv.lo)), (.int .i64 (cmpInt (pc_sorted_Quad_1_1 a.iv) (pc_sorted_Quad_1_1 b.iv))), (.int .i64 (rl_Compare a.iv.hi b.iv.hi))]) [(rl_Compare a.iv.lo b.iv.lo), (cmpInt (pc_sorted_Quad_1_1 a.iv) (pc_sorted_Quad_1_1 b.iv)), (rl_Compare a.iv.hi b.iv.hi)] slt256 rfl rfl rfl (by decide)))
  · intro ξ hφ; exact ob_u [.row (α := Int) 3 (ξ 23) ([(rl_Compare a.iv.lo b.iv.lo), (cmpInt (pc_sorted_Quad_1_1 a.iv) (pc_sorted_Quad_1_1 b.iv)), (rl_Compare a.iv.hi b.iv.hi)])] [.row (α := Int) 3 (ξ 23) ([(rl_Compare a.iv.lo b.iv.lo), (cmpInt (pc_sorted_Quad_1_1 a.iv) (pc_sorted_Quad_1_1 b.iv)), (rl_Compare a.iv.hi b.iv.hi)])] rfl rfl (s_val (vs := [(ξ 23)]) (ent_f Tryz.call148 rfl) (fun w_ hB_ hS_ => cmpOrL_ct ([(rl_Compare a.iv.lo b.iv.lo), (cmpInt (pc_sorted_Quad_1_1 a.iv) (pc_sorted_Quad_1_1 b.iv)), (rl_Compare a.iv.hi b.iv.hi)]) (ξ 23) w_ (row_view hS_ 0 rfl)))
  · intro ξ hφ; exact ob_r0 (r_assign rfl)
  clear h ac wo; intro ξ ac wo hφ h
  replace h : St w0 31 [(4, (.int .i64 (cmpOrL ([(rl_Compare a.iv.lo b.iv.lo), (cmpInt (pc_sorted_Quad_1_1 a.iv) (pc_sorted_Quad_1_1 b.iv)), (rl_Compare a.iv.hi b.iv.hi)]))))] [.blk b2 (cUD b) 87, .blk b1 (cUD a) 87] ac wo := (h.pick [0, 1] (by decide)).sub ⟨rfl, trivial⟩
  clear hφ ξ
  refine hK3 _ _ ?_
  refine c_ret ?_
  have hd : pc_sorted_Quad_1 a b = (cmpOrL ([(rl_Compare a.iv.lo b.iv.lo), (cmpInt (pc_sorted_Quad_1_1 a.iv) (pc_sorted_Quad_1_1 b.iv)), (rl_Compare a.iv.hi b.iv.hi)])) := rfl
  exact ret (rs := [.tmp 4]) h rfl (.tmp rfl .nil) rfl (h.retP (by rw [hd] <;> rfl) trivial)
attribute [irreducible] pc_sorted_Quad_1
def slices_insertionSortCmpFunc_Quad_K1 (data : List (U Qd)) (a : Nat) (b : Nat) (i : Nat) (data1 : List (U Qd)) : List (U Qd) :=
  data1
def slices_insertionSortCmpFunc_Quad_K2 (data : List (U Qd)) (a : Nat) (b : Nat) (i : Nat) (data1 : List (U Qd)) (j : Nat) (data2 : List (U Qd)) : Nx (Nat × (List (U Qd))) (List (U Qd)) :=
  .go ((i + 1), data2)
def slices_insertionSortCmpFunc_Quad_B2 (data : List (U Qd)) (a : Nat) (b : Nat) (i : Nat) (data1 : List (U Qd)) (j : Nat) (data2 : List (U Qd)) : Nx (Nat × (List (U Qd))) (List (U Qd)) :=
  bif ((decide (((j : Nat) : Int) > ((a : Nat) : Int))) && (decide ((pc_sorted_Quad_1 (gt data2 j) (gt data2 (j - 1))) < 0))) then
    .go ((j - 1), ((data2.set j (gt data2 (j - 1))).set (j - 1) (gt data2 j)))
  else
    .out (j, data2)
def slices_insertionSortCmpFunc_Quad_B1 (data : List (U Qd)) (a : Nat) (b : Nat) (i : Nat) (data1 : List (U Qd)) : Nx (Nat × (List (U Qd))) (List (U Qd)) :=
  bif (decide (((i : Nat) : Int) < ((b : Nat) : Int))) then
    fin (loopF (fun s => slices_insertionSortCmpFunc_Quad_B2 data a b i data1 s.1 s.2) (i + 1) (i, data1)) (fun s => slices_insertionSortCmpFunc_Quad_K2 data a b i data1 s.1 s.2) (fun r => .ret r)
  else
    .out (i, data1)
def slices_insertionSortCmpFunc_Quad (data : List (U Qd)) (a : Nat) (b : Nat) : List (U Qd) :=
  fin (loopF (fun s => slices_insertionSortCmpFunc_Quad_B1 data a b s.1 s.2) ((b + 1 - (a + 1)) + 1) ((a + 1), data)) (fun s => slices_insertionSortCmpFunc_Quad_K1 data a b s.1 s.2) (fun r => r)
theorem slices_insertionSortCmpFunc_Quad_ct (data : List (U Qd)) (datav : Value) (a : Nat) (b : Nat) (hab : a ≤ b) (hb : b ≤ data.length) (hb2 : b ≤ 1000) (zdata : All (SzUD 30) data) (w0 w : World) (B : Asn) (hbel : Below w0.heap.size w0 w) (hsep : ∃ Z_, Sep w0.heap.size w [.row (α := U Qd) 87 datav data, B] Z_)  : Calls Tryz.prog 222 #[datav, (.int .i64 ((a : Nat) : Int)), (.int .i64 ((b : Nat) : Int)), (.func (.func 168) #[] #[])] w (RetY w0 (fun v => v = .tuple #[] ∧ (All (SzUD 30) (slices_insertionSortCmpFunc_Quad data a b) ∧ (slices_insertionSortCmpFunc_Quad data a b).length = data.length)) (fun v => [.row (α := U Qd) 87 datav (slices_insertionSortCmpFunc_Quad data a b), B])) := by
  refine enterL (N := 53) (args := [datav, (.int .i64 ((a : Nat) : Int)), (.int .i64 ((b : Nat) : Int)), (.func (.func 168) #[] #[])]) Tryz.func222 rfl rfl hbel hsep ?_; intro ac h
  have hlendata := h.len 0 rfl
  refine c_rs fun K1 hK1 => ?_
  refine rd0 h (r_move rfl) rfl ?_; clear h ac; intro ac wo h
  refine rd0 h (r_add rfl rfl (r := ((a + 1 : Nat) : Int)) (by rw [IntKind.wrap_i64]; first | omega | (simp only [len_bif, Bool.cond_decide, Bool.cond_eq_ite, List.length_append, List.length_set, List.length_cons, List.length_nil, List.length_take, List.length_drop, List.length_replicate] at *; omega))) rfl ?_; clear h ac wo; intro ac wo h
  refine rd0 h (r_assign rfl) rfl ?_; clear h ac wo; intro ac wo h
  refine w_nil ?_
  refine hK1 _ _ ?_
  refine c_block ?_
  obtain ⟨X1, hX1⟩ : ∃ X, loopF (fun s => slices_insertionSortCmpFunc_Quad_B1 data a b s.1 s.2) ((b + 1 - (a + 1)) + 1) ((a + 1), data) = X := ⟨_, rfl⟩
  refine wp_loop_ghost (fun n_ a_ w_ => ∃ (i : Nat) (data1 : List (U Qd)), ((b + 1 - i) < n_) ∧ (loopF (fun s => slices_insertionSortCmpFunc_Quad_B1 data a b s.1 s.2) n_ (i, data1) = X1) ∧ (i ≤ b + 1) ∧ (All (SzUD 30) data1) ∧ (data1.length = data.length) ∧ St w0 53 [(0, datav), (1, (.int .i64 ((a : Nat) : Int))), (2, (.int .i64 ((b : Nat) : Int))), (3, (.func (.func 168) #[] #[])), (8, (.int .i64 ((i : Nat) : Int)))] [.row (α := U Qd) 87 datav data1, B] a_ w_) ((b + 1 - (a + 1)) + 1) ⟨(a + 1), data, (by omega), hX1, (by first | assumption | omega | (simp only [len_bif, Bool.cond_decide, Bool.cond_eq_ite, List.length_append, List.length_set, List.length_cons, List.length_nil, List.length_take, List.length_drop, List.length_replicate] at *; done) | (simp only [len_bif, Bool.cond_decide, Bool.cond_eq_ite, List.length_append, List.length_set, List.length_cons, List.length_nil, List.length_take, List.length_drop, List.length_replicate] at *; omega) | (simp only [len_bif, Bool.cond_decide, Bool.cond_eq_ite, List.length_append, List.length_set, List.length_cons, List.length_nil, List.length_take, List.length_drop, List.length_replicate]; omega)), zdata, (by first | assumption | omega | (simp only [len_bif, Bool.cond_decide, Bool.cond_eq_ite, List.length_append, List.length_set, List.length_cons, List.length_nil, List.length_take, List.length_drop, List.length_replicate] at *; done) | (simp only [len_bif, Bool.cond_decide, Bool.cond_eq_ite, List.length_append, List.length_set, List.length_cons, List.length_nil, List.length_take, List.length_drop, List.length_replicate] at *; omega) | (simp only [len_bif, Bool.cond_decide, Bool.cond_eq_ite, List.length_append, List.length_set, List.length_cons, List.length_nil, List.length_take, List.length_drop, List.length_replicate]; omega)), (h.sub ⟨rfl, rfl, rfl, rfl, rfl, trivial⟩)⟩ ?_
  clear h ac wo; rintro n1 ac wo ⟨i, data1, hm1, hL1, hi, zdata1, hdl, h⟩
  obtain ⟨m1, rfl⟩ : ∃ m, n1 = m + 1 := ⟨n1 - 1, by omega⟩
  refine c_seq fun K2 hK2 => ?_
  refine c_rs fun K3 hK3 => ?_
  refine rd0 h (r_move rfl) rfl ?_; clear h ac wo; intro ac wo h
  refine rd0 h (r_move rfl) rfl ?_; clear h ac wo; intro ac wo h
  refine rd0 h (r_lss rfl rfl) rfl ?_; clear h ac wo; intro ac wo h
  refine w_nil ?_
  refine hK3 _ _ ?_
  refine c_if (b := (decide (((i : Nat) : Int) < ((b : Nat) : Int)))) h rfl (fun hc1 => ?_) (fun hc1 => ?_)
  · skip
    have hd1 := of_decide_eq_true hc1
    refine c_skip ?_
    refine hK2 _ _ ?_
    refine c_seq fun K4 hK4 => ?_
    refine c_block ?_
    refine c_rs fun K5 hK5 => ?_
    refine rd0 h (r_move rfl) rfl ?_; clear h ac wo; intro ac wo h
    refine rd0 h (r_assign rfl) rfl ?_; clear h ac wo; intro ac wo h
    refine w_nil ?_
    refine hK5 _ _ ?_
    refine c_block ?_
    obtain ⟨X2, hX2⟩ : ∃ X, loopF (fun s => slices_insertionSortCmpFunc_Quad_B2 data a b i data1 s.1 s.2) (i + 1) (i, data1) = X := ⟨_, rfl⟩
    refine wp_loop_ghost (fun n_ a_ w_ => ∃ (j : Nat) (data2 : List (U Qd)), (j < n_) ∧ (loopF (fun s => slices_insertionSortCmpFunc_Quad_B2 data a b i data1 s.1 s.2) n_ (j, data2) = X2) ∧ (All (SzUD 30) data2) ∧ (j ≤ i) ∧ (data2.length = data.length) ∧ St w0 53 [(0, datav), (1, (.int .i64 ((a : Nat) : Int))), (2, (.int .i64 ((b : Nat) : Int))), (3, (.func (.func 168) #[] #[])), (8, (.int .i64 ((i : Nat) : Int))), (9, (.int .i64 ((j : Nat) : Int)))] [.row (α := U Qd) 87 datav data2, B] a_ w_) (i + 1) ⟨i, data1, (by omega), hX2, zdata1, (by first | assumption | omega | (simp only [len_bif, Bool.cond_decide, Bool.cond_eq_ite, List.length_append, List.length_set, List.length_cons, List.length_nil, List.length_take, List.length_drop, List.length_replicate] at *; done) | (simp only [len_bif, Bool.cond_decide, Bool.cond_eq_ite, List.length_append, List.length_set, List.length_cons, List.length_nil, List.length_take, List.length_drop, List.length_replicate] at *; omega) | (simp only [len_bif, Bool.cond_decide, Bool.cond_eq_ite, List.length_append, List.length_set, List.length_cons, List.length_nil, List.length_take, List.length_drop, List.length_replicate]; omega)), (by first | assumption | omega | (simp only [len_bif, Bool.cond_decide, Bool.cond_eq_ite, List.length_append, List.length_set, List.length_cons, List.length_nil, List.length_take, List.length_drop, List.length_replicate] at *; done) | (simp only [len_bif, Bool.cond_decide, Bool.cond_eq_ite, List.length_append, List.length_set, List.length_cons, List.length_nil, List.length_take, List.length_drop, List.length_replicate] at *; omega) | (simp only [len_bif, Bool.cond_decide, Bool.cond_eq_ite, List.length_append, List.length_set, List.length_cons, List.length_nil, List.length_take, List.length_drop, List.length_replicate]; omega)), (h.sub ⟨rfl, rfl, rfl, rfl, rfl, rfl, trivial⟩)⟩ ?_
    clear h ac wo; rintro n2 ac wo ⟨j, data2, hm2, hL2, zdata2, hj, hdl2, h⟩
    obtain ⟨m2, rfl⟩ : ∃ m, n2 = m + 1 := ⟨n2 - 1, by omega⟩
    refine c_seq fun K6 hK6 => ?_
    refine c_seq fun K7 hK7 => ?_
    refine draws mixed [⟨.det (.int .i64 ((j : Nat) : Int)), []⟩, ⟨.det (.int .i64 ((a : Nat) : Int)), []⟩, ⟨.det (.bool (decide (((j : Nat) : Int) > ((a : Nat) : Int)))), []⟩, ⟨.det (.bool (decide (((j : Nat) : Int) > ((a : Nat) : Int)))), []⟩, ⟨.det (gv (decide (((j : Nat) : Int) > ((a : Nat) : Int))) (.func (.func 168) #[] #[])), []⟩, ⟨.det (gv (decide (((j : Nat) : Int) > ((a : Nat) : Int))) datav), []⟩, ⟨.det (gv (decide (((j : Nat) : Int) > ((a : Nat) : Int))) (.int .i64 ((j : Nat) : Int))), []⟩, ⟨.det (gv (decide (((j : Nat) : Int) > ((a : Nat) : Int))) (sel datav (j * 32))), []⟩, ⟨.det (gv (decide (((j : Nat) : Int) > ((a : Nat) : Int))) (vUD (gt data2 j))), [0]⟩, ⟨.det (gv (decide (((j : Nat) : Int) > ((a : Nat) : Int))) datav), []⟩, ⟨.det (gv (decide (((j : Nat) : Int) > ((a : Nat) : Int))) (.int .i64 ((j : Nat) : Int))), []⟩, ⟨.det (gv (decide (((j : Nat) : Int) > ((a : Nat) : Int))) (.int .i64 (((j - 1) : Nat) : Int))), []⟩, ⟨.det (gv (decide (((j : Nat) : Int) > ((a : Nat) : Int))) (sel datav ((j - 1) * 32))), []⟩, ⟨.det (gv (decide (((j : Nat) : Int) > ((a : Nat) : Int))) (vUD (gt data2 (j - 1)))), [0]⟩, ⟨.det (gv (decide (((j : Nat) : Int) > ((a : Nat) : Int))) (.int .i64 (pc_sorted_Quad_1 (gt data2 j) (gt data2 (j - 1))))), []⟩, ⟨.det (gv (decide (((j : Nat) : Int) > ((a : Nat) : Int))) (.bool (decide ((pc_sorted_Quad_1 (gt data2 j) (gt data2 (j - 1))) < 0)))), []⟩, ⟨.det (.bool ((decide (((j : Nat) : Int) > ((a : Nat) : Int))) && (decide ((pc_sorted_Quad_1 (gt data2 j) (gt data2 (j - 1))) < 0)))), []⟩] [⟨.row (α := U Qd) 87 datav data2, []⟩, ⟨B, []⟩] h rfl (by kernel_rfl) ⟨?_, ?_, ?_, ?_, ?_, ?_, ?_, ?_, ?_, ?_, ?_, ?_, ?_, ?_, ?_, ?_, ?_, trivial⟩ ?_
    · intro ξ hφ; exact ob_r0 (r_move rfl)
    · intro ξ hφ; exact ob_r0 (r_move rfl)
    · intro ξ hφ; exact ob_r0 (r_gtr rfl rfl)
    · intro ξ hφ; exact ob_r0 (r_move rfl)
    · intro ξ hφ; exact ob_g (c := true) (b := (decide (((j : Nat) : Int) > ((a : Nat) : Int)))) (g := (decide (((j : Nat) : Int) > ((a : Nat) : Int)))) [] rfl rfl rfl rfl g_t (fun hg => Rd.step (r_move rfl))
    · intro ξ hφ; exact ob_g (c := true) (b := (decide (((j : Nat) : Int) > ((a : Nat) : Int)))) (g := (decide (((j : Nat) : Int) > ((a : Nat) : Int)))) [] rfl rfl rfl rfl g_t (fun hg => Rd.step (r_move rfl))
    · intro ξ hφ; exact ob_g (c := true) (b := (decide (((j : Nat) : Int) > ((a : Nat) : Int)))) (g := (decide (((j : Nat) : Int) > ((a : Nat) : Int)))) [] rfl rfl rfl rfl g_t (fun hg => Rd.step (r_move rfl))
    · intro ξ hφ; exact ob_g (c := true) (b := (decide (((j : Nat) : Int) > ((a : Nat) : Int)))) (g := (decide (((j : Nat) : Int) > ((a : Nat) : Int)))) [] rfl rfl rfl rfl g_t (fun hg => Rd.step (r_ia (i := j) Tryz.runUnderlying24 Tryz.sizeOf87 (gv_ev rfl hg) (gv_ev rfl hg) (h.row_nn 0 rfl (by (try simp only [Bool.and_eq_true, Bool.or_eq_true, Bool.and_eq_false_iff, Bool.or_eq_false_iff, decide_eq_true_eq, decide_eq_false_iff_not, beq_iff_eq, beq_eq_false_iff_ne, bne_iff_ne, bne_eq_false_iff_eq, Bool.true_and, Bool.not_eq_true', Bool.not_eq_false', ne_eq] at hg); first | omega | (simp only [len_bif, Bool.cond_decide, Bool.cond_eq_ite, List.length_append, List.length_set, List.length_cons, List.length_nil, List.length_take, List.length_drop, List.length_replicate] at *; omega))) (by (try simp only [Bool.and_eq_true, Bool.or_eq_true, Bool.and_eq_false_iff, Bool.or_eq_false_iff, decide_eq_true_eq, decide_eq_false_iff_not, beq_iff_eq, beq_eq_false_iff_ne, bne_iff_ne, bne_eq_false_iff_eq, Bool.true_and, Bool.not_eq_true', Bool.not_eq_false', ne_eq] at hg); first | omega | (simp only [len_bif, Bool.cond_decide, Bool.cond_eq_ite, List.length_append, List.length_set, List.length_cons, List.length_nil, List.length_take, List.length_drop, List.length_replicate] at *; omega))))
    · intro ξ hφ; exact ob_g (c := true) (b := (decide (((j : Nat) : Int) > ((a : Nat) : Int)))) (g := (decide (((j : Nat) : Int) > ((a : Nat) : Int)))) [.row (α := U Qd) 87 datav data2] rfl rfl rfl rfl g_t (fun hg => Rd.step (r_ldR (k := 0) Tryz.isAgg87 Tryz.sizeOf87 (get_gt (by (try simp only [Bool.and_eq_true, Bool.or_eq_true, Bool.and_eq_false_iff, Bool.or_eq_false_iff, decide_eq_true_eq, decide_eq_false_iff_not, beq_iff_eq, beq_eq_false_iff_ne, bne_iff_ne, bne_eq_false_iff_eq, Bool.true_and, Bool.not_eq_true', Bool.not_eq_false', ne_eq] at hg); first | omega | (simp only [len_bif, Bool.cond_decide, Bool.cond_eq_ite, List.length_append, List.length_set, List.length_cons, List.length_nil, List.length_take, List.length_drop, List.length_replicate] at *; omega))) (gv_ev rfl hg) (Nat.add_zero _) rfl rfl (v := (vUD (gt data2 j))) rfl))
    · intro ξ hφ; exact ob_g (c := true) (b := (decide (((j : Nat) : Int) > ((a : Nat) : Int)))) (g := (decide (((j : Nat) : Int) > ((a : Nat) : Int)))) [] rfl rfl rfl rfl g_t (fun hg => Rd.step (r_move rfl))
    · intro ξ hφ; exact ob_g (c := true) (b := (decide (((j : Nat) : Int) > ((a : Nat) : Int)))) (g := (decide (((j : Nat) : Int) > ((a : Nat) : Int)))) [] rfl rfl rfl rfl g_t (fun hg => Rd.step (r_move rfl))
    · intro ξ hφ; exact ob_g (c := true) (b := (decide (((j : Nat) : Int) > ((a : Nat) : Int)))) (g := (decide (((j : Nat) : Int) > ((a : Nat) : Int)))) [] rfl rfl rfl rfl g_t (fun hg => Rd.step (r_sub (gv_ev rfl hg) rfl (r := (((j - 1) : Nat) : Int)) (by (try simp only [Bool.and_eq_true, Bool.or_eq_true, Bool.and_eq_false_iff, Bool.or_eq_false_iff, decide_eq_true_eq, decide_eq_false_iff_not, beq_iff_eq, beq_eq_false_iff_ne, bne_iff_ne, bne_eq_false_iff_eq, Bool.true_and, Bool.not_eq_true', Bool.not_eq_false', ne_eq] at hg); rw [IntKind.wrap_i64]; first | omega | (simp only [len_bif, Bool.cond_decide, Bool.cond_eq_ite, List.length_append, List.length_set, List.length_cons, List.length_nil, List.length_take, List.length_drop, List.length_replicate] at *; omega))))
    · intro ξ hφ; exact ob_g (c := true) (b := (decide (((j : Nat) : Int) > ((a : Nat) : Int)))) (g := (decide (((j : Nat) : Int) > ((a : Nat) : Int)))) [] rfl rfl rfl rfl g_t (fun hg => Rd.step (r_ia (i := (j - 1)) Tryz.runUnderlying24 Tryz.sizeOf87 (gv_ev rfl hg) (gv_ev rfl hg) (h.row_nn 0 rfl (by (try simp only [Bool.and_eq_true, Bool.or_eq_true, Bool.and_eq_false_iff, Bool.or_eq_false_iff, decide_eq_true_eq, decide_eq_false_iff_not, beq_iff_eq, beq_eq_false_iff_ne, bne_iff_ne, bne_eq_false_iff_eq, Bool.true_and, Bool.not_eq_true', Bool.not_eq_false', ne_eq] at hg); first | omega | (simp only [len_bif, Bool.cond_decide, Bool.cond_eq_ite, List.length_append, List.length_set, List.length_cons, List.length_nil, List.length_take, List.length_drop, List.length_replicate] at *; omega))) (by (try simp only [Bool.and_eq_true, Bool.or_eq_true, Bool.and_eq_false_iff, Bool.or_eq_false_iff, decide_eq_true_eq, decide_eq_false_iff_not, beq_iff_eq, beq_eq_false_iff_ne, bne_iff_ne, bne_eq_false_iff_eq, Bool.true_and, Bool.not_eq_true', Bool.not_eq_false', ne_eq] at hg); first | omega | (simp only [len_bif, Bool.cond_decide, Bool.cond_eq_ite, List.length_append, List.length_set, List.length_cons, List.length_nil, List.length_take, List.length_drop, List.length_replicate] at *; omega))))
    · intro ξ hφ; exact ob_g (c := true) (b := (decide (((j : Nat) : Int) > ((a : Nat) : Int)))) (g := (decide (((j : Nat) : Int) > ((a : Nat) : Int)))) [.row (α := U Qd) 87 datav data2] rfl rfl rfl rfl g_t (fun hg => Rd.step (r_ldR (k := 0) Tryz.isAgg87 Tryz.sizeOf87 (get_gt (by (try simp only [Bool.and_eq_true, Bool.or_eq_true, Bool.and_eq_false_iff, Bool.or_eq_false_iff, decide_eq_true_eq, decide_eq_false_iff_not, beq_iff_eq, beq_eq_false_iff_ne, bne_iff_ne, bne_eq_false_iff_eq, Bool.true_and, Bool.not_eq_true', Bool.not_eq_false', ne_eq] at hg); first | omega | (simp only [len_bif, Bool.cond_decide, Bool.cond_eq_ite, List.length_append, List.length_set, List.length_cons, List.length_nil, List.length_take, List.length_drop, List.length_replicate] at *; omega))) (gv_ev rfl hg) (Nat.add_zero _) rfl rfl (v := (vUD (gt data2 (j - 1)))) rfl))
    · intro ξ hφ; exact ob_g (c := true) (b := (decide (((j : Nat) : Int) > ((a : Nat) : Int)))) (g := (decide (((j : Nat) : Int) > ((a : Nat) : Int)))) [] rfl rfl rfl rfl g_t (fun hg => s_val (vs := [(vUD (gt data2 j)), (vUD (gt data2 (j - 1)))]) (ent_v (vs := [(vUD (gt data2 j)), (vUD (gt data2 (j - 1)))]) (cap := []) Tryz.call168 (gv_ev rfl hg) (evs_cons (gv_ev rfl hg) (evs_cons (gv_ev rfl hg) rfl))) (fun w_ hB_ hS_ => pc_sorted_Quad_1_ct (gt data2 j) (gt data2 (j - 1)) (All.gt zdata2 (SzUD_d _)) (All.gt zdata2 (SzUD_d _)) w_ ))
    · intro ξ hφ; exact ob_g (c := true) (b := (decide (((j : Nat) : Int) > ((a : Nat) : Int)))) (g := (decide (((j : Nat) : Int) > ((a : Nat) : Int)))) [] rfl rfl rfl rfl g_t (fun hg => Rd.step (r_lss (gv_ev rfl hg) rfl))
    · intro ξ hφ; exact ob_r0 (r_and rfl (fun e => (gv_ev rfl e)))
    clear h ac wo; intro ξ ac wo hφ h
    replace h : St w0 53 [(0, datav), (1, (.int .i64 ((a : Nat) : Int))), (2, (.int .i64 ((b : Nat) : Int))), (3, (.func (.func 168) #[] #[])), (8, (.int .i64 ((i : Nat) : Int))), (9, (.int .i64 ((j : Nat) : Int))), (34, (.bool ((decide (((j : Nat) : Int) > ((a : Nat) : Int))) && (decide ((pc_sorted_Quad_1 (gt data2 j) (gt data2 (j - 1))) < 0)))))] [.row (α := U Qd) 87 datav data2, B] ac wo := (h.pick [0, 1] (by decide)).sub ⟨rfl, rfl, rfl, rfl, rfl, rfl, rfl, trivial⟩
    clear hφ ξ
    refine hK7 _ _ ?_
    refine c_if (b := ((decide (((j : Nat) : Int) > ((a : Nat) : Int))) && (decide ((pc_sorted_Quad_1 (gt data2 j) (gt data2 (j - 1))) < 0)))) h rfl (fun hc2 => ?_) (fun hc2 => ?_)
    · skip
      have hq2 := hc2; try simp only [Bool.and_eq_true, Bool.or_eq_true, Bool.and_eq_false_iff, Bool.or_eq_false_iff, decide_eq_true_eq, decide_eq_false_iff_not, beq_iff_eq, beq_eq_false_iff_ne, bne_iff_ne, bne_eq_false_iff_eq, Bool.true_and, Bool.not_eq_true', Bool.not_eq_false', ne_eq] at hq2
      refine c_skip ?_
      refine hK6 _ _ ?_
      refine c_seq fun K8 hK8 => ?_
      refine c_block ?_
      refine draws mixed [⟨.det datav, []⟩, ⟨.det (.int .i64 ((j : Nat) : Int)), []⟩, ⟨.det datav, []⟩, ⟨.det (.int .i64 ((j : Nat) : Int)), []⟩, ⟨.det (.int .i64 (((j - 1) : Nat) : Int)), []⟩, ⟨.det datav, []⟩, ⟨.det (.int .i64 ((j : Nat) : Int)), []⟩, ⟨.det (.int .i64 (((j - 1) : Nat) : Int)), []⟩, ⟨.det (sel datav ((j - 1) * 32)), []⟩, ⟨.det (vUD (gt data2 (j - 1))), [0]⟩, ⟨.det datav, []⟩, ⟨.det (.int .i64 ((j : Nat) : Int)), []⟩, ⟨.det (sel datav (j * 32)), []⟩, ⟨.det (vUD (gt data2 j)), [0]⟩, ⟨.det (sel datav (j * 32)), []⟩, ⟨.det undef, [0]⟩, ⟨.det (sel datav ((j - 1) * 32)), []⟩, ⟨.det undef, [0]⟩] [⟨.row (α := U Qd) 87 datav data2, [(15, .con (.row (α := U Qd) 87 datav (data2.set j (gt data2 (j - 1))))), (17, .con (.row (α := U Qd) 87 datav ((data2.set j (gt data2 (j - 1))).set (j - 1) (gt data2 j))))]⟩, ⟨B, []⟩] h rfl (by kernel_rfl) ⟨?_, ?_, ?_, ?_, ?_, ?_, ?_, ?_, ?_, ?_, ?_, ?_, ?_, ?_, ?_, ?_, ?_, ?_, trivial⟩ ?_
      · intro ξ hφ; exact ob_r0 (r_move rfl)
      · intro ξ hφ; exact ob_r0 (r_move rfl)
      · intro ξ hφ; exact ob_r0 (r_move rfl)
      · intro ξ hφ; exact ob_r0 (r_move rfl)
      · intro ξ hφ; exact ob_r0 (r_sub rfl rfl (r := (((j - 1) : Nat) : Int)) (by rw [IntKind.wrap_i64]; first | omega | (simp only [len_bif, Bool.cond_decide, Bool.cond_eq_ite, List.length_append, List.length_set, List.length_cons, List.length_nil, List.length_take, List.length_drop, List.length_replicate] at *; omega)))
      · intro ξ hφ; exact ob_r0 (r_move rfl)
      · intro ξ hφ; exact ob_r0 (r_move rfl)
      · intro ξ hφ; exact ob_r0 (r_sub rfl rfl (r := (((j - 1) : Nat) : Int)) (by rw [IntKind.wrap_i64]; first | omega | (simp only [len_bif, Bool.cond_decide, Bool.cond_eq_ite, List.length_append, List.length_set, List.length_cons, List.length_nil, List.length_take, List.length_drop, List.length_replicate] at *; omega)))
      · intro ξ hφ; exact ob_r0 (r_ia (i := (j - 1)) Tryz.runUnderlying24 Tryz.sizeOf87 rfl rfl (h.row_nn 0 rfl (by first | assumption | omega | (simp only [len_bif, Bool.cond_decide, Bool.cond_eq_ite, List.length_append, List.length_set, List.length_cons, List.length_nil, List.length_take, List.length_drop, List.length_replicate] at *; done) | (simp only [len_bif, Bool.cond_decide, Bool.cond_eq_ite, List.length_append, List.length_set, List.length_cons, List.length_nil, List.length_take, List.length_drop, List.length_replicate] at *; omega) | (simp only [len_bif, Bool.cond_decide, Bool.cond_eq_ite, List.length_append, List.length_set, List.length_cons, List.length_nil, List.length_take, List.length_drop, List.length_replicate]; omega))) (by first | assumption | omega | (simp only [len_bif, Bool.cond_decide, Bool.cond_eq_ite, List.length_append, List.length_set, List.length_cons, List.length_nil, List.length_take, List.length_drop, List.length_replicate] at *; done) | (simp only [len_bif, Bool.cond_decide, Bool.cond_eq_ite, List.length_append, List.length_set, List.length_cons, List.length_nil, List.length_take, List.length_drop, List.length_replicate] at *; omega) | (simp only [len_bif, Bool.cond_decide, Bool.cond_eq_ite, List.length_append, List.length_set, List.length_cons, List.length_nil, List.length_take, List.length_drop, List.length_replicate]; omega)))
      · intro ξ hφ; exact ob_r [.row (α := U Qd) 87 datav data2] rfl rfl (r_ldR (k := 0) Tryz.isAgg87 Tryz.sizeOf87 (get_gt (by first | assumption | omega | (simp only [len_bif, Bool.cond_decide, Bool.cond_eq_ite, List.length_append, List.length_set, List.length_cons, List.length_nil, List.length_take, List.length_drop, List.length_replicate] at *; done) | (simp only [len_bif, Bool.cond_decide, Bool.cond_eq_ite, List.length_append, List.length_set, List.length_cons, List.length_nil, List.length_take, List.length_drop, List.length_replicate] at *; omega) | (simp only [len_bif, Bool.cond_decide, Bool.cond_eq_ite, List.length_append, List.length_set, List.length_cons, List.length_nil, List.length_take, List.length_drop, List.length_replicate]; omega))) rfl (Nat.add_zero _) rfl rfl (v := (vUD (gt data2 (j - 1)))) rfl)
      · intro ξ hφ; exact ob_r0 (r_move rfl)
      · intro ξ hφ; exact ob_r0 (r_move rfl)
      · intro ξ hφ; exact ob_r0 (r_ia (i := j) Tryz.runUnderlying24 Tryz.sizeOf87 rfl rfl (h.row_nn 0 rfl (by first | assumption | omega | (simp only [len_bif, Bool.cond_decide, Bool.cond_eq_ite, List.length_append, List.length_set, List.length_cons, List.length_nil, List.length_take, List.length_drop, List.length_replicate] at *; done) | (simp only [len_bif, Bool.cond_decide, Bool.cond_eq_ite, List.length_append, List.length_set, List.length_cons, List.length_nil, List.length_take, List.length_drop, List.length_replicate] at *; omega) | (simp only [len_bif, Bool.cond_decide, Bool.cond_eq_ite, List.length_append, List.length_set, List.length_cons, List.length_nil, List.length_take, List.length_drop, List.length_replicate]; omega))) (by first | assumption | omega | (simp only [len_bif, Bool.cond_decide, Bool.cond_eq_ite, List.length_append, List.length_set, List.length_cons, List.length_nil, List.length_take, List.length_drop, List.length_replicate] at *; done) | (simp only [len_bif, Bool.cond_decide, Bool.cond_eq_ite, List.length_append, List.length_set, List.length_cons, List.length_nil, List.length_take, List.length_drop, List.length_replicate] at *; omega) | (simp only [len_bif, Bool.cond_decide, Bool.cond_eq_ite, List.length_append, List.length_set, List.length_cons, List.length_nil, List.length_take, List.length_drop, List.length_replicate]; omega)))
      · intro ξ hφ; exact ob_r [.row (α := U Qd) 87 datav data2] rfl rfl (r_ldR (k := 0) Tryz.isAgg87 Tryz.sizeOf87 (get_gt (by first | assumption | omega | (simp only [len_bif, Bool.cond_decide, Bool.cond_eq_ite, List.length_append, List.length_set, List.length_cons, List.length_nil, List.length_take, List.length_drop, List.length_replicate] at *; done) | (simp only [len_bif, Bool.cond_decide, Bool.cond_eq_ite, List.length_append, List.length_set, List.length_cons, List.length_nil, List.length_take, List.length_drop, List.length_replicate] at *; omega) | (simp only [len_bif, Bool.cond_decide, Bool.cond_eq_ite, List.length_append, List.length_set, List.length_cons, List.length_nil, List.length_take, List.length_drop, List.length_replicate]; omega))) rfl (Nat.add_zero _) rfl rfl (v := (vUD (gt data2 j))) rfl)
      · intro ξ hφ; exact ob_r0 (r_ia (i := j) Tryz.runUnderlying24 Tryz.sizeOf87 rfl rfl (h.row_nn 0 rfl (by first | assumption | omega | (simp only [len_bif, Bool.cond_decide, Bool.cond_eq_ite, List.length_append, List.length_set, List.length_cons, List.length_nil, List.length_take, List.length_drop, List.length_replicate] at *; done) | (simp only [len_bif, Bool.cond_decide, Bool.cond_eq_ite, List.length_append, List.length_set, List.length_cons, List.length_nil, List.length_take, List.length_drop, List.length_replicate] at *; omega) | (simp only [len_bif, Bool.cond_decide, Bool.cond_eq_ite, List.length_append, List.length_set, List.length_cons, List.length_nil, List.length_take, List.length_drop, List.length_replicate]; omega))) (by first | assumption | omega | (simp only [len_bif, Bool.cond_decide, Bool.cond_eq_ite, List.length_append, List.length_set, List.length_cons, List.length_nil, List.length_take, List.length_drop, List.length_replicate] at *; done) | (simp only [len_bif, Bool.cond_decide, Bool.cond_eq_ite, List.length_append, List.length_set, List.length_cons, List.length_nil, List.length_take, List.length_drop, List.length_replicate] at *; omega) | (simp only [len_bif, Bool.cond_decide, Bool.cond_eq_ite, List.length_append, List.length_set, List.length_cons, List.length_nil, List.length_take, List.length_drop, List.length_replicate]; omega)))
      · intro ξ hφ; exact ob_u [.row (α := U Qd) 87 datav data2] [.row (α := U Qd) 87 datav (data2.set j (gt data2 (j - 1)))] rfl rfl (s_stR (k := 0) (u' := (gt data2 (j - 1))) Tryz.sizeOf87 (get_gt (by first | assumption | omega | (simp only [len_bif, Bool.cond_decide, Bool.cond_eq_ite, List.length_append, List.length_set, List.length_cons, List.length_nil, List.length_take, List.length_drop, List.length_replicate] at *; done) | (simp only [len_bif, Bool.cond_decide, Bool.cond_eq_ite, List.length_append, List.length_set, List.length_cons, List.length_nil, List.length_take, List.length_drop, List.length_replicate] at *; omega) | (simp only [len_bif, Bool.cond_decide, Bool.cond_eq_ite, List.length_append, List.length_set, List.length_cons, List.length_nil, List.length_take, List.length_drop, List.length_replicate]; omega))) rfl (Nat.add_zero _) rfl rfl rfl rfl rfl rfl)
      · intro ξ hφ; exact ob_r0 (r_ia (i := (j - 1)) Tryz.runUnderlying24 Tryz.sizeOf87 rfl rfl (h.row_nn 0 rfl (by first | assumption | omega | (simp only [len_bif, Bool.cond_decide, Bool.cond_eq_ite, List.length_append, List.length_set, List.length_cons, List.length_nil, List.length_take, List.length_drop, List.length_replicate] at *; done) | (simp only [len_bif, Bool.cond_decide, Bool.cond_eq_ite, List.length_append, List.length_set, List.length_cons, List.length_nil, List.length_take, List.length_drop, List.length_replicate] at *; omega) | (simp only [len_bif, Bool.cond_decide, Bool.cond_eq_ite, List.length_append, List.length_set, List.length_cons, List.length_nil, List.length_take, List.length_drop, List.length_replicate]; omega))) (by first | assumption | omega | (simp only [len_bif, Bool.cond_decide, Bool.cond_eq_ite, List.length_append, List.length_set, List.length_cons, List.length_nil, List.length_take, List.length_drop, List.length_replicate] at *; done) | (simp only [len_bif, Bool.cond_decide, Bool.cond_eq_ite, List.length_append, List.length_set, List.length_cons, List.length_nil, List.length_take, List.length_drop, List.length_replicate] at *; omega) | (simp only [len_bif, Bool.cond_decide, Bool.cond_eq_ite, List.length_append, List.length_set, List.length_cons, List.length_nil, List.length_take, List.length_drop, List.length_replicate]; omega)))
      · intro ξ hφ; exact ob_u [.row (α := U Qd) 87 datav (data2.set j (gt data2 (j - 1)))] [.row (α := U Qd) 87 datav ((data2.set j (gt data2 (j - 1))).set (j - 1) (gt data2 j))] rfl rfl (s_stR (k := 0) (u' := (gt data2 j)) Tryz.sizeOf87 (get_gt (by first | assumption | omega | (simp only [len_bif, Bool.cond_decide, Bool.cond_eq_ite, List.length_append, List.length_set, List.length_cons, List.length_nil, List.length_take, List.length_drop, List.length_replicate] at *; done) | (simp only [len_bif, Bool.cond_decide, Bool.cond_eq_ite, List.length_append, List.length_set, List.length_cons, List.length_nil, List.length_take, List.length_drop, List.length_replicate] at *; omega) | (simp only [len_bif, Bool.cond_decide, Bool.cond_eq_ite, List.length_append, List.length_set, List.length_cons, List.length_nil, List.length_take, List.length_drop, List.length_replicate]; omega))) rfl (Nat.add_zero _) rfl rfl rfl rfl rfl rfl)
      clear h ac wo; intro ξ ac wo hφ h
      replace h : St w0 53 [(0, datav), (1, (.int .i64 ((a : Nat) : Int))), (2, (.int .i64 ((b : Nat) : Int))), (3, (.func (.func 168) #[] #[])), (8, (.int .i64 ((i : Nat) : Int))), (9, (.int .i64 ((j : Nat) : Int)))] [.row (α := U Qd) 87 datav ((data2.set j (gt data2 (j - 1))).set (j - 1) (gt data2 j)), B] ac wo := (h.pick [0, 1] (by decide)).sub ⟨rfl, rfl, rfl, rfl, rfl, rfl, trivial⟩
      clear hφ ξ
      refine b_norm ?_
      refine hK8 _ _ ?_
      refine c_r ?_
      refine rd0 h (r_move rfl) rfl ?_; clear h ac wo; intro ac wo h
      refine rd0 h (r_sub rfl rfl (r := (((j - 1) : Nat) : Int)) (by rw [IntKind.wrap_i64]; first | omega | (simp only [len_bif, Bool.cond_decide, Bool.cond_eq_ite, List.length_append, List.length_set, List.length_cons, List.length_nil, List.length_take, List.length_drop, List.length_replicate] at *; omega))) rfl ?_; clear h ac wo; intro ac wo h
      refine rd0 h (r_assign rfl) rfl ?_; clear h ac wo; intro ac wo h
      refine w_nil ?_
      exact next_round ⟨m2, (by omega), (j - 1), ((data2.set j (gt data2 (j - 1))).set (j - 1) (gt data2 j)), (by first | assumption | omega | (simp only [len_bif, Bool.cond_decide, Bool.cond_eq_ite, List.length_append, List.length_set, List.length_cons, List.length_nil, List.length_take, List.length_drop, List.length_replicate] at *; done) | (simp only [len_bif, Bool.cond_decide, Bool.cond_eq_ite, List.length_append, List.length_set, List.length_cons, List.length_nil, List.length_take, List.length_drop, List.length_replicate] at *; omega) | (simp only [len_bif, Bool.cond_decide, Bool.cond_eq_ite, List.length_append, List.length_set, List.length_cons, List.length_nil, List.length_take, List.length_drop, List.length_replicate]; omega)), loop_go hL2 (show slices_insertionSortCmpFunc_Quad_B2 data a b i data1 j data2 = .go ((j - 1), ((data2.set j (gt data2 (j - 1))).set (j - 1) (gt data2 j))) from (cT hc2)), (All.set (All.set zdata2 (All.gt zdata2 (SzUD_d _))) (All.gt zdata2 (SzUD_d _))), (by first | assumption | omega | (simp only [len_bif, Bool.cond_decide, Bool.cond_eq_ite, List.length_append, List.length_set, List.length_cons, List.length_nil, List.length_take, List.length_drop, List.length_replicate] at *; done) | (simp only [len_bif, Bool.cond_decide, Bool.cond_eq_ite, List.length_append, List.length_set, List.length_cons, List.length_nil, List.length_take, List.length_drop, List.length_replicate] at *; omega) | (simp only [len_bif, Bool.cond_decide, Bool.cond_eq_ite, List.length_append, List.length_set, List.length_cons, List.length_nil, List.length_take, List.length_drop, List.length_replicate]; omega)), (by first | assumption | omega | (simp only [len_bif, Bool.cond_decide, Bool.cond_eq_ite, List.length_append, List.length_set, List.length_cons, List.length_nil, List.length_take, List.length_drop, List.length_replicate] at *; done) | (simp only [len_bif, Bool.cond_decide, Bool.cond_eq_ite, List.length_append, List.length_set, List.length_cons, List.length_nil, List.length_take, List.length_drop, List.length_replicate] at *; omega) | (simp only [len_bif, Bool.cond_decide, Bool.cond_eq_ite, List.length_append, List.length_set, List.length_cons, List.length_nil, List.length_take, List.length_drop, List.length_replicate]; omega)), (h.pick [0, 1] (by decide)).sub ⟨rfl, rfl, rfl, rfl, rfl, rfl, trivial⟩⟩
    · skip
      have hq2 := hc2; try simp only [Bool.and_eq_true, Bool.or_eq_true, Bool.and_eq_false_iff, Bool.or_eq_false_iff, decide_eq_true_eq, decide_eq_false_iff_not, beq_iff_eq, beq_eq_false_iff_ne, bne_iff_ne, bne_eq_false_iff_eq, Bool.true_and, Bool.not_eq_true', Bool.not_eq_false', ne_eq] at hq2
      refine c_exit ?_
      have hx2 := loop_out hL2 (show slices_insertionSortCmpFunc_Quad_B2 data a b i data1 j data2 = .out (j, data2) from (cF hc2))
      refine hK4 _ _ ?_
      refine c_r ?_
      refine rd0 h (r_move rfl) rfl ?_; clear h ac wo; intro ac wo h
      refine rd0 h (r_add rfl rfl (r := ((i + 1 : Nat) : Int)) (by rw [IntKind.wrap_i64]; first | omega | (simp only [len_bif, Bool.cond_decide, Bool.cond_eq_ite, List.length_append, List.length_set, List.length_cons, List.length_nil, List.length_take, List.length_drop, List.length_replicate] at *; omega))) rfl ?_; clear h ac wo; intro ac wo h
      refine rd0 h (r_assign rfl) rfl ?_; clear h ac wo; intro ac wo h
      refine w_nil ?_
      exact next_round ⟨m1, (by omega), (i + 1), data2, (by first | assumption | omega | (simp only [len_bif, Bool.cond_decide, Bool.cond_eq_ite, List.length_append, List.length_set, List.length_cons, List.length_nil, List.length_take, List.length_drop, List.length_replicate] at *; done) | (simp only [len_bif, Bool.cond_decide, Bool.cond_eq_ite, List.length_append, List.length_set, List.length_cons, List.length_nil, List.length_take, List.length_drop, List.length_replicate] at *; omega) | (simp only [len_bif, Bool.cond_decide, Bool.cond_eq_ite, List.length_append, List.length_set, List.length_cons, List.length_nil, List.length_take, List.length_drop, List.length_replicate]; omega)), loop_go hL1 (show slices_insertionSortCmpFunc_Quad_B1 data a b i data1 = .go ((i + 1), data2) from (Eq.trans (cT hc1) (fin_l (hX2.trans hx2)))), (by first | assumption | omega | (simp only [len_bif, Bool.cond_decide, Bool.cond_eq_ite, List.length_append, List.length_set, List.length_cons, List.length_nil, List.length_take, List.length_drop, List.length_replicate] at *; done) | (simp only [len_bif, Bool.cond_decide, Bool.cond_eq_ite, List.length_append, List.length_set, List.length_cons, List.length_nil, List.length_take, List.length_drop, List.length_replicate] at *; omega) | (simp only [len_bif, Bool.cond_decide, Bool.cond_eq_ite, List.length_append, List.length_set, List.length_cons, List.length_nil, List.length_take, List.length_drop, List.length_replicate]; omega)), zdata2, (by first | assumption | omega | (simp only [len_bif, Bool.cond_decide, Bool.cond_eq_ite, List.length_append, List.length_set, List.length_cons, List.length_nil, List.length_take, List.length_drop, List.length_replicate] at *; done) | (simp only [len_bif, Bool.cond_decide, Bool.cond_eq_ite, List.length_append, List.length_set, List.length_cons, List.length_nil, List.length_take, List.length_drop, List.length_replicate] at *; omega) | (simp only [len_bif, Bool.cond_decide, Bool.cond_eq_ite, List.length_append, List.length_set, List.length_cons, List.length_nil, List.length_take, List.length_drop, List.length_replicate]; omega)), (h.pick [0, 1] (by decide)).sub ⟨rfl, rfl, rfl, rfl, rfl, trivial⟩⟩
  · skip
    have hd1 := of_decide_eq_false hc1
    refine c_exit ?_
    have hx1 := loop_out hL1 (show slices_insertionSortCmpFunc_Quad_B1 data a b i data1 = .out (i, data1) from (cF hc1))
    have hd : slices_insertionSortCmpFunc_Quad data a b = data1 := (fin_l (hX1.trans hx1))
    exact retN (rs := []) (vs := []) h rfl .nil rfl ((h.pick [0, 1] (by decide)).retY ⟨rfl, (by rw [hd]; exact ⟨zdata1, (by first | assumption | omega | (simp only [len_bif, Bool.cond_decide, Bool.cond_eq_ite, List.length_append, List.length_set, List.length_cons, List.length_nil, List.length_take, List.length_drop, List.length_replicate] at *; done) | (simp only [len_bif, Bool.cond_decide, Bool.cond_eq_ite, List.length_append, List.length_set, List.length_cons, List.length_nil, List.length_take, List.length_drop, List.length_replicate] at *; omega) | (simp only [len_bif, Bool.cond_decide, Bool.cond_eq_ite, List.length_append, List.length_set, List.length_cons, List.length_nil, List.length_take, List.length_drop, List.length_replicate]; omega))⟩)⟩ (by rw [hd]; rfl))
attribute [irreducible] slices_insertionSortCmpFunc_Quad
def slices_stableCmpFunc_Quad_K2 (data : List (U Qd)) (n : Nat) (a : Nat) (b : Nat) (data1 : List (U Qd)) (blockSize : Nat) : List (U Qd) :=
  (slices_insertionSortCmpFunc_Quad data1 a n)
def slices_stableCmpFunc_Quad_B2 (data : List (U Qd)) (n : Nat) (a : Nat) (b : Nat) (data1 : List (U Qd)) (blockSize : Nat) : Nx Nat (List (U Qd)) :=
  .out blockSize
def slices_stableCmpFunc_Quad_K1 (data : List (U Qd)) (n : Nat) (a : Nat) (b : Nat) (data1 : List (U Qd)) : List (U Qd) :=
  fin (loopF (fun s => slices_stableCmpFunc_Quad_B2 data n a b data1 s) (0 + 1) 20) (fun s => slices_stableCmpFunc_Quad_K2 data n a b data1 s) (fun r => r)
def slices_stableCmpFunc_Quad_B1 (data : List (U Qd)) (n : Nat) (a : Nat) (b : Nat) (data1 : List (U Qd)) : Nx (Nat × Nat × (List (U Qd))) (List (U Qd)) :=
  .out (a, b, data1)
def slices_stableCmpFunc_Quad (data : List (U Qd)) (n : Nat) : List (U Qd) :=
  fin (loopF (fun s => slices_stableCmpFunc_Quad_B1 data n s.1 s.2.1 s.2.2) (0 + 1) (0, 20, data)) (fun s => slices_stableCmpFunc_Quad_K1 data n s.1 s.2.1 s.2.2) (fun r => r)
theorem slices_stableCmpFunc_Quad_ct (data : List (U Qd)) (datav : Value) (n : Nat) (hn : n = data.length) (hl : data.length < 20) (zdata : All (SzUD 30) data) (w0 w : World) (B : Asn) (hbel : Below w0.heap.size w0 w) (hsep : ∃ Z_, Sep w0.heap.size w [.row (α := U Qd) 87 datav data, B] Z_)  : Calls Tryz.prog 195 #[datav, (.int .i64 ((n : Nat) : Int)), (.func (.func 168) #[] #[])] w (RetY w0 (fun v => v = .tuple #[] ∧ (All (SzUD 30) (slices_stableCmpFunc_Quad data n) ∧ (slices_stableCmpFunc_Quad data n).length = data.length)) (fun v => [.row (α := U Qd) 87 datav (slices_stableCmpFunc_Quad data n), B])) := by
  refine enterL (N := 63) (args := [datav, (.int .i64 ((n : Nat) : Int)), (.func (.func 168) #[] #[])]) Tryz.func195 rfl rfl hbel hsep ?_; intro ac h
  have hlendata := h.len 0 rfl
  refine c_rs fun K1 hK1 => ?_
  refine rd0 h (r_assign rfl (v := (.int .i64 20))) rfl ?_; clear h ac; intro ac wo h
  refine w_nil ?_
  refine hK1 _ _ ?_
  refine c_rs fun K2 hK2 => ?_
  refine rd0 h (r_move rfl) rfl ?_; clear h ac wo; intro ac wo h
  refine rd0 h (r_assign rfl (v := (.int .i64 0))) rfl ?_; clear h ac wo; intro ac wo h
  refine rd0 h (r_assign rfl) rfl ?_; clear h ac wo; intro ac wo h
  refine w_nil ?_
  refine hK2 _ _ ?_
  refine c_seq fun K3 hK3 => ?_
  refine c_block ?_
  obtain ⟨X1, hX1⟩ : ∃ X, loopF (fun s => slices_stableCmpFunc_Quad_B1 data n s.1 s.2.1 s.2.2) (0 + 1) (0, 20, data) = X := ⟨_, rfl⟩
  refine wp_loop_ghost (fun n_ a_ w_ => ∃ (a : Nat) (b : Nat) (data1 : List (U Qd)), (0 < n_) ∧ (loopF (fun s => slices_stableCmpFunc_Quad_B1 data n s.1 s.2.1 s.2.2) n_ (a, b, data1) = X1) ∧ (All (SzUD 30) data1) ∧ (a = 0) ∧ (b = 20) ∧ (data1.length = data.length) ∧ St w0 63 [(0, datav), (1, (.int .i64 ((n : Nat) : Int))), (2, (.func (.func 168) #[] #[])), (6, (.int .i64 20)), (7, (.int .i64 ((a : Nat) : Int))), (8, (.int .i64 ((b : Nat) : Int)))] [.row (α := U Qd) 87 datav data1, B] a_ w_) (0 + 1) ⟨0, 20, data, (by omega), hX1, zdata, (by first | assumption | omega | (simp only [len_bif, Bool.cond_decide, Bool.cond_eq_ite, List.length_append, List.length_set, List.length_cons, List.length_nil, List.length_take, List.length_drop, List.length_replicate] at *; done) | (simp only [len_bif, Bool.cond_decide, Bool.cond_eq_ite, List.length_append, List.length_set, List.length_cons, List.length_nil, List.length_take, List.length_drop, List.length_replicate] at *; omega) | (simp only [len_bif, Bool.cond_decide, Bool.cond_eq_ite, List.length_append, List.length_set, List.length_cons, List.length_nil, List.length_take, List.length_drop, List.length_replicate]; omega)), (by first | assumption | omega | (simp only [len_bif, Bool.cond_decide, Bool.cond_eq_ite, List.length_append, List.length_set, List.length_cons, List.length_nil, List.length_take, List.length_drop, List.length_replicate] at *; done) | (simp only [len_bif, Bool.cond_decide, Bool.cond_eq_ite, List.length_append, List.length_set, List.length_cons, List.length_nil, List.length_take, List.length_drop, List.length_replicate] at *; omega) | (simp only [len_bif, Bool.cond_decide, Bool.cond_eq_ite, List.length_append, List.length_set, List.length_cons, List.length_nil, List.length_take, List.length_drop, List.length_replicate]; omega)), (by first | assumption | omega | (simp only [len_bif, Bool.cond_decide, Bool.cond_eq_ite, List.length_append, List.length_set, List.length_cons, List.length_nil, List.length_take, List.length_drop, List.length_replicate] at *; done) | (simp only [len_bif, Bool.cond_decide, Bool.cond_eq_ite, List.length_append, List.length_set, List.length_cons, List.length_nil, List.length_take, List.length_drop, List.length_replicate] at *; omega) | (simp only [len_bif, Bool.cond_decide, Bool.cond_eq_ite, List.length_append, List.length_set, List.length_cons, List.length_nil, List.length_take, List.length_drop, List.length_replicate]; omega)), (h.sub ⟨rfl, rfl, rfl, rfl, rfl, rfl, trivial⟩)⟩ ?_
  clear h ac wo; rintro n1 ac wo ⟨a, b, data1, hm1, hL1, zdata1, ha0, hb0, hdl, h⟩
  obtain ⟨m1, rfl⟩ : ∃ m, n1 = m + 1 := ⟨n1 - 1, by omega⟩
  refine c_seq fun K4 hK4 => ?_
  refine c_rs fun K5 hK5 => ?_
  refine rd0 h (r_move rfl) rfl ?_; clear h ac wo; intro ac wo h
  refine rd0 h (r_move rfl) rfl ?_; clear h ac wo; intro ac wo h
  refine rd0 h (r_leq rfl rfl) rfl ?_; clear h ac wo; intro ac wo h
  refine w_nil ?_
  refine hK5 _ _ ?_
  refine c_ifF h rfl ?_ (decide_eq_false (by omega))
  refine c_exit ?_
  have hx1 := loop_out hL1 (show slices_stableCmpFunc_Quad_B1 data n a b data1 = .out (a, b, data1) from rfl)
  refine hK3 _ _ ?_
  refine c_rs fun K6 hK6 => ?_
  refine rd0 h (r_move rfl) rfl ?_; clear h ac wo; intro ac wo h
  refine rd0 h (r_move rfl) rfl ?_; clear h ac wo; intro ac wo h
  refine rd0 h (r_move rfl) rfl ?_; clear h ac wo; intro ac wo h
  refine rd0 h (r_move rfl) rfl ?_; clear h ac wo; intro ac wo h
  refine on1 h 0 rfl (s_own (vs := [datav, (.int .i64 ((a : Nat) : Int)), (.int .i64 ((n : Nat) : Int)), (.func (.func 168) #[] #[])]) (A := fun v => [.row (α := U Qd) 87 datav (slices_insertionSortCmpFunc_Quad data1 a n)]) (ent_f Tryz.call222 rfl) (fun w_ B_ hB_ hS_ => slices_insertionSortCmpFunc_Quad_ct data1 datav a n (by first | assumption | omega | (simp only [len_bif, Bool.cond_decide, Bool.cond_eq_ite, List.length_append, List.length_set, List.length_cons, List.length_nil, List.length_take, List.length_drop, List.length_replicate] at *; done) | (simp only [len_bif, Bool.cond_decide, Bool.cond_eq_ite, List.length_append, List.length_set, List.length_cons, List.length_nil, List.length_take, List.length_drop, List.length_replicate] at *; omega) | (simp only [len_bif, Bool.cond_decide, Bool.cond_eq_ite, List.length_append, List.length_set, List.length_cons, List.length_nil, List.length_take, List.length_drop, List.length_replicate]; omega)) (by first | assumption | omega | (simp only [len_bif, Bool.cond_decide, Bool.cond_eq_ite, List.length_append, List.length_set, List.length_cons, List.length_nil, List.length_take, List.length_drop, List.length_replicate] at *; done) | (simp only [len_bif, Bool.cond_decide, Bool.cond_eq_ite, List.length_append, List.length_set, List.length_cons, List.length_nil, List.length_take, List.length_drop, List.length_replicate] at *; omega) | (simp only [len_bif, Bool.cond_decide, Bool.cond_eq_ite, List.length_append, List.length_set, List.length_cons, List.length_nil, List.length_take, List.length_drop, List.length_replicate]; omega)) (by first | assumption | omega | (simp only [len_bif, Bool.cond_decide, Bool.cond_eq_ite, List.length_append, List.length_set, List.length_cons, List.length_nil, List.length_take, List.length_drop, List.length_replicate] at *; done) | (simp only [len_bif, Bool.cond_decide, Bool.cond_eq_ite, List.length_append, List.length_set, List.length_cons, List.length_nil, List.length_take, List.length_drop, List.length_replicate] at *; omega) | (simp only [len_bif, Bool.cond_decide, Bool.cond_eq_ite, List.length_append, List.length_set, List.length_cons, List.length_nil, List.length_take, List.length_drop, List.length_replicate]; omega)) zdata1 w0 w_ B_ hB_ hS_ )) rfl ?_; clear h ac wo; intro vc ac wo s2 h
  obtain rfl : vc = _ := s2.1
  have p3 := s2.2.2
  refine w_nil ?_
  refine hK6 _ _ ?_
  refine c_block ?_
  obtain ⟨X2, hX2⟩ : ∃ X, loopF (fun s => slices_stableCmpFunc_Quad_B2 data n a b data1 s) (0 + 1) 20 = X := ⟨_, rfl⟩
  refine wp_loop_ghost (fun n_ a_ w_ => ∃ (blockSize : Nat), (0 < n_) ∧ (loopF (fun s => slices_stableCmpFunc_Quad_B2 data n a b data1 s) n_ blockSize = X2) ∧ (blockSize = 20) ∧ St w0 63 [(0, datav), (1, (.int .i64 ((n : Nat) : Int))), (2, (.func (.func 168) #[] #[])), (6, (.int .i64 ((blockSize : Nat) : Int)))] [.row (α := U Qd) 87 datav (slices_insertionSortCmpFunc_Quad data1 a n), B] a_ w_) (0 + 1) ⟨20, (by omega), hX2, (by first | assumption | omega | (simp only [len_bif, Bool.cond_decide, Bool.cond_eq_ite, List.length_append, List.length_set, List.length_cons, List.length_nil, List.length_take, List.length_drop, List.length_replicate] at *; done) | (simp only [len_bif, Bool.cond_decide, Bool.cond_eq_ite, List.length_append, List.length_set, List.length_cons, List.length_nil, List.length_take, List.length_drop, List.length_replicate] at *; omega) | (simp only [len_bif, Bool.cond_decide, Bool.cond_eq_ite, List.length_append, List.length_set, List.length_cons, List.length_nil, List.length_take, List.length_drop, List.length_replicate]; omega)), (h.sub ⟨rfl, rfl, rfl, rfl, trivial⟩)⟩ ?_
  clear h ac wo; rintro n2 ac wo ⟨blockSize, hm2, hL2, hbs, h⟩
  obtain ⟨m2, rfl⟩ : ∃ m, n2 = m + 1 := ⟨n2 - 1, by omega⟩
  refine c_seq fun K7 hK7 => ?_
  refine c_rs fun K8 hK8 => ?_
  refine rd0 h (r_move rfl) rfl ?_; clear h ac wo; intro ac wo h
  refine rd0 h (r_move rfl) rfl ?_; clear h ac wo; intro ac wo h
  refine rd0 h (r_lss rfl rfl) rfl ?_; clear h ac wo; intro ac wo h
  refine w_nil ?_
  refine hK8 _ _ ?_
  refine c_ifF h rfl ?_ (decide_eq_false (by omega))
  refine c_exit ?_
  have hx2 := loop_out hL2 (show slices_stableCmpFunc_Quad_B2 data n a b data1 blockSize = .out blockSize from rfl)
  have hd : slices_stableCmpFunc_Quad data n = (slices_insertionSortCmpFunc_Quad data1 a n) := (Eq.trans (fin_l (hX1.trans hx1)) (fin_l (hX2.trans hx2)))
  exact retN (rs := []) (vs := []) h rfl .nil rfl ((h.pick [0, 1] (by decide)).retY ⟨rfl, (by rw [hd]; exact ⟨s2.2.1, (by first | assumption | omega | (simp only [len_bif, Bool.cond_decide, Bool.cond_eq_ite, List.length_append, List.length_set, List.length_cons, List.length_nil, List.length_take, List.length_drop, List.length_replicate] at *; done) | (simp only [len_bif, Bool.cond_decide, Bool.cond_eq_ite, List.length_append, List.length_set, List.length_cons, List.length_nil, List.length_take, List.length_drop, List.length_replicate] at *; omega) | (simp only [len_bif, Bool.cond_decide, Bool.cond_eq_ite, List.length_append, List.length_set, List.length_cons, List.length_nil, List.length_take, List.length_drop, List.length_replicate]; omega))⟩)⟩ (by rw [hd]; rfl))
attribute [irreducible] slices_stableCmpFunc_Quad
def slices_SortStableFunc_Quad_pieces_Unit_Quad (x : List (U Qd)) : List (U Qd) :=
  (slices_stableCmpFunc_Quad x x.length)
theorem slices_SortStableFunc_Quad_pieces_Unit_Quad_ct (x : List (U Qd)) (xv : Value) (hl : x.length < 20) (zx : All (SzUD 30) x) (w0 w : World) (B : Asn) (hbel : Below w0.heap.size w0 w) (hsep : ∃ Z_, Sep w0.heap.size w [.row (α := U Qd) 87 xv x, B] Z_)  : Calls Tryz.prog 167 #[xv, (.func (.func 168) #[] #[])] w (RetY w0 (fun v => v = .tuple #[] ∧ (All (SzUD 30) (slices_SortStableFunc_Quad_pieces_Unit_Quad x) ∧ (slices_SortStableFunc_Quad_pieces_Unit_Quad x).length = x.length)) (fun v => [.row (α := U Qd) 87 xv (slices_SortStableFunc_Quad_pieces_Unit_Quad x), B])) := by
  refine enterL (N := 9) (args := [xv, (.func (.func 168) #[] #[])]) Tryz.func167 rfl rfl hbel hsep ?_; intro ac h
  have hlenx := h.len 0 rfl
  refine c_r ?_
  refine rd0 h (r_move rfl) rfl ?_; clear h ac; intro ac wo h
  refine rd0 h (r_move rfl) rfl ?_; clear h ac wo; intro ac wo h
  refine rd0 h (r_len Tryz.runUnderlying24 rfl (h.row_sl 0 rfl)) rfl ?_; clear h ac wo; intro ac wo h
  refine rd0 h (r_move rfl) rfl ?_; clear h ac wo; intro ac wo h
  refine on1 h 0 rfl (s_own (vs := [xv, (.int .i64 ((x.length : Nat) : Int)), (.func (.func 168) #[] #[])]) (A := fun v => [.row (α := U Qd) 87 xv (slices_stableCmpFunc_Quad x x.length)]) (ent_f Tryz.call195 rfl) (fun w_ B_ hB_ hS_ => slices_stableCmpFunc_Quad_ct x xv x.length (by first | assumption | omega | (simp only [len_bif, Bool.cond_decide, Bool.cond_eq_ite, List.length_append, List.length_set, List.length_cons, List.length_nil, List.length_take, List.length_drop, List.length_replicate] at *; done) | (simp only [len_bif, Bool.cond_decide, Bool.cond_eq_ite, List.length_append, List.length_set, List.length_cons, List.length_nil, List.length_take, List.length_drop, List.length_replicate] at *; omega) | (simp only [len_bif, Bool.cond_decide, Bool.cond_eq_ite, List.length_append, List.length_set, List.length_cons, List.length_nil, List.length_take, List.length_drop, List.length_replicate]; omega)) (by first | assumption | omega | (simp only [len_bif, Bool.cond_decide, Bool.cond_eq_ite, List.length_append, List.length_set, List.length_cons, List.length_nil, List.length_take, List.length_drop, List.length_replicate] at *; done) | (simp only [len_bif, Bool.cond_decide, Bool.cond_eq_ite, List.length_append, List.length_set, List.length_cons, List.length_nil, List.length_take, List.length_drop, List.length_replicate] at *; omega) | (simp only [len_bif, Bool.cond_decide, Bool.cond_eq_ite, List.length_append, List.length_set, List.length_cons, List.length_nil, List.length_take, List.length_drop, List.length_replicate]; omega)) zx w0 w_ B_ hB_ hS_ )) rfl ?_; clear h ac wo; intro vc ac wo s2 h
  obtain rfl : vc = _ := s2.1
  have p3 := s2.2.2
  refine w_nil ?_
  have hd : slices_SortStableFunc_Quad_pieces_Unit_Quad x = (slices_stableCmpFunc_Quad x x.length) := rfl
  exact retN (rs := []) (vs := []) h rfl .nil rfl ((h.pick [0, 1] (by decide)).retY ⟨rfl, (by rw [hd]; exact ⟨s2.2.1, (by first | assumption | omega | (simp only [len_bif, Bool.cond_decide, Bool.cond_eq_ite, List.length_append, List.length_set, List.length_cons, List.length_nil, List.length_take, List.length_drop, List.length_replicate] at *; done) | (simp only [len_bif, Bool.cond_decide, Bool.cond_eq_ite, List.length_append, List.length_set, List.length_cons, List.length_nil, List.length_take, List.length_drop, List.length_replicate] at *; omega) | (simp only [len_bif, Bool.cond_decide, Bool.cond_eq_ite, List.length_append, List.length_set, List.length_cons, List.length_nil, List.length_take, List.length_drop, List.length_replicate]; omega))⟩)⟩ (by rw [hd]; rfl))
attribute [irreducible] slices_SortStableFunc_Quad_pieces_Unit_Quad
def pc_sorted_Quad (l : List (U Qd)) : (List (U Qd)) :=
  (slices_SortStableFunc_Quad_pieces_Unit_Quad (slices_Clone_Quad_pieces_Unit_Quad l))
theorem pc_sorted_Quad_ct (l : List (U Qd)) (lv : Value) (hl : l.length < 20) (zl : All (SzUD 30) l) (w0 : World) (hlv : View w0 lv l) : Calls Tryz.prog 105 #[lv] w0 (RetR w0 87 (pc_sorted_Quad l) (All (SzUD 30) (pc_sorted_Quad l) ∧ (pc_sorted_Quad l).length = l.length)) := by
  refine enter (N := 9) (args := [lv]) Tryz.func105 rfl rfl ?_; intro ac h
  have hlenl := hlv.len
  refine c_rs fun K1 hK1 => ?_
  refine rd0 h (r_assign rfl (v := (.slice none 0 0))) rfl ?_; clear h ac; intro ac wo h
  refine w_nil ?_
  refine hK1 _ _ ?_
  refine c_rs fun K2 hK2 => ?_
  refine rd0 h (r_move rfl) rfl ?_; clear h ac wo; intro ac wo h
  have s1 := RetR.pr ((fun w_ hB_ hS_ => slices_Clone_Quad_pieces_Unit_Quad_ct l lv (by first | assumption | omega | (simp only [len_bif, Bool.cond_decide, Bool.cond_eq_ite, List.length_append, List.length_set, List.length_cons, List.length_nil, List.length_take, List.length_drop, List.length_replicate] at *; done) | (simp only [len_bif, Bool.cond_decide, Bool.cond_eq_ite, List.length_append, List.length_set, List.length_cons, List.length_nil, List.length_take, List.length_drop, List.length_replicate] at *; omega) | (simp only [len_bif, Bool.cond_decide, Bool.cond_eq_ite, List.length_append, List.length_set, List.length_cons, List.length_nil, List.length_take, List.length_drop, List.length_replicate]; omega)) zl w_ (hlv.below hB_)) _ h.bel h.sep)
  have p2 := s1.2
  have p2_0 := p2.1
  have p2_1 := p2.2
  refine c_row (vs := [lv]) (xs := (slices_Clone_Quad_pieces_Unit_Quad l)) h (ent_f Tryz.call166 rfl) (fun w_ hB_ hS_ => slices_Clone_Quad_pieces_Unit_Quad_ct l lv (by first | assumption | omega | (simp only [len_bif, Bool.cond_decide, Bool.cond_eq_ite, List.length_append, List.length_set, List.length_cons, List.length_nil, List.length_take, List.length_drop, List.length_replicate] at *; done) | (simp only [len_bif, Bool.cond_decide, Bool.cond_eq_ite, List.length_append, List.length_set, List.length_cons, List.length_nil, List.length_take, List.length_drop, List.length_replicate] at *; omega) | (simp only [len_bif, Bool.cond_decide, Bool.cond_eq_ite, List.length_append, List.length_set, List.length_cons, List.length_nil, List.length_take, List.length_drop, List.length_replicate]; omega)) zl w_ (hlv.below hB_)) rfl ?_; clear h ac wo; intro sv3 ac wo _ h
  refine rd0 h (r_assign rfl) rfl ?_; clear h ac wo; intro ac wo h
  refine w_nil ?_
  refine hK2 _ _ ?_
  refine c_rs fun K3 hK3 => ?_
  refine rd0 h (r_move rfl) rfl ?_; clear h ac wo; intro ac wo h
  refine on1 h 0 rfl (s_own (vs := [sv3, (.func (.func 168) #[] #[])]) (A := fun v => [.row (α := U Qd) 87 sv3 (slices_SortStableFunc_Quad_pieces_Unit_Quad (slices_Clone_Quad_pieces_Unit_Quad l))]) (ent_f Tryz.call167 rfl) (fun w_ B_ hB_ hS_ => slices_SortStableFunc_Quad_pieces_Unit_Quad_ct (slices_Clone_Quad_pieces_Unit_Quad l) sv3 (by first | assumption | omega | (simp only [len_bif, Bool.cond_decide, Bool.cond_eq_ite, List.length_append, List.length_set, List.length_cons, List.length_nil, List.length_take, List.length_drop, List.length_replicate] at *; done) | (simp only [len_bif, Bool.cond_decide, Bool.cond_eq_ite, List.length_append, List.length_set, List.length_cons, List.length_nil, List.length_take, List.length_drop, List.length_replicate] at *; omega) | (simp only [len_bif, Bool.cond_decide, Bool.cond_eq_ite, List.length_append, List.length_set, List.length_cons, List.length_nil, List.length_take, List.length_drop, List.length_replicate]; omega)) s1.1 w0 w_ B_ hB_ hS_ )) rfl ?_; clear h ac wo; intro vc ac wo s5 h
  obtain rfl : vc = _ := s5.1
  have p6 := s5.2.2
  refine w_nil ?_
  refine hK3 _ _ ?_
  refine c_rs fun K4 hK4 => ?_
  refine rd0 h (r_move rfl) rfl ?_; clear h ac wo; intro ac wo h
  refine rd0 h (r_assign rfl) rfl ?_; clear h ac wo; intro ac wo h
  refine w_nil ?_
  refine hK4 _ _ ?_
  refine c_ret ?_
  have hd : pc_sorted_Quad l = (slices_SortStableFunc_Quad_pieces_Unit_Quad (slices_Clone_Quad_pieces_Unit_Quad l)) := rfl
  exact ret (rs := [.tmp 2]) h rfl (.tmp rfl .nil) rfl (by rw [hd]; exact h.retR 0 rfl ⟨s5.2.1, (by first | assumption | omega | (simp only [len_bif, Bool.cond_decide, Bool.cond_eq_ite, List.length_append, List.length_set, List.length_cons, List.length_nil, List.length_take, List.length_drop, List.length_replicate] at *; done) | (simp only [len_bif, Bool.cond_decide, Bool.cond_eq_ite, List.length_append, List.length_set, List.length_cons, List.length_nil, List.length_take, List.length_drop, List.length_replicate] at *; omega) | (simp only [len_bif, Bool.cond_decide, Bool.cond_eq_ite, List.length_append, List.length_set, List.length_cons, List.length_nil, List.length_take, List.length_drop, List.length_replicate]; omega))⟩)
attribute [irreducible] pc_sorted_Quad
end Go.Sx
