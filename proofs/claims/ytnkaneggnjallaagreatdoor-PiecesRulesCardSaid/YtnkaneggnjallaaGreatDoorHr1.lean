/- A part of the proof that the law PiecesRules answers true at every input and leaves its arguments as they were. -/
import Derived.Test.YtnkaneggnjallaaGreatDoorA7
import Derived.Test.YtnkaneggnjallaaGreatDoorHk
import Derived.Test.YtnkaneggnjallaaGreatDoorHl1
set_option linter.unusedVariables false
set_option linter.unusedSimpArgs false
namespace Go.Sx
open Go Go.RowKit Go.Proofs
set_option maxRecDepth 100000
set_option maxHeartbeats 40000000
attribute [local irreducible] rl_Compare rl_FromInt ra_FromInt ra_Sign qu_Same qu_Reduce qu_Linear qu_Constant cmpInt pc_apart pc_instant
def ig_Check (a : GI) : Int :=
  bif (((decide (a.mag = 0)) && a.neg) || ((!(decide (a.mag = 0))) && (((((topb a.mag) : Nat) : Int)) == (((0 : Nat) : Int))))) then
    5
  else
    0
theorem ig_Check_ct (a : GI) (za : SzI 16 a) (w0 : World)  : Calls Tryz.prog 162 #[(vI a)] w0 (RetP w0 (.int .i64 (ig_Check a)) (True)) := by
  refine enter (N := 21) (args := [(vI a)]) Tryz.func162 rfl rfl ?_; intro ac h
  refine c_rs fun K1 hK1 => ?_
  refine bx h (cI a) rfl rfl rfl ?_; clear h ac; intro b1 ac wo h
  refine rd0 h (r_assign rfl (v := (.int .i64 0))) rfl ?_; clear h ac wo; intro ac wo h
  refine w_nil ?_
  refine hK1 _ _ ?_
  refine c_seq fun K2 hK2 => ?_
  refine c_rs fun K3 hK3 => ?_
  refine rd0 h (r_fa Tryz.runUnderlying38 rfl Tryz.sizeOf9 (by decide) rfl rfl (k' := 1)) rfl ?_; clear h ac wo; intro ac wo h
  refine rd1 h 0 rfl (r_ld Tryz.isAgg9 Tryz.sizeOf9 rfl rfl rfl (v := (.string (bs a.mag))) rfl) rfl ?_; clear h ac wo; intro ac wo h
  refine rd0 h (r_eqlBs rfl rfl (m := a.mag) (n := 0)) rfl ?_; clear h ac wo; intro ac wo h
  refine rd0 h (r_move rfl) rfl ?_; clear h ac wo; intro ac wo h
  refine gd (j := 3) (c := true) (b := (decide (a.mag = 0))) (g := (decide (a.mag = 0))) h rfl rfl g_t (fun hg => (Rd.of_nil (r_fa Tryz.runUnderlying38 rfl Tryz.sizeOf4 (by decide) rfl rfl (k' := 0))).step) rfl ?_; clear h ac wo; intro ac wo h
  refine gd (j := 3) (c := true) (b := (decide (a.mag = 0))) (g := (decide (a.mag = 0))) h rfl rfl g_t (fun hg => (Rd.of_mem (i := 0) (r_ld Tryz.isAgg4 Tryz.sizeOf4 (gv_ev rfl hg) rfl rfl (v := (.bool a.neg)) rfl) rfl).step) rfl ?_; clear h ac wo; intro ac wo h
  refine rd0 h (r_and rfl (fun e => (gv_ev rfl e))) rfl ?_; clear h ac wo; intro ac wo h
  refine rd0 h (r_move rfl) rfl ?_; clear h ac wo; intro ac wo h
  refine gd (j := 7) (c := true) (b := ((decide (a.mag = 0)) && a.neg)) (g := (!((decide (a.mag = 0)) && a.neg))) h rfl rfl g_f (fun hg => (Rd.of_nil (r_fa Tryz.runUnderlying38 rfl Tryz.sizeOf9 (by decide) rfl rfl (k' := 1))).step) rfl ?_; clear h ac wo; intro ac wo h
  refine gd (j := 7) (c := true) (b := ((decide (a.mag = 0)) && a.neg)) (g := (!((decide (a.mag = 0)) && a.neg))) h rfl rfl g_f (fun hg => (Rd.of_mem (i := 0) (r_ld Tryz.isAgg9 Tryz.sizeOf9 (gv_ev rfl hg) rfl rfl (v := (.string (bs a.mag))) rfl) rfl).step) rfl ?_; clear h ac wo; intro ac wo h
  refine gd (j := 7) (c := true) (b := ((decide (a.mag = 0)) && a.neg)) (g := (!((decide (a.mag = 0)) && a.neg))) h rfl rfl g_f (fun hg => (Rd.of_nil (r_neqBs (gv_ev rfl hg) rfl (m := a.mag) (n := 0))).step) rfl ?_; clear h ac wo; intro ac wo h
  refine gd (j := 7) (c := true) (b := ((decide (a.mag = 0)) && a.neg)) (g := (!((decide (a.mag = 0)) && a.neg))) h rfl rfl g_f (fun hg => (Rd.of_nil (r_move (gv_ev rfl hg))).step) rfl ?_; clear h ac wo; intro ac wo h
  refine gd (j := 11) (c := (!((decide (a.mag = 0)) && a.neg))) (b := (!(decide (a.mag = 0)))) (g := ((!((decide (a.mag = 0)) && a.neg)) && (!(decide (a.mag = 0))))) h rfl rfl g_ct (fun hg => (Rd.of_nil (r_fa Tryz.runUnderlying38 rfl Tryz.sizeOf9 (by decide) rfl rfl (k' := 1))).step) rfl ?_; clear h ac wo; intro ac wo h
  refine gd (j := 11) (c := (!((decide (a.mag = 0)) && a.neg))) (b := (!(decide (a.mag = 0)))) (g := ((!((decide (a.mag = 0)) && a.neg)) && (!(decide (a.mag = 0))))) h rfl rfl g_ct (fun hg => (Rd.of_mem (i := 0) (r_ld Tryz.isAgg9 Tryz.sizeOf9 (gv_ev rfl hg) rfl rfl (v := (.string (bs a.mag))) rfl) rfl).step) rfl ?_; clear h ac wo; intro ac wo h
  refine gd (j := 11) (c := (!((decide (a.mag = 0)) && a.neg))) (b := (!(decide (a.mag = 0)))) (g := ((!((decide (a.mag = 0)) && a.neg)) && (!(decide (a.mag = 0))))) h rfl rfl g_ct (fun hg => (Rd.of_nil (r_index0 Tryz.runUnderlying9 (gv_ev rfl hg) rfl (by (try simp only [Bool.and_eq_true, Bool.or_eq_true, Bool.and_eq_false_iff, Bool.or_eq_false_iff, decide_eq_true_eq, decide_eq_false_iff_not, beq_iff_eq, beq_eq_false_iff_ne, bne_iff_ne, bne_eq_false_iff_eq, Bool.true_and, Bool.not_eq_true', Bool.not_eq_false', ne_eq] at hg); first | omega | (simp only [len_bif, Bool.cond_decide, Bool.cond_eq_ite, List.length_append, List.length_set, List.length_cons, List.length_nil, List.length_take, List.length_drop, List.length_replicate] at *; omega)))).step) rfl ?_; clear h ac wo; intro ac wo h
  refine gd (j := 11) (c := (!((decide (a.mag = 0)) && a.neg))) (b := (!(decide (a.mag = 0)))) (g := ((!((decide (a.mag = 0)) && a.neg)) && (!(decide (a.mag = 0))))) h rfl rfl g_ct (fun hg => (Rd.of_nil (r_eql (gv_ev rfl hg) rfl (m := (((topb a.mag) : Nat) : Int)) (n := ((0 : Nat) : Int)))).step) rfl ?_; clear h ac wo; intro ac wo h
  refine gd (j := 7) (c := true) (b := ((decide (a.mag = 0)) && a.neg)) (g := (!((decide (a.mag = 0)) && a.neg))) h rfl rfl g_f (fun hg => (Rd.of_nil (r_and (gv_ev rfl hg) (fun e => (gv_ev rfl (andI hg e))))).step) rfl ?_; clear h ac wo; intro ac wo h
  refine rd0 h (r_or rfl (fun e => (gv_ev rfl (notI e)))) rfl ?_; clear h ac wo; intro ac wo h
  refine w_nil ?_
  refine hK3 _ _ ?_
  replace h := h.sub (F' := [(20, (.bool (((decide (a.mag = 0)) && a.neg) || ((!(decide (a.mag = 0))) && (((((topb a.mag) : Nat) : Int)) == (((0 : Nat) : Int)))))))]) ⟨rfl, trivial⟩
  refine c_if (b := (((decide (a.mag = 0)) && a.neg) || ((!(decide (a.mag = 0))) && (((((topb a.mag) : Nat) : Int)) == (((0 : Nat) : Int)))))) h rfl (fun hc1 => ?_) (fun hc1 => ?_)
  · skip
    have hq1 := hc1; try simp only [Bool.and_eq_true, Bool.or_eq_true, Bool.and_eq_false_iff, Bool.or_eq_false_iff, decide_eq_true_eq, decide_eq_false_iff_not, beq_iff_eq, beq_eq_false_iff_ne, bne_iff_ne, bne_eq_false_iff_eq, Bool.true_and, Bool.not_eq_true', Bool.not_eq_false', ne_eq] at hq1
    refine c_rs fun K4 hK4 => ?_
    refine rd0 h (r_assign rfl (v := (.int .i64 5))) rfl ?_; clear h ac wo; intro ac wo h
    refine w_nil ?_
    refine hK4 _ _ ?_
    refine c_ret ?_
    have hd : ig_Check a = 5 := (cT hc1)
    exact ret (rs := [.tmp 2]) h rfl (.tmp rfl .nil) rfl (h.retP (by rw [hd] <;> rfl) trivial)
  · skip
    have hq1 := hc1; try simp only [Bool.and_eq_true, Bool.or_eq_true, Bool.and_eq_false_iff, Bool.or_eq_false_iff, decide_eq_true_eq, decide_eq_false_iff_not, beq_iff_eq, beq_eq_false_iff_ne, bne_iff_ne, bne_eq_false_iff_eq, Bool.true_and, Bool.not_eq_true', Bool.not_eq_false', ne_eq] at hq1
    refine c_skip ?_
    refine hK2 _ _ ?_
    refine c_rs fun K5 hK5 => ?_
    refine rd0 h (r_assign rfl (v := (.int .i64 0))) rfl ?_; clear h ac wo; intro ac wo h
    refine w_nil ?_
    refine hK5 _ _ ?_
    refine c_ret ?_
    have hd : ig_Check a = 0 := (cF hc1)
    exact ret (rs := [.tmp 2]) h rfl (.tmp rfl .nil) rfl (h.retP (by rw [hd] <;> rfl) trivial)
attribute [irreducible] ig_Check
def ra_Check (a : GQ) : Int :=
  bif (((ig_Check a.num) != 0) || ((ig_Check a.den) != 0)) then
    5
  else
    bif (decide (a.den = (⟨false, 0⟩ : GI))) then
      0
    else
      bif ((decide ((ig_Compare a.den ra_one) ≤ 0)) || (!(decide ((ig_Gcd a.num a.den) = ra_one)))) then
        5
      else
        0
theorem ra_Check_ct (a : GQ) (za : SzQ 16 a) (w0 : World)  : Calls Tryz.prog 104 #[(vQ a)] w0 (RetP w0 (.int .i64 (ra_Check a)) (True)) := by
  refine enter (N := 31) (args := [(vQ a)]) Tryz.func104 rfl rfl ?_; intro ac h
  refine c_rs fun K1 hK1 => ?_
  refine bx h (cQ a) rfl rfl rfl ?_; clear h ac; intro b1 ac wo h
  refine rd0 h (r_assign rfl (v := (.int .i64 0))) rfl ?_; clear h ac wo; intro ac wo h
  refine w_nil ?_
  refine hK1 _ _ ?_
  refine c_seq fun K2 hK2 => ?_
  refine c_rs fun K3 hK3 => ?_
  refine rd0 h (r_fa Tryz.runUnderlying40 rfl Tryz.sizeOf38 (by decide) rfl rfl (k' := 0)) rfl ?_; clear h ac wo; intro ac wo h
  refine rd1 h 0 rfl (r_ld Tryz.isAgg38 Tryz.sizeOf38 rfl rfl rfl (v := (vI a.num)) rfl) rfl ?_; clear h ac wo; intro ac wo h
  refine c_val (vs := [(vI a.num)]) h (ent_f Tryz.call162 rfl) (fun w_ hB_ hS_ => ig_Check_ct a.num za.1 w_ ) rfl ?_; clear h ac wo; intro ac wo h
  refine rd0 h (r_neq rfl rfl) rfl ?_; clear h ac wo; intro ac wo h
  refine rd0 h (r_move rfl) rfl ?_; clear h ac wo; intro ac wo h
  refine gd (j := 4) (c := true) (b := ((ig_Check a.num) != 0)) (g := (!((ig_Check a.num) != 0))) h rfl rfl g_f (fun hg => (Rd.of_nil (r_fa Tryz.runUnderlying40 rfl Tryz.sizeOf38 (by decide) rfl rfl (k' := 2))).step) rfl ?_; clear h ac wo; intro ac wo h
  refine gd (j := 4) (c := true) (b := ((ig_Check a.num) != 0)) (g := (!((ig_Check a.num) != 0))) h rfl rfl g_f (fun hg => (Rd.of_mem (i := 0) (r_ld Tryz.isAgg38 Tryz.sizeOf38 (gv_ev rfl hg) rfl rfl (v := (vI a.den)) rfl) rfl).step) rfl ?_; clear h ac wo; intro ac wo h
  refine gd (j := 4) (c := true) (b := ((ig_Check a.num) != 0)) (g := (!((ig_Check a.num) != 0))) h rfl rfl g_f (fun hg => s_val (vs := [(vI a.den)]) (ent_f Tryz.call162 (evs_cons (gv_ev rfl hg) rfl)) (fun w_ hB_ hS_ => ig_Check_ct a.den za.2 w_ )) rfl ?_; clear h ac wo; intro ac wo h
  refine gd (j := 4) (c := true) (b := ((ig_Check a.num) != 0)) (g := (!((ig_Check a.num) != 0))) h rfl rfl g_f (fun hg => (Rd.of_nil (r_neq (gv_ev rfl hg) rfl)).step) rfl ?_; clear h ac wo; intro ac wo h
  refine rd0 h (r_or rfl (fun e => (gv_ev rfl (notI e)))) rfl ?_; clear h ac wo; intro ac wo h
  refine w_nil ?_
  refine hK3 _ _ ?_
  refine c_if (b := (((ig_Check a.num) != 0) || ((ig_Check a.den) != 0))) h rfl (fun hc1 => ?_) (fun hc1 => ?_)
  · skip
    have hq1 := hc1; try simp only [Bool.and_eq_true, Bool.or_eq_true, Bool.and_eq_false_iff, Bool.or_eq_false_iff, decide_eq_true_eq, decide_eq_false_iff_not, beq_iff_eq, beq_eq_false_iff_ne, bne_iff_ne, bne_eq_false_iff_eq, Bool.true_and, Bool.not_eq_true', Bool.not_eq_false', ne_eq] at hq1
    refine c_rs fun K4 hK4 => ?_
    refine rd0 h (r_assign rfl (v := (.int .i64 5))) rfl ?_; clear h ac wo; intro ac wo h
    refine w_nil ?_
    refine hK4 _ _ ?_
    refine c_ret ?_
    have hd : ra_Check a = 5 := (cT hc1)
    exact ret (rs := [.tmp 2]) h rfl (.tmp rfl .nil) rfl (h.retP (by rw [hd] <;> rfl) trivial)
  · skip
    have hq1 := hc1; try simp only [Bool.and_eq_true, Bool.or_eq_true, Bool.and_eq_false_iff, Bool.or_eq_false_iff, decide_eq_true_eq, decide_eq_false_iff_not, beq_iff_eq, beq_eq_false_iff_ne, bne_iff_ne, bne_eq_false_iff_eq, Bool.true_and, Bool.not_eq_true', Bool.not_eq_false', ne_eq] at hq1
    refine c_skip ?_
    refine hK2 _ _ ?_
    refine c_seq fun K5 hK5 => ?_
    refine c_rs fun K6 hK6 => ?_
    refine rd0 h (r_fa Tryz.runUnderlying40 rfl Tryz.sizeOf38 (by decide) rfl rfl (k' := 2)) rfl ?_; clear h ac wo; intro ac wo h
    refine rd1 h 0 rfl (r_ld Tryz.isAgg38 Tryz.sizeOf38 rfl rfl rfl (v := (vI a.den)) rfl) rfl ?_; clear h ac wo; intro ac wo h
    refine rd0 h (r_build (parts := []) (vs := []) bld38 rfl rfl (v := (vI (⟨false, 0⟩ : GI))) rfl) rfl ?_; clear h ac wo; intro ac wo h
    refine rd0 h (r_eqlT eqp38 rfl rfl (b := a.den) (c := (⟨false, 0⟩ : GI))) rfl ?_; clear h ac wo; intro ac wo h
    refine w_nil ?_
    refine hK6 _ _ ?_
    replace h := h.sub (F' := [(1, (ptr b1 0)), (16, (.bool (decide (a.den = (⟨false, 0⟩ : GI)))))]) ⟨rfl, rfl, trivial⟩
    refine c_if (b := (decide (a.den = (⟨false, 0⟩ : GI)))) h rfl (fun hc2 => ?_) (fun hc2 => ?_)
    · skip
      have hd2 := of_decide_eq_true hc2
      refine c_rs fun K7 hK7 => ?_
      refine rd0 h (r_assign rfl (v := (.int .i64 0))) rfl ?_; clear h ac wo; intro ac wo h
      refine w_nil ?_
      refine hK7 _ _ ?_
      refine c_ret ?_
      have hd : ra_Check a = 0 := (Eq.trans (cF hc1) (cT hc2))
      exact ret (rs := [.tmp 2]) h rfl (.tmp rfl .nil) rfl (h.retP (by rw [hd] <;> rfl) trivial)
    · skip
      have hd2 := of_decide_eq_false hc2
      refine c_skip ?_
      refine hK5 _ _ ?_
      refine c_seq fun K8 hK8 => ?_
      refine c_seq fun K9 hK9 => ?_
      have s1 := Calls_pr ((ra_one_ct  40 (by omega) ) w0)
      have p3 := Calls_pr ((ig_Compare_ct a.den ra_one 16 (by omega) za.2 (SzI_le s1 (by omega))) w0)
      have s4 := Calls_pr ((ig_Gcd_ct a.num a.den 16 (by omega) za.1 za.2) w0)
      have s5 := Calls_pr ((ra_one_ct  40 (by omega) ) w0)
      refine draws mixed [⟨.det (ptr b1 2), []⟩, ⟨.det (vI a.den), [0]⟩, ⟨.det (vI ra_one), []⟩, ⟨.det (.int .i64 (ig_Compare a.den ra_one)), []⟩, ⟨.det (.bool (decide ((ig_Compare a.den ra_one) ≤ 0))), []⟩, ⟨.det (.bool (decide ((ig_Compare a.den ra_one) ≤ 0))), []⟩, ⟨.det (gv (!(decide ((ig_Compare a.den ra_one) ≤ 0))) (ptr b1 0)), []⟩, ⟨.det (gv (!(decide ((ig_Compare a.den ra_one) ≤ 0))) (vI a.num)), [0]⟩, ⟨.det (gv (!(decide ((ig_Compare a.den ra_one) ≤ 0))) (ptr b1 2)), []⟩, ⟨.det (gv (!(decide ((ig_Compare a.den ra_one) ≤ 0))) (vI a.den)), [0]⟩, ⟨.det (gv (!(decide ((ig_Compare a.den ra_one) ≤ 0))) (vI (ig_Gcd a.num a.den))), []⟩, ⟨.det (gv (!(decide ((ig_Compare a.den ra_one) ≤ 0))) (vI ra_one)), []⟩, ⟨.det (gv (!(decide ((ig_Compare a.den ra_one) ≤ 0))) (.bool (!(decide ((ig_Gcd a.num a.den) = ra_one))))), []⟩, ⟨.det (.bool ((decide ((ig_Compare a.den ra_one) ≤ 0)) || (!(decide ((ig_Gcd a.num a.den) = ra_one))))), []⟩] [⟨.blk b1 (cQ a) 40, []⟩] h rfl (by kernel_rfl) ⟨?_, ?_, ?_, ?_, ?_, ?_, ?_, ?_, ?_, ?_, ?_, ?_, ?_, ?_, trivial⟩ ?_
      · intro ξ hφ; exact ob_r0 (r_fa Tryz.runUnderlying40 rfl Tryz.sizeOf38 (by decide) rfl rfl (k' := 2))
      · intro ξ hφ; exact ob_r [.blk b1 (cQ a) 40] rfl rfl (r_ld Tryz.isAgg38 Tryz.sizeOf38 rfl rfl rfl (v := (vI a.den)) rfl)
      · intro ξ hφ; exact ob_s (s_val (vs := []) (ent_f Tryz.call164 rfl) (fun w_ hB_ hS_ => (ra_one_ct  40 (by omega) ) w_))
      · intro ξ hφ; exact ob_s (s_val (vs := [(vI a.den), (vI ra_one)]) (ent_f Tryz.call163 rfl) (fun w_ hB_ hS_ => (ig_Compare_ct a.den ra_one 16 (by omega) za.2 (SzI_le s1 (by omega))) w_))
      · intro ξ hφ; exact ob_r0 (r_leq rfl rfl)
      · intro ξ hφ; exact ob_r0 (r_move rfl)
      · intro ξ hφ; exact ob_g (c := true) (b := (decide ((ig_Compare a.den ra_one) ≤ 0))) (g := (!(decide ((ig_Compare a.den ra_one) ≤ 0)))) [] rfl rfl rfl rfl g_f (fun hg => Rd.step (r_fa Tryz.runUnderlying40 rfl Tryz.sizeOf38 (by decide) rfl rfl (k' := 0)))
      · intro ξ hφ; exact ob_g (c := true) (b := (decide ((ig_Compare a.den ra_one) ≤ 0))) (g := (!(decide ((ig_Compare a.den ra_one) ≤ 0)))) [.blk b1 (cQ a) 40] rfl rfl rfl rfl g_f (fun hg => Rd.step (r_ld Tryz.isAgg38 Tryz.sizeOf38 (gv_ev rfl hg) rfl rfl (v := (vI a.num)) rfl))
      · intro ξ hφ; exact ob_g (c := true) (b := (decide ((ig_Compare a.den ra_one) ≤ 0))) (g := (!(decide ((ig_Compare a.den ra_one) ≤ 0)))) [] rfl rfl rfl rfl g_f (fun hg => Rd.step (r_fa Tryz.runUnderlying40 rfl Tryz.sizeOf38 (by decide) rfl rfl (k' := 2)))
      · intro ξ hφ; exact ob_g (c := true) (b := (decide ((ig_Compare a.den ra_one) ≤ 0))) (g := (!(decide ((ig_Compare a.den ra_one) ≤ 0)))) [.blk b1 (cQ a) 40] rfl rfl rfl rfl g_f (fun hg => Rd.step (r_ld Tryz.isAgg38 Tryz.sizeOf38 (gv_ev rfl hg) rfl rfl (v := (vI a.den)) rfl))
      · intro ξ hφ; exact ob_g (c := true) (b := (decide ((ig_Compare a.den ra_one) ≤ 0))) (g := (!(decide ((ig_Compare a.den ra_one) ≤ 0)))) [] rfl rfl rfl rfl g_f (fun hg => s_val (vs := [(vI a.num), (vI a.den)]) (ent_f Tryz.call165 (evs_cons (gv_ev rfl hg) (evs_cons (gv_ev rfl hg) rfl))) (fun w_ hB_ hS_ => (ig_Gcd_ct a.num a.den 16 (by omega) za.1 za.2) w_))
      · intro ξ hφ; exact ob_g (c := true) (b := (decide ((ig_Compare a.den ra_one) ≤ 0))) (g := (!(decide ((ig_Compare a.den ra_one) ≤ 0)))) [] rfl rfl rfl rfl g_f (fun hg => s_val (vs := []) (ent_f Tryz.call164 rfl) (fun w_ hB_ hS_ => (ra_one_ct  40 (by omega) ) w_))
      · intro ξ hφ; exact ob_g (c := true) (b := (decide ((ig_Compare a.den ra_one) ≤ 0))) (g := (!(decide ((ig_Compare a.den ra_one) ≤ 0)))) [] rfl rfl rfl rfl g_f (fun hg => Rd.step (r_neqT eqp38 (gv_ev rfl hg) (gv_ev rfl hg) (b := (ig_Gcd a.num a.den)) (c := ra_one)))
      · intro ξ hφ; exact ob_r0 (r_or rfl (fun e => (gv_ev rfl (notI e))))
      clear h ac wo; intro ξ ac wo hφ h
      replace h : St w0 31 [(30, (.bool ((decide ((ig_Compare a.den ra_one) ≤ 0)) || (!(decide ((ig_Gcd a.num a.den) = ra_one))))))] [.blk b1 (cQ a) 40] ac wo := (h.pick [0] (by decide)).sub ⟨rfl, trivial⟩
      clear hφ ξ
      refine hK9 _ _ ?_
      refine c_if (b := ((decide ((ig_Compare a.den ra_one) ≤ 0)) || (!(decide ((ig_Gcd a.num a.den) = ra_one))))) h rfl (fun hc3 => ?_) (fun hc3 => ?_)
      · skip
        have hq3 := hc3; try simp only [Bool.and_eq_true, Bool.or_eq_true, Bool.and_eq_false_iff, Bool.or_eq_false_iff, decide_eq_true_eq, decide_eq_false_iff_not, beq_iff_eq, beq_eq_false_iff_ne, bne_iff_ne, bne_eq_false_iff_eq, Bool.true_and, Bool.not_eq_true', Bool.not_eq_false', ne_eq] at hq3
        refine c_rs fun K10 hK10 => ?_
        refine rd0 h (r_assign rfl (v := (.int .i64 5))) rfl ?_; clear h ac wo; intro ac wo h
        refine w_nil ?_
        refine hK10 _ _ ?_
        refine c_ret ?_
        have hd : ra_Check a = 5 := (Eq.trans (cF hc1) (Eq.trans (cF hc2) (cT hc3)))
        exact ret (rs := [.tmp 2]) h rfl (.tmp rfl .nil) rfl (h.retP (by rw [hd] <;> rfl) trivial)
      · skip
        have hq3 := hc3; try simp only [Bool.and_eq_true, Bool.or_eq_true, Bool.and_eq_false_iff, Bool.or_eq_false_iff, decide_eq_true_eq, decide_eq_false_iff_not, beq_iff_eq, beq_eq_false_iff_ne, bne_iff_ne, bne_eq_false_iff_eq, Bool.true_and, Bool.not_eq_true', Bool.not_eq_false', ne_eq] at hq3
        refine c_skip ?_
        refine hK8 _ _ ?_
        refine c_rs fun K11 hK11 => ?_
        refine rd0 h (r_assign rfl (v := (.int .i64 0))) rfl ?_; clear h ac wo; intro ac wo h
        refine w_nil ?_
        refine hK11 _ _ ?_
        refine c_ret ?_
        have hd : ra_Check a = 0 := (Eq.trans (cF hc1) (Eq.trans (cF hc2) (cF hc3)))
        exact ret (rs := [.tmp 2]) h rfl (.tmp rfl .nil) rfl (h.retP (by rw [hd] <;> rfl) trivial)
attribute [irreducible] ra_Check
def pc_Lines_Check_K1 (f : Ln) (x17 : Nat) : Int :=
  0
def pc_Lines_Check_B1 (f : Ln) (x17 : Nat) : Nx Nat Int :=
  bif (decide (((x17 : Nat) : Int) < 4)) then
    bif ((ra_Check (gt [f.x0, f.x1, f.y0, f.y1] x17)) != 0) then
      .ret (ra_Check (gt [f.x0, f.x1, f.y0, f.y1] x17))
    else
      .go (x17 + 1)
  else
    .out x17
def pc_Lines_Check (f : Ln) : Int :=
  fin (loopF (fun s => pc_Lines_Check_B1 f s) ((4 - 0) + 1) 0) (fun s => pc_Lines_Check_K1 f s) (fun r => r)
theorem pc_Lines_Check_ct (f : Ln) (zf : SzN 20 f) (w0 : World)  : Calls Tryz.prog 38 #[(.agg #[]), (vN f)] w0 (RetP w0 (.int .i64 (pc_Lines_Check f)) (True)) := by
  refine enter (N := 26) (args := [(.agg #[]), (vN f)]) Tryz.func38 rfl rfl ?_; intro ac h
  refine c_rs fun K1 hK1 => ?_
  refine bx h [] rfl rfl rfl ?_; clear h ac; intro b1 ac wo h
  refine bx h (cN f) rfl rfl rfl ?_; clear h ac wo; intro b2 ac wo h
  refine rd0 h (r_assign rfl (v := (.int .i64 0))) rfl ?_; clear h ac wo; intro ac wo h
  refine w_nil ?_
  refine hK1 _ _ ?_
  refine c_seq fun K2 hK2 => ?_
  refine c_rs fun K3 hK3 => ?_
  refine rd0 h (r_fa Tryz.runUnderlying42 rfl Tryz.sizeOf40 (by decide) rfl rfl (k' := 0)) rfl ?_; clear h ac wo; intro ac wo h
  refine rd1 h 0 rfl (r_ld Tryz.isAgg40 Tryz.sizeOf40 rfl rfl rfl (v := (vQ f.x0)) rfl) rfl ?_; clear h ac wo; intro ac wo h
  refine rd0 h (r_fa Tryz.runUnderlying42 rfl Tryz.sizeOf40 (by decide) rfl rfl (k' := 4)) rfl ?_; clear h ac wo; intro ac wo h
  refine rd1 h 0 rfl (r_ld Tryz.isAgg40 Tryz.sizeOf40 rfl rfl rfl (v := (vQ f.x1)) rfl) rfl ?_; clear h ac wo; intro ac wo h
  refine rd0 h (r_fa Tryz.runUnderlying42 rfl Tryz.sizeOf40 (by decide) rfl rfl (k' := 8)) rfl ?_; clear h ac wo; intro ac wo h
  refine rd1 h 0 rfl (r_ld Tryz.isAgg40 Tryz.sizeOf40 rfl rfl rfl (v := (vQ f.y0)) rfl) rfl ?_; clear h ac wo; intro ac wo h
  refine rd0 h (r_fa Tryz.runUnderlying42 rfl Tryz.sizeOf40 (by decide) rfl rfl (k' := 12)) rfl ?_; clear h ac wo; intro ac wo h
  refine rd1 h 0 rfl (r_ld Tryz.isAgg40 Tryz.sizeOf40 rfl rfl rfl (v := (vQ f.y1)) rfl) rfl ?_; clear h ac wo; intro ac wo h
  refine rd0 h (r_buildA (α := GQ) (xs := [.tmp 9, .tmp 11, .tmp 13, .tmp 15]) (vs := [(vQ f.x0), (vQ f.x1), (vQ f.y0), (vQ f.y1)]) [f.x0, f.x1, f.y0, f.y1] Tryz.zeroValue166 Tryz.runUnderlying166 Tryz.sizeOf40 rfl rfl rfl) rfl ?_; clear h ac wo; intro ac wo h
  refine rd0 h (r_move rfl (v := (.int .i64 0))) rfl ?_; clear h ac wo; intro ac wo h
  refine w_nil ?_
  refine hK3 _ _ ?_
  refine c_block ?_
  obtain ⟨X1, hX1⟩ : ∃ X, loopF (fun s => pc_Lines_Check_B1 f s) ((4 - 0) + 1) 0 = X := ⟨_, rfl⟩
  refine wp_loop_ghost (fun n_ a_ w_ => ∃ (x17 : Nat), ((4 - x17) < n_) ∧ (loopF (fun s => pc_Lines_Check_B1 f s) n_ x17 = X1) ∧ (x17 ≤ 4) ∧ St w0 26 [(16, (.agg (flat [f.x0, f.x1, f.y0, f.y1]).toArray)), (17, (.int .i64 ((x17 : Nat) : Int)))] [.blk b2 (cN f) 42, .blk b1 [] 43] a_ w_) ((4 - 0) + 1) ⟨0, (by omega), hX1, (by first | assumption | omega | (simp only [len_bif, Bool.cond_decide, Bool.cond_eq_ite, List.length_append, List.length_set, List.length_cons, List.length_nil, List.length_take, List.length_drop, List.length_replicate] at *; done) | (simp only [len_bif, Bool.cond_decide, Bool.cond_eq_ite, List.length_append, List.length_set, List.length_cons, List.length_nil, List.length_take, List.length_drop, List.length_replicate] at *; omega) | (simp only [len_bif, Bool.cond_decide, Bool.cond_eq_ite, List.length_append, List.length_set, List.length_cons, List.length_nil, List.length_take, List.length_drop, List.length_replicate]; omega)), (h.sub ⟨rfl, rfl, trivial⟩)⟩ ?_
  clear h ac wo; rintro n1 ac wo ⟨x17, hm1, hL1, hx17, h⟩
  obtain ⟨m1, rfl⟩ : ∃ m, n1 = m + 1 := ⟨n1 - 1, by omega⟩
  refine c_rs fun K4 hK4 => ?_
  refine rd0 h (r_lss rfl rfl) rfl ?_; clear h ac wo; intro ac wo h
  refine w_nil ?_
  refine hK4 _ _ ?_
  refine c_seq fun K5 hK5 => ?_
  refine c_if (b := (decide (((x17 : Nat) : Int) < 4))) h rfl (fun hc1 => ?_) (fun hc1 => ?_)
  · skip
    have hd1 := of_decide_eq_true hc1
    refine c_skip ?_
    refine hK5 _ _ ?_
    refine c_seq fun K6 hK6 => ?_
    refine c_block ?_
    refine c_rs fun K7 hK7 => ?_
    refine rd0 h (r_indexA (i := x17) (us := [f.x0, f.x1, f.y0, f.y1]) (u := (gt [f.x0, f.x1, f.y0, f.y1] x17)) Tryz.runUnderlying166 Tryz.sizeOf40 Tryz.isAgg40 rfl rfl (by first | assumption | omega | (simp only [len_bif, Bool.cond_decide, Bool.cond_eq_ite, List.length_append, List.length_set, List.length_cons, List.length_nil, List.length_take, List.length_drop, List.length_replicate] at *; done) | (simp only [len_bif, Bool.cond_decide, Bool.cond_eq_ite, List.length_append, List.length_set, List.length_cons, List.length_nil, List.length_take, List.length_drop, List.length_replicate] at *; omega) | (simp only [len_bif, Bool.cond_decide, Bool.cond_eq_ite, List.length_append, List.length_set, List.length_cons, List.length_nil, List.length_take, List.length_drop, List.length_replicate]; omega)) (get_gt (by simp; omega)) (v := (vQ (gt [f.x0, f.x1, f.y0, f.y1] x17))) rfl) rfl ?_; clear h ac wo; intro ac wo h
    refine al h (cQ (⟨(⟨false, 0⟩ : GI), (⟨false, 0⟩ : GI)⟩ : GQ)) Tryz.zeroValue40 rfl rfl ?_; clear h ac wo; intro b3 ac wo h
    refine st h 0 (cQ (gt [f.x0, f.x1, f.y0, f.y1] x17)) rfl Tryz.sizeOf40 rfl rfl rfl rfl rfl rfl rfl ?_; clear h ac wo; intro ac wo h
    refine w_nil ?_
    refine hK7 _ _ ?_
    refine c_rs fun K8 hK8 => ?_
    refine rd1 h 0 rfl (r_ld Tryz.isAgg40 Tryz.sizeOf40 rfl rfl rfl (v := (vQ (gt [f.x0, f.x1, f.y0, f.y1] x17))) rfl) rfl ?_; clear h ac wo; intro ac wo h
    refine c_val (vs := [(vQ (gt [f.x0, f.x1, f.y0, f.y1] x17))]) h (ent_f Tryz.call104 rfl) (fun w_ hB_ hS_ => ra_Check_ct (gt [f.x0, f.x1, f.y0, f.y1] x17) (SzQ_le (All.gt (All.cons zf.1 (All.cons zf.2.1 (All.cons zf.2.2.1 (All.cons zf.2.2.2 All.nil)))) (SzQ_d _)) (by omega)) w_ ) rfl ?_; clear h ac wo; intro ac wo h
    refine rd0 h (r_assign rfl) rfl ?_; clear h ac wo; intro ac wo h
    refine w_nil ?_
    refine hK8 _ _ ?_
    refine c_rs fun K9 hK9 => ?_
    refine rd0 h (r_move rfl) rfl ?_; clear h ac wo; intro ac wo h
    refine rd0 h (r_neq rfl rfl) rfl ?_; clear h ac wo; intro ac wo h
    refine w_nil ?_
    refine hK9 _ _ ?_
    refine c_if (b := ((ra_Check (gt [f.x0, f.x1, f.y0, f.y1] x17)) != 0)) h rfl (fun hc2 => ?_) (fun hc2 => ?_)
    · skip
      have hq2 := hc2; try simp only [Bool.and_eq_true, Bool.or_eq_true, Bool.and_eq_false_iff, Bool.or_eq_false_iff, decide_eq_true_eq, decide_eq_false_iff_not, beq_iff_eq, beq_eq_false_iff_ne, bne_iff_ne, bne_eq_false_iff_eq, Bool.true_and, Bool.not_eq_true', Bool.not_eq_false', ne_eq] at hq2
      refine c_rs fun K10 hK10 => ?_
      refine rd0 h (r_move rfl) rfl ?_; clear h ac wo; intro ac wo h
      refine rd0 h (r_assign rfl) rfl ?_; clear h ac wo; intro ac wo h
      refine w_nil ?_
      refine hK10 _ _ ?_
      refine c_ret ?_
      have hr1 := loop_ret hL1 (show pc_Lines_Check_B1 f x17 = .ret (ra_Check (gt [f.x0, f.x1, f.y0, f.y1] x17)) from (Eq.trans (cT hc1) (cT hc2)))
      have hd : pc_Lines_Check f = (ra_Check (gt [f.x0, f.x1, f.y0, f.y1] x17)) := (fin_r (hX1.trans hr1))
      exact ret (rs := [.tmp 4]) h rfl (.tmp rfl .nil) rfl (h.retP (by rw [hd] <;> rfl) trivial)
    · skip
      have hq2 := hc2; try simp only [Bool.and_eq_true, Bool.or_eq_true, Bool.and_eq_false_iff, Bool.or_eq_false_iff, decide_eq_true_eq, decide_eq_false_iff_not, beq_iff_eq, beq_eq_false_iff_ne, bne_iff_ne, bne_eq_false_iff_eq, Bool.true_and, Bool.not_eq_true', Bool.not_eq_false', ne_eq] at hq2
      refine c_skip ?_
      refine b_norm ?_
      refine hK6 _ _ ?_
      refine c_r ?_
      refine rd0 h (r_add rfl rfl (r := ((x17 + 1 : Nat) : Int)) (by rw [IntKind.wrap_i64]; first | omega | (simp only [len_bif, Bool.cond_decide, Bool.cond_eq_ite, List.length_append, List.length_set, List.length_cons, List.length_nil, List.length_take, List.length_drop, List.length_replicate] at *; omega))) rfl ?_; clear h ac wo; intro ac wo h
      refine rd0 h (r_move rfl) rfl ?_; clear h ac wo; intro ac wo h
      refine w_nil ?_
      exact next_round ⟨m1, (by omega), (x17 + 1), (by first | assumption | omega | (simp only [len_bif, Bool.cond_decide, Bool.cond_eq_ite, List.length_append, List.length_set, List.length_cons, List.length_nil, List.length_take, List.length_drop, List.length_replicate] at *; done) | (simp only [len_bif, Bool.cond_decide, Bool.cond_eq_ite, List.length_append, List.length_set, List.length_cons, List.length_nil, List.length_take, List.length_drop, List.length_replicate] at *; omega) | (simp only [len_bif, Bool.cond_decide, Bool.cond_eq_ite, List.length_append, List.length_set, List.length_cons, List.length_nil, List.length_take, List.length_drop, List.length_replicate]; omega)), loop_go hL1 (show pc_Lines_Check_B1 f x17 = .go (x17 + 1) from (Eq.trans (cT hc1) (cF hc2))), (by first | assumption | omega | (simp only [len_bif, Bool.cond_decide, Bool.cond_eq_ite, List.length_append, List.length_set, List.length_cons, List.length_nil, List.length_take, List.length_drop, List.length_replicate] at *; done) | (simp only [len_bif, Bool.cond_decide, Bool.cond_eq_ite, List.length_append, List.length_set, List.length_cons, List.length_nil, List.length_take, List.length_drop, List.length_replicate] at *; omega) | (simp only [len_bif, Bool.cond_decide, Bool.cond_eq_ite, List.length_append, List.length_set, List.length_cons, List.length_nil, List.length_take, List.length_drop, List.length_replicate]; omega)), (h.pick [1, 2] (by decide)).sub ⟨rfl, rfl, trivial⟩⟩
  · skip
    have hd1 := of_decide_eq_false hc1
    refine c_exit ?_
    have hx1 := loop_out hL1 (show pc_Lines_Check_B1 f x17 = .out x17 from (cF hc1))
    refine hK2 _ _ ?_
    refine c_rs fun K11 hK11 => ?_
    refine rd0 h (r_assign rfl (v := (.int .i64 0))) rfl ?_; clear h ac wo; intro ac wo h
    refine w_nil ?_
    refine hK11 _ _ ?_
    refine c_ret ?_
    have hd : pc_Lines_Check f = 0 := (fin_l (hX1.trans hx1))
    exact ret (rs := [.tmp 4]) h rfl (.tmp rfl .nil) rfl (h.retP (by rw [hd] <;> rfl) trivial)
attribute [irreducible] pc_Lines_Check
end Go.Sx
