/- A part of the proof that the law BracketQuestions/Checks answers true at every input and leaves its arguments as they were. -/
import Derived.Test.YtbnldpccdppmiaaGreatDoorKn6
set_option linter.unusedVariables false
set_option linter.unusedSimpArgs false
open Go.Proofs.Tryz renaming runUnderlying28 → uu28, sizeOf26 → zz26, isAgg26 → aa26, call39 → cc39
namespace Go.Sx
open Go Go.RowKit Go.Proofs
set_option maxRecDepth 100000
set_option maxHeartbeats 40000000
theorem slt122 : SlT Tryz.prog 122 43 1 8 [.int .i64 0] := ⟨Tryz.underlying122, Tryz.t43, _, Tryz.type43, rfl, rfl, rfl, rfl, rfl, by decide, by decide⟩
theorem d3 (t_0 : List Iv) (t_0v : Value) (t_1 : List Iv) (t_1v : Value) (t_2 : List Iv) (t_2v : Value) (ct_0 : Wl t_0) (ct_1 : Wl t_1) (ct_2 : Wl t_2) (w0 : World) (ht_0v : View w0 t_0v t_0) (ht_1v : View w0 t_1v t_1) (ht_2v : View w0 t_2v t_2) : Calls Tryz.prog 40 #[(.agg #[t_0v, t_1v, t_2v])] w0 (RetP w0 (.int .i64 (cK t_0 t_1 t_2)) True) := by
  refine enter (N := 32) (args := [(.agg #[t_0v, t_1v, t_2v])]) Tryz.func40 rfl rfl ?_; intro ac h
  have is_t_0 := SL.is ht_0v.sl
  have is_t_1 := SL.is ht_1v.sl
  have is_t_2 := SL.is ht_2v.sl
  refine bB fun K1 hK1 => ?_
  refine bx h [t_0v, t_1v, t_2v] rfl rfl rfl ?_; clear h ac; intro b1 ac wo h
  refine rd0 h (ah rfl (v := (.int .i64 0))) rfl ?_; clear h ac wo; intro ac wo h
  refine aE ?_
  refine hK1 _ _ ?_
  refine bP fun K2 hK2 => ?_
  refine bP fun K3 hK3 => ?_
  replace h := h.emps 1
  refine hO [0, 1, 3, 0, 8, 31, 0, 64, 255, 511, 1023, 2047] (by kernel_rfl) mixed [⟨.det (ptr b1 0), []⟩, ⟨.det t_0v, [0]⟩, ⟨.det (.int .i64 (aH t_0)), []⟩, ⟨.det (ptr b1 1), []⟩, ⟨.det t_1v, [0]⟩, ⟨.det (.int .i64 (aH t_1)), []⟩, ⟨.det (ptr b1 2), []⟩, ⟨.det t_2v, [0]⟩, ⟨.det (.int .i64 (aH t_2)), []⟩, ⟨.nd (.one 9 fun v => NN v 3), [1]⟩, ⟨.det (.int .i64 (dP ([(aH t_0), (aH t_1), (aH t_2)]))), [1]⟩, ⟨.det (.int .i64 (dP ([(aH t_0), (aH t_1), (aH t_2)]))), []⟩] [⟨.blk b1 [t_0v, t_1v, t_2v] 28, []⟩, ⟨.emp, [(9, .one 9 fun v => .row (α := Int) 43 (v) ([(aH t_0), (aH t_1), (aH t_2)]))]⟩] h rfl (by kernel_rfl) ⟨?_, ?_, ?_, ?_, ?_, ?_, ?_, ?_, ?_, ?_, ?_, ?_, trivial⟩ ?_
  · intro ξ hφ; exact obI (ay (eN uu28 rfl zz26 (by decide) rfl rfl (k' := 0)))
  · intro ξ hφ; exact obI (bT [.blk b1 [t_0v, t_1v, t_2v] 28] rfl rfl (aZ aa26 zz26 rfl rfl rfl (v := t_0v) rfl))
  · intro ξ hφ; exact obI (dY (df (vs := [t_0v]) (bh cc39 rfl) (fun w_ hB_ hS_ => fM t_0 t_0v ct_0 w_ (ht_0v.below hB_))))
  · intro ξ hφ; exact obI (ay (eN uu28 rfl zz26 (by decide) rfl rfl (k' := 1)))
  · intro ξ hφ; exact obI (bT [.blk b1 [t_0v, t_1v, t_2v] 28] rfl rfl (aZ aa26 zz26 rfl rfl rfl (v := t_1v) rfl))
  · intro ξ hφ; exact obI (dY (df (vs := [t_1v]) (bh cc39 rfl) (fun w_ hB_ hS_ => fM t_1 t_1v ct_1 w_ (ht_1v.below hB_))))
  · intro ξ hφ; exact obI (ay (eN uu28 rfl zz26 (by decide) rfl rfl (k' := 2)))
  · intro ξ hφ; exact obI (bT [.blk b1 [t_0v, t_1v, t_2v] 28] rfl rfl (aZ aa26 zz26 rfl rfl rfl (v := t_2v) rfl))
  · intro ξ hφ; exact obI (dY (df (vs := [t_2v]) (bh cc39 rfl) (fun w_ hB_ hS_ => fM t_2 t_2v ct_2 w_ (ht_2v.below hB_))))
  · intro ξ hφ; exact obI (ij (ψ := fun v => NN v 3) (B := fun v => [.row (α := Int) 43 v ([(aH t_0), (aH t_1), (aH t_2)])]) [.emp] rfl (fun v _ => by simp only [dO, aS] <;> rfl) (fun v hv => by simpa [DF.one, aS] using hv) (fU (dg (α := Int) (xs := [.tmp 6, .tmp 9, .tmp 12]) (vs := [(.int .i64 (aH t_0)), (.int .i64 (aH t_1)), (.int .i64 (aH t_2))]) [(aH t_0), (aH t_1), (aH t_2)] slt122 rfl rfl rfl (by decide))))
  · intro ξ hφ; have is9 : d4 (ξ 9) := NN.isl (hφ 9 rfl); exact obI (es [.row (α := Int) 43 (ξ 9) ([(aH t_0), (aH t_1), (aH t_2)])] [.row (α := Int) 43 (ξ 9) ([(aH t_0), (aH t_1), (aH t_2)])] rfl rfl (df (vs := [(ξ 9)]) (bh Tryz.call66 rfl) (fun w_ hB_ hS_ => kK ([(aH t_0), (aH t_1), (aH t_2)]) (ξ 9) w_ (row_view hS_ 0 rfl))))
  · intro ξ hφ; exact obI (ay (ah rfl))
  clear h ac wo; intro ξ ac wo hφ h
  have is9 : d4 (ξ 9) := NN.isl (hφ 9)
  replace h : St w0 32 [(1, (ptr b1 0)), (3, (.int .i64 (dP ([(aH t_0), (aH t_1), (aH t_2)]))))] [.blk b1 [t_0v, t_1v, t_2v] 28] ac wo := (h.pick [0] (by decide)).sub ⟨rfl, rfl, trivial⟩
  refine hK3 _ _ ?_
  refine bB fun K4 hK4 => ?_
  refine rd0 h (aj rfl) rfl ?_; clear h ac wo; intro ac wo h
  refine rd0 h (gw rfl rfl) rfl ?_; clear h ac wo; intro ac wo h
  refine aE ?_
  refine hK4 _ _ ?_
  refine c8 (b := ((dP ([(aH t_0), (aH t_1), (aH t_2)])) != 0)) h rfl (fun hc1 => ?_) (fun hc1 => ?_)
  · skip
    have hq1 := hc1; try simp only [Bool.and_eq_true, Bool.or_eq_true, Bool.and_eq_false_iff, Bool.or_eq_false_iff, decide_eq_true_eq, decide_eq_false_iff_not, beq_iff_eq, beq_eq_false_iff_ne, bne_iff_ne, bne_eq_false_iff_eq, Bool.true_and, Bool.not_eq_true', Bool.not_eq_false', ne_eq] at hq1
    refine bB fun K5 hK5 => ?_
    refine rd0 h (aj rfl) rfl ?_; clear h ac wo; intro ac wo h
    refine rd0 h (ah rfl) rfl ?_; clear h ac wo; intro ac wo h
    refine aE ?_
    refine hK5 _ _ ?_
    refine cr ?_
    exact ret (rs := [.tmp 2]) h rfl (.tmp rfl .nil) rfl (h.retP (by unfold cK; rw [hc1]; rfl) trivial)
  · skip
    have hq1 := hc1; try simp only [Bool.and_eq_true, Bool.or_eq_true, Bool.and_eq_false_iff, Bool.or_eq_false_iff, decide_eq_true_eq, decide_eq_false_iff_not, beq_iff_eq, beq_eq_false_iff_ne, bne_iff_ne, bne_eq_false_iff_eq, Bool.true_and, Bool.not_eq_true', Bool.not_eq_false', ne_eq] at hq1
    refine bR ?_
    refine hK2 _ _ ?_
    refine bP fun K6 hK6 => ?_
    refine bB fun K7 hK7 => ?_
    refine rd0 h (eN uu28 rfl zz26 (by decide) rfl rfl (k' := 2)) rfl ?_; clear h ac wo; intro ac wo h
    refine rd1 h 0 rfl (aZ aa26 zz26 rfl rfl rfl (v := t_2v) rfl) rfl ?_; clear h ac wo; intro ac wo h
    refine rd0 h (eN uu28 rfl zz26 (by decide) rfl rfl (k' := 1)) rfl ?_; clear h ac wo; intro ac wo h
    refine rd1 h 0 rfl (aZ aa26 zz26 rfl rfl rfl (v := t_1v) rfl) rfl ?_; clear h ac wo; intro ac wo h
    refine dQ (vs := [t_2v, t_1v]) h (bh Tryz.call41 rfl) (fun w_ hB_ hS_ => gM t_2 t_2v t_1 t_1v ct_2 ct_1 w_ (ht_2v.below hB_) (ht_1v.below hB_)) rfl ?_; clear h ac wo; intro ac wo h
    refine rd0 h (eU rfl) rfl ?_; clear h ac wo; intro ac wo h
    refine rd0 h (aj rfl) rfl ?_; clear h ac wo; intro ac wo h
    refine gd (j := 6) (c := true) (b := (!(aT t_2 t_1))) (g := (!(!(aT t_2 t_1)))) h rfl rfl g_f (fun hg => (Rd.of_nil (eN uu28 rfl zz26 (by decide) rfl rfl (k' := 0))).step) rfl ?_; clear h ac wo; intro ac wo h
    refine gd (j := 6) (c := true) (b := (!(aT t_2 t_1))) (g := (!(!(aT t_2 t_1)))) h rfl rfl g_f (fun hg => (Rd.of_mem (i := 0) (aZ aa26 zz26 (bo rfl hg) rfl rfl (v := t_0v) rfl) rfl).step) rfl ?_; clear h ac wo; intro ac wo h
    refine gd (j := 6) (c := true) (b := (!(aT t_2 t_1))) (g := (!(!(aT t_2 t_1)))) h rfl rfl g_f (fun hg => (Rd.of_nil (eN uu28 rfl zz26 (by decide) rfl rfl (k' := 2))).step) rfl ?_; clear h ac wo; intro ac wo h
    refine gd (j := 6) (c := true) (b := (!(aT t_2 t_1))) (g := (!(!(aT t_2 t_1)))) h rfl rfl g_f (fun hg => (Rd.of_mem (i := 0) (aZ aa26 zz26 (bo rfl hg) rfl rfl (v := t_2v) rfl) rfl).step) rfl ?_; clear h ac wo; intro ac wo h
    refine gd (j := 6) (c := true) (b := (!(aT t_2 t_1))) (g := (!(!(aT t_2 t_1)))) h rfl rfl g_f (fun hg => df (vs := [t_0v, t_2v]) (bh Tryz.call41 (en (bo rfl hg) (en (bo rfl hg) rfl))) (fun w_ hB_ hS_ => gM t_0 t_0v t_2 t_2v ct_0 ct_2 w_ (ht_0v.below hB_) (ht_2v.below hB_))) rfl ?_; clear h ac wo; intro ac wo h
    refine gd (j := 6) (c := true) (b := (!(aT t_2 t_1))) (g := (!(!(aT t_2 t_1)))) h rfl rfl g_f (fun hg => (Rd.of_nil (eU (bo rfl hg))).step) rfl ?_; clear h ac wo; intro ac wo h
    refine rd0 h (mM rfl (fun e => (bo rfl (mO e)))) rfl ?_; clear h ac wo; intro ac wo h
    refine aE ?_
    refine hK7 _ _ ?_
    replace h := h.sub (F' := [(31, (.bool ((!(aT t_2 t_1)) || (!(aT t_0 t_2)))))]) ⟨rfl, trivial⟩
    refine c8 (b := ((!(aT t_2 t_1)) || (!(aT t_0 t_2)))) h rfl (fun hc2 => ?_) (fun hc2 => ?_)
    · skip
      have hq2 := hc2; try simp only [Bool.and_eq_true, Bool.or_eq_true, Bool.and_eq_false_iff, Bool.or_eq_false_iff, decide_eq_true_eq, decide_eq_false_iff_not, beq_iff_eq, beq_eq_false_iff_ne, bne_iff_ne, bne_eq_false_iff_eq, Bool.true_and, Bool.not_eq_true', Bool.not_eq_false', ne_eq] at hq2
      refine bB fun K8 hK8 => ?_
      refine rd0 h (ah rfl (v := (.int .i64 2))) rfl ?_; clear h ac wo; intro ac wo h
      refine aE ?_
      refine hK8 _ _ ?_
      refine cr ?_
      exact ret (rs := [.tmp 2]) h rfl (.tmp rfl .nil) rfl (h.retP (by unfold cK; rw [hc1, hc2]; rfl) trivial)
    · skip
      have hq2 := hc2; try simp only [Bool.and_eq_true, Bool.or_eq_true, Bool.and_eq_false_iff, Bool.or_eq_false_iff, decide_eq_true_eq, decide_eq_false_iff_not, beq_iff_eq, beq_eq_false_iff_ne, bne_iff_ne, bne_eq_false_iff_eq, Bool.true_and, Bool.not_eq_true', Bool.not_eq_false', ne_eq] at hq2
      refine bR ?_
      refine hK6 _ _ ?_
      refine bB fun K9 hK9 => ?_
      refine rd0 h (ah rfl (v := (.int .i64 0))) rfl ?_; clear h ac wo; intro ac wo h
      refine aE ?_
      refine hK9 _ _ ?_
      refine cr ?_
      exact ret (rs := [.tmp 2]) h rfl (.tmp rfl .nil) rfl (h.retP (by unfold cK; rw [hc1, hc2]; rfl) trivial)
end Go.Sx
