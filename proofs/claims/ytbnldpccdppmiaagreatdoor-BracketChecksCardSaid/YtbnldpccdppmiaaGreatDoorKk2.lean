/- A part of the proof that the law BracketQuestions/Checks answers true at every input and leaves its arguments as they were. -/
import Derived.Test.YtbnldpccdppmiaaGreatDoorKk1
set_option linter.unusedVariables false
set_option linter.unusedSimpArgs false
open Go.Proofs.Tryz renaming runUnderlying26 → uu26, sizeOf66 → zz66, isAgg66 → aa66, zeroValue66 → vv66, runUnderlying66 → uu66, sizeOf64 → zz64, runUnderlying122 → uu122
namespace Go.Sx
open Go Go.RowKit Go.Proofs
set_option maxRecDepth 100000
set_option maxHeartbeats 40000000
attribute [local irreducible] aY bS an aI aM d7
def kv (p : List Iv) (x10 : Nat) : Int :=
  0
def cB (p : List Iv) (x10 : Nat) : Nx Nat Int :=
  bif (decide (((x10 : Nat) : Int) < ((p.length : Nat) : Int))) then
    bif ((bN (gt p x10)) != 0) then
      .ret (bN (gt p x10))
    else
      bif ((((x10 : Nat) : Int)) == (((0 : Nat) : Int))) then
        .go (x10 + 1)
      else
        bif ((decide ((aY ((gt p x10).lo) ((gt p (x10 - 1)).hi)) < 0)) || (decide ((aQ (ao (gt p (x10 - 1))) (am (gt p x10))) > 0))) then
          .ret 11
        else
          bif ((aQ (ao (gt p (x10 - 1))) (am (gt p x10))) == 0) then
            .ret 5
          else
            .go (x10 + 1)
  else
    .out x10
def aH (p : List Iv) : Int :=
  fin (cd (fun s => cB p s) ((p.length - 0) + 1) 0) (fun s => kv p s) (fun r => r)
theorem ku (p : List Iv) (pv : Value) (hl : p.length ≤ 1000) (hv : ∀ j, RtV (gt p j)) (zp : All (SzV 30) p) (w0 : World) (hpv : View w0 pv p) : Calls Tryz.prog 39 #[pv] w0 (RetP w0 (.int .i64 (aH p)) (True)) := by
  refine enter (N := 47) (args := [pv]) Tryz.func39 rfl rfl ?_; intro ac h
  have hlenp := hpv.len
  refine bB fun K1 hK1 => ?_
  refine rd0 h (ah rfl (v := (.int .i64 0))) rfl ?_; clear h ac; intro ac wo h
  refine aE ?_
  refine hK1 _ _ ?_
  refine bP fun K2 hK2 => ?_
  refine bB fun K3 hK3 => ?_
  refine rd0 h (aj rfl) rfl ?_; clear h ac wo; intro ac wo h
  refine rd0 h (dx uu26 rfl hpv.sl) rfl ?_; clear h ac wo; intro ac wo h
  refine rd0 h (aj rfl (v := (.int .i64 0))) rfl ?_; clear h ac wo; intro ac wo h
  refine aE ?_
  refine hK3 _ _ ?_
  refine dm ?_
  obtain ⟨X1, hX1⟩ : ∃ X, cd (fun s => cB p s) ((p.length - 0) + 1) 0 = X := ⟨_, rfl⟩
  refine wp_loop_ghost (fun n_ a_ w_ => ∃ (x10 : Nat), ((p.length - x10) < n_) ∧ (cd (fun s => cB p s) n_ x10 = X1) ∧ (x10 ≤ p.length) ∧ St w0 47 [(0, pv), (8, pv), (9, (.int .i64 ((p.length : Nat) : Int))), (10, (.int .i64 ((x10 : Nat) : Int)))] [] a_ w_) ((p.length - 0) + 1) ⟨0, (by omega), hX1, (by first | assumption | omega | (simp only [aq, Bool.cond_decide, Bool.cond_eq_ite, List.length_append, List.length_set, List.length_cons, List.length_nil, List.length_take, List.length_drop, List.length_replicate] at *; done) | (simp only [aq, Bool.cond_decide, Bool.cond_eq_ite, List.length_append, List.length_set, List.length_cons, List.length_nil, List.length_take, List.length_drop, List.length_replicate] at *; omega) | (simp only [aq, Bool.cond_decide, Bool.cond_eq_ite, List.length_append, List.length_set, List.length_cons, List.length_nil, List.length_take, List.length_drop, List.length_replicate]; omega)), (h.sub ⟨rfl, rfl, rfl, rfl, trivial⟩)⟩ ?_
  clear h ac wo; rintro n1 ac wo ⟨x10, hm1, hL1, hx10, h⟩
  obtain ⟨m1, rfl⟩ : ∃ m, n1 = m + 1 := ⟨n1 - 1, by omega⟩
  refine bB fun K4 hK4 => ?_
  refine rd0 h (dr rfl rfl) rfl ?_; clear h ac wo; intro ac wo h
  refine aE ?_
  refine hK4 _ _ ?_
  refine bP fun K5 hK5 => ?_
  refine c8 (b := (decide (((x10 : Nat) : Int) < ((p.length : Nat) : Int)))) h rfl (fun hc1 => ?_) (fun hc1 => ?_)
  · skip
    have hd1 := of_decide_eq_true hc1
    refine bR ?_
    refine hK5 _ _ ?_
    refine bP fun K6 hK6 => ?_
    refine dm ?_
    refine bB fun K7 hK7 => ?_
    refine rd0 h (aj rfl) rfl ?_; clear h ac wo; intro ac wo h
    refine rd0 h (ep (i := x10) uu26 zz66 rfl rfl (hpv.nn (i := x10) (by first | assumption | omega | (simp only [aq, Bool.cond_decide, Bool.cond_eq_ite, List.length_append, List.length_set, List.length_cons, List.length_nil, List.length_take, List.length_drop, List.length_replicate] at *; done) | (simp only [aq, Bool.cond_decide, Bool.cond_eq_ite, List.length_append, List.length_set, List.length_cons, List.length_nil, List.length_take, List.length_drop, List.length_replicate] at *; omega) | (simp only [aq, Bool.cond_decide, Bool.cond_eq_ite, List.length_append, List.length_set, List.length_cons, List.length_nil, List.length_take, List.length_drop, List.length_replicate]; omega))) (by first | assumption | omega | (simp only [aq, Bool.cond_decide, Bool.cond_eq_ite, List.length_append, List.length_set, List.length_cons, List.length_nil, List.length_take, List.length_drop, List.length_replicate] at *; done) | (simp only [aq, Bool.cond_decide, Bool.cond_eq_ite, List.length_append, List.length_set, List.length_cons, List.length_nil, List.length_take, List.length_drop, List.length_replicate] at *; omega) | (simp only [aq, Bool.cond_decide, Bool.cond_eq_ite, List.length_append, List.length_set, List.length_cons, List.length_nil, List.length_take, List.length_drop, List.length_replicate]; omega))) rfl ?_; clear h ac wo; intro ac wo h
    refine rd0 h (iK (k := 0) aa66 zz66 hpv (ec (by first | assumption | omega | (simp only [aq, Bool.cond_decide, Bool.cond_eq_ite, List.length_append, List.length_set, List.length_cons, List.length_nil, List.length_take, List.length_drop, List.length_replicate] at *; done) | (simp only [aq, Bool.cond_decide, Bool.cond_eq_ite, List.length_append, List.length_set, List.length_cons, List.length_nil, List.length_take, List.length_drop, List.length_replicate] at *; omega) | (simp only [aq, Bool.cond_decide, Bool.cond_eq_ite, List.length_append, List.length_set, List.length_cons, List.length_nil, List.length_take, List.length_drop, List.length_replicate]; omega))) rfl (Nat.add_zero _) rfl rfl (v := (vV (gt p x10))) rfl) rfl ?_; clear h ac wo; intro ac wo h
    refine al h (cV (⟨(⟨(⟨(⟨false, 0⟩ : GI), (⟨false, 0⟩ : GI)⟩ : GQ), (⟨(⟨false, 0⟩ : GI), (⟨false, 0⟩ : GI)⟩ : GQ), false⟩ : GR), (⟨(⟨(⟨false, 0⟩ : GI), (⟨false, 0⟩ : GI)⟩ : GQ), (⟨(⟨false, 0⟩ : GI), (⟨false, 0⟩ : GI)⟩ : GQ), false⟩ : GR), false, false⟩ : Iv)) vv66 rfl rfl ?_; clear h ac wo; intro b1 ac wo h
    refine rd0 h (ah rfl) rfl ?_; clear h ac wo; intro ac wo h
    refine st h 0 (cV (gt p x10)) rfl zz66 rfl rfl rfl rfl rfl rfl rfl ?_; clear h ac wo; intro ac wo h
    refine aE ?_
    refine hK7 _ _ ?_
    refine bP fun K8 hK8 => ?_
    refine bB fun K9 hK9 => ?_
    refine rd1 h 0 rfl (aZ aa66 zz66 rfl rfl rfl (v := (vV (gt p x10))) rfl) rfl ?_; clear h ac wo; intro ac wo h
    refine dQ (vs := [(vV (gt p x10))]) h (bh Tryz.call61 rfl) (fun w_ hB_ hS_ => ii (gt p x10) (hv _) (All.gt zp (eC _)) w_ ) rfl ?_; clear h ac wo; intro ac wo h
    refine rd0 h (ah rfl) rfl ?_; clear h ac wo; intro ac wo h
    refine aE ?_
    refine hK9 _ _ ?_
    refine bB fun K10 hK10 => ?_
    refine rd0 h (aj rfl) rfl ?_; clear h ac wo; intro ac wo h
    refine rd0 h (gw rfl rfl) rfl ?_; clear h ac wo; intro ac wo h
    refine aE ?_
    refine hK10 _ _ ?_
    refine c8 (b := ((bN (gt p x10)) != 0)) h rfl (fun hc2 => ?_) (fun hc2 => ?_)
    · skip
      have hq2 := hc2; try simp only [Bool.and_eq_true, Bool.or_eq_true, Bool.and_eq_false_iff, Bool.or_eq_false_iff, decide_eq_true_eq, decide_eq_false_iff_not, beq_iff_eq, beq_eq_false_iff_ne, bne_iff_ne, bne_eq_false_iff_eq, Bool.true_and, Bool.not_eq_true', Bool.not_eq_false', ne_eq] at hq2
      refine bB fun K11 hK11 => ?_
      refine rd0 h (aj rfl) rfl ?_; clear h ac wo; intro ac wo h
      refine rd0 h (ah rfl) rfl ?_; clear h ac wo; intro ac wo h
      refine aE ?_
      refine hK11 _ _ ?_
      replace h := h.sub (F' := [(2, (.int .i64 (bN (gt p x10))))]) ⟨rfl, trivial⟩
      refine cr ?_
      have hr1 := i4 hL1 (show cB p x10 = .ret (bN (gt p x10)) from (Eq.trans (cT hc1) (cT hc2)))
      have hd : aH p = (bN (gt p x10)) := (mX (hX1.trans hr1))
      exact ret (rs := [.tmp 2]) h rfl (.tmp rfl .nil) rfl (h.retP (by rw [hd] <;> rfl) trivial)
    · skip
      have hq2 := hc2; try simp only [Bool.and_eq_true, Bool.or_eq_true, Bool.and_eq_false_iff, Bool.or_eq_false_iff, decide_eq_true_eq, decide_eq_false_iff_not, beq_iff_eq, beq_eq_false_iff_ne, bne_iff_ne, bne_eq_false_iff_eq, Bool.true_and, Bool.not_eq_true', Bool.not_eq_false', ne_eq] at hq2
      refine bR ?_
      refine hK8 _ _ ?_
      refine bP fun K12 hK12 => ?_
      refine bB fun K13 hK13 => ?_
      refine rd0 h (aj rfl) rfl ?_; clear h ac wo; intro ac wo h
      refine rd0 h (dV rfl rfl (m := ((x10 : Nat) : Int)) (n := ((0 : Nat) : Int))) rfl ?_; clear h ac wo; intro ac wo h
      refine aE ?_
      refine hK13 _ _ ?_
      refine c8 (b := ((((x10 : Nat) : Int)) == (((0 : Nat) : Int)))) h rfl (fun hc3 => ?_) (fun hc3 => ?_)
      · skip
        have hd3 := eq_of_beq hc3
        refine dW ?_
        refine hK6 _ _ ?_
        refine c_r ?_
        refine rd0 h (bO rfl rfl (r := ((x10 + 1 : Nat) : Int)) (by rw [IntKind.wrap_i64]; first | omega | (simp only [aq, Bool.cond_decide, Bool.cond_eq_ite, List.length_append, List.length_set, List.length_cons, List.length_nil, List.length_take, List.length_drop, List.length_replicate] at *; omega))) rfl ?_; clear h ac wo; intro ac wo h
        refine rd0 h (aj rfl) rfl ?_; clear h ac wo; intro ac wo h
        refine aE ?_
        exact aR ⟨m1, (by omega), (x10 + 1), (by first | assumption | omega | (simp only [aq, Bool.cond_decide, Bool.cond_eq_ite, List.length_append, List.length_set, List.length_cons, List.length_nil, List.length_take, List.length_drop, List.length_replicate] at *; done) | (simp only [aq, Bool.cond_decide, Bool.cond_eq_ite, List.length_append, List.length_set, List.length_cons, List.length_nil, List.length_take, List.length_drop, List.length_replicate] at *; omega) | (simp only [aq, Bool.cond_decide, Bool.cond_eq_ite, List.length_append, List.length_set, List.length_cons, List.length_nil, List.length_take, List.length_drop, List.length_replicate]; omega)), cC hL1 (show cB p x10 = .go (x10 + 1) from (Eq.trans (cT hc1) (Eq.trans (cF hc2) (cT hc3)))), (by first | assumption | omega | (simp only [aq, Bool.cond_decide, Bool.cond_eq_ite, List.length_append, List.length_set, List.length_cons, List.length_nil, List.length_take, List.length_drop, List.length_replicate] at *; done) | (simp only [aq, Bool.cond_decide, Bool.cond_eq_ite, List.length_append, List.length_set, List.length_cons, List.length_nil, List.length_take, List.length_drop, List.length_replicate] at *; omega) | (simp only [aq, Bool.cond_decide, Bool.cond_eq_ite, List.length_append, List.length_set, List.length_cons, List.length_nil, List.length_take, List.length_drop, List.length_replicate]; omega)), (h.pick [] (by decide)).sub ⟨rfl, rfl, rfl, rfl, trivial⟩⟩
      · skip
        have hd3 := ne_of_beq_false hc3
        refine bR ?_
        refine hK12 _ _ ?_
        refine bB fun K14 hK14 => ?_
        refine rd0 h (aj rfl) rfl ?_; clear h ac wo; intro ac wo h
        refine rd0 h (aj rfl) rfl ?_; clear h ac wo; intro ac wo h
        refine rd0 h (eI rfl rfl (r := (((x10 - 1) : Nat) : Int)) (by rw [IntKind.wrap_i64]; first | omega | (simp only [aq, Bool.cond_decide, Bool.cond_eq_ite, List.length_append, List.length_set, List.length_cons, List.length_nil, List.length_take, List.length_drop, List.length_replicate] at *; omega))) rfl ?_; clear h ac wo; intro ac wo h
        refine rd0 h (ep (i := (x10 - 1)) uu26 zz66 rfl rfl (hpv.nn (i := (x10 - 1)) (by first | assumption | omega | (simp only [aq, Bool.cond_decide, Bool.cond_eq_ite, List.length_append, List.length_set, List.length_cons, List.length_nil, List.length_take, List.length_drop, List.length_replicate] at *; done) | (simp only [aq, Bool.cond_decide, Bool.cond_eq_ite, List.length_append, List.length_set, List.length_cons, List.length_nil, List.length_take, List.length_drop, List.length_replicate] at *; omega) | (simp only [aq, Bool.cond_decide, Bool.cond_eq_ite, List.length_append, List.length_set, List.length_cons, List.length_nil, List.length_take, List.length_drop, List.length_replicate]; omega))) (by first | assumption | omega | (simp only [aq, Bool.cond_decide, Bool.cond_eq_ite, List.length_append, List.length_set, List.length_cons, List.length_nil, List.length_take, List.length_drop, List.length_replicate] at *; done) | (simp only [aq, Bool.cond_decide, Bool.cond_eq_ite, List.length_append, List.length_set, List.length_cons, List.length_nil, List.length_take, List.length_drop, List.length_replicate] at *; omega) | (simp only [aq, Bool.cond_decide, Bool.cond_eq_ite, List.length_append, List.length_set, List.length_cons, List.length_nil, List.length_take, List.length_drop, List.length_replicate]; omega))) rfl ?_; clear h ac wo; intro ac wo h
        refine rd0 h (iK (k := 0) aa66 zz66 hpv (ec (by first | assumption | omega | (simp only [aq, Bool.cond_decide, Bool.cond_eq_ite, List.length_append, List.length_set, List.length_cons, List.length_nil, List.length_take, List.length_drop, List.length_replicate] at *; done) | (simp only [aq, Bool.cond_decide, Bool.cond_eq_ite, List.length_append, List.length_set, List.length_cons, List.length_nil, List.length_take, List.length_drop, List.length_replicate] at *; omega) | (simp only [aq, Bool.cond_decide, Bool.cond_eq_ite, List.length_append, List.length_set, List.length_cons, List.length_nil, List.length_take, List.length_drop, List.length_replicate]; omega))) rfl (Nat.add_zero _) rfl rfl (v := (vV (gt p (x10 - 1)))) rfl) rfl ?_; clear h ac wo; intro ac wo h
        refine al h (cV (⟨(⟨(⟨(⟨false, 0⟩ : GI), (⟨false, 0⟩ : GI)⟩ : GQ), (⟨(⟨false, 0⟩ : GI), (⟨false, 0⟩ : GI)⟩ : GQ), false⟩ : GR), (⟨(⟨(⟨false, 0⟩ : GI), (⟨false, 0⟩ : GI)⟩ : GQ), (⟨(⟨false, 0⟩ : GI), (⟨false, 0⟩ : GI)⟩ : GQ), false⟩ : GR), false, false⟩ : Iv)) vv66 rfl rfl ?_; clear h ac wo; intro b2 ac wo h
        refine st h 0 (cV (gt p (x10 - 1))) rfl zz66 rfl rfl rfl rfl rfl rfl rfl ?_; clear h ac wo; intro ac wo h
        refine aE ?_
        refine hK14 _ _ ?_
        replace h := h.sub (F' := [(0, pv), (8, pv), (9, (.int .i64 ((p.length : Nat) : Int))), (10, (.int .i64 ((x10 : Nat) : Int))), (4, (ptr b1 0)), (6, (ptr b2 0))]) ⟨rfl, rfl, rfl, rfl, rfl, rfl, trivial⟩
        refine bP fun K15 hK15 => ?_
        have s1 := Calls.pr ((fun w_ hB_ hS_ => bV (gt p (x10 - 1)) (All.gt zp (eC _)) w_ ) _ h.bel h.sep)
        have s2 := Calls.pr ((fun w_ hB_ hS_ => bQ (gt p x10) (All.gt zp (eC _)) w_ ) _ h.bel h.sep)
        have s3 := Calls.pr ((fun w_ hB_ hS_ => ch (ao (gt p (x10 - 1))) (am (gt p x10)) s1 s2 w_ ) _ h.bel h.sep)
        have p4 := s3
        refine dc mixed [⟨.det (vV (gt p (x10 - 1))), [0]⟩, ⟨.det (vW (ao (gt p (x10 - 1)))), []⟩, ⟨.det (vV (gt p x10)), [1]⟩, ⟨.det (vW (am (gt p x10))), []⟩, ⟨.det (.int .i64 (aQ (ao (gt p (x10 - 1))) (am (gt p x10)))), []⟩, ⟨.det (.int .i64 (aQ (ao (gt p (x10 - 1))) (am (gt p x10)))), []⟩] [⟨.blk b2 (cV (gt p (x10 - 1))) 66, []⟩, ⟨.blk b1 (cV (gt p x10)) 66, []⟩] h rfl (by kernel_rfl) ⟨?_, ?_, ?_, ?_, ?_, ?_, trivial⟩ ?_
        · intro ξ hφ; exact bT [.blk b2 (cV (gt p (x10 - 1))) 66] rfl rfl (aZ aa66 zz66 rfl rfl rfl (v := (vV (gt p (x10 - 1)))) rfl)
        · intro ξ hφ; exact dY (df (vs := [(vV (gt p (x10 - 1)))]) (bh Tryz.call63 rfl) (fun w_ hB_ hS_ => bV (gt p (x10 - 1)) (All.gt zp (eC _)) w_ ))
        · intro ξ hφ; exact bT [.blk b1 (cV (gt p x10)) 66] rfl rfl (aZ aa66 zz66 rfl rfl rfl (v := (vV (gt p x10))) rfl)
        · intro ξ hφ; exact dY (df (vs := [(vV (gt p x10))]) (bh Tryz.call64 rfl) (fun w_ hB_ hS_ => bQ (gt p x10) (All.gt zp (eC _)) w_ ))
        · intro ξ hφ; exact dY (df (vs := [(vW (ao (gt p (x10 - 1)))), (vW (am (gt p x10)))]) (bh Tryz.call62 rfl) (fun w_ hB_ hS_ => ch (ao (gt p (x10 - 1))) (am (gt p x10)) s1 s2 w_ ))
        · intro ξ hφ; exact ay (ah rfl)
        clear h ac wo; intro ξ ac wo hφ h
        replace h : St w0 47 [(0, pv), (8, pv), (9, (.int .i64 ((p.length : Nat) : Int))), (10, (.int .i64 ((x10 : Nat) : Int))), (4, (ptr b1 0)), (6, (ptr b2 0)), (7, (.int .i64 (aQ (ao (gt p (x10 - 1))) (am (gt p x10)))))] [.blk b2 (cV (gt p (x10 - 1))) 66, .blk b1 (cV (gt p x10)) 66] ac wo := (h.pick [0, 1] (by decide)).sub ⟨rfl, rfl, rfl, rfl, rfl, rfl, rfl, trivial⟩
        clear hφ ξ
        refine hK15 _ _ ?_
        refine dm ?_
        refine bB fun K16 hK16 => ?_
        refine rd0 h (eN uu66 rfl zz64 (by decide) rfl rfl (k' := 0)) rfl ?_; clear h ac wo; intro ac wo h
        refine rd1 h 1 rfl (aZ Tryz.isAgg64 zz64 rfl rfl rfl (v := (vR ((gt p x10).lo))) rfl) rfl ?_; clear h ac wo; intro ac wo h
        refine rd0 h (eN uu66 rfl zz64 (by decide) rfl rfl (k' := 9)) rfl ?_; clear h ac wo; intro ac wo h
        refine rd1 h 0 rfl (aZ Tryz.isAgg64 zz64 rfl rfl rfl (v := (vR ((gt p (x10 - 1)).hi))) rfl) rfl ?_; clear h ac wo; intro ac wo h
        have p6 := aJ ((eu ((gt p x10).lo) ((gt p (x10 - 1)).hi) 10 (by omega) (All.gt zp (eC _)).1 (All.gt zp (eC _)).2) w0)
        refine dQ (vs := [(vR ((gt p x10).lo)), (vR ((gt p (x10 - 1)).hi))]) h (bh Tryz.call65 rfl) (fun w_ hB_ hS_ => (eu ((gt p x10).lo) ((gt p (x10 - 1)).hi) 10 (by omega) (All.gt zp (eC _)).1 (All.gt zp (eC _)).2) w_) rfl ?_; clear h ac wo; intro ac wo h
        refine rd0 h (dr rfl rfl) rfl ?_; clear h ac wo; intro ac wo h
        refine rd0 h (aj rfl) rfl ?_; clear h ac wo; intro ac wo h
        refine gd (j := 6) (c := true) (b := (decide ((aY ((gt p x10).lo) ((gt p (x10 - 1)).hi)) < 0))) (g := (!(decide ((aY ((gt p x10).lo) ((gt p (x10 - 1)).hi)) < 0)))) h rfl rfl g_f (fun hg => (Rd.of_nil (aj rfl)).step) rfl ?_; clear h ac wo; intro ac wo h
        refine gd (j := 6) (c := true) (b := (decide ((aY ((gt p x10).lo) ((gt p (x10 - 1)).hi)) < 0))) (g := (!(decide ((aY ((gt p x10).lo) ((gt p (x10 - 1)).hi)) < 0)))) h rfl rfl g_f (fun hg => (Rd.of_nil (iB (bo rfl hg) rfl)).step) rfl ?_; clear h ac wo; intro ac wo h
        refine rd0 h (mM rfl (fun e => (bo rfl (mO e)))) rfl ?_; clear h ac wo; intro ac wo h
        refine rd0 h (ah rfl) rfl ?_; clear h ac wo; intro ac wo h
        refine aE ?_
        refine hK16 _ _ ?_
        refine c8 (b := ((decide ((aY ((gt p x10).lo) ((gt p (x10 - 1)).hi)) < 0)) || (decide ((aQ (ao (gt p (x10 - 1))) (am (gt p x10))) > 0)))) h rfl (fun hc4 => ?_) (fun hc4 => ?_)
        · skip
          have hq4 := hc4; try simp only [Bool.and_eq_true, Bool.or_eq_true, Bool.and_eq_false_iff, Bool.or_eq_false_iff, decide_eq_true_eq, decide_eq_false_iff_not, beq_iff_eq, beq_eq_false_iff_ne, bne_iff_ne, bne_eq_false_iff_eq, Bool.true_and, Bool.not_eq_true', Bool.not_eq_false', ne_eq] at hq4
          refine bB fun K17 hK17 => ?_
          refine rd0 h (ah rfl (v := (.int .i64 11))) rfl ?_; clear h ac wo; intro ac wo h
          refine aE ?_
          refine hK17 _ _ ?_
          replace h := h.sub (F' := [(2, (.int .i64 11))]) ⟨rfl, trivial⟩
          refine cr ?_
          have hr1 := i4 hL1 (show cB p x10 = .ret 11 from (Eq.trans (cT hc1) (Eq.trans (cF hc2) (Eq.trans (cF hc3) (cT hc4)))))
          have hd : aH p = 11 := (mX (hX1.trans hr1))
          exact ret (rs := [.tmp 2]) h rfl (.tmp rfl .nil) rfl (h.retP (by rw [hd] <;> rfl) trivial)
        · skip
          have hq4 := hc4; try simp only [Bool.and_eq_true, Bool.or_eq_true, Bool.and_eq_false_iff, Bool.or_eq_false_iff, decide_eq_true_eq, decide_eq_false_iff_not, beq_iff_eq, beq_eq_false_iff_ne, bne_iff_ne, bne_eq_false_iff_eq, Bool.true_and, Bool.not_eq_true', Bool.not_eq_false', ne_eq] at hq4
          refine bB fun K18 hK18 => ?_
          refine rd0 h (aj rfl) rfl ?_; clear h ac wo; intro ac wo h
          refine rd0 h (dV rfl rfl) rfl ?_; clear h ac wo; intro ac wo h
          refine rd0 h (ah rfl) rfl ?_; clear h ac wo; intro ac wo h
          refine aE ?_
          refine hK18 _ _ ?_
          replace h := h.sub (F' := [(0, pv), (8, pv), (9, (.int .i64 ((p.length : Nat) : Int))), (10, (.int .i64 ((x10 : Nat) : Int))), (43, (.bool ((aQ (ao (gt p (x10 - 1))) (am (gt p x10))) == 0)))]) ⟨rfl, rfl, rfl, rfl, rfl, trivial⟩
          refine c8 (b := ((aQ (ao (gt p (x10 - 1))) (am (gt p x10))) == 0)) h rfl (fun hc5 => ?_) (fun hc5 => ?_)
          · skip
            have hd5 := eq_of_beq hc5
            refine bB fun K19 hK19 => ?_
            refine rd0 h (ah rfl (v := (.int .i64 5))) rfl ?_; clear h ac wo; intro ac wo h
            refine aE ?_
            refine hK19 _ _ ?_
            refine cr ?_
            have hr1 := i4 hL1 (show cB p x10 = .ret 5 from (Eq.trans (cT hc1) (Eq.trans (cF hc2) (Eq.trans (cF hc3) (Eq.trans (cF hc4) (cT hc5))))))
            have hd : aH p = 5 := (mX (hX1.trans hr1))
            exact ret (rs := [.tmp 2]) h rfl (.tmp rfl .nil) rfl (h.retP (by rw [hd] <;> rfl) trivial)
          · skip
            have hd5 := ne_of_beq_false hc5
            refine bR ?_
            refine e7 ?_
            refine e7 ?_
            refine hK6 _ _ ?_
            refine c_r ?_
            refine rd0 h (bO rfl rfl (r := ((x10 + 1 : Nat) : Int)) (by rw [IntKind.wrap_i64]; first | omega | (simp only [aq, Bool.cond_decide, Bool.cond_eq_ite, List.length_append, List.length_set, List.length_cons, List.length_nil, List.length_take, List.length_drop, List.length_replicate] at *; omega))) rfl ?_; clear h ac wo; intro ac wo h
            refine rd0 h (aj rfl) rfl ?_; clear h ac wo; intro ac wo h
            refine aE ?_
            exact aR ⟨m1, (by omega), (x10 + 1), (by first | assumption | omega | (simp only [aq, Bool.cond_decide, Bool.cond_eq_ite, List.length_append, List.length_set, List.length_cons, List.length_nil, List.length_take, List.length_drop, List.length_replicate] at *; done) | (simp only [aq, Bool.cond_decide, Bool.cond_eq_ite, List.length_append, List.length_set, List.length_cons, List.length_nil, List.length_take, List.length_drop, List.length_replicate] at *; omega) | (simp only [aq, Bool.cond_decide, Bool.cond_eq_ite, List.length_append, List.length_set, List.length_cons, List.length_nil, List.length_take, List.length_drop, List.length_replicate]; omega)), cC hL1 (show cB p x10 = .go (x10 + 1) from (Eq.trans (cT hc1) (Eq.trans (cF hc2) (Eq.trans (cF hc3) (Eq.trans (cF hc4) (cF hc5)))))), (by first | assumption | omega | (simp only [aq, Bool.cond_decide, Bool.cond_eq_ite, List.length_append, List.length_set, List.length_cons, List.length_nil, List.length_take, List.length_drop, List.length_replicate] at *; done) | (simp only [aq, Bool.cond_decide, Bool.cond_eq_ite, List.length_append, List.length_set, List.length_cons, List.length_nil, List.length_take, List.length_drop, List.length_replicate] at *; omega) | (simp only [aq, Bool.cond_decide, Bool.cond_eq_ite, List.length_append, List.length_set, List.length_cons, List.length_nil, List.length_take, List.length_drop, List.length_replicate]; omega)), (h.pick [] (by decide)).sub ⟨rfl, rfl, rfl, rfl, trivial⟩⟩
  · skip
    have hd1 := of_decide_eq_false hc1
    refine dW ?_
    have hx1 := ej hL1 (show cB p x10 = .out x10 from (cF hc1))
    refine hK2 _ _ ?_
    refine bB fun K20 hK20 => ?_
    refine rd0 h (ah rfl (v := (.int .i64 0))) rfl ?_; clear h ac wo; intro ac wo h
    refine aE ?_
    refine hK20 _ _ ?_
    refine cr ?_
    have hd : aH p = 0 := (fe (hX1.trans hx1))
    exact ret (rs := [.tmp 2]) h rfl (.tmp rfl .nil) rfl (h.retP (by rw [hd] <;> rfl) trivial)
attribute [irreducible] aH
def kL (vals : List Int) (x8 : Nat) : Int :=
  0
def de (vals : List Int) (x8 : Nat) : Nx Nat Int :=
  bif (decide (((x8 : Nat) : Int) < ((vals.length : Nat) : Int))) then
    bif ((gt vals x8) != 0) then
      .ret (gt vals x8)
    else
      .go (x8 + 1)
  else
    .out x8
def dP (vals : List Int) : Int :=
  fin (cd (fun s => de vals s) ((vals.length - 0) + 1) 0) (fun s => kL vals s) (fun r => r)
theorem kK (vals : List Int) (valsv : Value) (w0 : World) (hvalsv : View w0 valsv vals) : Calls Tryz.prog 66 #[valsv] w0 (RetP w0 (.int .i64 (dP vals)) (True)) := by
  refine enter (N := 18) (args := [valsv]) Tryz.func66 rfl rfl ?_; intro ac h
  have hlenvals := hvalsv.len
  refine bB fun K1 hK1 => ?_
  refine rd0 h (ah rfl (v := (.int .i64 0))) rfl ?_; clear h ac; intro ac wo h
  refine aE ?_
  refine hK1 _ _ ?_
  refine bB fun K2 hK2 => ?_
  refine rd0 h (ah rfl (v := (.int .i64 0))) rfl ?_; clear h ac wo; intro ac wo h
  refine aE ?_
  refine hK2 _ _ ?_
  refine bP fun K3 hK3 => ?_
  refine bB fun K4 hK4 => ?_
  refine rd0 h (aj rfl) rfl ?_; clear h ac wo; intro ac wo h
  refine rd0 h (dx uu122 rfl hvalsv.sl) rfl ?_; clear h ac wo; intro ac wo h
  refine rd0 h (aj rfl (v := (.int .i64 0))) rfl ?_; clear h ac wo; intro ac wo h
  refine aE ?_
  refine hK4 _ _ ?_
  refine dm ?_
  obtain ⟨X1, hX1⟩ : ∃ X, cd (fun s => de vals s) ((vals.length - 0) + 1) 0 = X := ⟨_, rfl⟩
  refine wp_loop_ghost (fun n_ a_ w_ => ∃ (x8 : Nat), ((vals.length - x8) < n_) ∧ (cd (fun s => de vals s) n_ x8 = X1) ∧ (x8 ≤ vals.length) ∧ St w0 18 [(3, (.int .i64 0)), (6, valsv), (7, (.int .i64 ((vals.length : Nat) : Int))), (8, (.int .i64 ((x8 : Nat) : Int)))] [] a_ w_) ((vals.length - 0) + 1) ⟨0, (by omega), hX1, (by first | assumption | omega | (simp only [aq, Bool.cond_decide, Bool.cond_eq_ite, List.length_append, List.length_set, List.length_cons, List.length_nil, List.length_take, List.length_drop, List.length_replicate] at *; done) | (simp only [aq, Bool.cond_decide, Bool.cond_eq_ite, List.length_append, List.length_set, List.length_cons, List.length_nil, List.length_take, List.length_drop, List.length_replicate] at *; omega) | (simp only [aq, Bool.cond_decide, Bool.cond_eq_ite, List.length_append, List.length_set, List.length_cons, List.length_nil, List.length_take, List.length_drop, List.length_replicate]; omega)), (h.sub ⟨rfl, rfl, rfl, rfl, trivial⟩)⟩ ?_
  clear h ac wo; rintro n1 ac wo ⟨x8, hm1, hL1, hx8, h⟩
  obtain ⟨m1, rfl⟩ : ∃ m, n1 = m + 1 := ⟨n1 - 1, by omega⟩
  refine bB fun K5 hK5 => ?_
  refine rd0 h (dr rfl rfl) rfl ?_; clear h ac wo; intro ac wo h
  refine aE ?_
  refine hK5 _ _ ?_
  refine bP fun K6 hK6 => ?_
  refine c8 (b := (decide (((x8 : Nat) : Int) < ((vals.length : Nat) : Int)))) h rfl (fun hc1 => ?_) (fun hc1 => ?_)
  · skip
    have hd1 := of_decide_eq_true hc1
    refine bR ?_
    refine hK6 _ _ ?_
    refine bP fun K7 hK7 => ?_
    refine dm ?_
    refine bB fun K8 hK8 => ?_
    refine rd0 h (ep (i := x8) uu122 Tryz.sizeOf43 rfl rfl (hvalsv.nn (i := x8) (by first | assumption | omega | (simp only [aq, Bool.cond_decide, Bool.cond_eq_ite, List.length_append, List.length_set, List.length_cons, List.length_nil, List.length_take, List.length_drop, List.length_replicate] at *; done) | (simp only [aq, Bool.cond_decide, Bool.cond_eq_ite, List.length_append, List.length_set, List.length_cons, List.length_nil, List.length_take, List.length_drop, List.length_replicate] at *; omega) | (simp only [aq, Bool.cond_decide, Bool.cond_eq_ite, List.length_append, List.length_set, List.length_cons, List.length_nil, List.length_take, List.length_drop, List.length_replicate]; omega))) (by first | assumption | omega | (simp only [aq, Bool.cond_decide, Bool.cond_eq_ite, List.length_append, List.length_set, List.length_cons, List.length_nil, List.length_take, List.length_drop, List.length_replicate] at *; done) | (simp only [aq, Bool.cond_decide, Bool.cond_eq_ite, List.length_append, List.length_set, List.length_cons, List.length_nil, List.length_take, List.length_drop, List.length_replicate] at *; omega) | (simp only [aq, Bool.cond_decide, Bool.cond_eq_ite, List.length_append, List.length_set, List.length_cons, List.length_nil, List.length_take, List.length_drop, List.length_replicate]; omega))) rfl ?_; clear h ac wo; intro ac wo h
    refine rd0 h (iK (k := 0) Tryz.isAgg43 Tryz.sizeOf43 hvalsv (ec (by first | assumption | omega | (simp only [aq, Bool.cond_decide, Bool.cond_eq_ite, List.length_append, List.length_set, List.length_cons, List.length_nil, List.length_take, List.length_drop, List.length_replicate] at *; done) | (simp only [aq, Bool.cond_decide, Bool.cond_eq_ite, List.length_append, List.length_set, List.length_cons, List.length_nil, List.length_take, List.length_drop, List.length_replicate] at *; omega) | (simp only [aq, Bool.cond_decide, Bool.cond_eq_ite, List.length_append, List.length_set, List.length_cons, List.length_nil, List.length_take, List.length_drop, List.length_replicate]; omega))) rfl (Nat.add_zero _) rfl rfl (v := (.int .i64 (gt vals x8))) rfl) rfl ?_; clear h ac wo; intro ac wo h
    refine rd0 h (ah rfl) rfl ?_; clear h ac wo; intro ac wo h
    refine aE ?_
    refine hK8 _ _ ?_
    refine bB fun K9 hK9 => ?_
    refine rd0 h (aj rfl) rfl ?_; clear h ac wo; intro ac wo h
    refine rd0 h (aj rfl) rfl ?_; clear h ac wo; intro ac wo h
    refine rd0 h (gw rfl rfl) rfl ?_; clear h ac wo; intro ac wo h
    refine aE ?_
    refine hK9 _ _ ?_
    refine c8 (b := ((gt vals x8) != 0)) h rfl (fun hc2 => ?_) (fun hc2 => ?_)
    · skip
      have hq2 := hc2; try simp only [Bool.and_eq_true, Bool.or_eq_true, Bool.and_eq_false_iff, Bool.or_eq_false_iff, decide_eq_true_eq, decide_eq_false_iff_not, beq_iff_eq, beq_eq_false_iff_ne, bne_iff_ne, bne_eq_false_iff_eq, Bool.true_and, Bool.not_eq_true', Bool.not_eq_false', ne_eq] at hq2
      refine bB fun K10 hK10 => ?_
      refine rd0 h (aj rfl) rfl ?_; clear h ac wo; intro ac wo h
      refine rd0 h (ah rfl) rfl ?_; clear h ac wo; intro ac wo h
      refine aE ?_
      refine hK10 _ _ ?_
      refine cr ?_
      have hr1 := i4 hL1 (show de vals x8 = .ret (gt vals x8) from (Eq.trans (cT hc1) (cT hc2)))
      have hd : dP vals = (gt vals x8) := (mX (hX1.trans hr1))
      exact ret (rs := [.tmp 2]) h rfl (.tmp rfl .nil) rfl (h.retP (by rw [hd] <;> rfl) trivial)
    · skip
      have hq2 := hc2; try simp only [Bool.and_eq_true, Bool.or_eq_true, Bool.and_eq_false_iff, Bool.or_eq_false_iff, decide_eq_true_eq, decide_eq_false_iff_not, beq_iff_eq, beq_eq_false_iff_ne, bne_iff_ne, bne_eq_false_iff_eq, Bool.true_and, Bool.not_eq_true', Bool.not_eq_false', ne_eq] at hq2
      refine bR ?_
      refine e7 ?_
      refine hK7 _ _ ?_
      refine c_r ?_
      refine rd0 h (bO rfl rfl (r := ((x8 + 1 : Nat) : Int)) (by rw [IntKind.wrap_i64]; first | omega | (simp only [aq, Bool.cond_decide, Bool.cond_eq_ite, List.length_append, List.length_set, List.length_cons, List.length_nil, List.length_take, List.length_drop, List.length_replicate] at *; omega))) rfl ?_; clear h ac wo; intro ac wo h
      refine rd0 h (aj rfl) rfl ?_; clear h ac wo; intro ac wo h
      refine aE ?_
      exact aR ⟨m1, (by omega), (x8 + 1), (by first | assumption | omega | (simp only [aq, Bool.cond_decide, Bool.cond_eq_ite, List.length_append, List.length_set, List.length_cons, List.length_nil, List.length_take, List.length_drop, List.length_replicate] at *; done) | (simp only [aq, Bool.cond_decide, Bool.cond_eq_ite, List.length_append, List.length_set, List.length_cons, List.length_nil, List.length_take, List.length_drop, List.length_replicate] at *; omega) | (simp only [aq, Bool.cond_decide, Bool.cond_eq_ite, List.length_append, List.length_set, List.length_cons, List.length_nil, List.length_take, List.length_drop, List.length_replicate]; omega)), cC hL1 (show de vals x8 = .go (x8 + 1) from (Eq.trans (cT hc1) (cF hc2))), (by first | assumption | omega | (simp only [aq, Bool.cond_decide, Bool.cond_eq_ite, List.length_append, List.length_set, List.length_cons, List.length_nil, List.length_take, List.length_drop, List.length_replicate] at *; done) | (simp only [aq, Bool.cond_decide, Bool.cond_eq_ite, List.length_append, List.length_set, List.length_cons, List.length_nil, List.length_take, List.length_drop, List.length_replicate] at *; omega) | (simp only [aq, Bool.cond_decide, Bool.cond_eq_ite, List.length_append, List.length_set, List.length_cons, List.length_nil, List.length_take, List.length_drop, List.length_replicate]; omega)), (h.pick [] (by decide)).sub ⟨rfl, rfl, rfl, rfl, trivial⟩⟩
  · skip
    have hd1 := of_decide_eq_false hc1
    refine dW ?_
    have hx1 := ej hL1 (show de vals x8 = .out x8 from (cF hc1))
    refine hK3 _ _ ?_
    refine bB fun K11 hK11 => ?_
    refine rd0 h (aj rfl) rfl ?_; clear h ac wo; intro ac wo h
    refine rd0 h (ah rfl) rfl ?_; clear h ac wo; intro ac wo h
    refine aE ?_
    refine hK11 _ _ ?_
    refine cr ?_
    have hd : dP vals = 0 := (fe (hX1.trans hx1))
    exact ret (rs := [.tmp 2]) h rfl (.tmp rfl .nil) rfl (h.retP (by rw [hd] <;> rfl) trivial)
attribute [irreducible] dP
end Go.Sx
