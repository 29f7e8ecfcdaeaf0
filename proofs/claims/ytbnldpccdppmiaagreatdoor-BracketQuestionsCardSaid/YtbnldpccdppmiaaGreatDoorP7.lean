/- A part of the proof that the law BracketQuestions/Checks answers true at every input and leaves its arguments as they were. -/
import Derived.Test.YtbnldpccdppmiaaGreatDoorP4
set_option linter.unusedVariables false
set_option linter.unusedSimpArgs false
open Go.Proofs.Tryz renaming isAgg42 → aa42, sizeOf42 → zz42, isAgg4 → aa4, underlying4 → nn4, isAgg64 → aa64, sizeOf64 → zz64, runUnderlying26 → uu26, sizeOf66 → zz66
namespace Go.Sx
open Go Go.RowKit Go.Proofs
set_option maxRecDepth 100000
set_option maxHeartbeats 40000000
attribute [local irreducible] aY bS an aI aM d7
theorem eqi64 : EqIn Tryz.prog 4 64 vR := eqS (c := cR) (fun _ => rfl) Tryz.underlying64 Tryz.stoodInHeld64 fun d x y w hd => by
  refine Eq.trans (eqF (by decide) (e8 aa42 zz42 (v := vQ (x.p)) rfl w) (e8 aa42 zz42 (v := vQ (y.p)) rfl w) (eqi42 d _ _ w (by omega)) (eqF (by decide) (e8 aa42 zz42 (v := vQ (x.r)) rfl w) (e8 aa42 zz42 (v := vQ (y.r)) rfl w) (eqi42 d _ _ w (by omega)) (eqF (by decide) (fP aa4 rfl w) (fP aa4 rfl w) (eqB nn4 d (by omega) _ _ w) eqF0))) ?_
  congr 1
  rw [decide_eq_decide]
  cases x; cases y; simp
theorem eqi66 : EqIn Tryz.prog 5 66 vV := eqS (c := cV) (fun _ => rfl) Tryz.underlying66 Tryz.stoodInHeld66 fun d x y w hd => by
  refine Eq.trans (eqF (by decide) (e8 aa64 zz64 (v := vR (x.lo)) rfl w) (e8 aa64 zz64 (v := vR (y.lo)) rfl w) (eqi64 d _ _ w (by omega)) (eqF (by decide) (e8 aa64 zz64 (v := vR (x.hi)) rfl w) (e8 aa64 zz64 (v := vR (y.hi)) rfl w) (eqi64 d _ _ w (by omega)) (eqF (by decide) (fP aa4 rfl w) (fP aa4 rfl w) (eqB nn4 d (by omega) _ _ w) (eqF (by decide) (fP aa4 rfl w) (fP aa4 rfl w) (eqB nn4 d (by omega) _ _ w) eqF0)))) ?_
  congr 1
  rw [decide_eq_decide]
  cases x; cases y; simp
theorem eqp66 : EqP Tryz.prog 66 vV := EqIn.p (k := 5) rfl (c := fun x => (cV x).toArray) (fun _ => rfl) Tryz.eqGuardType66 eqi66
def eqIv_K1 (s1 : List Iv) (s2 : List Iv) (x13 : Nat) : Bool :=
  true
def fZ (s1 : List Iv) (s2 : List Iv) (x13 : Nat) : Nx Nat Bool :=
  bif (decide (((x13 : Nat) : Int) < ((s1.length : Nat) : Int))) then
    bif (!(decide ((gt s1 x13) = (gt s2 x13)))) then
      .ret false
    else
      .go (x13 + 1)
  else
    .out x13
def eqIv (s1 : List Iv) (s2 : List Iv) : Bool :=
  bif ((((s1.length : Nat) : Int)) != (((s2.length : Nat) : Int))) then
    false
  else
    fin (cd (fun s => fZ s1 s2 s) ((s1.length - 0) + 1) 0) (fun s => eqIv_K1 s1 s2 s) (fun r => r)
theorem eqIv_ct (s1 : List Iv) (s1v : Value) (s2 : List Iv) (s2v : Value) (zs1 : All (SzV 30) s1) (zs2 : All (SzV 30) s2) (w0 : World) (hs1v : View w0 s1v s1) (hs2v : View w0 s2v s2) : Calls Tryz.prog 58 #[s1v, s2v] w0 (RetP w0 (.bool (eqIv s1 s2)) (True)) := by
  refine enter (N := 26) (args := [s1v, s2v]) Tryz.func58 rfl rfl ?_; intro ac h
  have hlens1 := hs1v.len
  have hlens2 := hs2v.len
  refine bB fun K1 hK1 => ?_
  refine rd0 h (ah rfl (v := (.bool false))) rfl ?_; clear h ac; intro ac wo h
  refine aE ?_
  refine hK1 _ _ ?_
  refine bP fun K2 hK2 => ?_
  refine bB fun K3 hK3 => ?_
  refine rd0 h (aj rfl) rfl ?_; clear h ac wo; intro ac wo h
  refine rd0 h (dx uu26 rfl hs1v.sl) rfl ?_; clear h ac wo; intro ac wo h
  refine rd0 h (aj rfl) rfl ?_; clear h ac wo; intro ac wo h
  refine rd0 h (dx uu26 rfl hs2v.sl) rfl ?_; clear h ac wo; intro ac wo h
  refine rd0 h (gw rfl rfl (m := ((s1.length : Nat) : Int)) (n := ((s2.length : Nat) : Int))) rfl ?_; clear h ac wo; intro ac wo h
  refine aE ?_
  refine hK3 _ _ ?_
  refine c8 (b := ((((s1.length : Nat) : Int)) != (((s2.length : Nat) : Int)))) h rfl (fun hc1 => ?_) (fun hc1 => ?_)
  · skip
    have hq1 := hc1; try simp only [Bool.and_eq_true, Bool.or_eq_true, Bool.and_eq_false_iff, Bool.or_eq_false_iff, decide_eq_true_eq, decide_eq_false_iff_not, beq_iff_eq, beq_eq_false_iff_ne, bne_iff_ne, bne_eq_false_iff_eq, Bool.true_and, Bool.not_eq_true', Bool.not_eq_false', ne_eq] at hq1
    refine bB fun K4 hK4 => ?_
    refine rd0 h (ah rfl (v := (.bool false))) rfl ?_; clear h ac wo; intro ac wo h
    refine aE ?_
    refine hK4 _ _ ?_
    refine cr ?_
    have hd : eqIv s1 s2 = false := (cT hc1)
    exact ret (rs := [.tmp 4]) h rfl (.tmp rfl .nil) rfl (h.retP (by rw [hd] <;> rfl) trivial)
  · skip
    have hq1 := hc1; try simp only [Bool.and_eq_true, Bool.or_eq_true, Bool.and_eq_false_iff, Bool.or_eq_false_iff, decide_eq_true_eq, decide_eq_false_iff_not, beq_iff_eq, beq_eq_false_iff_ne, bne_iff_ne, bne_eq_false_iff_eq, Bool.true_and, Bool.not_eq_true', Bool.not_eq_false', ne_eq] at hq1
    refine bR ?_
    refine hK2 _ _ ?_
    refine bP fun K5 hK5 => ?_
    refine bB fun K6 hK6 => ?_
    refine rd0 h (aj rfl) rfl ?_; clear h ac wo; intro ac wo h
    refine rd0 h (dx uu26 rfl hs1v.sl) rfl ?_; clear h ac wo; intro ac wo h
    refine rd0 h (aj rfl (v := (.int .i64 0))) rfl ?_; clear h ac wo; intro ac wo h
    refine aE ?_
    refine hK6 _ _ ?_
    refine dm ?_
    obtain ⟨X1, hX1⟩ : ∃ X, cd (fun s => fZ s1 s2 s) ((s1.length - 0) + 1) 0 = X := ⟨_, rfl⟩
    refine wp_loop_ghost (fun n_ a_ w_ => ∃ (x13 : Nat), ((s1.length - x13) < n_) ∧ (cd (fun s => fZ s1 s2 s) n_ x13 = X1) ∧ (x13 ≤ s1.length) ∧ St w0 26 [(0, s1v), (1, s2v), (12, (.int .i64 ((s1.length : Nat) : Int))), (13, (.int .i64 ((x13 : Nat) : Int)))] [] a_ w_) ((s1.length - 0) + 1) ⟨0, (by omega), hX1, (by first | assumption | omega | (simp only [aq, Bool.cond_decide, Bool.cond_eq_ite, List.length_append, List.length_set, List.length_cons, List.length_nil, List.length_take, List.length_drop, List.length_replicate] at *; done) | (simp only [aq, Bool.cond_decide, Bool.cond_eq_ite, List.length_append, List.length_set, List.length_cons, List.length_nil, List.length_take, List.length_drop, List.length_replicate] at *; omega) | (simp only [aq, Bool.cond_decide, Bool.cond_eq_ite, List.length_append, List.length_set, List.length_cons, List.length_nil, List.length_take, List.length_drop, List.length_replicate]; omega)), (h.sub ⟨rfl, rfl, rfl, rfl, trivial⟩)⟩ ?_
    clear h ac wo; rintro n1 ac wo ⟨x13, hm1, hL1, hx13, h⟩
    obtain ⟨m1, rfl⟩ : ∃ m, n1 = m + 1 := ⟨n1 - 1, by omega⟩
    refine bB fun K7 hK7 => ?_
    refine rd0 h (dr rfl rfl) rfl ?_; clear h ac wo; intro ac wo h
    refine aE ?_
    refine hK7 _ _ ?_
    refine bP fun K8 hK8 => ?_
    refine c8 (b := (decide (((x13 : Nat) : Int) < ((s1.length : Nat) : Int)))) h rfl (fun hc2 => ?_) (fun hc2 => ?_)
    · skip
      have hd2 := of_decide_eq_true hc2
      refine bR ?_
      refine hK8 _ _ ?_
      refine bP fun K9 hK9 => ?_
      refine dm ?_
      refine bB fun K10 hK10 => ?_
      refine rd0 h (aj rfl) rfl ?_; clear h ac wo; intro ac wo h
      refine rd0 h (ah rfl) rfl ?_; clear h ac wo; intro ac wo h
      refine aE ?_
      refine hK10 _ _ ?_
      refine bP fun K11 hK11 => ?_
      refine dc mixed [⟨.det s1v, []⟩, ⟨.det (.int .i64 ((x13 : Nat) : Int)), []⟩, ⟨.det (sel s1v (x13 * 20)), []⟩, ⟨.det (vV (gt s1 x13)), []⟩, ⟨.det s2v, []⟩, ⟨.det (.int .i64 ((x13 : Nat) : Int)), []⟩, ⟨.det (sel s2v (x13 * 20)), []⟩, ⟨.det (vV (gt s2 x13)), []⟩, ⟨.det (.bool (!(decide ((gt s1 x13) = (gt s2 x13))))), []⟩] [] h rfl (by kernel_rfl) ⟨?_, ?_, ?_, ?_, ?_, ?_, ?_, ?_, ?_, trivial⟩ ?_
      · intro ξ hφ; exact ay (aj rfl)
      · intro ξ hφ; exact ay (aj rfl)
      · intro ξ hφ; exact ay (ep (i := x13) uu26 zz66 rfl rfl (hs1v.nn (i := x13) (by first | assumption | omega | (simp only [aq, Bool.cond_decide, Bool.cond_eq_ite, List.length_append, List.length_set, List.length_cons, List.length_nil, List.length_take, List.length_drop, List.length_replicate] at *; done) | (simp only [aq, Bool.cond_decide, Bool.cond_eq_ite, List.length_append, List.length_set, List.length_cons, List.length_nil, List.length_take, List.length_drop, List.length_replicate] at *; omega) | (simp only [aq, Bool.cond_decide, Bool.cond_eq_ite, List.length_append, List.length_set, List.length_cons, List.length_nil, List.length_take, List.length_drop, List.length_replicate]; omega))) (by first | assumption | omega | (simp only [aq, Bool.cond_decide, Bool.cond_eq_ite, List.length_append, List.length_set, List.length_cons, List.length_nil, List.length_take, List.length_drop, List.length_replicate] at *; done) | (simp only [aq, Bool.cond_decide, Bool.cond_eq_ite, List.length_append, List.length_set, List.length_cons, List.length_nil, List.length_take, List.length_drop, List.length_replicate] at *; omega) | (simp only [aq, Bool.cond_decide, Bool.cond_eq_ite, List.length_append, List.length_set, List.length_cons, List.length_nil, List.length_take, List.length_drop, List.length_replicate]; omega)))
      · intro ξ hφ; exact ay (iK (k := 0) Tryz.isAgg66 zz66 hs1v (ec (by first | assumption | omega | (simp only [aq, Bool.cond_decide, Bool.cond_eq_ite, List.length_append, List.length_set, List.length_cons, List.length_nil, List.length_take, List.length_drop, List.length_replicate] at *; done) | (simp only [aq, Bool.cond_decide, Bool.cond_eq_ite, List.length_append, List.length_set, List.length_cons, List.length_nil, List.length_take, List.length_drop, List.length_replicate] at *; omega) | (simp only [aq, Bool.cond_decide, Bool.cond_eq_ite, List.length_append, List.length_set, List.length_cons, List.length_nil, List.length_take, List.length_drop, List.length_replicate]; omega))) rfl (Nat.add_zero _) rfl rfl (v := (vV (gt s1 x13))) rfl)
      · intro ξ hφ; exact ay (aj rfl)
      · intro ξ hφ; exact ay (aj rfl)
      · intro ξ hφ; exact ay (ep (i := x13) uu26 zz66 rfl rfl (hs2v.nn (i := x13) (by first | assumption | omega | (simp only [aq, Bool.cond_decide, Bool.cond_eq_ite, List.length_append, List.length_set, List.length_cons, List.length_nil, List.length_take, List.length_drop, List.length_replicate] at *; done) | (simp only [aq, Bool.cond_decide, Bool.cond_eq_ite, List.length_append, List.length_set, List.length_cons, List.length_nil, List.length_take, List.length_drop, List.length_replicate] at *; omega) | (simp only [aq, Bool.cond_decide, Bool.cond_eq_ite, List.length_append, List.length_set, List.length_cons, List.length_nil, List.length_take, List.length_drop, List.length_replicate]; omega))) (by first | assumption | omega | (simp only [aq, Bool.cond_decide, Bool.cond_eq_ite, List.length_append, List.length_set, List.length_cons, List.length_nil, List.length_take, List.length_drop, List.length_replicate] at *; done) | (simp only [aq, Bool.cond_decide, Bool.cond_eq_ite, List.length_append, List.length_set, List.length_cons, List.length_nil, List.length_take, List.length_drop, List.length_replicate] at *; omega) | (simp only [aq, Bool.cond_decide, Bool.cond_eq_ite, List.length_append, List.length_set, List.length_cons, List.length_nil, List.length_take, List.length_drop, List.length_replicate]; omega)))
      · intro ξ hφ; exact ay (iK (k := 0) Tryz.isAgg66 zz66 hs2v (ec (by first | assumption | omega | (simp only [aq, Bool.cond_decide, Bool.cond_eq_ite, List.length_append, List.length_set, List.length_cons, List.length_nil, List.length_take, List.length_drop, List.length_replicate] at *; done) | (simp only [aq, Bool.cond_decide, Bool.cond_eq_ite, List.length_append, List.length_set, List.length_cons, List.length_nil, List.length_take, List.length_drop, List.length_replicate] at *; omega) | (simp only [aq, Bool.cond_decide, Bool.cond_eq_ite, List.length_append, List.length_set, List.length_cons, List.length_nil, List.length_take, List.length_drop, List.length_replicate]; omega))) rfl (Nat.add_zero _) rfl rfl (v := (vV (gt s2 x13))) rfl)
      · intro ξ hφ; exact ay (r_neqT eqp66 rfl rfl (b := (gt s1 x13)) (c := (gt s2 x13)))
      clear h ac wo; intro ξ ac wo hφ h
      replace h : St w0 26 [(0, s1v), (1, s2v), (12, (.int .i64 ((s1.length : Nat) : Int))), (13, (.int .i64 ((x13 : Nat) : Int))), (24, (.bool (!(decide ((gt s1 x13) = (gt s2 x13))))))] [] ac wo := (h.pick [] (by decide)).sub ⟨rfl, rfl, rfl, rfl, rfl, trivial⟩
      clear hφ ξ
      refine hK11 _ _ ?_
      refine c8 (b := (!(decide ((gt s1 x13) = (gt s2 x13))))) h rfl (fun hc3 => ?_) (fun hc3 => ?_)
      · skip
        have hq3 := hc3; try simp only [Bool.and_eq_true, Bool.or_eq_true, Bool.and_eq_false_iff, Bool.or_eq_false_iff, decide_eq_true_eq, decide_eq_false_iff_not, beq_iff_eq, beq_eq_false_iff_ne, bne_iff_ne, bne_eq_false_iff_eq, Bool.true_and, Bool.not_eq_true', Bool.not_eq_false', ne_eq] at hq3
        refine bB fun K12 hK12 => ?_
        refine rd0 h (ah rfl (v := (.bool false))) rfl ?_; clear h ac wo; intro ac wo h
        refine aE ?_
        refine hK12 _ _ ?_
        refine cr ?_
        have hr1 := i4 hL1 (show fZ s1 s2 x13 = .ret false from (Eq.trans (cT hc2) (cT hc3)))
        have hd : eqIv s1 s2 = false := (Eq.trans (cF hc1) (mX (hX1.trans hr1)))
        exact ret (rs := [.tmp 4]) h rfl (.tmp rfl .nil) rfl (h.retP (by rw [hd] <;> rfl) trivial)
      · skip
        have hq3 := hc3; try simp only [Bool.and_eq_true, Bool.or_eq_true, Bool.and_eq_false_iff, Bool.or_eq_false_iff, decide_eq_true_eq, decide_eq_false_iff_not, beq_iff_eq, beq_eq_false_iff_ne, bne_iff_ne, bne_eq_false_iff_eq, Bool.true_and, Bool.not_eq_true', Bool.not_eq_false', ne_eq] at hq3
        refine bR ?_
        refine e7 ?_
        refine hK9 _ _ ?_
        refine c_r ?_
        refine rd0 h (bO rfl rfl (r := ((x13 + 1 : Nat) : Int)) (by rw [IntKind.wrap_i64]; first | omega | (simp only [aq, Bool.cond_decide, Bool.cond_eq_ite, List.length_append, List.length_set, List.length_cons, List.length_nil, List.length_take, List.length_drop, List.length_replicate] at *; omega))) rfl ?_; clear h ac wo; intro ac wo h
        refine rd0 h (aj rfl) rfl ?_; clear h ac wo; intro ac wo h
        refine aE ?_
        exact aR ⟨m1, (by omega), (x13 + 1), (by first | assumption | omega | (simp only [aq, Bool.cond_decide, Bool.cond_eq_ite, List.length_append, List.length_set, List.length_cons, List.length_nil, List.length_take, List.length_drop, List.length_replicate] at *; done) | (simp only [aq, Bool.cond_decide, Bool.cond_eq_ite, List.length_append, List.length_set, List.length_cons, List.length_nil, List.length_take, List.length_drop, List.length_replicate] at *; omega) | (simp only [aq, Bool.cond_decide, Bool.cond_eq_ite, List.length_append, List.length_set, List.length_cons, List.length_nil, List.length_take, List.length_drop, List.length_replicate]; omega)), cC hL1 (show fZ s1 s2 x13 = .go (x13 + 1) from (Eq.trans (cT hc2) (cF hc3))), (by first | assumption | omega | (simp only [aq, Bool.cond_decide, Bool.cond_eq_ite, List.length_append, List.length_set, List.length_cons, List.length_nil, List.length_take, List.length_drop, List.length_replicate] at *; done) | (simp only [aq, Bool.cond_decide, Bool.cond_eq_ite, List.length_append, List.length_set, List.length_cons, List.length_nil, List.length_take, List.length_drop, List.length_replicate] at *; omega) | (simp only [aq, Bool.cond_decide, Bool.cond_eq_ite, List.length_append, List.length_set, List.length_cons, List.length_nil, List.length_take, List.length_drop, List.length_replicate]; omega)), (h.pick [] (by decide)).sub ⟨rfl, rfl, rfl, rfl, trivial⟩⟩
    · skip
      have hd2 := of_decide_eq_false hc2
      refine dW ?_
      have hx1 := ej hL1 (show fZ s1 s2 x13 = .out x13 from (cF hc2))
      refine hK5 _ _ ?_
      refine bB fun K13 hK13 => ?_
      refine rd0 h (ah rfl (v := (.bool true))) rfl ?_; clear h ac wo; intro ac wo h
      refine aE ?_
      refine hK13 _ _ ?_
      refine cr ?_
      have hd : eqIv s1 s2 = true := (Eq.trans (cF hc1) (fe (hX1.trans hx1)))
      exact ret (rs := [.tmp 4]) h rfl (.tmp rfl .nil) rfl (h.retP (by rw [hd] <;> rfl) trivial)
attribute [irreducible] eqIv
def aX (a : List Iv) (b : List Iv) : Bool :=
  (eqIv a b)
theorem kt (a : List Iv) (av : Value) (b : List Iv) (bv : Value) (za : All (SzV 30) a) (zb : All (SzV 30) b) (w0 : World) (hav : View w0 av a) (hbv : View w0 bv b) : Calls Tryz.prog 32 #[av, bv] w0 (RetP w0 (.bool (aX a b)) (True)) := by
  refine enter (N := 8) (args := [av, bv]) Tryz.func32 rfl rfl ?_; intro ac h
  have hlena := hav.len
  have hlenb := hbv.len
  refine bB fun K1 hK1 => ?_
  refine rd0 h (ah rfl (v := (.bool false))) rfl ?_; clear h ac; intro ac wo h
  refine aE ?_
  refine hK1 _ _ ?_
  refine bB fun K2 hK2 => ?_
  refine rd0 h (aj rfl) rfl ?_; clear h ac wo; intro ac wo h
  refine rd0 h (aj rfl) rfl ?_; clear h ac wo; intro ac wo h
  refine dQ (vs := [av, bv]) h (bh Tryz.call58 rfl) (fun w_ hB_ hS_ => eqIv_ct a av b bv za zb w_ (hav.below hB_) (hbv.below hB_)) rfl ?_; clear h ac wo; intro ac wo h
  refine rd0 h (ah rfl) rfl ?_; clear h ac wo; intro ac wo h
  refine aE ?_
  refine hK2 _ _ ?_
  refine cr ?_
  have hd : aX a b = (eqIv a b) := rfl
  exact ret (rs := [.tmp 4]) h rfl (.tmp rfl .nil) rfl (h.retP (by rw [hd] <;> rfl) trivial)
attribute [irreducible] aX
def cn (s : List Iv) : (List Iv) := s
theorem gX (s : List Iv) (sv : Value) (hl : s.length ≤ 1000) (zs : All (SzV 30) s) (w0 : World) (hsv : View w0 sv s) : Calls Tryz.prog 49 #[sv] w0 (RetR w0 66 (cn s) (All (SzV 30) (cn s) ∧ (cn s) = s ∧ (cn s).length = s.length)) := by
  refine enter (N := 8) (args := [sv]) Tryz.func49 rfl rfl ?_; intro ac h
  have hlens := hsv.len
  refine bB fun K1 hK1 => ?_
  refine rd0 h (ah rfl (v := (.slice none 0 0))) rfl ?_; clear h ac; intro ac wo h
  refine aE ?_
  refine hK1 _ _ ?_
  refine bP fun K2 hK2 => ?_
  refine bB fun K3 hK3 => ?_
  refine rd0 h (aj rfl) rfl ?_; clear h ac wo; intro ac wo h
  refine rd0 h (r_eqlSN Tryz.underlying26 hsv.sl rfl) rfl ?_; clear h ac wo; intro ac wo h
  refine aE ?_
  refine hK3 _ _ ?_
  refine c8 (b := (oW sv)) h rfl (fun hc1 => ?_) (fun hc1 => ?_)
  · skip
    have hq1 := hc1; try simp only [Bool.and_eq_true, Bool.or_eq_true, Bool.and_eq_false_iff, Bool.or_eq_false_iff, decide_eq_true_eq, decide_eq_false_iff_not, beq_iff_eq, beq_eq_false_iff_ne, bne_iff_ne, bne_eq_false_iff_eq, Bool.true_and, Bool.not_eq_true', Bool.not_eq_false', ne_eq] at hq1
    refine bB fun K4 hK4 => ?_
    refine rd0 h (ah rfl (v := (.slice none 0 0))) rfl ?_; clear h ac wo; intro ac wo h
    refine aE ?_
    refine hK4 _ _ ?_
    refine cr ?_
    replace h := h.nilRow (α := Iv) 66
    have hd : cn s = [] := (hsv.nil hc1).1
    exact ret (rs := [.tmp 2]) h rfl (.tmp rfl .nil) rfl (by rw [hd]; exact h.retR 0 rfl ⟨All.nil, ⟨(hsv.nil hc1).1.symm, by rw [(hsv.nil hc1).1]⟩⟩)
  · skip
    have hq1 := hc1; try simp only [Bool.and_eq_true, Bool.or_eq_true, Bool.and_eq_false_iff, Bool.or_eq_false_iff, decide_eq_true_eq, decide_eq_false_iff_not, beq_iff_eq, beq_eq_false_iff_ne, bne_iff_ne, bne_eq_false_iff_eq, Bool.true_and, Bool.not_eq_true', Bool.not_eq_false', ne_eq] at hq1
    refine bR ?_
    refine hK2 _ _ ?_
    refine bB fun K5 hK5 => ?_
    refine nw h (dg (α := Iv) (xs := []) (vs := []) [] ic rfl rfl rfl (by decide)) rfl ?_; clear h ac wo; intro sv2 ac wo nnsv2 h
    refine rd0 h (aj rfl) rfl ?_; clear h ac wo; intro ac wo h
    refine on1 h 0 rfl (s_appV (xs := []) (ys := s) ic hsv rfl rfl (by first | assumption | omega | (simp only [aq, Bool.cond_decide, Bool.cond_eq_ite, List.length_append, List.length_set, List.length_cons, List.length_nil, List.length_take, List.length_drop, List.length_replicate] at *; done) | (simp only [aq, Bool.cond_decide, Bool.cond_eq_ite, List.length_append, List.length_set, List.length_cons, List.length_nil, List.length_take, List.length_drop, List.length_replicate] at *; omega) | (simp only [aq, Bool.cond_decide, Bool.cond_eq_ite, List.length_append, List.length_set, List.length_cons, List.length_nil, List.length_take, List.length_drop, List.length_replicate]; omega))) rfl ?_; clear h ac wo; intro sv3 ac wo apsv3 h
    refine rd0 h (ah rfl) rfl ?_; clear h ac wo; intro ac wo h
    refine aE ?_
    refine hK5 _ _ ?_
    refine cr ?_
    have hd : cn s = ([] ++ s) := rfl
    exact ret (rs := [.tmp 2]) h rfl (.tmp rfl .nil) rfl (by rw [hd]; exact h.retR 0 rfl ⟨(All.app All.nil zs), ⟨rfl, rfl⟩⟩)
attribute [irreducible] cn
end Go.Sx
