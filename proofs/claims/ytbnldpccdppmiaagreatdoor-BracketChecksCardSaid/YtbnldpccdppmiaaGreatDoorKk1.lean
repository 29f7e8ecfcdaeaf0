/- A part of the proof that the law BracketQuestions/Checks answers true at every input and leaves its arguments as they were. -/
import Derived.Test.YtbnldpccdppmiaaGreatDoorP8
import Derived.Test.YtbnldpccdppmiaaGreatDoorKxt3
set_option linter.unusedVariables false
set_option linter.unusedSimpArgs false
open Go.Proofs.Tryz renaming runUnderlying40 → uu40, sizeOf9 → zz9, isAgg9 → aa9, sizeOf4 → zz4, isAgg4 → aa4, runUnderlying42 → uu42, sizeOf40 → zz40, isAgg40 → aa40, zeroValue40 → vv40, zeroValue42 → vv42, isAgg42 → aa42, sizeOf42 → zz42, runUnderlying64 → uu64, runUnderlying66 → uu66, sizeOf64 → zz64
namespace Go.Sx
open Go Go.RowKit Go.Proofs
set_option maxRecDepth 100000
set_option maxHeartbeats 40000000
attribute [local irreducible] aY bS an aI aM d7
def cA (a : GI) : Int :=
  bif (((decide (a.mag = 0)) && a.neg) || ((!(decide (a.mag = 0))) && (((((oC a.mag) : Nat) : Int)) == (((0 : Nat) : Int))))) then
    5
  else
    0
theorem iy (a : GI) (za : SzI 16 a) (w0 : World)  : Calls Tryz.prog 117 #[(vI a)] w0 (RetP w0 (.int .i64 (cA a)) (True)) := by
  refine enter (N := 21) (args := [(vI a)]) Tryz.func117 rfl rfl ?_; intro ac h
  refine bB fun K1 hK1 => ?_
  refine bx h (cI a) rfl rfl rfl ?_; clear h ac; intro b1 ac wo h
  refine rd0 h (ah rfl (v := (.int .i64 0))) rfl ?_; clear h ac wo; intro ac wo h
  refine aE ?_
  refine hK1 _ _ ?_
  refine bP fun K2 hK2 => ?_
  refine bB fun K3 hK3 => ?_
  refine rd0 h (eN uu40 rfl zz9 (by decide) rfl rfl (k' := 1)) rfl ?_; clear h ac wo; intro ac wo h
  refine rd1 h 0 rfl (aZ aa9 zz9 rfl rfl rfl (v := (.string (bs a.mag))) rfl) rfl ?_; clear h ac wo; intro ac wo h
  refine rd0 h (lA rfl rfl (m := a.mag) (n := 0)) rfl ?_; clear h ac wo; intro ac wo h
  refine rd0 h (aj rfl) rfl ?_; clear h ac wo; intro ac wo h
  refine gd (j := 3) (c := true) (b := (decide (a.mag = 0))) (g := (decide (a.mag = 0))) h rfl rfl g_t (fun hg => (Rd.of_nil (eN uu40 rfl zz4 (by decide) rfl rfl (k' := 0))).step) rfl ?_; clear h ac wo; intro ac wo h
  refine gd (j := 3) (c := true) (b := (decide (a.mag = 0))) (g := (decide (a.mag = 0))) h rfl rfl g_t (fun hg => (Rd.of_mem (i := 0) (aZ aa4 zz4 (bo rfl hg) rfl rfl (v := (.bool a.neg)) rfl) rfl).step) rfl ?_; clear h ac wo; intro ac wo h
  refine rd0 h (gH rfl (fun e => (bo rfl e))) rfl ?_; clear h ac wo; intro ac wo h
  refine rd0 h (aj rfl) rfl ?_; clear h ac wo; intro ac wo h
  refine gd (j := 7) (c := true) (b := ((decide (a.mag = 0)) && a.neg)) (g := (!((decide (a.mag = 0)) && a.neg))) h rfl rfl g_f (fun hg => (Rd.of_nil (eN uu40 rfl zz9 (by decide) rfl rfl (k' := 1))).step) rfl ?_; clear h ac wo; intro ac wo h
  refine gd (j := 7) (c := true) (b := ((decide (a.mag = 0)) && a.neg)) (g := (!((decide (a.mag = 0)) && a.neg))) h rfl rfl g_f (fun hg => (Rd.of_mem (i := 0) (aZ aa9 zz9 (bo rfl hg) rfl rfl (v := (.string (bs a.mag))) rfl) rfl).step) rfl ?_; clear h ac wo; intro ac wo h
  refine gd (j := 7) (c := true) (b := ((decide (a.mag = 0)) && a.neg)) (g := (!((decide (a.mag = 0)) && a.neg))) h rfl rfl g_f (fun hg => (Rd.of_nil (kr (bo rfl hg) rfl (m := a.mag) (n := 0))).step) rfl ?_; clear h ac wo; intro ac wo h
  refine gd (j := 7) (c := true) (b := ((decide (a.mag = 0)) && a.neg)) (g := (!((decide (a.mag = 0)) && a.neg))) h rfl rfl g_f (fun hg => (Rd.of_nil (aj (bo rfl hg))).step) rfl ?_; clear h ac wo; intro ac wo h
  refine gd (j := 11) (c := (!((decide (a.mag = 0)) && a.neg))) (b := (!(decide (a.mag = 0)))) (g := ((!((decide (a.mag = 0)) && a.neg)) && (!(decide (a.mag = 0))))) h rfl rfl g_ct (fun hg => (Rd.of_nil (eN uu40 rfl zz9 (by decide) rfl rfl (k' := 1))).step) rfl ?_; clear h ac wo; intro ac wo h
  refine gd (j := 11) (c := (!((decide (a.mag = 0)) && a.neg))) (b := (!(decide (a.mag = 0)))) (g := ((!((decide (a.mag = 0)) && a.neg)) && (!(decide (a.mag = 0))))) h rfl rfl g_ct (fun hg => (Rd.of_mem (i := 0) (aZ aa9 zz9 (bo rfl hg) rfl rfl (v := (.string (bs a.mag))) rfl) rfl).step) rfl ?_; clear h ac wo; intro ac wo h
  refine gd (j := 11) (c := (!((decide (a.mag = 0)) && a.neg))) (b := (!(decide (a.mag = 0)))) (g := ((!((decide (a.mag = 0)) && a.neg)) && (!(decide (a.mag = 0))))) h rfl rfl g_ct (fun hg => (Rd.of_nil (nf Tryz.runUnderlying9 (bo rfl hg) rfl (by (try simp only [Bool.and_eq_true, Bool.or_eq_true, Bool.and_eq_false_iff, Bool.or_eq_false_iff, decide_eq_true_eq, decide_eq_false_iff_not, beq_iff_eq, beq_eq_false_iff_ne, bne_iff_ne, bne_eq_false_iff_eq, Bool.true_and, Bool.not_eq_true', Bool.not_eq_false', ne_eq] at hg); first | omega | (simp only [aq, Bool.cond_decide, Bool.cond_eq_ite, List.length_append, List.length_set, List.length_cons, List.length_nil, List.length_take, List.length_drop, List.length_replicate] at *; omega)))).step) rfl ?_; clear h ac wo; intro ac wo h
  refine gd (j := 11) (c := (!((decide (a.mag = 0)) && a.neg))) (b := (!(decide (a.mag = 0)))) (g := ((!((decide (a.mag = 0)) && a.neg)) && (!(decide (a.mag = 0))))) h rfl rfl g_ct (fun hg => (Rd.of_nil (dV (bo rfl hg) rfl (m := (((oC a.mag) : Nat) : Int)) (n := ((0 : Nat) : Int)))).step) rfl ?_; clear h ac wo; intro ac wo h
  refine gd (j := 7) (c := true) (b := ((decide (a.mag = 0)) && a.neg)) (g := (!((decide (a.mag = 0)) && a.neg))) h rfl rfl g_f (fun hg => (Rd.of_nil (gH (bo rfl hg) (fun e => (bo rfl (andI hg e))))).step) rfl ?_; clear h ac wo; intro ac wo h
  refine rd0 h (mM rfl (fun e => (bo rfl (mO e)))) rfl ?_; clear h ac wo; intro ac wo h
  refine aE ?_
  refine hK3 _ _ ?_
  replace h := h.sub (F' := [(20, (.bool (((decide (a.mag = 0)) && a.neg) || ((!(decide (a.mag = 0))) && (((((oC a.mag) : Nat) : Int)) == (((0 : Nat) : Int)))))))]) ⟨rfl, trivial⟩
  refine c8 (b := (((decide (a.mag = 0)) && a.neg) || ((!(decide (a.mag = 0))) && (((((oC a.mag) : Nat) : Int)) == (((0 : Nat) : Int)))))) h rfl (fun hc1 => ?_) (fun hc1 => ?_)
  · skip
    have hq1 := hc1; try simp only [Bool.and_eq_true, Bool.or_eq_true, Bool.and_eq_false_iff, Bool.or_eq_false_iff, decide_eq_true_eq, decide_eq_false_iff_not, beq_iff_eq, beq_eq_false_iff_ne, bne_iff_ne, bne_eq_false_iff_eq, Bool.true_and, Bool.not_eq_true', Bool.not_eq_false', ne_eq] at hq1
    refine bB fun K4 hK4 => ?_
    refine rd0 h (ah rfl (v := (.int .i64 5))) rfl ?_; clear h ac wo; intro ac wo h
    refine aE ?_
    refine hK4 _ _ ?_
    refine cr ?_
    have hd : cA a = 5 := (cT hc1)
    exact ret (rs := [.tmp 2]) h rfl (.tmp rfl .nil) rfl (h.retP (by rw [hd] <;> rfl) trivial)
  · skip
    have hq1 := hc1; try simp only [Bool.and_eq_true, Bool.or_eq_true, Bool.and_eq_false_iff, Bool.or_eq_false_iff, decide_eq_true_eq, decide_eq_false_iff_not, beq_iff_eq, beq_eq_false_iff_ne, bne_iff_ne, bne_eq_false_iff_eq, Bool.true_and, Bool.not_eq_true', Bool.not_eq_false', ne_eq] at hq1
    refine bR ?_
    refine hK2 _ _ ?_
    refine bB fun K5 hK5 => ?_
    refine rd0 h (ah rfl (v := (.int .i64 0))) rfl ?_; clear h ac wo; intro ac wo h
    refine aE ?_
    refine hK5 _ _ ?_
    refine cr ?_
    have hd : cA a = 0 := (cF hc1)
    exact ret (rs := [.tmp 2]) h rfl (.tmp rfl .nil) rfl (h.retP (by rw [hd] <;> rfl) trivial)
attribute [irreducible] cA
def bU (a : GQ) : Int :=
  bif (((cA a.num) != 0) || ((cA a.den) != 0)) then
    5
  else
    bif (decide (a.den = (⟨false, 0⟩ : GI))) then
      0
    else
      bif ((decide ((aV a.den rational_one) ≤ 0)) || (!(decide ((az a.num a.den) = rational_one)))) then
        5
      else
        0
theorem gZ (a : GQ) (za : SzQ 16 a) (w0 : World)  : Calls Tryz.prog 97 #[(vQ a)] w0 (RetP w0 (.int .i64 (bU a)) (True)) := by
  refine enter (N := 31) (args := [(vQ a)]) Tryz.func97 rfl rfl ?_; intro ac h
  refine bB fun K1 hK1 => ?_
  refine bx h (cQ a) rfl rfl rfl ?_; clear h ac; intro b1 ac wo h
  refine rd0 h (ah rfl (v := (.int .i64 0))) rfl ?_; clear h ac wo; intro ac wo h
  refine aE ?_
  refine hK1 _ _ ?_
  refine bP fun K2 hK2 => ?_
  refine bB fun K3 hK3 => ?_
  refine rd0 h (eN uu42 rfl zz40 (by decide) rfl rfl (k' := 0)) rfl ?_; clear h ac wo; intro ac wo h
  refine rd1 h 0 rfl (aZ aa40 zz40 rfl rfl rfl (v := (vI a.num)) rfl) rfl ?_; clear h ac wo; intro ac wo h
  refine dQ (vs := [(vI a.num)]) h (bh Tryz.call117 rfl) (fun w_ hB_ hS_ => iy a.num za.1 w_ ) rfl ?_; clear h ac wo; intro ac wo h
  refine rd0 h (gw rfl rfl) rfl ?_; clear h ac wo; intro ac wo h
  refine rd0 h (aj rfl) rfl ?_; clear h ac wo; intro ac wo h
  refine gd (j := 4) (c := true) (b := ((cA a.num) != 0)) (g := (!((cA a.num) != 0))) h rfl rfl g_f (fun hg => (Rd.of_nil (eN uu42 rfl zz40 (by decide) rfl rfl (k' := 2))).step) rfl ?_; clear h ac wo; intro ac wo h
  refine gd (j := 4) (c := true) (b := ((cA a.num) != 0)) (g := (!((cA a.num) != 0))) h rfl rfl g_f (fun hg => (Rd.of_mem (i := 0) (aZ aa40 zz40 (bo rfl hg) rfl rfl (v := (vI a.den)) rfl) rfl).step) rfl ?_; clear h ac wo; intro ac wo h
  refine gd (j := 4) (c := true) (b := ((cA a.num) != 0)) (g := (!((cA a.num) != 0))) h rfl rfl g_f (fun hg => df (vs := [(vI a.den)]) (bh Tryz.call117 (en (bo rfl hg) rfl)) (fun w_ hB_ hS_ => iy a.den za.2 w_ )) rfl ?_; clear h ac wo; intro ac wo h
  refine gd (j := 4) (c := true) (b := ((cA a.num) != 0)) (g := (!((cA a.num) != 0))) h rfl rfl g_f (fun hg => (Rd.of_nil (gw (bo rfl hg) rfl)).step) rfl ?_; clear h ac wo; intro ac wo h
  refine rd0 h (mM rfl (fun e => (bo rfl (mO e)))) rfl ?_; clear h ac wo; intro ac wo h
  refine aE ?_
  refine hK3 _ _ ?_
  refine c8 (b := (((cA a.num) != 0) || ((cA a.den) != 0))) h rfl (fun hc1 => ?_) (fun hc1 => ?_)
  · skip
    have hq1 := hc1; try simp only [Bool.and_eq_true, Bool.or_eq_true, Bool.and_eq_false_iff, Bool.or_eq_false_iff, decide_eq_true_eq, decide_eq_false_iff_not, beq_iff_eq, beq_eq_false_iff_ne, bne_iff_ne, bne_eq_false_iff_eq, Bool.true_and, Bool.not_eq_true', Bool.not_eq_false', ne_eq] at hq1
    refine bB fun K4 hK4 => ?_
    refine rd0 h (ah rfl (v := (.int .i64 5))) rfl ?_; clear h ac wo; intro ac wo h
    refine aE ?_
    refine hK4 _ _ ?_
    refine cr ?_
    have hd : bU a = 5 := (cT hc1)
    exact ret (rs := [.tmp 2]) h rfl (.tmp rfl .nil) rfl (h.retP (by rw [hd] <;> rfl) trivial)
  · skip
    have hq1 := hc1; try simp only [Bool.and_eq_true, Bool.or_eq_true, Bool.and_eq_false_iff, Bool.or_eq_false_iff, decide_eq_true_eq, decide_eq_false_iff_not, beq_iff_eq, beq_eq_false_iff_ne, bne_iff_ne, bne_eq_false_iff_eq, Bool.true_and, Bool.not_eq_true', Bool.not_eq_false', ne_eq] at hq1
    refine bR ?_
    refine hK2 _ _ ?_
    refine bP fun K5 hK5 => ?_
    refine bB fun K6 hK6 => ?_
    refine rd0 h (eN uu42 rfl zz40 (by decide) rfl rfl (k' := 2)) rfl ?_; clear h ac wo; intro ac wo h
    refine rd1 h 0 rfl (aZ aa40 zz40 rfl rfl rfl (v := (vI a.den)) rfl) rfl ?_; clear h ac wo; intro ac wo h
    refine rd0 h (bW (parts := []) (vs := []) lX rfl rfl (v := (vI (⟨false, 0⟩ : GI))) rfl) rfl ?_; clear h ac wo; intro ac wo h
    refine rd0 h (k7 ou rfl rfl (b := a.den) (c := (⟨false, 0⟩ : GI))) rfl ?_; clear h ac wo; intro ac wo h
    refine aE ?_
    refine hK6 _ _ ?_
    replace h := h.sub (F' := [(1, (ptr b1 0)), (16, (.bool (decide (a.den = (⟨false, 0⟩ : GI)))))]) ⟨rfl, rfl, trivial⟩
    refine c8 (b := (decide (a.den = (⟨false, 0⟩ : GI)))) h rfl (fun hc2 => ?_) (fun hc2 => ?_)
    · skip
      have hd2 := of_decide_eq_true hc2
      refine bB fun K7 hK7 => ?_
      refine rd0 h (ah rfl (v := (.int .i64 0))) rfl ?_; clear h ac wo; intro ac wo h
      refine aE ?_
      refine hK7 _ _ ?_
      refine cr ?_
      have hd : bU a = 0 := (Eq.trans (cF hc1) (cT hc2))
      exact ret (rs := [.tmp 2]) h rfl (.tmp rfl .nil) rfl (h.retP (by rw [hd] <;> rfl) trivial)
    · skip
      have hd2 := of_decide_eq_false hc2
      refine bR ?_
      refine hK5 _ _ ?_
      refine bP fun K8 hK8 => ?_
      refine bP fun K9 hK9 => ?_
      have s1 := aJ ((dK  40 (by omega) ) w0)
      have p3 := aJ ((eJ a.den rational_one 16 (by omega) za.2 (fW s1 (by omega))) w0)
      have s4 := aJ ((fR a.num a.den 16 (by omega) za.1 za.2) w0)
      have s5 := aJ ((dK  40 (by omega) ) w0)
      refine dc mixed [⟨.det (ptr b1 2), []⟩, ⟨.det (vI a.den), [0]⟩, ⟨.det (vI rational_one), []⟩, ⟨.det (.int .i64 (aV a.den rational_one)), []⟩, ⟨.det (.bool (decide ((aV a.den rational_one) ≤ 0))), []⟩, ⟨.det (.bool (decide ((aV a.den rational_one) ≤ 0))), []⟩, ⟨.det (gv (!(decide ((aV a.den rational_one) ≤ 0))) (ptr b1 0)), []⟩, ⟨.det (gv (!(decide ((aV a.den rational_one) ≤ 0))) (vI a.num)), [0]⟩, ⟨.det (gv (!(decide ((aV a.den rational_one) ≤ 0))) (ptr b1 2)), []⟩, ⟨.det (gv (!(decide ((aV a.den rational_one) ≤ 0))) (vI a.den)), [0]⟩, ⟨.det (gv (!(decide ((aV a.den rational_one) ≤ 0))) (vI (az a.num a.den))), []⟩, ⟨.det (gv (!(decide ((aV a.den rational_one) ≤ 0))) (vI rational_one)), []⟩, ⟨.det (gv (!(decide ((aV a.den rational_one) ≤ 0))) (.bool (!(decide ((az a.num a.den) = rational_one))))), []⟩, ⟨.det (.bool ((decide ((aV a.den rational_one) ≤ 0)) || (!(decide ((az a.num a.den) = rational_one))))), []⟩] [⟨.blk b1 (cQ a) 42, []⟩] h rfl (by kernel_rfl) ⟨?_, ?_, ?_, ?_, ?_, ?_, ?_, ?_, ?_, ?_, ?_, ?_, ?_, ?_, trivial⟩ ?_
      · intro ξ hφ; exact ay (eN uu42 rfl zz40 (by decide) rfl rfl (k' := 2))
      · intro ξ hφ; exact bT [.blk b1 (cQ a) 42] rfl rfl (aZ aa40 zz40 rfl rfl rfl (v := (vI a.den)) rfl)
      · intro ξ hφ; exact dY (df (vs := []) (bh Tryz.call95 rfl) (fun w_ hB_ hS_ => (dK  40 (by omega) ) w_))
      · intro ξ hφ; exact dY (df (vs := [(vI a.den), (vI rational_one)]) (bh Tryz.call118 rfl) (fun w_ hB_ hS_ => (eJ a.den rational_one 16 (by omega) za.2 (fW s1 (by omega))) w_))
      · intro ξ hφ; exact ay (r_leq rfl rfl)
      · intro ξ hφ; exact ay (aj rfl)
      · intro ξ hφ; exact jE (c := true) (b := (decide ((aV a.den rational_one) ≤ 0))) (g := (!(decide ((aV a.den rational_one) ≤ 0)))) [] rfl rfl rfl rfl g_f (fun hg => Rd.step (eN uu42 rfl zz40 (by decide) rfl rfl (k' := 0)))
      · intro ξ hφ; exact jE (c := true) (b := (decide ((aV a.den rational_one) ≤ 0))) (g := (!(decide ((aV a.den rational_one) ≤ 0)))) [.blk b1 (cQ a) 42] rfl rfl rfl rfl g_f (fun hg => Rd.step (aZ aa40 zz40 (bo rfl hg) rfl rfl (v := (vI a.num)) rfl))
      · intro ξ hφ; exact jE (c := true) (b := (decide ((aV a.den rational_one) ≤ 0))) (g := (!(decide ((aV a.den rational_one) ≤ 0)))) [] rfl rfl rfl rfl g_f (fun hg => Rd.step (eN uu42 rfl zz40 (by decide) rfl rfl (k' := 2)))
      · intro ξ hφ; exact jE (c := true) (b := (decide ((aV a.den rational_one) ≤ 0))) (g := (!(decide ((aV a.den rational_one) ≤ 0)))) [.blk b1 (cQ a) 42] rfl rfl rfl rfl g_f (fun hg => Rd.step (aZ aa40 zz40 (bo rfl hg) rfl rfl (v := (vI a.den)) rfl))
      · intro ξ hφ; exact jE (c := true) (b := (decide ((aV a.den rational_one) ≤ 0))) (g := (!(decide ((aV a.den rational_one) ≤ 0)))) [] rfl rfl rfl rfl g_f (fun hg => df (vs := [(vI a.num), (vI a.den)]) (bh Tryz.call93 (en (bo rfl hg) (en (bo rfl hg) rfl))) (fun w_ hB_ hS_ => (fR a.num a.den 16 (by omega) za.1 za.2) w_))
      · intro ξ hφ; exact jE (c := true) (b := (decide ((aV a.den rational_one) ≤ 0))) (g := (!(decide ((aV a.den rational_one) ≤ 0)))) [] rfl rfl rfl rfl g_f (fun hg => df (vs := []) (bh Tryz.call95 rfl) (fun w_ hB_ hS_ => (dK  40 (by omega) ) w_))
      · intro ξ hφ; exact jE (c := true) (b := (decide ((aV a.den rational_one) ≤ 0))) (g := (!(decide ((aV a.den rational_one) ≤ 0)))) [] rfl rfl rfl rfl g_f (fun hg => Rd.step (r_neqT ou (bo rfl hg) (bo rfl hg) (b := (az a.num a.den)) (c := rational_one)))
      · intro ξ hφ; exact ay (mM rfl (fun e => (bo rfl (mO e))))
      clear h ac wo; intro ξ ac wo hφ h
      replace h : St w0 31 [(30, (.bool ((decide ((aV a.den rational_one) ≤ 0)) || (!(decide ((az a.num a.den) = rational_one))))))] [.blk b1 (cQ a) 42] ac wo := (h.pick [0] (by decide)).sub ⟨rfl, trivial⟩
      clear hφ ξ
      refine hK9 _ _ ?_
      refine c8 (b := ((decide ((aV a.den rational_one) ≤ 0)) || (!(decide ((az a.num a.den) = rational_one))))) h rfl (fun hc3 => ?_) (fun hc3 => ?_)
      · skip
        have hq3 := hc3; try simp only [Bool.and_eq_true, Bool.or_eq_true, Bool.and_eq_false_iff, Bool.or_eq_false_iff, decide_eq_true_eq, decide_eq_false_iff_not, beq_iff_eq, beq_eq_false_iff_ne, bne_iff_ne, bne_eq_false_iff_eq, Bool.true_and, Bool.not_eq_true', Bool.not_eq_false', ne_eq] at hq3
        refine bB fun K10 hK10 => ?_
        refine rd0 h (ah rfl (v := (.int .i64 5))) rfl ?_; clear h ac wo; intro ac wo h
        refine aE ?_
        refine hK10 _ _ ?_
        refine cr ?_
        have hd : bU a = 5 := (Eq.trans (cF hc1) (Eq.trans (cF hc2) (cT hc3)))
        exact ret (rs := [.tmp 2]) h rfl (.tmp rfl .nil) rfl (h.retP (by rw [hd] <;> rfl) trivial)
      · skip
        have hq3 := hc3; try simp only [Bool.and_eq_true, Bool.or_eq_true, Bool.and_eq_false_iff, Bool.or_eq_false_iff, decide_eq_true_eq, decide_eq_false_iff_not, beq_iff_eq, beq_eq_false_iff_ne, bne_iff_ne, bne_eq_false_iff_eq, Bool.true_and, Bool.not_eq_true', Bool.not_eq_false', ne_eq] at hq3
        refine bR ?_
        refine hK8 _ _ ?_
        refine bB fun K11 hK11 => ?_
        refine rd0 h (ah rfl (v := (.int .i64 0))) rfl ?_; clear h ac wo; intro ac wo h
        refine aE ?_
        refine hK11 _ _ ?_
        refine cr ?_
        have hd : bU a = 0 := (Eq.trans (cF hc1) (Eq.trans (cF hc2) (cF hc3)))
        exact ret (rs := [.tmp 2]) h rfl (.tmp rfl .nil) rfl (h.retP (by rw [hd] <;> rfl) trivial)
attribute [irreducible] bU
def aL (a : GI) : GI × Bool :=
  bif a.neg then
    ((⟨false, 0⟩ : GI), false)
  else
    bif (!(decide ((db (bu a.mag) (bu a.mag)) = a.mag))) then
      ((⟨false, 0⟩ : GI), false)
    else
      ((aB false (bu a.mag)), true)
theorem eB (a : GI) (ha : 0 < a.mag ∧ a.mag < 4) (za : SzI 30 a) (w0 : World)  : Calls Tryz.prog 119 #[(vI a)] w0 (RetP w0 (.tuple #[(vI ((aL a).1)), (.bool ((aL a).2))]) (SzI 28 ((aL a).1))) := by
  refine enter (N := 20) (args := [(vI a)]) Tryz.func119 rfl rfl ?_; intro ac h
  refine bB fun K1 hK1 => ?_
  refine bx h (cI a) rfl rfl rfl ?_; clear h ac; intro b1 ac wo h
  refine al h (cI (⟨false, 0⟩ : GI)) vv40 rfl rfl ?_; clear h ac wo; intro b2 ac wo h
  refine rd0 h (ah rfl (v := (.bool false))) rfl ?_; clear h ac wo; intro ac wo h
  refine aE ?_
  refine hK1 _ _ ?_
  refine bP fun K2 hK2 => ?_
  refine bB fun K3 hK3 => ?_
  refine rd0 h (eN uu40 rfl zz4 (by decide) rfl rfl (k' := 0)) rfl ?_; clear h ac wo; intro ac wo h
  refine rd1 h 1 rfl (aZ aa4 zz4 rfl rfl rfl (v := (.bool a.neg)) rfl) rfl ?_; clear h ac wo; intro ac wo h
  refine aE ?_
  refine hK3 _ _ ?_
  refine c8 (b := a.neg) h rfl (fun hc1 => ?_) (fun hc1 => ?_)
  · skip
    have hq1 := hc1; try simp only [Bool.and_eq_true, Bool.or_eq_true, Bool.and_eq_false_iff, Bool.or_eq_false_iff, decide_eq_true_eq, decide_eq_false_iff_not, beq_iff_eq, beq_eq_false_iff_ne, bne_iff_ne, bne_eq_false_iff_eq, Bool.true_and, Bool.not_eq_true', Bool.not_eq_false', ne_eq] at hq1
    refine bB fun K4 hK4 => ?_
    refine rd0 h (bW (parts := []) (vs := []) lX rfl rfl (v := (vI (⟨false, 0⟩ : GI))) rfl) rfl ?_; clear h ac wo; intro ac wo h
    refine st h 0 (cI (⟨false, 0⟩ : GI)) rfl zz40 rfl rfl rfl rfl rfl rfl rfl ?_; clear h ac wo; intro ac wo h
    refine rd0 h (ah rfl (v := (.bool false))) rfl ?_; clear h ac wo; intro ac wo h
    refine aE ?_
    refine hK4 _ _ ?_
    refine cr ?_
    have hd : aL a = ((⟨false, 0⟩ : GI), false) := (cT hc1)
    exact ret (rs := [.cell 2 40, .tmp 3]) h rfl (.cell (v := (vI (⟨false, 0⟩ : GI))) rfl (i := 0) rfl aa40 zz40 rfl rfl rfl (.tmp rfl .nil)) rfl (h.retP (by rw [hd] <;> rfl) (by rw [hd]; exact (cu 0 (by decide) (by omega))))
  · skip
    have hq1 := hc1; try simp only [Bool.and_eq_true, Bool.or_eq_true, Bool.and_eq_false_iff, Bool.or_eq_false_iff, decide_eq_true_eq, decide_eq_false_iff_not, beq_iff_eq, beq_eq_false_iff_ne, bne_iff_ne, bne_eq_false_iff_eq, Bool.true_and, Bool.not_eq_true', Bool.not_eq_false', ne_eq] at hq1
    refine bR ?_
    refine hK2 _ _ ?_
    refine bB fun K5 hK5 => ?_
    refine rd0 h (eN uu40 rfl zz9 (by decide) rfl rfl (k' := 1)) rfl ?_; clear h ac wo; intro ac wo h
    refine rd1 h 1 rfl (aZ aa9 zz9 rfl rfl rfl (v := (.string (bs a.mag))) rfl) rfl ?_; clear h ac wo; intro ac wo h
    have s1 := Calls.pr ((fun w_ hB_ hS_ => iR a.mag ha za w_ ) _ h.bel h.sep)
    refine dQ (vs := [(.string (bs a.mag))]) h (bh Tryz.call136 rfl) (fun w_ hB_ hS_ => iR a.mag ha za w_ ) rfl ?_; clear h ac wo; intro ac wo h
    refine rd0 h (ah rfl) rfl ?_; clear h ac wo; intro ac wo h
    refine aE ?_
    refine hK5 _ _ ?_
    refine bP fun K6 hK6 => ?_
    refine bP fun K7 hK7 => ?_
    have s2 := aJ ((fQ (bu a.mag) (bu a.mag) 28 (by omega) s1 s1) w0)
    refine dc mixed [⟨.det (.string (bs (bu a.mag))), []⟩, ⟨.det (.string (bs (bu a.mag))), []⟩, ⟨.det (.string (bs (db (bu a.mag) (bu a.mag)))), []⟩, ⟨.det (ptr b1 1), []⟩, ⟨.det (.string (bs a.mag)), [1]⟩, ⟨.det (.bool (!(decide ((db (bu a.mag) (bu a.mag)) = a.mag)))), []⟩] [⟨.blk b2 (cI (⟨false, 0⟩ : GI)) 40, []⟩, ⟨.blk b1 (cI a) 40, []⟩] h rfl (by kernel_rfl) ⟨?_, ?_, ?_, ?_, ?_, ?_, trivial⟩ ?_
    · intro ξ hφ; exact ay (aj rfl)
    · intro ξ hφ; exact ay (aj rfl)
    · intro ξ hφ; exact dY (df (vs := [(.string (bs (bu a.mag))), (.string (bs (bu a.mag)))]) (bh Tryz.call123 rfl) (fun w_ hB_ hS_ => (fQ (bu a.mag) (bu a.mag) 28 (by omega) s1 s1) w_))
    · intro ξ hφ; exact ay (eN uu40 rfl zz9 (by decide) rfl rfl (k' := 1))
    · intro ξ hφ; exact bT [.blk b1 (cI a) 40] rfl rfl (aZ aa9 zz9 rfl rfl rfl (v := (.string (bs a.mag))) rfl)
    · intro ξ hφ; exact ay (kr rfl rfl (m := (db (bu a.mag) (bu a.mag))) (n := a.mag))
    clear h ac wo; intro ξ ac wo hφ h
    replace h : St w0 20 [(2, (ptr b2 0)), (4, (.string (bs (bu a.mag)))), (16, (.bool (!(decide ((db (bu a.mag) (bu a.mag)) = a.mag)))))] [.blk b2 (cI (⟨false, 0⟩ : GI)) 40, .blk b1 (cI a) 40] ac wo := (h.pick [0, 1] (by decide)).sub ⟨rfl, rfl, rfl, trivial⟩
    clear hφ ξ
    refine hK7 _ _ ?_
    refine c8 (b := (!(decide ((db (bu a.mag) (bu a.mag)) = a.mag)))) h rfl (fun hc2 => ?_) (fun hc2 => ?_)
    · skip
      have hq2 := hc2; try simp only [Bool.and_eq_true, Bool.or_eq_true, Bool.and_eq_false_iff, Bool.or_eq_false_iff, decide_eq_true_eq, decide_eq_false_iff_not, beq_iff_eq, beq_eq_false_iff_ne, bne_iff_ne, bne_eq_false_iff_eq, Bool.true_and, Bool.not_eq_true', Bool.not_eq_false', ne_eq] at hq2
      refine bB fun K8 hK8 => ?_
      refine rd0 h (bW (parts := []) (vs := []) lX rfl rfl (v := (vI (⟨false, 0⟩ : GI))) rfl) rfl ?_; clear h ac wo; intro ac wo h
      refine st h 0 (cI (⟨false, 0⟩ : GI)) rfl zz40 rfl rfl rfl rfl rfl rfl rfl ?_; clear h ac wo; intro ac wo h
      refine rd0 h (ah rfl (v := (.bool false))) rfl ?_; clear h ac wo; intro ac wo h
      refine aE ?_
      refine hK8 _ _ ?_
      refine cr ?_
      have hd : aL a = ((⟨false, 0⟩ : GI), false) := (Eq.trans (cF hc1) (cT hc2))
      exact ret (rs := [.cell 2 40, .tmp 3]) h rfl (.cell (v := (vI (⟨false, 0⟩ : GI))) rfl (i := 0) rfl aa40 zz40 rfl rfl rfl (.tmp rfl .nil)) rfl (h.retP (by rw [hd] <;> rfl) (by rw [hd]; exact (cu 0 (by decide) (by omega))))
    · skip
      have hq2 := hc2; try simp only [Bool.and_eq_true, Bool.or_eq_true, Bool.and_eq_false_iff, Bool.or_eq_false_iff, decide_eq_true_eq, decide_eq_false_iff_not, beq_iff_eq, beq_eq_false_iff_ne, bne_iff_ne, bne_eq_false_iff_eq, Bool.true_and, Bool.not_eq_true', Bool.not_eq_false', ne_eq] at hq2
      refine bR ?_
      refine hK6 _ _ ?_
      refine bB fun K9 hK9 => ?_
      refine rd0 h (aj rfl) rfl ?_; clear h ac wo; intro ac wo h
      have s3 := aJ ((bL false (bu a.mag) 29 (by omega) s1) w0)
      refine dQ (vs := [(.bool false), (.string (bs (bu a.mag)))]) h (bh Tryz.call78 rfl) (fun w_ hB_ hS_ => (bL false (bu a.mag) 29 (by omega) s1) w_) rfl ?_; clear h ac wo; intro ac wo h
      refine st h 0 (cI (aB false (bu a.mag))) rfl zz40 rfl rfl rfl rfl rfl rfl rfl ?_; clear h ac wo; intro ac wo h
      refine rd0 h (ah rfl (v := (.bool true))) rfl ?_; clear h ac wo; intro ac wo h
      refine aE ?_
      refine hK9 _ _ ?_
      refine cr ?_
      have hd : aL a = ((aB false (bu a.mag)), true) := (Eq.trans (cF hc1) (cF hc2))
      exact ret (rs := [.cell 2 40, .tmp 3]) h rfl (.cell (v := (vI (aB false (bu a.mag)))) rfl (i := 0) rfl aa40 zz40 rfl rfl rfl (.tmp rfl .nil)) rfl (h.retP (by rw [hd] <;> rfl) (by rw [hd]; exact (fW s3 (by omega))))
attribute [irreducible] aL
def dh (a : GQ) : GQ × Bool :=
  bif ((!(aL a.num).2) || (!(aL (aA a)).2)) then
    ((⟨(⟨false, 0⟩ : GI), (⟨false, 0⟩ : GI)⟩ : GQ), false)
  else
    ((a7 ((aL a.num).1) ((aL (aA a)).1)), true)
theorem ir (a : GQ) (ha : a.num.mag = 2 ∧ a.den = ⟨false, 0⟩) (za : SzQ 30 a) (w0 : World)  : Calls Tryz.prog 98 #[(vQ a)] w0 (RetP w0 (.tuple #[(vQ ((dh a).1)), (.bool ((dh a).2))]) (SzQ 20 ((dh a).1))) := by
  refine enter (N := 30) (args := [(vQ a)]) Tryz.func98 rfl rfl ?_; intro ac h
  refine bB fun K1 hK1 => ?_
  refine bx h (cQ a) rfl rfl rfl ?_; clear h ac; intro b1 ac wo h
  refine al h (cQ (⟨(⟨false, 0⟩ : GI), (⟨false, 0⟩ : GI)⟩ : GQ)) vv42 rfl rfl ?_; clear h ac wo; intro b2 ac wo h
  refine rd0 h (ah rfl (v := (.bool false))) rfl ?_; clear h ac wo; intro ac wo h
  refine aE ?_
  refine hK1 _ _ ?_
  refine bB fun K2 hK2 => ?_
  refine rd0 h (eN uu42 rfl zz40 (by decide) rfl rfl (k' := 0)) rfl ?_; clear h ac wo; intro ac wo h
  refine rd1 h 1 rfl (aZ aa40 zz40 rfl rfl rfl (v := (vI a.num)) rfl) rfl ?_; clear h ac wo; intro ac wo h
  have s1 := Calls.pr ((fun w_ hB_ hS_ => eB a.num (by omega) za.1 w_ ) _ h.bel h.sep)
  refine dQ (vs := [(vI a.num)]) h (bh Tryz.call119 rfl) (fun w_ hB_ hS_ => eB a.num (by omega) za.1 w_ ) rfl ?_; clear h ac wo; intro ac wo h
  refine rd0 h (aj rfl) rfl ?_; clear h ac wo; intro ac wo h
  refine rd0 h (bq (vs := [(vI ((aL a.num).1)), (.bool ((aL a.num).2))]) rfl rfl) rfl ?_; clear h ac wo; intro ac wo h
  refine rd0 h (bq (vs := [(vI ((aL a.num).1)), (.bool ((aL a.num).2))]) rfl rfl) rfl ?_; clear h ac wo; intro ac wo h
  refine al h (cI (⟨false, 0⟩ : GI)) vv40 rfl rfl ?_; clear h ac wo; intro b3 ac wo h
  refine st h 0 (cI ((aL a.num).1)) rfl zz40 rfl rfl rfl rfl rfl rfl rfl ?_; clear h ac wo; intro ac wo h
  refine rd0 h (ah rfl) rfl ?_; clear h ac wo; intro ac wo h
  refine aE ?_
  refine hK2 _ _ ?_
  refine bB fun K3 hK3 => ?_
  refine rd1 h 2 rfl (aZ aa42 zz42 rfl rfl rfl (v := (vQ a)) rfl) rfl ?_; clear h ac wo; intro ac wo h
  have s2 := aJ ((bZ a 30 (by omega) za) w0)
  refine dQ (vs := [(vQ a)]) h (bh Tryz.call103 rfl) (fun w_ hB_ hS_ => (bZ a 30 (by omega) za) w_) rfl ?_; clear h ac wo; intro ac wo h
  have s3 := Calls.pr ((fun w_ hB_ hS_ => eB (aA a) (my ha.2) s2 w_ ) _ h.bel h.sep)
  refine dQ (vs := [(vI (aA a))]) h (bh Tryz.call119 rfl) (fun w_ hB_ hS_ => eB (aA a) (my ha.2) s2 w_ ) rfl ?_; clear h ac wo; intro ac wo h
  refine rd0 h (aj rfl) rfl ?_; clear h ac wo; intro ac wo h
  refine rd0 h (bq (vs := [(vI ((aL (aA a)).1)), (.bool ((aL (aA a)).2))]) rfl rfl) rfl ?_; clear h ac wo; intro ac wo h
  refine rd0 h (bq (vs := [(vI ((aL (aA a)).1)), (.bool ((aL (aA a)).2))]) rfl rfl) rfl ?_; clear h ac wo; intro ac wo h
  refine al h (cI (⟨false, 0⟩ : GI)) vv40 rfl rfl ?_; clear h ac wo; intro b4 ac wo h
  refine st h 0 (cI ((aL (aA a)).1)) rfl zz40 rfl rfl rfl rfl rfl rfl rfl ?_; clear h ac wo; intro ac wo h
  refine rd0 h (ah rfl) rfl ?_; clear h ac wo; intro ac wo h
  refine aE ?_
  refine hK3 _ _ ?_
  replace h := h.sub (F' := [(2, (ptr b2 0)), (4, (ptr b3 0)), (5, (.bool ((aL a.num).2))), (6, (ptr b4 0)), (7, (.bool ((aL (aA a)).2)))]) ⟨rfl, rfl, rfl, rfl, rfl, trivial⟩
  refine bP fun K4 hK4 => ?_
  refine bB fun K5 hK5 => ?_
  refine rd0 h (aj rfl) rfl ?_; clear h ac wo; intro ac wo h
  refine rd0 h (eU rfl) rfl ?_; clear h ac wo; intro ac wo h
  refine rd0 h (aj rfl) rfl ?_; clear h ac wo; intro ac wo h
  refine gd (j := 2) (c := true) (b := (!(aL a.num).2)) (g := (!(!(aL a.num).2))) h rfl rfl g_f (fun hg => (Rd.of_nil (aj rfl)).step) rfl ?_; clear h ac wo; intro ac wo h
  refine gd (j := 2) (c := true) (b := (!(aL a.num).2)) (g := (!(!(aL a.num).2))) h rfl rfl g_f (fun hg => (Rd.of_nil (eU (bo rfl hg))).step) rfl ?_; clear h ac wo; intro ac wo h
  refine rd0 h (mM rfl (fun e => (bo rfl (mO e)))) rfl ?_; clear h ac wo; intro ac wo h
  refine aE ?_
  refine hK5 _ _ ?_
  refine c8 (b := ((!(aL a.num).2) || (!(aL (aA a)).2))) h rfl (fun hc1 => ?_) (fun hc1 => ?_)
  · skip
    have hq1 := hc1; try simp only [Bool.and_eq_true, Bool.or_eq_true, Bool.and_eq_false_iff, Bool.or_eq_false_iff, decide_eq_true_eq, decide_eq_false_iff_not, beq_iff_eq, beq_eq_false_iff_ne, bne_iff_ne, bne_eq_false_iff_eq, Bool.true_and, Bool.not_eq_true', Bool.not_eq_false', ne_eq] at hq1
    refine bB fun K6 hK6 => ?_
    refine rd0 h (bW (parts := []) (vs := []) mD rfl rfl (v := (vQ (⟨(⟨false, 0⟩ : GI), (⟨false, 0⟩ : GI)⟩ : GQ))) rfl) rfl ?_; clear h ac wo; intro ac wo h
    refine st h 2 (cQ (⟨(⟨false, 0⟩ : GI), (⟨false, 0⟩ : GI)⟩ : GQ)) rfl zz42 rfl rfl rfl rfl rfl rfl rfl ?_; clear h ac wo; intro ac wo h
    refine rd0 h (ah rfl (v := (.bool false))) rfl ?_; clear h ac wo; intro ac wo h
    refine aE ?_
    refine hK6 _ _ ?_
    refine cr ?_
    have hd : dh a = ((⟨(⟨false, 0⟩ : GI), (⟨false, 0⟩ : GI)⟩ : GQ), false) := (cT hc1)
    exact ret (rs := [.cell 2 42, .tmp 3]) h rfl (.cell (v := (vQ (⟨(⟨false, 0⟩ : GI), (⟨false, 0⟩ : GI)⟩ : GQ))) rfl (i := 2) rfl aa42 zz42 rfl rfl rfl (.tmp rfl .nil)) rfl (h.retP (by rw [hd] <;> rfl) (by rw [hd]; exact ⟨(cu 0 (by decide) (by omega)), (cu 0 (by decide) (by omega))⟩))
  · skip
    have hq1 := hc1; try simp only [Bool.and_eq_true, Bool.or_eq_true, Bool.and_eq_false_iff, Bool.or_eq_false_iff, decide_eq_true_eq, decide_eq_false_iff_not, beq_iff_eq, beq_eq_false_iff_ne, bne_iff_ne, bne_eq_false_iff_eq, Bool.true_and, Bool.not_eq_true', Bool.not_eq_false', ne_eq] at hq1
    refine bR ?_
    refine hK4 _ _ ?_
    refine bB fun K7 hK7 => ?_
    refine rd1 h 1 rfl (aZ aa40 zz40 rfl rfl rfl (v := (vI ((aL a.num).1))) rfl) rfl ?_; clear h ac wo; intro ac wo h
    refine rd1 h 0 rfl (aZ aa40 zz40 rfl rfl rfl (v := (vI ((aL (aA a)).1))) rfl) rfl ?_; clear h ac wo; intro ac wo h
    have s4 := aJ ((cG ((aL a.num).1) ((aL (aA a)).1) 27 (by omega) s1 s3) w0)
    refine dQ (vs := [(vI ((aL a.num).1)), (vI ((aL (aA a)).1))]) h (bh Tryz.call77 rfl) (fun w_ hB_ hS_ => (cG ((aL a.num).1) ((aL (aA a)).1) 27 (by omega) s1 s3) w_) rfl ?_; clear h ac wo; intro ac wo h
    refine st h 2 (cQ (a7 ((aL a.num).1) ((aL (aA a)).1))) rfl zz42 rfl rfl rfl rfl rfl rfl rfl ?_; clear h ac wo; intro ac wo h
    refine rd0 h (ah rfl (v := (.bool true))) rfl ?_; clear h ac wo; intro ac wo h
    refine aE ?_
    refine hK7 _ _ ?_
    refine cr ?_
    have hd : dh a = ((a7 ((aL a.num).1) ((aL (aA a)).1)), true) := (cF hc1)
    exact ret (rs := [.cell 2 42, .tmp 3]) h rfl (.cell (v := (vQ (a7 ((aL a.num).1) ((aL (aA a)).1)))) rfl (i := 2) rfl aa42 zz42 rfl rfl rfl (.tmp rfl .nil)) rfl (h.retP (by rw [hd] <;> rfl) (by rw [hd]; exact (ed s4 (by omega))))
attribute [irreducible] dh
def cH (x : GR) : Int :=
  bif (((bU x.p) != 0) || ((bU x.r) != 0)) then
    5
  else
    bif ((aI x.r) == (-1)) then
      5
    else
      bif ((aI x.r) == 0) then
        bif x.neg then
          5
        else
          0
      else
        bif (dh x.r).2 then
          5
        else
          0
theorem jt (x : GR) (hr : RtR x) (zx : SzR 30 x) (w0 : World)  : Calls Tryz.prog 81 #[(vR x)] w0 (RetP w0 (.int .i64 (cH x)) (True)) := by
  refine enter (N := 31) (args := [(vR x)]) Tryz.func81 rfl rfl ?_; intro ac h
  refine bB fun K1 hK1 => ?_
  refine bx h (cR x) rfl rfl rfl ?_; clear h ac; intro b1 ac wo h
  refine rd0 h (ah rfl (v := (.int .i64 0))) rfl ?_; clear h ac wo; intro ac wo h
  refine aE ?_
  refine hK1 _ _ ?_
  refine bP fun K2 hK2 => ?_
  refine bB fun K3 hK3 => ?_
  refine rd0 h (eN uu64 rfl zz42 (by decide) rfl rfl (k' := 0)) rfl ?_; clear h ac wo; intro ac wo h
  refine rd1 h 0 rfl (aZ aa42 zz42 rfl rfl rfl (v := (vQ x.p)) rfl) rfl ?_; clear h ac wo; intro ac wo h
  refine dQ (vs := [(vQ x.p)]) h (bh Tryz.call97 rfl) (fun w_ hB_ hS_ => gZ x.p (ed zx.1 (by omega)) w_ ) rfl ?_; clear h ac wo; intro ac wo h
  refine rd0 h (gw rfl rfl) rfl ?_; clear h ac wo; intro ac wo h
  refine rd0 h (aj rfl) rfl ?_; clear h ac wo; intro ac wo h
  refine gd (j := 4) (c := true) (b := ((bU x.p) != 0)) (g := (!((bU x.p) != 0))) h rfl rfl g_f (fun hg => (Rd.of_nil (eN uu64 rfl zz42 (by decide) rfl rfl (k' := 4))).step) rfl ?_; clear h ac wo; intro ac wo h
  refine gd (j := 4) (c := true) (b := ((bU x.p) != 0)) (g := (!((bU x.p) != 0))) h rfl rfl g_f (fun hg => (Rd.of_mem (i := 0) (aZ aa42 zz42 (bo rfl hg) rfl rfl (v := (vQ x.r)) rfl) rfl).step) rfl ?_; clear h ac wo; intro ac wo h
  refine gd (j := 4) (c := true) (b := ((bU x.p) != 0)) (g := (!((bU x.p) != 0))) h rfl rfl g_f (fun hg => df (vs := [(vQ x.r)]) (bh Tryz.call97 (en (bo rfl hg) rfl)) (fun w_ hB_ hS_ => gZ x.r (ed zx.2 (by omega)) w_ )) rfl ?_; clear h ac wo; intro ac wo h
  refine gd (j := 4) (c := true) (b := ((bU x.p) != 0)) (g := (!((bU x.p) != 0))) h rfl rfl g_f (fun hg => (Rd.of_nil (gw (bo rfl hg) rfl)).step) rfl ?_; clear h ac wo; intro ac wo h
  refine rd0 h (mM rfl (fun e => (bo rfl (mO e)))) rfl ?_; clear h ac wo; intro ac wo h
  refine aE ?_
  refine hK3 _ _ ?_
  refine c8 (b := (((bU x.p) != 0) || ((bU x.r) != 0))) h rfl (fun hc1 => ?_) (fun hc1 => ?_)
  · skip
    have hq1 := hc1; try simp only [Bool.and_eq_true, Bool.or_eq_true, Bool.and_eq_false_iff, Bool.or_eq_false_iff, decide_eq_true_eq, decide_eq_false_iff_not, beq_iff_eq, beq_eq_false_iff_ne, bne_iff_ne, bne_eq_false_iff_eq, Bool.true_and, Bool.not_eq_true', Bool.not_eq_false', ne_eq] at hq1
    refine bB fun K4 hK4 => ?_
    refine rd0 h (ah rfl (v := (.int .i64 5))) rfl ?_; clear h ac wo; intro ac wo h
    refine aE ?_
    refine hK4 _ _ ?_
    refine cr ?_
    have hd : cH x = 5 := (cT hc1)
    exact ret (rs := [.tmp 2]) h rfl (.tmp rfl .nil) rfl (h.retP (by rw [hd] <;> rfl) trivial)
  · skip
    have hq1 := hc1; try simp only [Bool.and_eq_true, Bool.or_eq_true, Bool.and_eq_false_iff, Bool.or_eq_false_iff, decide_eq_true_eq, decide_eq_false_iff_not, beq_iff_eq, beq_eq_false_iff_ne, bne_iff_ne, bne_eq_false_iff_eq, Bool.true_and, Bool.not_eq_true', Bool.not_eq_false', ne_eq] at hq1
    refine bR ?_
    refine hK2 _ _ ?_
    refine bP fun K5 hK5 => ?_
    refine bB fun K6 hK6 => ?_
    refine rd0 h (eN uu64 rfl zz42 (by decide) rfl rfl (k' := 4)) rfl ?_; clear h ac wo; intro ac wo h
    refine rd1 h 0 rfl (aZ aa42 zz42 rfl rfl rfl (v := (vQ x.r)) rfl) rfl ?_; clear h ac wo; intro ac wo h
    have p2 := aJ ((ck x.r) w0)
    refine dQ (vs := [(vQ x.r)]) h (bh Tryz.call55 rfl) (fun w_ hB_ hS_ => (ck x.r) w_) rfl ?_; clear h ac wo; intro ac wo h
    refine aE ?_
    refine hK6 _ _ ?_
    refine dm ?_
    refine bB fun K7 hK7 => ?_
    refine rd0 h (dV rfl rfl) rfl ?_; clear h ac wo; intro ac wo h
    refine rd0 h (ah rfl) rfl ?_; clear h ac wo; intro ac wo h
    refine aE ?_
    refine hK7 _ _ ?_
    replace h := h.sub (F' := [(1, (ptr b1 0)), (17, (.int .i64 (aI x.r))), (18, (.bool ((aI x.r) == (-1))))]) ⟨rfl, rfl, rfl, trivial⟩
    refine c8 (b := ((aI x.r) == (-1))) h rfl (fun hc2 => ?_) (fun hc2 => ?_)
    · skip
      have hd2 := eq_of_beq hc2
      refine bB fun K8 hK8 => ?_
      refine rd0 h (ah rfl (v := (.int .i64 5))) rfl ?_; clear h ac wo; intro ac wo h
      refine aE ?_
      refine hK8 _ _ ?_
      refine cr ?_
      have hd : cH x = 5 := (Eq.trans (cF hc1) (cT hc2))
      exact ret (rs := [.tmp 2]) h rfl (.tmp rfl .nil) rfl (h.retP (by rw [hd] <;> rfl) trivial)
    · skip
      have hd2 := ne_of_beq_false hc2
      refine bB fun K9 hK9 => ?_
      refine rd0 h (dV rfl rfl) rfl ?_; clear h ac wo; intro ac wo h
      refine rd0 h (ah rfl) rfl ?_; clear h ac wo; intro ac wo h
      refine aE ?_
      refine hK9 _ _ ?_
      refine c8 (b := ((aI x.r) == 0)) h rfl (fun hc3 => ?_) (fun hc3 => ?_)
      · skip
        have hd3 := eq_of_beq hc3
        refine bP fun K10 hK10 => ?_
        refine bB fun K11 hK11 => ?_
        refine rd0 h (eN uu64 rfl zz4 (by decide) rfl rfl (k' := 8)) rfl ?_; clear h ac wo; intro ac wo h
        refine rd1 h 0 rfl (aZ aa4 zz4 rfl rfl rfl (v := (.bool x.neg)) rfl) rfl ?_; clear h ac wo; intro ac wo h
        refine aE ?_
        refine hK11 _ _ ?_
        refine c8 (b := x.neg) h rfl (fun hc4 => ?_) (fun hc4 => ?_)
        · skip
          have hq4 := hc4; try simp only [Bool.and_eq_true, Bool.or_eq_true, Bool.and_eq_false_iff, Bool.or_eq_false_iff, decide_eq_true_eq, decide_eq_false_iff_not, beq_iff_eq, beq_eq_false_iff_ne, bne_iff_ne, bne_eq_false_iff_eq, Bool.true_and, Bool.not_eq_true', Bool.not_eq_false', ne_eq] at hq4
          refine bB fun K12 hK12 => ?_
          refine rd0 h (ah rfl (v := (.int .i64 5))) rfl ?_; clear h ac wo; intro ac wo h
          refine aE ?_
          refine hK12 _ _ ?_
          refine cr ?_
          have hd : cH x = 5 := (Eq.trans (cF hc1) (Eq.trans (cF hc2) (Eq.trans (cT hc3) (cT hc4))))
          exact ret (rs := [.tmp 2]) h rfl (.tmp rfl .nil) rfl (h.retP (by rw [hd] <;> rfl) trivial)
        · skip
          have hq4 := hc4; try simp only [Bool.and_eq_true, Bool.or_eq_true, Bool.and_eq_false_iff, Bool.or_eq_false_iff, decide_eq_true_eq, decide_eq_false_iff_not, beq_iff_eq, beq_eq_false_iff_ne, bne_iff_ne, bne_eq_false_iff_eq, Bool.true_and, Bool.not_eq_true', Bool.not_eq_false', ne_eq] at hq4
          refine bR ?_
          refine hK10 _ _ ?_
          refine bB fun K13 hK13 => ?_
          refine rd0 h (ah rfl (v := (.int .i64 0))) rfl ?_; clear h ac wo; intro ac wo h
          refine aE ?_
          refine hK13 _ _ ?_
          refine cr ?_
          have hd : cH x = 0 := (Eq.trans (cF hc1) (Eq.trans (cF hc2) (Eq.trans (cT hc3) (cF hc4))))
          exact ret (rs := [.tmp 2]) h rfl (.tmp rfl .nil) rfl (h.retP (by rw [hd] <;> rfl) trivial)
      · skip
        have hd3 := ne_of_beq_false hc3
        refine bR ?_
        refine e7 ?_
        refine hK5 _ _ ?_
        refine bP fun K14 hK14 => ?_
        refine bB fun K15 hK15 => ?_
        refine rd0 h (eN uu64 rfl zz42 (by decide) rfl rfl (k' := 4)) rfl ?_; clear h ac wo; intro ac wo h
        refine rd1 h 0 rfl (aZ aa42 zz42 rfl rfl rfl (v := (vQ x.r)) rfl) rfl ?_; clear h ac wo; intro ac wo h
        have s3 := Calls.pr ((fun w_ hB_ hS_ => ir x.r (nc hr (by assumption)) zx.2 w_ ) _ h.bel h.sep)
        refine dQ (vs := [(vQ x.r)]) h (bh Tryz.call98 rfl) (fun w_ hB_ hS_ => ir x.r (nc hr (by assumption)) zx.2 w_ ) rfl ?_; clear h ac wo; intro ac wo h
        refine rd0 h (aj rfl) rfl ?_; clear h ac wo; intro ac wo h
        refine rd0 h (bq (vs := [(vQ ((dh x.r).1)), (.bool ((dh x.r).2))]) rfl rfl) rfl ?_; clear h ac wo; intro ac wo h
        refine rd0 h (bq (vs := [(vQ ((dh x.r).1)), (.bool ((dh x.r).2))]) rfl rfl) rfl ?_; clear h ac wo; intro ac wo h
        refine al h (cQ (⟨(⟨false, 0⟩ : GI), (⟨false, 0⟩ : GI)⟩ : GQ)) vv42 rfl rfl ?_; clear h ac wo; intro b2 ac wo h
        refine st h 0 (cQ ((dh x.r).1)) rfl zz42 rfl rfl rfl rfl rfl rfl rfl ?_; clear h ac wo; intro ac wo h
        refine rd0 h (ah rfl) rfl ?_; clear h ac wo; intro ac wo h
        refine aE ?_
        refine hK15 _ _ ?_
        refine bB fun K16 hK16 => ?_
        refine rd0 h (aj rfl) rfl ?_; clear h ac wo; intro ac wo h
        refine aE ?_
        refine hK16 _ _ ?_
        refine c8 (b := (dh x.r).2) h rfl (fun hc5 => ?_) (fun hc5 => ?_)
        · skip
          have hq5 := hc5; try simp only [Bool.and_eq_true, Bool.or_eq_true, Bool.and_eq_false_iff, Bool.or_eq_false_iff, decide_eq_true_eq, decide_eq_false_iff_not, beq_iff_eq, beq_eq_false_iff_ne, bne_iff_ne, bne_eq_false_iff_eq, Bool.true_and, Bool.not_eq_true', Bool.not_eq_false', ne_eq] at hq5
          refine bB fun K17 hK17 => ?_
          refine rd0 h (ah rfl (v := (.int .i64 5))) rfl ?_; clear h ac wo; intro ac wo h
          refine aE ?_
          refine hK17 _ _ ?_
          refine cr ?_
          have hd : cH x = 5 := (Eq.trans (cF hc1) (Eq.trans (cF hc2) (Eq.trans (cF hc3) (cT hc5))))
          exact ret (rs := [.tmp 2]) h rfl (.tmp rfl .nil) rfl (h.retP (by rw [hd] <;> rfl) trivial)
        · skip
          have hq5 := hc5; try simp only [Bool.and_eq_true, Bool.or_eq_true, Bool.and_eq_false_iff, Bool.or_eq_false_iff, decide_eq_true_eq, decide_eq_false_iff_not, beq_iff_eq, beq_eq_false_iff_ne, bne_iff_ne, bne_eq_false_iff_eq, Bool.true_and, Bool.not_eq_true', Bool.not_eq_false', ne_eq] at hq5
          refine bR ?_
          refine hK14 _ _ ?_
          refine bB fun K18 hK18 => ?_
          refine rd0 h (ah rfl (v := (.int .i64 0))) rfl ?_; clear h ac wo; intro ac wo h
          refine aE ?_
          refine hK18 _ _ ?_
          refine cr ?_
          have hd : cH x = 0 := (Eq.trans (cF hc1) (Eq.trans (cF hc2) (Eq.trans (cF hc3) (cF hc5))))
          exact ret (rs := [.tmp 2]) h rfl (.tmp rfl .nil) rfl (h.retP (by rw [hd] <;> rfl) trivial)
attribute [irreducible] cH
def bN (i : Iv) : Int :=
  bif (((cH i.lo) != 0) || ((cH i.hi) != 0)) then
    5
  else
    bif (decide ((aQ (am i) (ao i)) ≥ 0)) then
      10
    else
      0
theorem ii (i : Iv) (hv : RtV i) (zi : SzV 30 i) (w0 : World)  : Calls Tryz.prog 61 #[(vV i)] w0 (RetP w0 (.int .i64 (bN i)) (True)) := by
  refine enter (N := 19) (args := [(vV i)]) Tryz.func61 rfl rfl ?_; intro ac h
  refine bB fun K1 hK1 => ?_
  refine bx h (cV i) rfl rfl rfl ?_; clear h ac; intro b1 ac wo h
  refine rd0 h (ah rfl (v := (.int .i64 0))) rfl ?_; clear h ac wo; intro ac wo h
  refine aE ?_
  refine hK1 _ _ ?_
  refine bP fun K2 hK2 => ?_
  refine bB fun K3 hK3 => ?_
  refine rd0 h (eN uu66 rfl zz64 (by decide) rfl rfl (k' := 0)) rfl ?_; clear h ac wo; intro ac wo h
  refine rd1 h 0 rfl (aZ Tryz.isAgg64 zz64 rfl rfl rfl (v := (vR i.lo)) rfl) rfl ?_; clear h ac wo; intro ac wo h
  refine dQ (vs := [(vR i.lo)]) h (bh Tryz.call81 rfl) (fun w_ hB_ hS_ => jt i.lo hv.1 zi.1 w_ ) rfl ?_; clear h ac wo; intro ac wo h
  refine rd0 h (gw rfl rfl) rfl ?_; clear h ac wo; intro ac wo h
  refine rd0 h (aj rfl) rfl ?_; clear h ac wo; intro ac wo h
  refine gd (j := 4) (c := true) (b := ((cH i.lo) != 0)) (g := (!((cH i.lo) != 0))) h rfl rfl g_f (fun hg => (Rd.of_nil (eN uu66 rfl zz64 (by decide) rfl rfl (k' := 9))).step) rfl ?_; clear h ac wo; intro ac wo h
  refine gd (j := 4) (c := true) (b := ((cH i.lo) != 0)) (g := (!((cH i.lo) != 0))) h rfl rfl g_f (fun hg => (Rd.of_mem (i := 0) (aZ Tryz.isAgg64 zz64 (bo rfl hg) rfl rfl (v := (vR i.hi)) rfl) rfl).step) rfl ?_; clear h ac wo; intro ac wo h
  refine gd (j := 4) (c := true) (b := ((cH i.lo) != 0)) (g := (!((cH i.lo) != 0))) h rfl rfl g_f (fun hg => df (vs := [(vR i.hi)]) (bh Tryz.call81 (en (bo rfl hg) rfl)) (fun w_ hB_ hS_ => jt i.hi hv.2 zi.2 w_ )) rfl ?_; clear h ac wo; intro ac wo h
  refine gd (j := 4) (c := true) (b := ((cH i.lo) != 0)) (g := (!((cH i.lo) != 0))) h rfl rfl g_f (fun hg => (Rd.of_nil (gw (bo rfl hg) rfl)).step) rfl ?_; clear h ac wo; intro ac wo h
  refine rd0 h (mM rfl (fun e => (bo rfl (mO e)))) rfl ?_; clear h ac wo; intro ac wo h
  refine aE ?_
  refine hK3 _ _ ?_
  refine c8 (b := (((cH i.lo) != 0) || ((cH i.hi) != 0))) h rfl (fun hc1 => ?_) (fun hc1 => ?_)
  · skip
    have hq1 := hc1; try simp only [Bool.and_eq_true, Bool.or_eq_true, Bool.and_eq_false_iff, Bool.or_eq_false_iff, decide_eq_true_eq, decide_eq_false_iff_not, beq_iff_eq, beq_eq_false_iff_ne, bne_iff_ne, bne_eq_false_iff_eq, Bool.true_and, Bool.not_eq_true', Bool.not_eq_false', ne_eq] at hq1
    refine bB fun K4 hK4 => ?_
    refine rd0 h (ah rfl (v := (.int .i64 5))) rfl ?_; clear h ac wo; intro ac wo h
    refine aE ?_
    refine hK4 _ _ ?_
    refine cr ?_
    have hd : bN i = 5 := (cT hc1)
    exact ret (rs := [.tmp 2]) h rfl (.tmp rfl .nil) rfl (h.retP (by rw [hd] <;> rfl) trivial)
  · skip
    have hq1 := hc1; try simp only [Bool.and_eq_true, Bool.or_eq_true, Bool.and_eq_false_iff, Bool.or_eq_false_iff, decide_eq_true_eq, decide_eq_false_iff_not, beq_iff_eq, beq_eq_false_iff_ne, bne_iff_ne, bne_eq_false_iff_eq, Bool.true_and, Bool.not_eq_true', Bool.not_eq_false', ne_eq] at hq1
    refine bR ?_
    refine hK2 _ _ ?_
    refine bP fun K5 hK5 => ?_
    refine bP fun K6 hK6 => ?_
    have s1 := Calls.pr ((fun w_ hB_ hS_ => bQ i zi w_ ) _ h.bel h.sep)
    have s2 := Calls.pr ((fun w_ hB_ hS_ => bV i zi w_ ) _ h.bel h.sep)
    have s3 := Calls.pr ((fun w_ hB_ hS_ => ch (am i) (ao i) s1 s2 w_ ) _ h.bel h.sep)
    have p4 := s3
    refine dc mixed [⟨.det (vV i), [0]⟩, ⟨.det (vW (am i)), []⟩, ⟨.det (vV i), [0]⟩, ⟨.det (vW (ao i)), []⟩, ⟨.det (.int .i64 (aQ (am i) (ao i))), []⟩, ⟨.det (.bool (decide ((aQ (am i) (ao i)) ≥ 0))), []⟩] [⟨.blk b1 (cV i) 66, []⟩] h rfl (by kernel_rfl) ⟨?_, ?_, ?_, ?_, ?_, ?_, trivial⟩ ?_
    · intro ξ hφ; exact bT [.blk b1 (cV i) 66] rfl rfl (aZ Tryz.isAgg66 Tryz.sizeOf66 rfl rfl rfl (v := (vV i)) rfl)
    · intro ξ hφ; exact dY (df (vs := [(vV i)]) (bh Tryz.call64 rfl) (fun w_ hB_ hS_ => bQ i zi w_ ))
    · intro ξ hφ; exact bT [.blk b1 (cV i) 66] rfl rfl (aZ Tryz.isAgg66 Tryz.sizeOf66 rfl rfl rfl (v := (vV i)) rfl)
    · intro ξ hφ; exact dY (df (vs := [(vV i)]) (bh Tryz.call63 rfl) (fun w_ hB_ hS_ => bV i zi w_ ))
    · intro ξ hφ; exact dY (df (vs := [(vW (am i)), (vW (ao i))]) (bh Tryz.call62 rfl) (fun w_ hB_ hS_ => ch (am i) (ao i) s1 s2 w_ ))
    · intro ξ hφ; exact ay (me rfl rfl)
    clear h ac wo; intro ξ ac wo hφ h
    replace h : St w0 19 [(18, (.bool (decide ((aQ (am i) (ao i)) ≥ 0))))] [.blk b1 (cV i) 66] ac wo := (h.pick [0] (by decide)).sub ⟨rfl, trivial⟩
    clear hφ ξ
    refine hK6 _ _ ?_
    refine c8 (b := (decide ((aQ (am i) (ao i)) ≥ 0))) h rfl (fun hc2 => ?_) (fun hc2 => ?_)
    · skip
      have hd2 := of_decide_eq_true hc2
      refine bB fun K7 hK7 => ?_
      refine rd0 h (ah rfl (v := (.int .i64 10))) rfl ?_; clear h ac wo; intro ac wo h
      refine aE ?_
      refine hK7 _ _ ?_
      refine cr ?_
      have hd : bN i = 10 := (Eq.trans (cF hc1) (cT hc2))
      exact ret (rs := [.tmp 2]) h rfl (.tmp rfl .nil) rfl (h.retP (by rw [hd] <;> rfl) trivial)
    · skip
      have hd2 := of_decide_eq_false hc2
      refine bR ?_
      refine hK5 _ _ ?_
      refine bB fun K8 hK8 => ?_
      refine rd0 h (ah rfl (v := (.int .i64 0))) rfl ?_; clear h ac wo; intro ac wo h
      refine aE ?_
      refine hK8 _ _ ?_
      refine cr ?_
      have hd : bN i = 0 := (Eq.trans (cF hc1) (cF hc2))
      exact ret (rs := [.tmp 2]) h rfl (.tmp rfl .nil) rfl (h.retP (by rw [hd] <;> rfl) trivial)
attribute [irreducible] bN
end Go.Sx
