/- A part of the proof that the law BracketQuestions/Checks answers true at every input and leaves its arguments as they were. -/
import Derived.Test.YtbnldpccdppmiaaGreatDoorP7
import Derived.Test.YtbnldpccdppmiaaGreatDoorP6
import Derived.Test.YtbnldpccdppmiaaGreatDoorP5
import Derived.Test.YtbnldpccdppmiaaGreatDoorPm
set_option linter.unusedVariables false
set_option linter.unusedSimpArgs false
open Go.Proofs.Tryz renaming zeroValue42 → vv42, isAgg40 → aa40, sizeOf40 → zz40, sizeOf42 → zz42, isAgg42 → aa42, runUnderlying64 → uu64, isAgg64 → aa64, sizeOf64 → zz64, zeroValue66 → vv66, sizeOf66 → zz66, isAgg66 → aa66, runUnderlying26 → uu26, runUnderlying66 → uu66, runUnderlying72 → uu72
namespace Go.Sx
open Go Go.RowKit Go.Proofs
set_option maxRecDepth 100000
set_option maxHeartbeats 40000000
attribute [local irreducible] aY bS an aI aM d7
def co (num : GI) (den : GI) : GQ × Int :=
  bif ((bY den) == 0) then
    ((⟨(⟨false, 0⟩ : GI), (⟨false, 0⟩ : GI)⟩ : GQ), 6)
  else
    ((a7 num den), 0)
theorem it (num : GI) (den : GI) (znum : SzI 36 num) (zden : SzI 36 den) (w0 : World)  : Calls Tryz.prog 50 #[(vI num), (vI den)] w0 (RetP w0 (.tuple #[(vQ ((co num den).1)), (.int .i64 ((co num den).2))]) (SzQ 32 ((co num den).1))) := by
  refine enter (N := 13) (args := [(vI num), (vI den)]) Tryz.func50 rfl rfl ?_; intro ac h
  refine bB fun K1 hK1 => ?_
  refine bx h (cI num) rfl rfl rfl ?_; clear h ac; intro b1 ac wo h
  refine bx h (cI den) rfl rfl rfl ?_; clear h ac wo; intro b2 ac wo h
  refine al h (cQ (⟨(⟨false, 0⟩ : GI), (⟨false, 0⟩ : GI)⟩ : GQ)) vv42 rfl rfl ?_; clear h ac wo; intro b3 ac wo h
  refine rd0 h (ah rfl (v := (.int .i64 0))) rfl ?_; clear h ac wo; intro ac wo h
  refine aE ?_
  refine hK1 _ _ ?_
  refine bP fun K2 hK2 => ?_
  refine bB fun K3 hK3 => ?_
  refine rd1 h 1 rfl (aZ aa40 zz40 rfl rfl rfl (v := (vI den)) rfl) rfl ?_; clear h ac wo; intro ac wo h
  have p2 := aJ ((dy den) w0)
  refine dQ (vs := [(vI den)]) h (bh Tryz.call76 rfl) (fun w_ hB_ hS_ => (dy den) w_) rfl ?_; clear h ac wo; intro ac wo h
  refine rd0 h (dV rfl rfl) rfl ?_; clear h ac wo; intro ac wo h
  refine aE ?_
  refine hK3 _ _ ?_
  refine c8 (b := ((bY den) == 0)) h rfl (fun hc1 => ?_) (fun hc1 => ?_)
  · skip
    have hd1 := eq_of_beq hc1
    refine bB fun K4 hK4 => ?_
    refine rd0 h (bW (parts := []) (vs := []) mD rfl rfl (v := (vQ (⟨(⟨false, 0⟩ : GI), (⟨false, 0⟩ : GI)⟩ : GQ))) rfl) rfl ?_; clear h ac wo; intro ac wo h
    refine st h 0 (cQ (⟨(⟨false, 0⟩ : GI), (⟨false, 0⟩ : GI)⟩ : GQ)) rfl zz42 rfl rfl rfl rfl rfl rfl rfl ?_; clear h ac wo; intro ac wo h
    refine rd0 h (ah rfl (v := (.int .i64 6))) rfl ?_; clear h ac wo; intro ac wo h
    refine aE ?_
    refine hK4 _ _ ?_
    refine cr ?_
    have hd : co num den = ((⟨(⟨false, 0⟩ : GI), (⟨false, 0⟩ : GI)⟩ : GQ), 6) := (cT hc1)
    exact ret (rs := [.cell 4 42, .tmp 5]) h rfl (.cell (v := (vQ (⟨(⟨false, 0⟩ : GI), (⟨false, 0⟩ : GI)⟩ : GQ))) rfl (i := 0) rfl aa42 zz42 rfl rfl rfl (.tmp rfl .nil)) rfl (h.retP (by rw [hd] <;> rfl) (by rw [hd]; exact ⟨(cu 0 (by decide) (by omega)), (cu 0 (by decide) (by omega))⟩))
  · skip
    have hd1 := ne_of_beq_false hc1
    refine bR ?_
    refine hK2 _ _ ?_
    refine bB fun K5 hK5 => ?_
    refine rd1 h 2 rfl (aZ aa40 zz40 rfl rfl rfl (v := (vI num)) rfl) rfl ?_; clear h ac wo; intro ac wo h
    refine rd1 h 1 rfl (aZ aa40 zz40 rfl rfl rfl (v := (vI den)) rfl) rfl ?_; clear h ac wo; intro ac wo h
    have s3 := aJ ((cG num den 35 (by omega) znum zden) w0)
    refine dQ (vs := [(vI num), (vI den)]) h (bh Tryz.call77 rfl) (fun w_ hB_ hS_ => (cG num den 35 (by omega) znum zden) w_) rfl ?_; clear h ac wo; intro ac wo h
    refine st h 0 (cQ (a7 num den)) rfl zz42 rfl rfl rfl rfl rfl rfl rfl ?_; clear h ac wo; intro ac wo h
    refine rd0 h (ah rfl (v := (.int .i64 0))) rfl ?_; clear h ac wo; intro ac wo h
    refine aE ?_
    refine hK5 _ _ ?_
    refine cr ?_
    have hd : co num den = ((a7 num den), 0) := (cF hc1)
    exact ret (rs := [.cell 4 42, .tmp 5]) h rfl (.cell (v := (vQ (a7 num den))) rfl (i := 0) rfl aa42 zz42 rfl rfl rfl (.tmp rfl .nil)) rfl (h.retP (by rw [hd] <;> rfl) (by rw [hd]; exact (ed s3 (by omega))))
attribute [irreducible] co
def au (num : Int) (den : Int) : GQ × Int :=
  ((co (aK num) (aK den)).1, (co (aK num) (aK den)).2)
theorem f9 (num : Int) (den : Int) (hn : -1000 ≤ num ∧ num ≤ 1000) (hd : -1000 ≤ den ∧ den ≤ 1000) (w0 : World)  : Calls Tryz.prog 16 #[(.int .i64 num), (.int .i64 den)] w0 (RetP w0 (.tuple #[(vQ ((au num den).1)), (.int .i64 ((au num den).2))]) (SzQ 32 ((au num den).1))) := by
  refine enter (N := 13) (args := [(.int .i64 num), (.int .i64 den)]) Tryz.func16 rfl rfl ?_; intro ac h
  refine bB fun K1 hK1 => ?_
  refine al h (cQ (⟨(⟨false, 0⟩ : GI), (⟨false, 0⟩ : GI)⟩ : GQ)) vv42 rfl rfl ?_; clear h ac; intro b1 ac wo h
  refine rd0 h (ah rfl (v := (.int .i64 0))) rfl ?_; clear h ac wo; intro ac wo h
  refine aE ?_
  refine hK1 _ _ ?_
  refine bB fun K2 hK2 => ?_
  refine rd0 h (aj rfl) rfl ?_; clear h ac wo; intro ac wo h
  have s1 := aJ ((dZ num 40 (by omega)  (by omega)) w0)
  refine dQ (vs := [(.int .i64 num)]) h (bh Tryz.call51 rfl) (fun w_ hB_ hS_ => (dZ num 40 (by omega)  (by omega)) w_) rfl ?_; clear h ac wo; intro ac wo h
  refine rd0 h (aj rfl) rfl ?_; clear h ac wo; intro ac wo h
  have s2 := aJ ((dZ den 40 (by omega)  (by omega)) w0)
  refine dQ (vs := [(.int .i64 den)]) h (bh Tryz.call51 rfl) (fun w_ hB_ hS_ => (dZ den 40 (by omega)  (by omega)) w_) rfl ?_; clear h ac wo; intro ac wo h
  have s3 := Calls.pr ((fun w_ hB_ hS_ => it (aK num) (aK den) (fW s1 (by omega)) (fW s2 (by omega)) w_ ) _ h.bel h.sep)
  refine dQ (vs := [(vI (aK num)), (vI (aK den))]) h (bh Tryz.call50 rfl) (fun w_ hB_ hS_ => it (aK num) (aK den) (fW s1 (by omega)) (fW s2 (by omega)) w_ ) rfl ?_; clear h ac wo; intro ac wo h
  refine rd0 h (bq (vs := [(vQ ((co (aK num) (aK den)).1)), (.int .i64 ((co (aK num) (aK den)).2))]) rfl rfl) rfl ?_; clear h ac wo; intro ac wo h
  refine rd0 h (bq (vs := [(vQ ((co (aK num) (aK den)).1)), (.int .i64 ((co (aK num) (aK den)).2))]) rfl rfl) rfl ?_; clear h ac wo; intro ac wo h
  refine st h 0 (cQ ((co (aK num) (aK den)).1)) rfl zz42 rfl rfl rfl rfl rfl rfl rfl ?_; clear h ac wo; intro ac wo h
  refine rd0 h (ah rfl) rfl ?_; clear h ac wo; intro ac wo h
  refine aE ?_
  refine hK2 _ _ ?_
  refine cr ?_
  have hd : au num den = ((co (aK num) (aK den)).1, (co (aK num) (aK den)).2) := rfl
  exact ret (rs := [.cell 4 42, .tmp 5]) h rfl (.cell (v := (vQ ((co (aK num) (aK den)).1))) rfl (i := 0) rfl aa42 zz42 rfl rfl rfl (.tmp rfl .nil)) rfl (h.retP (by rw [hd] <;> rfl) (by rw [hd]; exact s3))
attribute [irreducible] au
def du (x : GR) (by_ : GQ) : GR :=
  (⟨(bt x.p by_), x.r, x.neg⟩ : GR)
theorem js (x : GR) (by_ : GQ) (zx : SzR 30 x) (zby_ : SzQ 30 by_) (w0 : World)  : Calls Tryz.prog 80 #[(vR x), (vQ by_)] w0 (RetP w0 (vR (du x by_)) (SzR 24 (du x by_))) := by
  refine enter (N := 11) (args := [(vR x), (vQ by_)]) Tryz.func80 rfl rfl ?_; intro ac h
  refine bB fun K1 hK1 => ?_
  refine bx h (cR x) rfl rfl rfl ?_; clear h ac; intro b1 ac wo h
  refine bx h (cQ by_) rfl rfl rfl ?_; clear h ac wo; intro b2 ac wo h
  refine al h (cR (⟨(⟨(⟨false, 0⟩ : GI), (⟨false, 0⟩ : GI)⟩ : GQ), (⟨(⟨false, 0⟩ : GI), (⟨false, 0⟩ : GI)⟩ : GQ), false⟩ : GR)) Tryz.zeroValue64 rfl rfl ?_; clear h ac wo; intro b3 ac wo h
  refine aE ?_
  refine hK1 _ _ ?_
  refine bB fun K2 hK2 => ?_
  refine rd0 h (eN uu64 rfl zz42 (by decide) rfl rfl (k' := 0)) rfl ?_; clear h ac wo; intro ac wo h
  refine rd1 h 2 rfl (aZ aa42 zz42 rfl rfl rfl (v := (vQ x.p)) rfl) rfl ?_; clear h ac wo; intro ac wo h
  refine rd1 h 1 rfl (aZ aa42 zz42 rfl rfl rfl (v := (vQ by_)) rfl) rfl ?_; clear h ac wo; intro ac wo h
  have s1 := aJ ((ew x.p by_ 27 (by omega) zx.1 zby_) w0)
  refine dQ (vs := [(vQ x.p), (vQ by_)]) h (bh Tryz.call86 rfl) (fun w_ hB_ hS_ => (ew x.p by_ 27 (by omega) zx.1 zby_) w_) rfl ?_; clear h ac wo; intro ac wo h
  refine rd0 h (eN uu64 rfl zz42 (by decide) rfl rfl (k' := 0)) rfl ?_; clear h ac wo; intro ac wo h
  refine st h 2 (cR (⟨(bt x.p by_), x.r, x.neg⟩ : GR)) rfl zz42 rfl rfl rfl rfl rfl rfl rfl ?_; clear h ac wo; intro ac wo h
  refine aE ?_
  refine hK2 _ _ ?_
  refine bB fun K3 hK3 => ?_
  refine rd1 h 2 rfl (aZ aa64 zz64 rfl rfl rfl (v := (vR (⟨(bt x.p by_), x.r, x.neg⟩ : GR))) rfl) rfl ?_; clear h ac wo; intro ac wo h
  refine st h 0 (cR (⟨(bt x.p by_), x.r, x.neg⟩ : GR)) rfl zz64 rfl rfl rfl rfl rfl rfl rfl ?_; clear h ac wo; intro ac wo h
  refine aE ?_
  refine hK3 _ _ ?_
  refine cr ?_
  have hd : du x by_ = (⟨(bt x.p by_), x.r, x.neg⟩ : GR) := rfl
  exact ret (rs := [.cell 4 64]) h rfl (.cell (v := (vR (⟨(bt x.p by_), x.r, x.neg⟩ : GR))) rfl (i := 0) rfl aa64 zz64 rfl rfl rfl .nil) rfl (h.retP (by rw [hd] <;> rfl) (by rw [hd]; exact ⟨(ed s1 (by omega)), (ed zx.2 (by omega))⟩))
attribute [irreducible] du
def bp (n : Int) : GQ :=
  (an n)
theorem dM (n : Int) (hn : -1000 ≤ n ∧ n ≤ 1000) (w0 : World)  : Calls Tryz.prog 43 #[(.int .i64 n)] w0 (RetP w0 (vQ (bp n)) (SzQ 40 (bp n))) := by
  refine enter (N := 5) (args := [(.int .i64 n)]) Tryz.func43 rfl rfl ?_; intro ac h
  refine bB fun K1 hK1 => ?_
  refine al h (cQ (⟨(⟨false, 0⟩ : GI), (⟨false, 0⟩ : GI)⟩ : GQ)) vv42 rfl rfl ?_; clear h ac; intro b1 ac wo h
  refine aE ?_
  refine hK1 _ _ ?_
  refine bB fun K2 hK2 => ?_
  refine rd0 h (aj rfl) rfl ?_; clear h ac wo; intro ac wo h
  have s1 := aJ ((bD n 40 (by omega)  (by omega)) w0)
  refine dQ (vs := [(.int .i64 n)]) h (bh Tryz.call68 rfl) (fun w_ hB_ hS_ => (bD n 40 (by omega)  (by omega)) w_) rfl ?_; clear h ac wo; intro ac wo h
  refine st h 0 (cQ (an n)) rfl zz42 rfl rfl rfl rfl rfl rfl rfl ?_; clear h ac wo; intro ac wo h
  refine aE ?_
  refine hK2 _ _ ?_
  refine cr ?_
  have hd : bp n = (an n) := rfl
  exact ret (rs := [.cell 2 42]) h rfl (.cell (v := (vQ (an n))) rfl (i := 0) rfl aa42 zz42 rfl rfl rfl .nil) rfl (h.retP (by rw [hd] <;> rfl) (by rw [hd]; exact s1))
attribute [irreducible] bp
def dE (known : Int) (answer : Bool) : Bool :=
  (((known == 0) || ((known == 1) && answer)) || ((known == (-1)) && (!answer)))
theorem eT (known : Int) (answer : Bool) (w0 : World)  : Calls Tryz.prog 20 #[(.int .i64 known), (.bool answer)] w0 (RetP w0 (.bool (dE known answer)) (True)) := by
  refine enter (N := 22) (args := [(.int .i64 known), (.bool answer)]) Tryz.func20 rfl rfl ?_; intro ac h
  refine bB fun K1 hK1 => ?_
  refine rd0 h (ah rfl (v := (.bool false))) rfl ?_; clear h ac; intro ac wo h
  refine aE ?_
  refine hK1 _ _ ?_
  refine bB fun K2 hK2 => ?_
  refine rd0 h (aj rfl) rfl ?_; clear h ac wo; intro ac wo h
  refine rd0 h (dV rfl rfl) rfl ?_; clear h ac wo; intro ac wo h
  refine rd0 h (aj rfl) rfl ?_; clear h ac wo; intro ac wo h
  refine gd (j := 2) (c := true) (b := (known == 0)) (g := (!(known == 0))) h rfl rfl g_f (fun hg => (Rd.of_nil (aj rfl)).step) rfl ?_; clear h ac wo; intro ac wo h
  refine gd (j := 2) (c := true) (b := (known == 0)) (g := (!(known == 0))) h rfl rfl g_f (fun hg => (Rd.of_nil (dV (bo rfl hg) rfl)).step) rfl ?_; clear h ac wo; intro ac wo h
  refine gd (j := 2) (c := true) (b := (known == 0)) (g := (!(known == 0))) h rfl rfl g_f (fun hg => (Rd.of_nil (aj (bo rfl hg))).step) rfl ?_; clear h ac wo; intro ac wo h
  refine gd (j := 5) (c := (!(known == 0))) (b := (known == 1)) (g := ((!(known == 0)) && (known == 1))) h rfl rfl g_ct (fun hg => (Rd.of_nil (aj rfl)).step) rfl ?_; clear h ac wo; intro ac wo h
  refine gd (j := 2) (c := true) (b := (known == 0)) (g := (!(known == 0))) h rfl rfl g_f (fun hg => (Rd.of_nil (gH (bo rfl hg) (fun e => (bo rfl (andI hg e))))).step) rfl ?_; clear h ac wo; intro ac wo h
  refine rd0 h (mM rfl (fun e => (bo rfl (mO e)))) rfl ?_; clear h ac wo; intro ac wo h
  refine rd0 h (aj rfl) rfl ?_; clear h ac wo; intro ac wo h
  refine gd (j := 9) (c := true) (b := ((known == 0) || ((known == 1) && answer))) (g := (!((known == 0) || ((known == 1) && answer)))) h rfl rfl g_f (fun hg => (Rd.of_nil (aj rfl)).step) rfl ?_; clear h ac wo; intro ac wo h
  refine gd (j := 9) (c := true) (b := ((known == 0) || ((known == 1) && answer))) (g := (!((known == 0) || ((known == 1) && answer)))) h rfl rfl g_f (fun hg => (Rd.of_nil (dV (bo rfl hg) rfl)).step) rfl ?_; clear h ac wo; intro ac wo h
  refine gd (j := 9) (c := true) (b := ((known == 0) || ((known == 1) && answer))) (g := (!((known == 0) || ((known == 1) && answer)))) h rfl rfl g_f (fun hg => (Rd.of_nil (aj (bo rfl hg))).step) rfl ?_; clear h ac wo; intro ac wo h
  refine gd (j := 12) (c := (!((known == 0) || ((known == 1) && answer)))) (b := (known == (-1))) (g := ((!((known == 0) || ((known == 1) && answer))) && (known == (-1)))) h rfl rfl g_ct (fun hg => (Rd.of_nil (aj rfl)).step) rfl ?_; clear h ac wo; intro ac wo h
  refine gd (j := 12) (c := (!((known == 0) || ((known == 1) && answer)))) (b := (known == (-1))) (g := ((!((known == 0) || ((known == 1) && answer))) && (known == (-1)))) h rfl rfl g_ct (fun hg => (Rd.of_nil (eU (bo rfl hg))).step) rfl ?_; clear h ac wo; intro ac wo h
  refine gd (j := 9) (c := true) (b := ((known == 0) || ((known == 1) && answer))) (g := (!((known == 0) || ((known == 1) && answer)))) h rfl rfl g_f (fun hg => (Rd.of_nil (gH (bo rfl hg) (fun e => (bo rfl (andI hg e))))).step) rfl ?_; clear h ac wo; intro ac wo h
  refine rd0 h (mM rfl (fun e => (bo rfl (mO e)))) rfl ?_; clear h ac wo; intro ac wo h
  refine rd0 h (ah rfl) rfl ?_; clear h ac wo; intro ac wo h
  refine aE ?_
  refine hK2 _ _ ?_
  replace h := h.sub (F' := [(4, (.bool (((known == 0) || ((known == 1) && answer)) || ((known == (-1)) && (!answer)))))]) ⟨rfl, trivial⟩
  refine cr ?_
  have hd : dE known answer = (((known == 0) || ((known == 1) && answer)) || ((known == (-1)) && (!answer))) := rfl
  exact ret (rs := [.tmp 4]) h rfl (.tmp rfl .nil) rfl (h.retP (by rw [hd] <;> rfl) trivial)
attribute [irreducible] dE
def aF (yes : Bool) (no : Bool) : Int :=
  bif yes then
    1
  else
    bif no then
      (-1)
    else
      0
theorem fp (yes : Bool) (no : Bool) (w0 : World)  : Calls Tryz.prog 52 #[(.bool yes), (.bool no)] w0 (RetP w0 (.int .i64 (aF yes no)) (True)) := by
  refine enter (N := 9) (args := [(.bool yes), (.bool no)]) Tryz.func52 rfl rfl ?_; intro ac h
  refine bB fun K1 hK1 => ?_
  refine rd0 h (ah rfl (v := (.int .i64 0))) rfl ?_; clear h ac; intro ac wo h
  refine aE ?_
  refine hK1 _ _ ?_
  refine bP fun K2 hK2 => ?_
  refine dm ?_
  refine bB fun K3 hK3 => ?_
  refine rd0 h (aj rfl) rfl ?_; clear h ac wo; intro ac wo h
  refine rd0 h (ah rfl) rfl ?_; clear h ac wo; intro ac wo h
  refine aE ?_
  refine hK3 _ _ ?_
  refine c8 (b := yes) h rfl (fun hc1 => ?_) (fun hc1 => ?_)
  · skip
    have hq1 := hc1; try simp only [Bool.and_eq_true, Bool.or_eq_true, Bool.and_eq_false_iff, Bool.or_eq_false_iff, decide_eq_true_eq, decide_eq_false_iff_not, beq_iff_eq, beq_eq_false_iff_ne, bne_iff_ne, bne_eq_false_iff_eq, Bool.true_and, Bool.not_eq_true', Bool.not_eq_false', ne_eq] at hq1
    refine bB fun K4 hK4 => ?_
    refine rd0 h (ah rfl (v := (.int .i64 1))) rfl ?_; clear h ac wo; intro ac wo h
    refine aE ?_
    refine hK4 _ _ ?_
    refine cr ?_
    have hd : aF yes no = 1 := (cT hc1)
    exact ret (rs := [.tmp 4]) h rfl (.tmp rfl .nil) rfl (h.retP (by rw [hd] <;> rfl) trivial)
  · skip
    have hq1 := hc1; try simp only [Bool.and_eq_true, Bool.or_eq_true, Bool.and_eq_false_iff, Bool.or_eq_false_iff, decide_eq_true_eq, decide_eq_false_iff_not, beq_iff_eq, beq_eq_false_iff_ne, bne_iff_ne, bne_eq_false_iff_eq, Bool.true_and, Bool.not_eq_true', Bool.not_eq_false', ne_eq] at hq1
    refine bB fun K5 hK5 => ?_
    refine rd0 h (aj rfl) rfl ?_; clear h ac wo; intro ac wo h
    refine rd0 h (ah rfl) rfl ?_; clear h ac wo; intro ac wo h
    refine aE ?_
    refine hK5 _ _ ?_
    refine c8 (b := no) h rfl (fun hc2 => ?_) (fun hc2 => ?_)
    · skip
      have hq2 := hc2; try simp only [Bool.and_eq_true, Bool.or_eq_true, Bool.and_eq_false_iff, Bool.or_eq_false_iff, decide_eq_true_eq, decide_eq_false_iff_not, beq_iff_eq, beq_eq_false_iff_ne, bne_iff_ne, bne_eq_false_iff_eq, Bool.true_and, Bool.not_eq_true', Bool.not_eq_false', ne_eq] at hq2
      refine bB fun K6 hK6 => ?_
      refine rd0 h (ah rfl (v := (.int .i64 (-1)))) rfl ?_; clear h ac wo; intro ac wo h
      refine aE ?_
      refine hK6 _ _ ?_
      refine cr ?_
      have hd : aF yes no = (-1) := (Eq.trans (cF hc1) (cT hc2))
      exact ret (rs := [.tmp 4]) h rfl (.tmp rfl .nil) rfl (h.retP (by rw [hd] <;> rfl) trivial)
    · skip
      have hq2 := hc2; try simp only [Bool.and_eq_true, Bool.or_eq_true, Bool.and_eq_false_iff, Bool.or_eq_false_iff, decide_eq_true_eq, decide_eq_false_iff_not, beq_iff_eq, beq_eq_false_iff_ne, bne_iff_ne, bne_eq_false_iff_eq, Bool.true_and, Bool.not_eq_true', Bool.not_eq_false', ne_eq] at hq2
      refine bR ?_
      refine e7 ?_
      refine hK2 _ _ ?_
      refine bB fun K7 hK7 => ?_
      refine rd0 h (ah rfl (v := (.int .i64 0))) rfl ?_; clear h ac wo; intro ac wo h
      refine aE ?_
      refine hK7 _ _ ?_
      refine cr ?_
      have hd : aF yes no = 0 := (Eq.trans (cF hc1) (cF hc2))
      exact ret (rs := [.tmp 4]) h rfl (.tmp rfl .nil) rfl (h.retP (by rw [hd] <;> rfl) trivial)
attribute [irreducible] aF
def d5 (a : GQ) (b : GQ) : (List Iv) :=
  bif (decide ((aQ (am (⟨(aw a), (aw b), false, false⟩ : Iv)) (ao (⟨(aw a), (aw b), false, false⟩ : Iv))) ≥ 0)) then
    []
  else
    [(⟨(aw a), (aw b), false, false⟩ : Iv)]
theorem iw (a : GQ) (b : GQ) (za : SzQ 40 a) (zb : SzQ 40 b) (w0 : World)  : Calls Tryz.prog 67 #[(vQ a), (vQ b)] w0 (RetR w0 66 (d5 a b) (All (SzV 30) (d5 a b) ∧ (d5 a b).length ≤ 1)) := by
  refine enter (N := 19) (args := [(vQ a), (vQ b)]) Tryz.func67 rfl rfl ?_; intro ac h
  refine bB fun K1 hK1 => ?_
  refine bx h (cQ a) rfl rfl rfl ?_; clear h ac; intro b1 ac wo h
  refine bx h (cQ b) rfl rfl rfl ?_; clear h ac wo; intro b2 ac wo h
  refine rd0 h (ah rfl (v := (.slice none 0 0))) rfl ?_; clear h ac wo; intro ac wo h
  refine aE ?_
  refine hK1 _ _ ?_
  refine bP fun K2 hK2 => ?_
  have s1 := aJ ((fi a 40 (by omega) za) w0)
  have s2 := aJ ((fi b 40 (by omega) zb) w0)
  replace h := h.emps 1
  refine dc mixed [⟨.det (vQ a), [1]⟩, ⟨.det (vR (aw a)), []⟩, ⟨.det (vQ b), [0]⟩, ⟨.det (vR (aw b)), []⟩, ⟨.det (vV (⟨(aw a), (aw b), false, false⟩ : Iv)), []⟩, ⟨.nd (.one 5 fun v => ∃ b, v = ptr b 0), [2]⟩, ⟨.det undef, [2]⟩] [⟨.blk b2 (cQ b) 42, []⟩, ⟨.blk b1 (cQ a) 42, []⟩, ⟨.emp, [(5, .one 5 fun v => .blk (bI v) (cV (⟨(⟨(⟨(⟨false, 0⟩ : GI), (⟨false, 0⟩ : GI)⟩ : GQ), (⟨(⟨false, 0⟩ : GI), (⟨false, 0⟩ : GI)⟩ : GQ), false⟩ : GR), (⟨(⟨(⟨false, 0⟩ : GI), (⟨false, 0⟩ : GI)⟩ : GQ), (⟨(⟨false, 0⟩ : GI), (⟨false, 0⟩ : GI)⟩ : GQ), false⟩ : GR), false, false⟩ : Iv)) 66), (6, .one 5 fun v => .blk (bI v) (cV (⟨(aw a), (aw b), false, false⟩ : Iv)) 66)]⟩] h rfl (by kernel_rfl) ⟨?_, ?_, ?_, ?_, ?_, ?_, ?_, trivial⟩ ?_
  · intro ξ hφ; exact bT [.blk b1 (cQ a) 42] rfl rfl (aZ aa42 zz42 rfl rfl rfl (v := (vQ a)) rfl)
  · intro ξ hφ; exact dY (df (vs := [(vQ a)]) (bh Tryz.call88 rfl) (fun w_ hB_ hS_ => (fi a 40 (by omega) za) w_))
  · intro ξ hφ; exact bT [.blk b2 (cQ b) 42] rfl rfl (aZ aa42 zz42 rfl rfl rfl (v := (vQ b)) rfl)
  · intro ξ hφ; exact dY (df (vs := [(vQ b)]) (bh Tryz.call88 rfl) (fun w_ hB_ hS_ => (fi b 40 (by omega) zb) w_))
  · intro ξ hφ; exact ay (bW (parts := [(0, .tmp 7), (1, .tmp 9)]) (vs := [(vR (aw a)), (vR (aw b))]) bld66 rfl rfl (v := (vV (⟨(aw a), (aw b), false, false⟩ : Iv))) rfl)
  · intro ξ hφ; exact ij (ψ := fun v => ∃ b, v = ptr b 0) (B := fun v => [.blk (bI v) (cV (⟨(⟨(⟨(⟨false, 0⟩ : GI), (⟨false, 0⟩ : GI)⟩ : GQ), (⟨(⟨false, 0⟩ : GI), (⟨false, 0⟩ : GI)⟩ : GQ), false⟩ : GR), (⟨(⟨(⟨false, 0⟩ : GI), (⟨false, 0⟩ : GI)⟩ : GQ), (⟨(⟨false, 0⟩ : GI), (⟨false, 0⟩ : GI)⟩ : GQ), false⟩ : GR), false, false⟩ : Iv)) 66]) [.emp] rfl (fun v _ => by simp only [dO, aS] <;> rfl) (fun v hv => by simpa [DF.one, aS] using hv) (fU (eo vv66 rfl))
  · intro ξ hφ; obtain ⟨b3, hb5⟩ := hφ 5 rfl; exact es [.blk b3 (cV (⟨(⟨(⟨(⟨false, 0⟩ : GI), (⟨false, 0⟩ : GI)⟩ : GQ), (⟨(⟨false, 0⟩ : GI), (⟨false, 0⟩ : GI)⟩ : GQ), false⟩ : GR), (⟨(⟨(⟨false, 0⟩ : GI), (⟨false, 0⟩ : GI)⟩ : GQ), (⟨(⟨false, 0⟩ : GI), (⟨false, 0⟩ : GI)⟩ : GQ), false⟩ : GR), false, false⟩ : Iv)) 66] [.blk b3 (cV (⟨(aw a), (aw b), false, false⟩ : Iv)) 66] (congrArg (fun v => [Asn.blk (bI v) (cV (⟨(⟨(⟨(⟨false, 0⟩ : GI), (⟨false, 0⟩ : GI)⟩ : GQ), (⟨(⟨false, 0⟩ : GI), (⟨false, 0⟩ : GI)⟩ : GQ), false⟩ : GR), (⟨(⟨(⟨false, 0⟩ : GI), (⟨false, 0⟩ : GI)⟩ : GQ), (⟨(⟨false, 0⟩ : GI), (⟨false, 0⟩ : GI)⟩ : GQ), false⟩ : GR), false, false⟩ : Iv)) 66]) hb5) (congrArg (fun v => [Asn.blk (bI v) (cV (⟨(aw a), (aw b), false, false⟩ : Iv)) 66]) hb5) (eW zz66 (Eq.trans rfl (congrArg some hb5)) rfl rfl rfl rfl rfl rfl)
  clear h ac wo; intro ξ ac wo hφ h
  replace h : St w0 19 [(5, ξ 5)] [.blk b2 (cQ b) 42, .blk b1 (cQ a) 42, .blk (bI (ξ 5)) (cV (⟨(aw a), (aw b), false, false⟩ : Iv)) 66] ac wo := (h.pick [0, 1, 2] (by decide)).sub ⟨rfl, trivial⟩
  revert h
  obtain ⟨b3, hb5⟩ : ∃ b, ξ 5 = ptr b 0 := hφ 5
  rw [hb5]; intro h
  clear hb5
  clear hφ ξ
  refine hK2 _ _ ?_
  refine bP fun K3 hK3 => ?_
  refine bP fun K4 hK4 => ?_
  have s3 := Calls.pr ((fun w_ hB_ hS_ => bQ (⟨(aw a), (aw b), false, false⟩ : Iv) ⟨(da s1 (by omega)), (da s2 (by omega))⟩ w_ ) _ h.bel h.sep)
  have s4 := Calls.pr ((fun w_ hB_ hS_ => bV (⟨(aw a), (aw b), false, false⟩ : Iv) ⟨(da s1 (by omega)), (da s2 (by omega))⟩ w_ ) _ h.bel h.sep)
  have s5 := Calls.pr ((fun w_ hB_ hS_ => ch (am (⟨(aw a), (aw b), false, false⟩ : Iv)) (ao (⟨(aw a), (aw b), false, false⟩ : Iv)) s3 s4 w_ ) _ h.bel h.sep)
  have p6 := s5
  refine dc mixed [⟨.det (vV (⟨(aw a), (aw b), false, false⟩ : Iv)), [2]⟩, ⟨.det (vW (am (⟨(aw a), (aw b), false, false⟩ : Iv))), []⟩, ⟨.det (vV (⟨(aw a), (aw b), false, false⟩ : Iv)), [2]⟩, ⟨.det (vW (ao (⟨(aw a), (aw b), false, false⟩ : Iv))), []⟩, ⟨.det (.int .i64 (aQ (am (⟨(aw a), (aw b), false, false⟩ : Iv)) (ao (⟨(aw a), (aw b), false, false⟩ : Iv)))), []⟩, ⟨.det (.bool (decide ((aQ (am (⟨(aw a), (aw b), false, false⟩ : Iv)) (ao (⟨(aw a), (aw b), false, false⟩ : Iv))) ≥ 0))), []⟩] [⟨.blk b2 (cQ b) 42, []⟩, ⟨.blk b1 (cQ a) 42, []⟩, ⟨.blk b3 (cV (⟨(aw a), (aw b), false, false⟩ : Iv)) 66, []⟩] h rfl (by kernel_rfl) ⟨?_, ?_, ?_, ?_, ?_, ?_, trivial⟩ ?_
  · intro ξ hφ; exact bT [.blk b3 (cV (⟨(aw a), (aw b), false, false⟩ : Iv)) 66] rfl rfl (aZ aa66 zz66 rfl rfl rfl (v := (vV (⟨(aw a), (aw b), false, false⟩ : Iv))) rfl)
  · intro ξ hφ; exact dY (df (vs := [(vV (⟨(aw a), (aw b), false, false⟩ : Iv))]) (bh Tryz.call64 rfl) (fun w_ hB_ hS_ => bQ (⟨(aw a), (aw b), false, false⟩ : Iv) ⟨(da s1 (by omega)), (da s2 (by omega))⟩ w_ ))
  · intro ξ hφ; exact bT [.blk b3 (cV (⟨(aw a), (aw b), false, false⟩ : Iv)) 66] rfl rfl (aZ aa66 zz66 rfl rfl rfl (v := (vV (⟨(aw a), (aw b), false, false⟩ : Iv))) rfl)
  · intro ξ hφ; exact dY (df (vs := [(vV (⟨(aw a), (aw b), false, false⟩ : Iv))]) (bh Tryz.call63 rfl) (fun w_ hB_ hS_ => bV (⟨(aw a), (aw b), false, false⟩ : Iv) ⟨(da s1 (by omega)), (da s2 (by omega))⟩ w_ ))
  · intro ξ hφ; exact dY (df (vs := [(vW (am (⟨(aw a), (aw b), false, false⟩ : Iv))), (vW (ao (⟨(aw a), (aw b), false, false⟩ : Iv)))]) (bh Tryz.call62 rfl) (fun w_ hB_ hS_ => ch (am (⟨(aw a), (aw b), false, false⟩ : Iv)) (ao (⟨(aw a), (aw b), false, false⟩ : Iv)) s3 s4 w_ ))
  · intro ξ hφ; exact ay (me rfl rfl)
  clear h ac wo; intro ξ ac wo hφ h
  replace h : St w0 19 [(5, (ptr b3 0)), (16, (.bool (decide ((aQ (am (⟨(aw a), (aw b), false, false⟩ : Iv)) (ao (⟨(aw a), (aw b), false, false⟩ : Iv))) ≥ 0))))] [.blk b2 (cQ b) 42, .blk b1 (cQ a) 42, .blk b3 (cV (⟨(aw a), (aw b), false, false⟩ : Iv)) 66] ac wo := (h.pick [0, 1, 2] (by decide)).sub ⟨rfl, rfl, trivial⟩
  clear hφ ξ
  refine hK4 _ _ ?_
  refine c8 (b := (decide ((aQ (am (⟨(aw a), (aw b), false, false⟩ : Iv)) (ao (⟨(aw a), (aw b), false, false⟩ : Iv))) ≥ 0))) h rfl (fun hc1 => ?_) (fun hc1 => ?_)
  · skip
    have hd1 := of_decide_eq_true hc1
    refine bB fun K5 hK5 => ?_
    refine rd0 h (ah rfl (v := (.slice none 0 0))) rfl ?_; clear h ac wo; intro ac wo h
    refine aE ?_
    refine hK5 _ _ ?_
    refine cr ?_
    replace h := h.nilRow (α := Iv) 66
    have hd : d5 a b = [] := (cT hc1)
    exact ret (rs := [.tmp 4]) h rfl (.tmp rfl .nil) rfl (by rw [hd]; exact h.retR 0 rfl ⟨All.nil, (by first | assumption | omega | (simp only [aq, Bool.cond_decide, Bool.cond_eq_ite, List.length_append, List.length_set, List.length_cons, List.length_nil, List.length_take, List.length_drop, List.length_replicate] at *; done) | (simp only [aq, Bool.cond_decide, Bool.cond_eq_ite, List.length_append, List.length_set, List.length_cons, List.length_nil, List.length_take, List.length_drop, List.length_replicate] at *; omega) | (simp only [aq, Bool.cond_decide, Bool.cond_eq_ite, List.length_append, List.length_set, List.length_cons, List.length_nil, List.length_take, List.length_drop, List.length_replicate]; omega))⟩)
  · skip
    have hd1 := of_decide_eq_false hc1
    refine bR ?_
    refine hK3 _ _ ?_
    refine bB fun K6 hK6 => ?_
    refine rd1 h 2 rfl (aZ aa66 zz66 rfl rfl rfl (v := (vV (⟨(aw a), (aw b), false, false⟩ : Iv))) rfl) rfl ?_; clear h ac wo; intro ac wo h
    refine nw h (dg (α := Iv) (xs := [.tmp 17]) (vs := [(vV (⟨(aw a), (aw b), false, false⟩ : Iv))]) [(⟨(aw a), (aw b), false, false⟩ : Iv)] ic rfl rfl rfl (by decide)) rfl ?_; clear h ac wo; intro sv8 ac wo nnsv8 h
    refine rd0 h (ah rfl) rfl ?_; clear h ac wo; intro ac wo h
    refine aE ?_
    refine hK6 _ _ ?_
    refine cr ?_
    have hd : d5 a b = [(⟨(aw a), (aw b), false, false⟩ : Iv)] := (cF hc1)
    exact ret (rs := [.tmp 4]) h rfl (.tmp rfl .nil) rfl (by rw [hd]; exact h.retR 0 rfl ⟨(All.cons ⟨(da s1 (by omega)), (da s2 (by omega))⟩ All.nil), (by first | assumption | omega | (simp only [aq, Bool.cond_decide, Bool.cond_eq_ite, List.length_append, List.length_set, List.length_cons, List.length_nil, List.length_take, List.length_drop, List.length_replicate] at *; done) | (simp only [aq, Bool.cond_decide, Bool.cond_eq_ite, List.length_append, List.length_set, List.length_cons, List.length_nil, List.length_take, List.length_drop, List.length_replicate] at *; omega) | (simp only [aq, Bool.cond_decide, Bool.cond_eq_ite, List.length_append, List.length_set, List.length_cons, List.length_nil, List.length_take, List.length_drop, List.length_replicate]; omega))⟩)
attribute [irreducible] d5
def ap (a : Int) (b : Int) : (List Iv) :=
  (d5 (bp a) (bp b))
theorem iF (a : Int) (b : Int) (hna : -1000 ≤ a ∧ a ≤ 1000) (hnb : -1000 ≤ b ∧ b ≤ 1000) (w0 : World)  : Calls Tryz.prog 42 #[(.int .i64 a), (.int .i64 b)] w0 (RetR w0 66 (ap a b) (All (SzV 30) (ap a b) ∧ (ap a b).length ≤ 1)) := by
  refine enter (N := 10) (args := [(.int .i64 a), (.int .i64 b)]) Tryz.func42 rfl rfl ?_; intro ac h
  refine bB fun K1 hK1 => ?_
  refine rd0 h (ah rfl (v := (.slice none 0 0))) rfl ?_; clear h ac; intro ac wo h
  refine aE ?_
  refine hK1 _ _ ?_
  refine bB fun K2 hK2 => ?_
  refine rd0 h (aj rfl) rfl ?_; clear h ac wo; intro ac wo h
  have s1 := Calls.pr ((fun w_ hB_ hS_ => dM a (by first | assumption | omega | (simp only [aq, Bool.cond_decide, Bool.cond_eq_ite, List.length_append, List.length_set, List.length_cons, List.length_nil, List.length_take, List.length_drop, List.length_replicate] at *; done) | (simp only [aq, Bool.cond_decide, Bool.cond_eq_ite, List.length_append, List.length_set, List.length_cons, List.length_nil, List.length_take, List.length_drop, List.length_replicate] at *; omega) | (simp only [aq, Bool.cond_decide, Bool.cond_eq_ite, List.length_append, List.length_set, List.length_cons, List.length_nil, List.length_take, List.length_drop, List.length_replicate]; omega)) w_ ) _ h.bel h.sep)
  refine dQ (vs := [(.int .i64 a)]) h (bh Tryz.call43 rfl) (fun w_ hB_ hS_ => dM a (by first | assumption | omega | (simp only [aq, Bool.cond_decide, Bool.cond_eq_ite, List.length_append, List.length_set, List.length_cons, List.length_nil, List.length_take, List.length_drop, List.length_replicate] at *; done) | (simp only [aq, Bool.cond_decide, Bool.cond_eq_ite, List.length_append, List.length_set, List.length_cons, List.length_nil, List.length_take, List.length_drop, List.length_replicate] at *; omega) | (simp only [aq, Bool.cond_decide, Bool.cond_eq_ite, List.length_append, List.length_set, List.length_cons, List.length_nil, List.length_take, List.length_drop, List.length_replicate]; omega)) w_ ) rfl ?_; clear h ac wo; intro ac wo h
  refine rd0 h (aj rfl) rfl ?_; clear h ac wo; intro ac wo h
  have s2 := Calls.pr ((fun w_ hB_ hS_ => dM b (by first | assumption | omega | (simp only [aq, Bool.cond_decide, Bool.cond_eq_ite, List.length_append, List.length_set, List.length_cons, List.length_nil, List.length_take, List.length_drop, List.length_replicate] at *; done) | (simp only [aq, Bool.cond_decide, Bool.cond_eq_ite, List.length_append, List.length_set, List.length_cons, List.length_nil, List.length_take, List.length_drop, List.length_replicate] at *; omega) | (simp only [aq, Bool.cond_decide, Bool.cond_eq_ite, List.length_append, List.length_set, List.length_cons, List.length_nil, List.length_take, List.length_drop, List.length_replicate]; omega)) w_ ) _ h.bel h.sep)
  refine dQ (vs := [(.int .i64 b)]) h (bh Tryz.call43 rfl) (fun w_ hB_ hS_ => dM b (by first | assumption | omega | (simp only [aq, Bool.cond_decide, Bool.cond_eq_ite, List.length_append, List.length_set, List.length_cons, List.length_nil, List.length_take, List.length_drop, List.length_replicate] at *; done) | (simp only [aq, Bool.cond_decide, Bool.cond_eq_ite, List.length_append, List.length_set, List.length_cons, List.length_nil, List.length_take, List.length_drop, List.length_replicate] at *; omega) | (simp only [aq, Bool.cond_decide, Bool.cond_eq_ite, List.length_append, List.length_set, List.length_cons, List.length_nil, List.length_take, List.length_drop, List.length_replicate]; omega)) w_ ) rfl ?_; clear h ac wo; intro ac wo h
  have s3 := RetR.pr ((fun w_ hB_ hS_ => iw (bp a) (bp b) s1 s2 w_ ) _ h.bel h.sep)
  have p4 := s3.2
  refine io (vs := [(vQ (bp a)), (vQ (bp b))]) (xs := (d5 (bp a) (bp b))) h (bh Tryz.call67 rfl) (fun w_ hB_ hS_ => iw (bp a) (bp b) s1 s2 w_ ) rfl ?_; clear h ac wo; intro sv5 ac wo _ h
  refine rd0 h (ah rfl) rfl ?_; clear h ac wo; intro ac wo h
  refine aE ?_
  refine hK2 _ _ ?_
  refine cr ?_
  have hd : ap a b = (d5 (bp a) (bp b)) := rfl
  exact ret (rs := [.tmp 4]) h rfl (.tmp rfl .nil) rfl (by rw [hd]; exact h.retR 0 rfl ⟨s3.1, (by first | assumption | omega | (simp only [aq, Bool.cond_decide, Bool.cond_eq_ite, List.length_append, List.length_set, List.length_cons, List.length_nil, List.length_take, List.length_drop, List.length_replicate] at *; done) | (simp only [aq, Bool.cond_decide, Bool.cond_eq_ite, List.length_append, List.length_set, List.length_cons, List.length_nil, List.length_take, List.length_drop, List.length_replicate] at *; omega) | (simp only [aq, Bool.cond_decide, Bool.cond_eq_ite, List.length_append, List.length_set, List.length_cons, List.length_nil, List.length_take, List.length_drop, List.length_replicate]; omega))⟩)
attribute [irreducible] ap
end Go.Sx
namespace Go.Sx
open Go Go.RowKit Go.Proofs
set_option maxRecDepth 100000
set_option maxHeartbeats 40000000
attribute [local irreducible] aY bS an aI aM d7
def fX (p : List Iv) (length : GQ) (out : List Iv) (x10 : Nat) : (List Iv) :=
  out
def cM (p : List Iv) (length : GQ) (out : List Iv) (x10 : Nat) : Nx ((List Iv) × Nat) (List Iv) :=
  bif (decide (((x10 : Nat) : Int) < ((p.length : Nat) : Int))) then
    bif (decide ((aY (du ((gt p x10).lo) length) ((gt p x10).hi)) ≤ 0)) then
      .go ((out ++ [(gt p x10)]), (x10 + 1))
    else
      .go (out, (x10 + 1))
  else
    .out (out, x10)
def dL (p : List Iv) (length : GQ) : (List Iv) :=
  fin (cd (fun s => cM p length s.1 s.2) ((p.length - 0) + 1) ([], 0)) (fun s => fX p length s.1 s.2) (fun r => r)
theorem j3 (p : List Iv) (pv : Value) (length : GQ) (hl : p.length ≤ 200) (zp : All (SzV 30) p) (zlength : SzQ 30 length) (w0 : World) (hpv : View w0 pv p) : Calls Tryz.prog 56 #[pv, (vQ length)] w0 (RetR w0 66 (dL p length) (All (SzV 30) (dL p length) ∧ (dL p length).length ≤ p.length)) := by
  refine enter (N := 28) (args := [pv, (vQ length)]) Tryz.func56 rfl rfl ?_; intro ac h
  have hlenp := hpv.len
  refine bB fun K1 hK1 => ?_
  refine bx h (cQ length) rfl rfl rfl ?_; clear h ac; intro b1 ac wo h
  refine rd0 h (ah rfl (v := (.slice none 0 0))) rfl ?_; clear h ac wo; intro ac wo h
  refine aE ?_
  refine hK1 _ _ ?_
  refine bB fun K2 hK2 => ?_
  refine rd0 h (ah rfl (v := (.slice none 0 0))) rfl ?_; clear h ac wo; intro ac wo h
  refine aE ?_
  refine hK2 _ _ ?_
  refine bP fun K3 hK3 => ?_
  refine bB fun K4 hK4 => ?_
  refine rd0 h (aj rfl) rfl ?_; clear h ac wo; intro ac wo h
  refine rd0 h (dx uu26 rfl hpv.sl) rfl ?_; clear h ac wo; intro ac wo h
  refine rd0 h (aj rfl (v := (.int .i64 0))) rfl ?_; clear h ac wo; intro ac wo h
  refine aE ?_
  refine hK4 _ _ ?_
  refine dm ?_
  replace h := h.nilRow (α := Iv) 66
  obtain ⟨X1, hX1⟩ : ∃ X, cd (fun s => cM p length s.1 s.2) ((p.length - 0) + 1) ([], 0) = X := ⟨_, rfl⟩
  refine wp_loop_ghost (fun n_ a_ w_ => ∃ (out : List Iv) (x10 : Nat) (outv : Value), ((p.length - x10) < n_) ∧ (cd (fun s => cM p length s.1 s.2) n_ (out, x10) = X1) ∧ (x10 ≤ p.length) ∧ (All (SzV 30) out) ∧ (out.length ≤ x10) ∧ St w0 28 [(3, (ptr b1 0)), (5, outv), (8, pv), (9, (.int .i64 ((p.length : Nat) : Int))), (10, (.int .i64 ((x10 : Nat) : Int)))] [.row (α := Iv) 66 outv out, .blk b1 (cQ length) 42] a_ w_) ((p.length - 0) + 1) ⟨[], 0, (.slice none 0 0), (by omega), hX1, (by first | assumption | omega | (simp only [aq, Bool.cond_decide, Bool.cond_eq_ite, List.length_append, List.length_set, List.length_cons, List.length_nil, List.length_take, List.length_drop, List.length_replicate] at *; done) | (simp only [aq, Bool.cond_decide, Bool.cond_eq_ite, List.length_append, List.length_set, List.length_cons, List.length_nil, List.length_take, List.length_drop, List.length_replicate] at *; omega) | (simp only [aq, Bool.cond_decide, Bool.cond_eq_ite, List.length_append, List.length_set, List.length_cons, List.length_nil, List.length_take, List.length_drop, List.length_replicate]; omega)), All.nil, (by first | assumption | omega | (simp only [aq, Bool.cond_decide, Bool.cond_eq_ite, List.length_append, List.length_set, List.length_cons, List.length_nil, List.length_take, List.length_drop, List.length_replicate] at *; done) | (simp only [aq, Bool.cond_decide, Bool.cond_eq_ite, List.length_append, List.length_set, List.length_cons, List.length_nil, List.length_take, List.length_drop, List.length_replicate] at *; omega) | (simp only [aq, Bool.cond_decide, Bool.cond_eq_ite, List.length_append, List.length_set, List.length_cons, List.length_nil, List.length_take, List.length_drop, List.length_replicate]; omega)), (h.sub ⟨rfl, rfl, rfl, rfl, rfl, trivial⟩)⟩ ?_
  clear h ac wo; rintro n1 ac wo ⟨out, x10, outv, hm1, hL1, hx10, zout, hol, h⟩
  obtain ⟨m1, rfl⟩ : ∃ m, n1 = m + 1 := ⟨n1 - 1, by omega⟩
  refine bB fun K5 hK5 => ?_
  refine rd0 h (dr rfl rfl) rfl ?_; clear h ac wo; intro ac wo h
  refine aE ?_
  refine hK5 _ _ ?_
  refine bP fun K6 hK6 => ?_
  refine c8 (b := (decide (((x10 : Nat) : Int) < ((p.length : Nat) : Int)))) h rfl (fun hc1 => ?_) (fun hc1 => ?_)
  · skip
    have hd1 := of_decide_eq_true hc1
    refine bR ?_
    refine hK6 _ _ ?_
    refine bP fun K7 hK7 => ?_
    refine dm ?_
    refine bB fun K8 hK8 => ?_
    refine rd0 h (ep (i := x10) uu26 zz66 rfl rfl (hpv.nn (i := x10) (by first | assumption | omega | (simp only [aq, Bool.cond_decide, Bool.cond_eq_ite, List.length_append, List.length_set, List.length_cons, List.length_nil, List.length_take, List.length_drop, List.length_replicate] at *; done) | (simp only [aq, Bool.cond_decide, Bool.cond_eq_ite, List.length_append, List.length_set, List.length_cons, List.length_nil, List.length_take, List.length_drop, List.length_replicate] at *; omega) | (simp only [aq, Bool.cond_decide, Bool.cond_eq_ite, List.length_append, List.length_set, List.length_cons, List.length_nil, List.length_take, List.length_drop, List.length_replicate]; omega))) (by first | assumption | omega | (simp only [aq, Bool.cond_decide, Bool.cond_eq_ite, List.length_append, List.length_set, List.length_cons, List.length_nil, List.length_take, List.length_drop, List.length_replicate] at *; done) | (simp only [aq, Bool.cond_decide, Bool.cond_eq_ite, List.length_append, List.length_set, List.length_cons, List.length_nil, List.length_take, List.length_drop, List.length_replicate] at *; omega) | (simp only [aq, Bool.cond_decide, Bool.cond_eq_ite, List.length_append, List.length_set, List.length_cons, List.length_nil, List.length_take, List.length_drop, List.length_replicate]; omega))) rfl ?_; clear h ac wo; intro ac wo h
    refine rd0 h (iK (k := 0) aa66 zz66 hpv (ec (by first | assumption | omega | (simp only [aq, Bool.cond_decide, Bool.cond_eq_ite, List.length_append, List.length_set, List.length_cons, List.length_nil, List.length_take, List.length_drop, List.length_replicate] at *; done) | (simp only [aq, Bool.cond_decide, Bool.cond_eq_ite, List.length_append, List.length_set, List.length_cons, List.length_nil, List.length_take, List.length_drop, List.length_replicate] at *; omega) | (simp only [aq, Bool.cond_decide, Bool.cond_eq_ite, List.length_append, List.length_set, List.length_cons, List.length_nil, List.length_take, List.length_drop, List.length_replicate]; omega))) rfl (Nat.add_zero _) rfl rfl (v := (vV (gt p x10))) rfl) rfl ?_; clear h ac wo; intro ac wo h
    refine al h (cV (⟨(⟨(⟨(⟨false, 0⟩ : GI), (⟨false, 0⟩ : GI)⟩ : GQ), (⟨(⟨false, 0⟩ : GI), (⟨false, 0⟩ : GI)⟩ : GQ), false⟩ : GR), (⟨(⟨(⟨false, 0⟩ : GI), (⟨false, 0⟩ : GI)⟩ : GQ), (⟨(⟨false, 0⟩ : GI), (⟨false, 0⟩ : GI)⟩ : GQ), false⟩ : GR), false, false⟩ : Iv)) vv66 rfl rfl ?_; clear h ac wo; intro b2 ac wo h
    refine st h 0 (cV (gt p x10)) rfl zz66 rfl rfl rfl rfl rfl rfl rfl ?_; clear h ac wo; intro ac wo h
    refine aE ?_
    refine hK8 _ _ ?_
    refine bP fun K9 hK9 => ?_
    have s2 := Calls.pr ((fun w_ hB_ hS_ => js ((gt p x10).lo) length (All.gt zp (eC _)).1 zlength w_ ) _ h.bel h.sep)
    have p4 := aJ ((eu (du ((gt p x10).lo) length) ((gt p x10).hi) 4 (by omega) s2 (da (All.gt zp (eC _)).2 (by omega))) w0)
    refine dc mixed [⟨.det (ptr b2 0), []⟩, ⟨.det (vR ((gt p x10).lo)), [0]⟩, ⟨.det (vQ length), [2]⟩, ⟨.det (vR (du ((gt p x10).lo) length)), []⟩, ⟨.det (ptr b2 9), []⟩, ⟨.det (vR ((gt p x10).hi)), [0]⟩, ⟨.det (.int .i64 (aY (du ((gt p x10).lo) length) ((gt p x10).hi))), []⟩, ⟨.det (.bool (decide ((aY (du ((gt p x10).lo) length) ((gt p x10).hi)) ≤ 0))), []⟩] [⟨.blk b2 (cV (gt p x10)) 66, []⟩, ⟨.row (α := Iv) 66 outv out, []⟩, ⟨.blk b1 (cQ length) 42, []⟩] h rfl (by kernel_rfl) ⟨?_, ?_, ?_, ?_, ?_, ?_, ?_, ?_, trivial⟩ ?_
    · intro ξ hφ; exact ay (eN uu66 rfl zz64 (by decide) rfl rfl (k' := 0))
    · intro ξ hφ; exact bT [.blk b2 (cV (gt p x10)) 66] rfl rfl (aZ aa64 zz64 rfl rfl rfl (v := (vR ((gt p x10).lo))) rfl)
    · intro ξ hφ; exact bT [.blk b1 (cQ length) 42] rfl rfl (aZ aa42 zz42 rfl rfl rfl (v := (vQ length)) rfl)
    · intro ξ hφ; exact dY (df (vs := [(vR ((gt p x10).lo)), (vQ length)]) (bh Tryz.call80 rfl) (fun w_ hB_ hS_ => js ((gt p x10).lo) length (All.gt zp (eC _)).1 zlength w_ ))
    · intro ξ hφ; exact ay (eN uu66 rfl zz64 (by decide) rfl rfl (k' := 9))
    · intro ξ hφ; exact bT [.blk b2 (cV (gt p x10)) 66] rfl rfl (aZ aa64 zz64 rfl rfl rfl (v := (vR ((gt p x10).hi))) rfl)
    · intro ξ hφ; exact dY (df (vs := [(vR (du ((gt p x10).lo) length)), (vR ((gt p x10).hi))]) (bh Tryz.call65 rfl) (fun w_ hB_ hS_ => (eu (du ((gt p x10).lo) length) ((gt p x10).hi) 4 (by omega) s2 (da (All.gt zp (eC _)).2 (by omega))) w_))
    · intro ξ hφ; exact ay (r_leq rfl rfl)
    clear h ac wo; intro ξ ac wo hφ h
    replace h : St w0 28 [(3, (ptr b1 0)), (5, outv), (8, pv), (9, (.int .i64 ((p.length : Nat) : Int))), (10, (.int .i64 ((x10 : Nat) : Int))), (7, (ptr b2 0)), (21, (.bool (decide ((aY (du ((gt p x10).lo) length) ((gt p x10).hi)) ≤ 0))))] [.blk b2 (cV (gt p x10)) 66, .row (α := Iv) 66 outv out, .blk b1 (cQ length) 42] ac wo := (h.pick [0, 1, 2] (by decide)).sub ⟨rfl, rfl, rfl, rfl, rfl, rfl, rfl, trivial⟩
    clear hφ ξ
    refine hK9 _ _ ?_
    refine c8 (b := (decide ((aY (du ((gt p x10).lo) length) ((gt p x10).hi)) ≤ 0))) h rfl (fun hc2 => ?_) (fun hc2 => ?_)
    · skip
      have hd2 := of_decide_eq_true hc2
      refine c_r ?_
      refine rd0 h (aj rfl) rfl ?_; clear h ac wo; intro ac wo h
      refine rd1 h 0 rfl (aZ aa66 zz66 rfl rfl rfl (v := (vV (gt p x10))) rfl) rfl ?_; clear h ac wo; intro ac wo h
      refine nw h (dg (α := Iv) (xs := [.tmp 23]) (vs := [(vV (gt p x10))]) [(gt p x10)] ic rfl rfl rfl (by decide)) rfl ?_; clear h ac wo; intro sv5 ac wo nnsv5 h
      refine on2 h 2 0 rfl rfl (eM (xs := out) (ys := [(gt p x10)]) ic (fun w hs => (row_view hs 0 rfl)) rfl rfl (by first | assumption | omega | (simp only [aq, Bool.cond_decide, Bool.cond_eq_ite, List.length_append, List.length_set, List.length_cons, List.length_nil, List.length_take, List.length_drop, List.length_replicate] at *; done) | (simp only [aq, Bool.cond_decide, Bool.cond_eq_ite, List.length_append, List.length_set, List.length_cons, List.length_nil, List.length_take, List.length_drop, List.length_replicate] at *; omega) | (simp only [aq, Bool.cond_decide, Bool.cond_eq_ite, List.length_append, List.length_set, List.length_cons, List.length_nil, List.length_take, List.length_drop, List.length_replicate]; omega))) rfl ?_; clear h ac wo; intro sv6 ac wo apsv6 h
      refine rd0 h (ah rfl) rfl ?_; clear h ac wo; intro ac wo h
      refine aE ?_
      refine e7 ?_
      refine hK7 _ _ ?_
      refine c_r ?_
      refine rd0 h (bO rfl rfl (r := ((x10 + 1 : Nat) : Int)) (by rw [IntKind.wrap_i64]; first | omega | (simp only [aq, Bool.cond_decide, Bool.cond_eq_ite, List.length_append, List.length_set, List.length_cons, List.length_nil, List.length_take, List.length_drop, List.length_replicate] at *; omega))) rfl ?_; clear h ac wo; intro ac wo h
      refine rd0 h (aj rfl) rfl ?_; clear h ac wo; intro ac wo h
      refine aE ?_
      exact aR ⟨m1, (by omega), (out ++ [(gt p x10)]), (x10 + 1), sv6, (by first | assumption | omega | (simp only [aq, Bool.cond_decide, Bool.cond_eq_ite, List.length_append, List.length_set, List.length_cons, List.length_nil, List.length_take, List.length_drop, List.length_replicate] at *; done) | (simp only [aq, Bool.cond_decide, Bool.cond_eq_ite, List.length_append, List.length_set, List.length_cons, List.length_nil, List.length_take, List.length_drop, List.length_replicate] at *; omega) | (simp only [aq, Bool.cond_decide, Bool.cond_eq_ite, List.length_append, List.length_set, List.length_cons, List.length_nil, List.length_take, List.length_drop, List.length_replicate]; omega)), cC hL1 (show cM p length out x10 = .go ((out ++ [(gt p x10)]), (x10 + 1)) from (Eq.trans (cT hc1) (cT hc2))), (by first | assumption | omega | (simp only [aq, Bool.cond_decide, Bool.cond_eq_ite, List.length_append, List.length_set, List.length_cons, List.length_nil, List.length_take, List.length_drop, List.length_replicate] at *; done) | (simp only [aq, Bool.cond_decide, Bool.cond_eq_ite, List.length_append, List.length_set, List.length_cons, List.length_nil, List.length_take, List.length_drop, List.length_replicate] at *; omega) | (simp only [aq, Bool.cond_decide, Bool.cond_eq_ite, List.length_append, List.length_set, List.length_cons, List.length_nil, List.length_take, List.length_drop, List.length_replicate]; omega)), (All.app zout (All.cons (All.gt zp (eC _)) All.nil)), (by first | assumption | omega | (simp only [aq, Bool.cond_decide, Bool.cond_eq_ite, List.length_append, List.length_set, List.length_cons, List.length_nil, List.length_take, List.length_drop, List.length_replicate] at *; done) | (simp only [aq, Bool.cond_decide, Bool.cond_eq_ite, List.length_append, List.length_set, List.length_cons, List.length_nil, List.length_take, List.length_drop, List.length_replicate] at *; omega) | (simp only [aq, Bool.cond_decide, Bool.cond_eq_ite, List.length_append, List.length_set, List.length_cons, List.length_nil, List.length_take, List.length_drop, List.length_replicate]; omega)), (h.pick [0, 3] (by decide)).sub ⟨rfl, rfl, rfl, rfl, rfl, trivial⟩⟩
    · skip
      have hd2 := of_decide_eq_false hc2
      refine bR ?_
      refine e7 ?_
      refine hK7 _ _ ?_
      refine c_r ?_
      refine rd0 h (bO rfl rfl (r := ((x10 + 1 : Nat) : Int)) (by rw [IntKind.wrap_i64]; first | omega | (simp only [aq, Bool.cond_decide, Bool.cond_eq_ite, List.length_append, List.length_set, List.length_cons, List.length_nil, List.length_take, List.length_drop, List.length_replicate] at *; omega))) rfl ?_; clear h ac wo; intro ac wo h
      refine rd0 h (aj rfl) rfl ?_; clear h ac wo; intro ac wo h
      refine aE ?_
      exact aR ⟨m1, (by omega), out, (x10 + 1), outv, (by first | assumption | omega | (simp only [aq, Bool.cond_decide, Bool.cond_eq_ite, List.length_append, List.length_set, List.length_cons, List.length_nil, List.length_take, List.length_drop, List.length_replicate] at *; done) | (simp only [aq, Bool.cond_decide, Bool.cond_eq_ite, List.length_append, List.length_set, List.length_cons, List.length_nil, List.length_take, List.length_drop, List.length_replicate] at *; omega) | (simp only [aq, Bool.cond_decide, Bool.cond_eq_ite, List.length_append, List.length_set, List.length_cons, List.length_nil, List.length_take, List.length_drop, List.length_replicate]; omega)), cC hL1 (show cM p length out x10 = .go (out, (x10 + 1)) from (Eq.trans (cT hc1) (cF hc2))), (by first | assumption | omega | (simp only [aq, Bool.cond_decide, Bool.cond_eq_ite, List.length_append, List.length_set, List.length_cons, List.length_nil, List.length_take, List.length_drop, List.length_replicate] at *; done) | (simp only [aq, Bool.cond_decide, Bool.cond_eq_ite, List.length_append, List.length_set, List.length_cons, List.length_nil, List.length_take, List.length_drop, List.length_replicate] at *; omega) | (simp only [aq, Bool.cond_decide, Bool.cond_eq_ite, List.length_append, List.length_set, List.length_cons, List.length_nil, List.length_take, List.length_drop, List.length_replicate]; omega)), zout, (by first | assumption | omega | (simp only [aq, Bool.cond_decide, Bool.cond_eq_ite, List.length_append, List.length_set, List.length_cons, List.length_nil, List.length_take, List.length_drop, List.length_replicate] at *; done) | (simp only [aq, Bool.cond_decide, Bool.cond_eq_ite, List.length_append, List.length_set, List.length_cons, List.length_nil, List.length_take, List.length_drop, List.length_replicate] at *; omega) | (simp only [aq, Bool.cond_decide, Bool.cond_eq_ite, List.length_append, List.length_set, List.length_cons, List.length_nil, List.length_take, List.length_drop, List.length_replicate]; omega)), (h.pick [1, 2] (by decide)).sub ⟨rfl, rfl, rfl, rfl, rfl, trivial⟩⟩
  · skip
    have hd1 := of_decide_eq_false hc1
    refine dW ?_
    have hx1 := ej hL1 (show cM p length out x10 = .out (out, x10) from (cF hc1))
    refine hK3 _ _ ?_
    refine bB fun K10 hK10 => ?_
    refine rd0 h (aj rfl) rfl ?_; clear h ac wo; intro ac wo h
    refine rd0 h (ah rfl) rfl ?_; clear h ac wo; intro ac wo h
    refine aE ?_
    refine hK10 _ _ ?_
    refine cr ?_
    have hd : dL p length = out := (fe (hX1.trans hx1))
    exact ret (rs := [.tmp 4]) h rfl (.tmp rfl .nil) rfl (by rw [hd]; exact h.retR 0 rfl ⟨zout, (by first | assumption | omega | (simp only [aq, Bool.cond_decide, Bool.cond_eq_ite, List.length_append, List.length_set, List.length_cons, List.length_nil, List.length_take, List.length_drop, List.length_replicate] at *; done) | (simp only [aq, Bool.cond_decide, Bool.cond_eq_ite, List.length_append, List.length_set, List.length_cons, List.length_nil, List.length_take, List.length_drop, List.length_replicate] at *; omega) | (simp only [aq, Bool.cond_decide, Bool.cond_eq_ite, List.length_append, List.length_set, List.length_cons, List.length_nil, List.length_take, List.length_drop, List.length_replicate]; omega))⟩)
attribute [irreducible] dL
def eS (l : List Stp) (in_ : List Iv) (i : Nat) : (List Iv) :=
  (dA in_)
def cm (l : List Stp) (in_ : List Iv) (i : Nat) : Nx ((List Iv) × Nat) (List Iv) :=
  bif (decide (((i : Nat) : Int) < (((aN l).length : Nat) : Int))) then
    .go ((in_ ++ [(gt (aN l) i).iv]), (i + 1))
  else
    .out (in_, i)
def aa (l : List Stp) : (List Iv) :=
  fin (cd (fun s => cm l s.1 s.2) (((aN l).length - 0) + 1) ([], 0)) (fun s => eS l s.1 s.2) (fun r => r)
theorem i7 (l : List Stp) (lv : Value) (w0 : World) (hlv : View w0 lv l) : Calls Tryz.prog 10 #[lv] w0 (RetR w0 66 (aa l) (All (SzV 30) (aa l) ∧ (aa l).length ≤ 32)) := by
  refine enter (N := 24) (args := [lv]) Tryz.func10 rfl rfl ?_; intro ac h
  have hlenl := hlv.len
  refine bB fun K1 hK1 => ?_
  refine rd0 h (ah rfl (v := (.slice none 0 0))) rfl ?_; clear h ac; intro ac wo h
  refine aE ?_
  refine hK1 _ _ ?_
  refine bB fun K2 hK2 => ?_
  refine rd0 h (aj rfl) rfl ?_; clear h ac wo; intro ac wo h
  have s1 := RetR.pr ((fun w_ hB_ hS_ => f8 l lv w_ (hlv.below hB_)) _ h.bel h.sep)
  have p2 := s1.2
  refine io (vs := [lv]) (xs := (aN l)) h (bh Tryz.call44 rfl) (fun w_ hB_ hS_ => f8 l lv w_ (hlv.below hB_)) rfl ?_; clear h ac wo; intro sv3 ac wo _ h
  refine rd0 h (ah rfl) rfl ?_; clear h ac wo; intro ac wo h
  refine aE ?_
  refine hK2 _ _ ?_
  refine bB fun K3 hK3 => ?_
  refine rd0 h (ah rfl (v := (.slice none 0 0))) rfl ?_; clear h ac wo; intro ac wo h
  refine aE ?_
  refine hK3 _ _ ?_
  refine bP fun K4 hK4 => ?_
  refine bB fun K5 hK5 => ?_
  refine rd0 h (ah rfl (v := (.int .i64 0))) rfl ?_; clear h ac wo; intro ac wo h
  refine aE ?_
  refine hK5 _ _ ?_
  refine dm ?_
  replace h := h.nilRow (α := Iv) 66
  obtain ⟨X1, hX1⟩ : ∃ X, cd (fun s => cm l s.1 s.2) (((aN l).length - 0) + 1) ([], 0) = X := ⟨_, rfl⟩
  refine wp_loop_ghost (fun n_ a_ w_ => ∃ (in_ : List Iv) (i : Nat) (in_v : Value), (((aN l).length - i) < n_) ∧ (cd (fun s => cm l s.1 s.2) n_ (in_, i) = X1) ∧ (i ≤ (aN l).length) ∧ (All (SzV 30) in_) ∧ (in_ = ((aN l).take i).map (fun u => u.iv)) ∧ St w0 24 [(3, sv3), (4, in_v), (5, (.int .i64 ((i : Nat) : Int)))] [.row (α := Iv) 66 in_v in_, .row (α := U Qd) 77 sv3 (aN l)] a_ w_) (((aN l).length - 0) + 1) ⟨[], 0, (.slice none 0 0), (by omega), hX1, (by first | assumption | omega | (simp only [aq, Bool.cond_decide, Bool.cond_eq_ite, List.length_append, List.length_set, List.length_cons, List.length_nil, List.length_take, List.length_drop, List.length_replicate] at *; done) | (simp only [aq, Bool.cond_decide, Bool.cond_eq_ite, List.length_append, List.length_set, List.length_cons, List.length_nil, List.length_take, List.length_drop, List.length_replicate] at *; omega) | (simp only [aq, Bool.cond_decide, Bool.cond_eq_ite, List.length_append, List.length_set, List.length_cons, List.length_nil, List.length_take, List.length_drop, List.length_replicate]; omega)), All.nil, rfl, (h.sub ⟨rfl, rfl, rfl, trivial⟩)⟩ ?_
  clear h ac wo; rintro n1 ac wo ⟨in_, i, in_v, hm1, hL1, hi, zin_, hin, h⟩
  obtain ⟨m1, rfl⟩ : ∃ m, n1 = m + 1 := ⟨n1 - 1, by omega⟩
  have hbl_ := pW l
  have hil_ : in_.length = min i (aN l).length := by rw [hin, List.length_map, List.length_take]
  refine bP fun K6 hK6 => ?_
  refine bB fun K7 hK7 => ?_
  refine rd0 h (aj rfl) rfl ?_; clear h ac wo; intro ac wo h
  refine rd0 h (aj rfl) rfl ?_; clear h ac wo; intro ac wo h
  refine rd0 h (dx uu72 rfl (h.row_sl 1 rfl)) rfl ?_; clear h ac wo; intro ac wo h
  refine rd0 h (dr rfl rfl) rfl ?_; clear h ac wo; intro ac wo h
  refine aE ?_
  refine hK7 _ _ ?_
  refine c8 (b := (decide (((i : Nat) : Int) < (((aN l).length : Nat) : Int)))) h rfl (fun hc1 => ?_) (fun hc1 => ?_)
  · skip
    have hd1 := of_decide_eq_true hc1
    refine bR ?_
    refine hK6 _ _ ?_
    refine bP fun K8 hK8 => ?_
    refine dm ?_
    refine c_r ?_
    refine rd0 h (aj rfl) rfl ?_; clear h ac wo; intro ac wo h
    refine rd0 h (aj rfl) rfl ?_; clear h ac wo; intro ac wo h
    refine rd0 h (aj rfl) rfl ?_; clear h ac wo; intro ac wo h
    refine rd0 h (ep (i := i) uu72 Tryz.sizeOf77 rfl rfl (h.row_nn 1 rfl (by first | assumption | omega | (simp only [aq, Bool.cond_decide, Bool.cond_eq_ite, List.length_append, List.length_set, List.length_cons, List.length_nil, List.length_take, List.length_drop, List.length_replicate] at *; done) | (simp only [aq, Bool.cond_decide, Bool.cond_eq_ite, List.length_append, List.length_set, List.length_cons, List.length_nil, List.length_take, List.length_drop, List.length_replicate] at *; omega) | (simp only [aq, Bool.cond_decide, Bool.cond_eq_ite, List.length_append, List.length_set, List.length_cons, List.length_nil, List.length_take, List.length_drop, List.length_replicate]; omega))) (by first | assumption | omega | (simp only [aq, Bool.cond_decide, Bool.cond_eq_ite, List.length_append, List.length_set, List.length_cons, List.length_nil, List.length_take, List.length_drop, List.length_replicate] at *; done) | (simp only [aq, Bool.cond_decide, Bool.cond_eq_ite, List.length_append, List.length_set, List.length_cons, List.length_nil, List.length_take, List.length_drop, List.length_replicate] at *; omega) | (simp only [aq, Bool.cond_decide, Bool.cond_eq_ite, List.length_append, List.length_set, List.length_cons, List.length_nil, List.length_take, List.length_drop, List.length_replicate]; omega))) rfl ?_; clear h ac wo; intro ac wo h
    refine rd0 h (r_faS Tryz.runUnderlying77 rfl zz66 (by decide) (h.row_nn 1 rfl (by first | assumption | omega | (simp only [aq, Bool.cond_decide, Bool.cond_eq_ite, List.length_append, List.length_set, List.length_cons, List.length_nil, List.length_take, List.length_drop, List.length_replicate] at *; done) | (simp only [aq, Bool.cond_decide, Bool.cond_eq_ite, List.length_append, List.length_set, List.length_cons, List.length_nil, List.length_take, List.length_drop, List.length_replicate] at *; omega) | (simp only [aq, Bool.cond_decide, Bool.cond_eq_ite, List.length_append, List.length_set, List.length_cons, List.length_nil, List.length_take, List.length_drop, List.length_replicate]; omega))) rfl rfl (k' := i * 32 + 0)) rfl ?_; clear h ac wo; intro ac wo h
    refine rd1 h 1 rfl (er (k := 0) aa66 zz66 (ec (by first | assumption | omega | (simp only [aq, Bool.cond_decide, Bool.cond_eq_ite, List.length_append, List.length_set, List.length_cons, List.length_nil, List.length_take, List.length_drop, List.length_replicate] at *; done) | (simp only [aq, Bool.cond_decide, Bool.cond_eq_ite, List.length_append, List.length_set, List.length_cons, List.length_nil, List.length_take, List.length_drop, List.length_replicate] at *; omega) | (simp only [aq, Bool.cond_decide, Bool.cond_eq_ite, List.length_append, List.length_set, List.length_cons, List.length_nil, List.length_take, List.length_drop, List.length_replicate]; omega))) rfl rfl rfl rfl (v := (vV ((gt (aN l) i).iv))) rfl) rfl ?_; clear h ac wo; intro ac wo h
    refine nw h (dg (α := Iv) (xs := [.tmp 19]) (vs := [(vV ((gt (aN l) i).iv))]) [(gt (aN l) i).iv] ic rfl rfl rfl (by decide)) rfl ?_; clear h ac wo; intro sv5 ac wo nnsv5 h
    refine on2 h 1 0 rfl rfl (eM (xs := in_) (ys := [(gt (aN l) i).iv]) ic (fun w hs => (row_view hs 0 rfl)) rfl rfl (by first | assumption | omega | (simp only [aq, Bool.cond_decide, Bool.cond_eq_ite, List.length_append, List.length_set, List.length_cons, List.length_nil, List.length_take, List.length_drop, List.length_replicate] at *; done) | (simp only [aq, Bool.cond_decide, Bool.cond_eq_ite, List.length_append, List.length_set, List.length_cons, List.length_nil, List.length_take, List.length_drop, List.length_replicate] at *; omega) | (simp only [aq, Bool.cond_decide, Bool.cond_eq_ite, List.length_append, List.length_set, List.length_cons, List.length_nil, List.length_take, List.length_drop, List.length_replicate]; omega))) rfl ?_; clear h ac wo; intro sv6 ac wo apsv6 h
    refine rd0 h (ah rfl) rfl ?_; clear h ac wo; intro ac wo h
    refine aE ?_
    refine e7 ?_
    refine hK8 _ _ ?_
    refine c_r ?_
    refine rd0 h (aj rfl) rfl ?_; clear h ac wo; intro ac wo h
    refine rd0 h (bO rfl rfl (r := ((i + 1 : Nat) : Int)) (by rw [IntKind.wrap_i64]; first | omega | (simp only [aq, Bool.cond_decide, Bool.cond_eq_ite, List.length_append, List.length_set, List.length_cons, List.length_nil, List.length_take, List.length_drop, List.length_replicate] at *; omega))) rfl ?_; clear h ac wo; intro ac wo h
    refine rd0 h (ah rfl) rfl ?_; clear h ac wo; intro ac wo h
    refine aE ?_
    exact aR ⟨m1, (by omega), (in_ ++ [(gt (aN l) i).iv]), (i + 1), sv6, (by first | assumption | omega | (simp only [aq, Bool.cond_decide, Bool.cond_eq_ite, List.length_append, List.length_set, List.length_cons, List.length_nil, List.length_take, List.length_drop, List.length_replicate] at *; done) | (simp only [aq, Bool.cond_decide, Bool.cond_eq_ite, List.length_append, List.length_set, List.length_cons, List.length_nil, List.length_take, List.length_drop, List.length_replicate] at *; omega) | (simp only [aq, Bool.cond_decide, Bool.cond_eq_ite, List.length_append, List.length_set, List.length_cons, List.length_nil, List.length_take, List.length_drop, List.length_replicate]; omega)), cC hL1 (show cm l in_ i = .go ((in_ ++ [(gt (aN l) i).iv]), (i + 1)) from (cT hc1)), (by first | assumption | omega | (simp only [aq, Bool.cond_decide, Bool.cond_eq_ite, List.length_append, List.length_set, List.length_cons, List.length_nil, List.length_take, List.length_drop, List.length_replicate] at *; done) | (simp only [aq, Bool.cond_decide, Bool.cond_eq_ite, List.length_append, List.length_set, List.length_cons, List.length_nil, List.length_take, List.length_drop, List.length_replicate] at *; omega) | (simp only [aq, Bool.cond_decide, Bool.cond_eq_ite, List.length_append, List.length_set, List.length_cons, List.length_nil, List.length_take, List.length_drop, List.length_replicate]; omega)), (All.app zin_ (All.cons (All.gt s1.1 (SzUD_d _)).1 All.nil)), (by rw [hin, iH (by omega), List.map_append]; rfl), (h.pick [0, 2] (by decide)).sub ⟨rfl, rfl, rfl, trivial⟩⟩
  · skip
    have hd1 := of_decide_eq_false hc1
    refine dW ?_
    have hx1 := ej hL1 (show cm l in_ i = .out (in_, i) from (cF hc1))
    refine hK4 _ _ ?_
    refine bB fun K9 hK9 => ?_
    have hin2 : in_ = (aN l).map (fun u => u.iv) := by rw [hin, List.take_of_length_le (by omega)]
    have hbl := pW l
    have hinl : in_.length ≤ 16 := by rw [hin2, List.length_map]; exact hbl
    have hinw : ∀ i ∈ in_, Wv i := by rw [hin2]; exact bld_wv l
    refine rd0 h (aj rfl) rfl ?_; clear h ac wo; intro ac wo h
    have s7 := RetR.pr ((fun w_ hB_ hS_ => iu in_ in_v (by first | assumption | omega | (simp only [aq, Bool.cond_decide, Bool.cond_eq_ite, List.length_append, List.length_set, List.length_cons, List.length_nil, List.length_take, List.length_drop, List.length_replicate] at *; done) | (simp only [aq, Bool.cond_decide, Bool.cond_eq_ite, List.length_append, List.length_set, List.length_cons, List.length_nil, List.length_take, List.length_drop, List.length_replicate] at *; omega) | (simp only [aq, Bool.cond_decide, Bool.cond_eq_ite, List.length_append, List.length_set, List.length_cons, List.length_nil, List.length_take, List.length_drop, List.length_replicate]; omega)) hinw zin_ w_ (row_view hS_ 0 rfl)) _ h.bel h.sep)
    have p8 := s7.2
    refine io (vs := [in_v]) (xs := (dA in_)) h (bh Tryz.call45 rfl) (fun w_ hB_ hS_ => iu in_ in_v (by first | assumption | omega | (simp only [aq, Bool.cond_decide, Bool.cond_eq_ite, List.length_append, List.length_set, List.length_cons, List.length_nil, List.length_take, List.length_drop, List.length_replicate] at *; done) | (simp only [aq, Bool.cond_decide, Bool.cond_eq_ite, List.length_append, List.length_set, List.length_cons, List.length_nil, List.length_take, List.length_drop, List.length_replicate] at *; omega) | (simp only [aq, Bool.cond_decide, Bool.cond_eq_ite, List.length_append, List.length_set, List.length_cons, List.length_nil, List.length_take, List.length_drop, List.length_replicate]; omega)) hinw zin_ w_ (row_view hS_ 0 rfl)) rfl ?_; clear h ac wo; intro sv9 ac wo _ h
    refine rd0 h (ah rfl) rfl ?_; clear h ac wo; intro ac wo h
    refine aE ?_
    refine hK9 _ _ ?_
    refine cr ?_
    have hd : aa l = (dA in_) := (fe (hX1.trans hx1))
    exact ret (rs := [.tmp 2]) h rfl (.tmp rfl .nil) rfl (by rw [hd]; exact h.retR 0 rfl ⟨s7.1, (by first | assumption | omega | (simp only [aq, Bool.cond_decide, Bool.cond_eq_ite, List.length_append, List.length_set, List.length_cons, List.length_nil, List.length_take, List.length_drop, List.length_replicate] at *; done) | (simp only [aq, Bool.cond_decide, Bool.cond_eq_ite, List.length_append, List.length_set, List.length_cons, List.length_nil, List.length_take, List.length_drop, List.length_replicate] at *; omega) | (simp only [aq, Bool.cond_decide, Bool.cond_eq_ite, List.length_append, List.length_set, List.length_cons, List.length_nil, List.length_take, List.length_drop, List.length_replicate]; omega))⟩)
attribute [irreducible] aa
end Go.Sx
