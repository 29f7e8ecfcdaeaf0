/- A part of the proof that the law PiecesRules answers true at every input and leaves its arguments as they were. -/
import Derived.Test.YtnkaneggnjallaaGreatDoorProg
import Derived.Test.YtnkaneggnjallaaGreatDoorGdiv
set_option linter.unusedVariables false
set_option linter.unusedSimpArgs false
namespace Go.Sx
open Go Go.RowKit Go.Proofs
set_option maxRecDepth 100000
theorem eqi38 : EqIn Tryz.prog 2 38 vI := eqS (c := cI) (fun _ => rfl) Tryz.underlying38 Tryz.stoodInHeld38 fun d x y w hd => by
  refine Eq.trans (eqF (by decide) (part_one Tryz.isAgg4 rfl w) (part_one Tryz.isAgg4 rfl w) (eqB Tryz.underlying4 d (by omega) _ _ w) (eqF (by decide) (part_one Tryz.isAgg9 rfl w) (part_one Tryz.isAgg9 rfl w) (eqBs Tryz.underlying9 d (by omega) _ _ w) eqF0)) ?_
  congr 1
  rw [decide_eq_decide]
  cases x; cases y; simp
theorem eqp38 : EqP Tryz.prog 38 vI := EqIn.p (k := 2) rfl (c := fun x => (cI x).toArray) (fun _ => rfl) Tryz.eqGuardType38 eqi38
theorem eqi40 : EqIn Tryz.prog 3 40 vQ := eqS (c := cQ) (fun _ => rfl) Tryz.underlying40 Tryz.stoodInHeld40 fun d x y w hd => by
  refine Eq.trans (eqF (by decide) (part_agg Tryz.isAgg38 Tryz.sizeOf38 (v := vI (x.num)) rfl w) (part_agg Tryz.isAgg38 Tryz.sizeOf38 (v := vI (y.num)) rfl w) (eqi38 d _ _ w (by omega)) (eqF (by decide) (part_agg Tryz.isAgg38 Tryz.sizeOf38 (v := vI (x.den)) rfl w) (part_agg Tryz.isAgg38 Tryz.sizeOf38 (v := vI (y.den)) rfl w) (eqi38 d _ _ w (by omega)) eqF0)) ?_
  congr 1
  rw [decide_eq_decide]
  cases x; cases y; simp
theorem eqp40 : EqP Tryz.prog 40 vQ := EqIn.p (k := 3) rfl (c := fun x => (cQ x).toArray) (fun _ => rfl) Tryz.eqGuardType40 eqi40
theorem eqi53 : EqIn Tryz.prog 4 53 vR := eqS (c := cR) (fun _ => rfl) Tryz.underlying53 Tryz.stoodInHeld53 fun d x y w hd => by
  refine Eq.trans (eqF (by decide) (part_agg Tryz.isAgg40 Tryz.sizeOf40 (v := vQ (x.p)) rfl w) (part_agg Tryz.isAgg40 Tryz.sizeOf40 (v := vQ (y.p)) rfl w) (eqi40 d _ _ w (by omega)) (eqF (by decide) (part_agg Tryz.isAgg40 Tryz.sizeOf40 (v := vQ (x.r)) rfl w) (part_agg Tryz.isAgg40 Tryz.sizeOf40 (v := vQ (y.r)) rfl w) (eqi40 d _ _ w (by omega)) (eqF (by decide) (part_one Tryz.isAgg4 rfl w) (part_one Tryz.isAgg4 rfl w) (eqB Tryz.underlying4 d (by omega) _ _ w) eqF0))) ?_
  congr 1
  rw [decide_eq_decide]
  cases x; cases y; simp
theorem eqp53 : EqP Tryz.prog 53 vR := EqIn.p (k := 4) rfl (c := fun x => (cR x).toArray) (fun _ => rfl) Tryz.eqGuardType53 eqi53
theorem eqi69 : EqIn Tryz.prog 4 69 vD := eqS (c := cD) (fun _ => rfl) Tryz.underlying69 Tryz.stoodInHeld69 fun d x y w hd => by
  refine Eq.trans (eqF (by decide) (part_agg Tryz.isAgg40 Tryz.sizeOf40 (v := vQ (x.c0)) rfl w) (part_agg Tryz.isAgg40 Tryz.sizeOf40 (v := vQ (y.c0)) rfl w) (eqi40 d _ _ w (by omega)) (eqF (by decide) (part_agg Tryz.isAgg40 Tryz.sizeOf40 (v := vQ (x.c1)) rfl w) (part_agg Tryz.isAgg40 Tryz.sizeOf40 (v := vQ (y.c1)) rfl w) (eqi40 d _ _ w (by omega)) (eqF (by decide) (part_agg Tryz.isAgg40 Tryz.sizeOf40 (v := vQ (x.c2)) rfl w) (part_agg Tryz.isAgg40 Tryz.sizeOf40 (v := vQ (y.c2)) rfl w) (eqi40 d _ _ w (by omega)) eqF0))) ?_
  congr 1
  rw [decide_eq_decide]
  cases x; cases y; simp
theorem eqp69 : EqP Tryz.prog 69 vD := EqIn.p (k := 4) rfl (c := fun x => (cD x).toArray) (fun _ => rfl) Tryz.eqGuardType69 eqi69
def ig_Sign (a : GI) : Int :=
  bif (decide (a.mag = 0)) then
    0
  else
    bif a.neg then
      (-1)
    else
      1
theorem ig_Sign_ct (a : GI) (w0 : World) : Calls Tryz.prog 124 #[(vI a)] w0 (RetP w0 (.int .i64 (ig_Sign a)) ((-1 ≤ (ig_Sign a) ∧ (ig_Sign a) ≤ 1))) := by
  refine enter (N := 10) (args := [(vI a)]) Tryz.func124 rfl rfl ?_; intro ac h
  refine c_rs fun K1 hK1 => ?_
  refine bx h (cI a) rfl rfl rfl ?_; clear h ac; intro b1 ac wo h
  refine rd0 h (r_assign rfl (v := (.int .i64 0))) rfl ?_; clear h ac wo; intro ac wo h
  refine w_nil ?_
  refine hK1 _ _ ?_
  refine c_seq fun K2 hK2 => ?_
  refine c_block ?_
  refine c_rs fun K3 hK3 => ?_
  refine rd0 h (r_fa Tryz.runUnderlying38 rfl Tryz.sizeOf9 (by decide) rfl rfl (k' := 1)) rfl ?_; clear h ac wo; intro ac wo h
  refine rd1 h 0 rfl (r_ld Tryz.isAgg9 Tryz.sizeOf9 rfl rfl rfl (v := (.string (bs a.mag))) rfl) rfl ?_; clear h ac wo; intro ac wo h
  refine rd0 h (r_eqlBs rfl rfl (m := a.mag) (n := 0)) rfl ?_; clear h ac wo; intro ac wo h
  refine rd0 h (r_assign rfl) rfl ?_; clear h ac wo; intro ac wo h
  refine w_nil ?_
  refine hK3 _ _ ?_
  refine c_if (b := (decide (a.mag = 0))) h rfl (fun hc1 => ?_) (fun hc1 => ?_)
  · skip
    have hd1 := of_decide_eq_true hc1
    refine c_rs fun K4 hK4 => ?_
    refine rd0 h (r_assign rfl (v := (.int .i64 0))) rfl ?_; clear h ac wo; intro ac wo h
    refine w_nil ?_
    refine hK4 _ _ ?_
    refine c_ret ?_
    have hd : ig_Sign a = 0 := (cT hc1)
    exact ret (rs := [.tmp 2]) h rfl (.tmp rfl .nil) rfl (h.retP (by rw [hd] <;> rfl) (by rw [hd]; exact by first | omega | exact sgn_mul (by omega) (by omega)))
  · skip
    have hd1 := of_decide_eq_false hc1
    refine c_rs fun K5 hK5 => ?_
    refine rd0 h (r_fa Tryz.runUnderlying38 rfl Tryz.sizeOf4 (by decide) rfl rfl (k' := 0)) rfl ?_; clear h ac wo; intro ac wo h
    refine rd1 h 0 rfl (r_ld Tryz.isAgg4 Tryz.sizeOf4 rfl rfl rfl (v := (.bool a.neg)) rfl) rfl ?_; clear h ac wo; intro ac wo h
    refine rd0 h (r_assign rfl) rfl ?_; clear h ac wo; intro ac wo h
    refine w_nil ?_
    refine hK5 _ _ ?_
    refine c_if (b := a.neg) h rfl (fun hc2 => ?_) (fun hc2 => ?_)
    · skip
      refine c_rs fun K6 hK6 => ?_
      refine rd0 h (r_assign rfl (v := (.int .i64 (-1)))) rfl ?_; clear h ac wo; intro ac wo h
      refine w_nil ?_
      refine hK6 _ _ ?_
      refine c_ret ?_
      have hd : ig_Sign a = (-1) := (Eq.trans (cF hc1) (cT hc2))
      exact ret (rs := [.tmp 2]) h rfl (.tmp rfl .nil) rfl (h.retP (by rw [hd] <;> rfl) (by rw [hd]; exact by first | omega | exact sgn_mul (by omega) (by omega)))
    · skip
      refine c_skip ?_
      refine b_norm ?_
      refine hK2 _ _ ?_
      refine c_rs fun K7 hK7 => ?_
      refine rd0 h (r_assign rfl (v := (.int .i64 1))) rfl ?_; clear h ac wo; intro ac wo h
      refine w_nil ?_
      refine hK7 _ _ ?_
      refine c_ret ?_
      have hd : ig_Sign a = 1 := (Eq.trans (cF hc1) (cF hc2))
      exact ret (rs := [.tmp 2]) h rfl (.tmp rfl .nil) rfl (h.retP (by rw [hd] <;> rfl) (by rw [hd]; exact by first | omega | exact sgn_mul (by omega) (by omega)))
def ig_Negate (a : GI) : GI :=
  (ig_made (!a.neg) a.mag)
theorem ig_Negate_ct (a : GI) (k : Nat) (hk : k ≤ 40) (za : SzI k a) (w0 : World) : Calls Tryz.prog 118 #[(vI a)] w0 (RetP w0 (vI (ig_Negate a)) (SzI k (ig_Negate a))) := by
  refine enter (N := 9) (args := [(vI a)]) Tryz.func118 rfl rfl ?_; intro ac h
  refine c_rs fun K1 hK1 => ?_
  refine bx h (cI a) rfl rfl rfl ?_; clear h ac; intro b1 ac wo h
  refine al h (cI (⟨false, 0⟩ : GI)) Tryz.zeroValue38 rfl rfl ?_; clear h ac wo; intro b2 ac wo h
  refine w_nil ?_
  refine hK1 _ _ ?_
  refine c_rs fun K2 hK2 => ?_
  refine rd0 h (r_fa Tryz.runUnderlying38 rfl Tryz.sizeOf4 (by decide) rfl rfl (k' := 0)) rfl ?_; clear h ac wo; intro ac wo h
  refine rd1 h 1 rfl (r_ld Tryz.isAgg4 Tryz.sizeOf4 rfl rfl rfl (v := (.bool a.neg)) rfl) rfl ?_; clear h ac wo; intro ac wo h
  refine rd0 h (r_not rfl) rfl ?_; clear h ac wo; intro ac wo h
  refine rd0 h (r_fa Tryz.runUnderlying38 rfl Tryz.sizeOf9 (by decide) rfl rfl (k' := 1)) rfl ?_; clear h ac wo; intro ac wo h
  refine rd1 h 1 rfl (r_ld Tryz.isAgg9 Tryz.sizeOf9 rfl rfl rfl (v := (.string (bs a.mag))) rfl) rfl ?_; clear h ac wo; intro ac wo h
  have s1 := Calls_pr ((ig_made_ct (!a.neg) a.mag k (by omega) za) w0)
  refine clp h Tryz.call172 (vs := [(.bool (!a.neg)), (.string (bs a.mag))]) rfl (ig_made_ct (!a.neg) a.mag k (by omega) za) rfl ?_; clear h ac wo; intro ac wo h
  refine st h 0 (cI (ig_made (!a.neg) a.mag)) rfl Tryz.sizeOf38 rfl rfl rfl rfl rfl rfl rfl ?_; clear h ac wo; intro ac wo h
  refine w_nil ?_
  refine hK2 _ _ ?_
  refine c_ret ?_
  have hd : ig_Negate a = (ig_made (!a.neg) a.mag) := rfl
  exact ret (rs := [.cell 2 38]) h rfl (.cell (v := (vI (ig_made (!a.neg) a.mag))) rfl (i := 0) rfl Tryz.isAgg38 Tryz.sizeOf38 rfl rfl rfl .nil) rfl (h.retP (by rw [hd] <;> rfl) (by rw [hd]; exact s1))
def ig_Compare (a : GI) (b : GI) : Int :=
  bif (a.neg != b.neg) then
    (cmpInt (ig_Sign a) (ig_Sign b))
  else
    bif a.neg then
      -(ig_compare a.mag b.mag)
    else
      (ig_compare a.mag b.mag)
theorem ig_Compare_ct (a : GI) (b : GI) (k : Nat) (hk : k ≤ 40) (za : SzI k a) (zb : SzI k b) (w0 : World) : Calls Tryz.prog 163 #[(vI a), (vI b)] w0 (RetP w0 (.int .i64 (ig_Compare a b)) ((-1 ≤ (ig_Compare a b) ∧ (ig_Compare a b) ≤ 1))) := by
  refine enter (N := 26) (args := [(vI a), (vI b)]) Tryz.func163 rfl rfl ?_; intro ac h
  refine c_rs fun K1 hK1 => ?_
  refine bx h (cI a) rfl rfl rfl ?_; clear h ac; intro b1 ac wo h
  refine bx h (cI b) rfl rfl rfl ?_; clear h ac wo; intro b2 ac wo h
  refine rd0 h (r_assign rfl (v := (.int .i64 0))) rfl ?_; clear h ac wo; intro ac wo h
  refine w_nil ?_
  refine hK1 _ _ ?_
  refine c_seq fun K2 hK2 => ?_
  refine c_rs fun K3 hK3 => ?_
  refine rd0 h (r_fa Tryz.runUnderlying38 rfl Tryz.sizeOf4 (by decide) rfl rfl (k' := 0)) rfl ?_; clear h ac wo; intro ac wo h
  refine rd1 h 1 rfl (r_ld Tryz.isAgg4 Tryz.sizeOf4 rfl rfl rfl (v := (.bool a.neg)) rfl) rfl ?_; clear h ac wo; intro ac wo h
  refine rd0 h (r_fa Tryz.runUnderlying38 rfl Tryz.sizeOf4 (by decide) rfl rfl (k' := 0)) rfl ?_; clear h ac wo; intro ac wo h
  refine rd1 h 0 rfl (r_ld Tryz.isAgg4 Tryz.sizeOf4 rfl rfl rfl (v := (.bool b.neg)) rfl) rfl ?_; clear h ac wo; intro ac wo h
  refine rd0 h (r_neqB Tryz.underlying4 rfl rfl) rfl ?_; clear h ac wo; intro ac wo h
  refine w_nil ?_
  refine hK3 _ _ ?_
  refine c_if (b := (a.neg != b.neg)) h rfl (fun hc1 => ?_) (fun hc1 => ?_)
  · skip
    refine c_seq fun K4 hK4 => ?_
    have p2 := Calls_pr ((ig_Sign_ct a) w0)
    have p4 := Calls_pr ((ig_Sign_ct b) w0)
    have p6 := Calls_pr ((cmpInt_ct (ig_Sign a) (ig_Sign b)) w0)
    refine draws mixed [⟨.det (vI a), [1]⟩, ⟨.det (.int .i64 (ig_Sign a)), []⟩, ⟨.det (vI b), [0]⟩, ⟨.det (.int .i64 (ig_Sign b)), []⟩, ⟨.det (.int .i64 (cmpInt (ig_Sign a) (ig_Sign b))), []⟩, ⟨.det (.int .i64 (cmpInt (ig_Sign a) (ig_Sign b))), []⟩] [⟨.blk b2 (cI b) 38, []⟩, ⟨.blk b1 (cI a) 38, []⟩] h rfl (by kernel_rfl) ⟨?_, ?_, ?_, ?_, ?_, ?_, trivial⟩ ?_
    · intro ξ hφ; exact ob_r [.blk b1 (cI a) 38] rfl rfl (r_ld Tryz.isAgg38 Tryz.sizeOf38 rfl rfl rfl (v := (vI a)) rfl)
    · intro ξ hφ; exact ob_s (s_clp Tryz.call124 (vs := [(vI a)]) rfl (ig_Sign_ct a))
    · intro ξ hφ; exact ob_r [.blk b2 (cI b) 38] rfl rfl (r_ld Tryz.isAgg38 Tryz.sizeOf38 rfl rfl rfl (v := (vI b)) rfl)
    · intro ξ hφ; exact ob_s (s_clp Tryz.call124 (vs := [(vI b)]) rfl (ig_Sign_ct b))
    · intro ξ hφ; exact ob_s (s_clp Tryz.call149 (vs := [(.int .i64 (ig_Sign a)), (.int .i64 (ig_Sign b))]) rfl (cmpInt_ct (ig_Sign a) (ig_Sign b)))
    · intro ξ hφ; exact ob_r0 (r_assign rfl)
    clear h ac wo; intro ξ ac wo hφ h
    replace h : St w0 26 [(4, (.int .i64 (cmpInt (ig_Sign a) (ig_Sign b))))] [.blk b2 (cI b) 38, .blk b1 (cI a) 38] ac wo := h.sub ⟨rfl, trivial⟩
    clear hφ ξ
    refine hK4 _ _ ?_
    refine c_ret ?_
    have hd : ig_Compare a b = (cmpInt (ig_Sign a) (ig_Sign b)) := (cT hc1)
    exact ret (rs := [.tmp 4]) h rfl (.tmp rfl .nil) rfl (h.retP (by rw [hd] <;> rfl) (by rw [hd]; exact by first | omega | exact sgn_mul (by omega) (by omega)))
  · skip
    refine c_skip ?_
    refine hK2 _ _ ?_
    refine c_rs fun K5 hK5 => ?_
    refine rd0 h (r_fa Tryz.runUnderlying38 rfl Tryz.sizeOf9 (by decide) rfl rfl (k' := 1)) rfl ?_; clear h ac wo; intro ac wo h
    refine rd1 h 1 rfl (r_ld Tryz.isAgg9 Tryz.sizeOf9 rfl rfl rfl (v := (.string (bs a.mag))) rfl) rfl ?_; clear h ac wo; intro ac wo h
    refine rd0 h (r_fa Tryz.runUnderlying38 rfl Tryz.sizeOf9 (by decide) rfl rfl (k' := 1)) rfl ?_; clear h ac wo; intro ac wo h
    refine rd1 h 0 rfl (r_ld Tryz.isAgg9 Tryz.sizeOf9 rfl rfl rfl (v := (.string (bs b.mag))) rfl) rfl ?_; clear h ac wo; intro ac wo h
    have p8 := Calls_pr ((ig_compare_ct a.mag b.mag) w0)
    refine clp h Tryz.call191 (vs := [(.string (bs a.mag)), (.string (bs b.mag))]) rfl (ig_compare_ct a.mag b.mag) rfl ?_; clear h ac wo; intro ac wo h
    refine rd0 h (r_assign rfl) rfl ?_; clear h ac wo; intro ac wo h
    refine w_nil ?_
    refine hK5 _ _ ?_
    refine c_seq fun K6 hK6 => ?_
    refine c_rs fun K7 hK7 => ?_
    refine rd0 h (r_fa Tryz.runUnderlying38 rfl Tryz.sizeOf4 (by decide) rfl rfl (k' := 0)) rfl ?_; clear h ac wo; intro ac wo h
    refine rd1 h 1 rfl (r_ld Tryz.isAgg4 Tryz.sizeOf4 rfl rfl rfl (v := (.bool a.neg)) rfl) rfl ?_; clear h ac wo; intro ac wo h
    refine w_nil ?_
    refine hK7 _ _ ?_
    refine c_if (b := a.neg) h rfl (fun hc2 => ?_) (fun hc2 => ?_)
    · skip
      refine c_rs fun K8 hK8 => ?_
      refine rd0 h (r_move rfl) rfl ?_; clear h ac wo; intro ac wo h
      refine rd0 h (r_neg rfl (r := -(ig_compare a.mag b.mag)) (by rw [IntKind.wrap_i64]; omega)) rfl ?_; clear h ac wo; intro ac wo h
      refine rd0 h (r_assign rfl) rfl ?_; clear h ac wo; intro ac wo h
      refine w_nil ?_
      refine hK8 _ _ ?_
      refine c_ret ?_
      have hd : ig_Compare a b = -(ig_compare a.mag b.mag) := (Eq.trans (cF hc1) (cT hc2))
      exact ret (rs := [.tmp 4]) h rfl (.tmp rfl .nil) rfl (h.retP (by rw [hd] <;> rfl) (by rw [hd]; exact by first | omega | exact sgn_mul (by omega) (by omega)))
    · skip
      refine c_skip ?_
      refine hK6 _ _ ?_
      refine c_rs fun K9 hK9 => ?_
      refine rd0 h (r_move rfl) rfl ?_; clear h ac wo; intro ac wo h
      refine rd0 h (r_assign rfl) rfl ?_; clear h ac wo; intro ac wo h
      refine w_nil ?_
      refine hK9 _ _ ?_
      refine c_ret ?_
      have hd : ig_Compare a b = (ig_compare a.mag b.mag) := (Eq.trans (cF hc1) (cF hc2))
      exact ret (rs := [.tmp 4]) h rfl (.tmp rfl .nil) rfl (h.retP (by rw [hd] <;> rfl) (by rw [hd]; exact by first | omega | exact sgn_mul (by omega) (by omega)))
def ig_Add (a : GI) (b : GI) : GI :=
  bif (a.neg == b.neg) then
    (ig_made a.neg (ig_add a.mag b.mag))
  else
    bif (decide ((ig_compare a.mag b.mag) ≥ 0)) then
      (ig_made a.neg (ig_sub a.mag b.mag))
    else
      (ig_made b.neg (ig_sub b.mag a.mag))
theorem ig_Add_ct (a : GI) (b : GI) (k : Nat) (hk : (k + 1) ≤ 40) (za : SzI (k + 1) a) (zb : SzI (k + 1) b) (w0 : World) : Calls Tryz.prog 161 #[(vI a), (vI b)] w0 (RetP w0 (vI (ig_Add a b)) (SzI k (ig_Add a b))) := by
  refine enter (N := 42) (args := [(vI a), (vI b)]) Tryz.func161 rfl rfl ?_; intro ac h
  refine c_rs fun K1 hK1 => ?_
  refine bx h (cI a) rfl rfl rfl ?_; clear h ac; intro b1 ac wo h
  refine bx h (cI b) rfl rfl rfl ?_; clear h ac wo; intro b2 ac wo h
  refine al h (cI (⟨false, 0⟩ : GI)) Tryz.zeroValue38 rfl rfl ?_; clear h ac wo; intro b3 ac wo h
  refine w_nil ?_
  refine hK1 _ _ ?_
  refine c_seq fun K2 hK2 => ?_
  refine c_block ?_
  refine c_rs fun K3 hK3 => ?_
  refine rd0 h (r_fa Tryz.runUnderlying38 rfl Tryz.sizeOf4 (by decide) rfl rfl (k' := 0)) rfl ?_; clear h ac wo; intro ac wo h
  refine rd1 h 2 rfl (r_ld Tryz.isAgg4 Tryz.sizeOf4 rfl rfl rfl (v := (.bool a.neg)) rfl) rfl ?_; clear h ac wo; intro ac wo h
  refine rd0 h (r_fa Tryz.runUnderlying38 rfl Tryz.sizeOf4 (by decide) rfl rfl (k' := 0)) rfl ?_; clear h ac wo; intro ac wo h
  refine rd1 h 1 rfl (r_ld Tryz.isAgg4 Tryz.sizeOf4 rfl rfl rfl (v := (.bool b.neg)) rfl) rfl ?_; clear h ac wo; intro ac wo h
  refine rd0 h (r_eqlB Tryz.underlying4 rfl rfl) rfl ?_; clear h ac wo; intro ac wo h
  refine rd0 h (r_assign rfl) rfl ?_; clear h ac wo; intro ac wo h
  refine w_nil ?_
  refine hK3 _ _ ?_
  refine c_if (b := (a.neg == b.neg)) h rfl (fun hc1 => ?_) (fun hc1 => ?_)
  · skip
    have hd1 := eq_of_beq hc1
    refine c_seq fun K4 hK4 => ?_
    have s1 := Calls_pr ((ig_add_ct a.mag b.mag k (by omega) za zb) w0)
    have s2 := Calls_pr ((ig_made_ct a.neg (ig_add a.mag b.mag) k (by omega) s1) w0)
    refine draws mixed [⟨.det (ptr b1 0), []⟩, ⟨.det (.bool a.neg), [2]⟩, ⟨.det (ptr b1 1), []⟩, ⟨.det (.string (bs a.mag)), [2]⟩, ⟨.det (ptr b2 1), []⟩, ⟨.det (.string (bs b.mag)), [1]⟩, ⟨.det (.string (bs (ig_add a.mag b.mag))), []⟩, ⟨.det (vI (ig_made a.neg (ig_add a.mag b.mag))), []⟩, ⟨.det undef, [0]⟩] [⟨.blk b3 (cI (⟨false, 0⟩ : GI)) 38, [(8, .con (.blk b3 (cI (ig_made a.neg (ig_add a.mag b.mag))) 38))]⟩, ⟨.blk b2 (cI b) 38, []⟩, ⟨.blk b1 (cI a) 38, []⟩] h rfl (by kernel_rfl) ⟨?_, ?_, ?_, ?_, ?_, ?_, ?_, ?_, ?_, trivial⟩ ?_
    · intro ξ hφ; exact ob_r0 (r_fa Tryz.runUnderlying38 rfl Tryz.sizeOf4 (by decide) rfl rfl (k' := 0))
    · intro ξ hφ; exact ob_r [.blk b1 (cI a) 38] rfl rfl (r_ld Tryz.isAgg4 Tryz.sizeOf4 rfl rfl rfl (v := (.bool a.neg)) rfl)
    · intro ξ hφ; exact ob_r0 (r_fa Tryz.runUnderlying38 rfl Tryz.sizeOf9 (by decide) rfl rfl (k' := 1))
    · intro ξ hφ; exact ob_r [.blk b1 (cI a) 38] rfl rfl (r_ld Tryz.isAgg9 Tryz.sizeOf9 rfl rfl rfl (v := (.string (bs a.mag))) rfl)
    · intro ξ hφ; exact ob_r0 (r_fa Tryz.runUnderlying38 rfl Tryz.sizeOf9 (by decide) rfl rfl (k' := 1))
    · intro ξ hφ; exact ob_r [.blk b2 (cI b) 38] rfl rfl (r_ld Tryz.isAgg9 Tryz.sizeOf9 rfl rfl rfl (v := (.string (bs b.mag))) rfl)
    · intro ξ hφ; exact ob_s (s_clp Tryz.call190 (vs := [(.string (bs a.mag)), (.string (bs b.mag))]) rfl (ig_add_ct a.mag b.mag k (by omega) za zb))
    · intro ξ hφ; exact ob_s (s_clp Tryz.call172 (vs := [(.bool a.neg), (.string (bs (ig_add a.mag b.mag)))]) rfl (ig_made_ct a.neg (ig_add a.mag b.mag) k (by omega) s1))
    · intro ξ hφ; exact ob_u [.blk b3 (cI (⟨false, 0⟩ : GI)) 38] [.blk b3 (cI (ig_made a.neg (ig_add a.mag b.mag))) 38] rfl rfl (s_st Tryz.sizeOf38 rfl rfl rfl rfl rfl rfl rfl)
    clear h ac wo; intro ξ ac wo hφ h
    replace h : St w0 42 [(4, (ptr b3 0))] [.blk b3 (cI (ig_made a.neg (ig_add a.mag b.mag))) 38, .blk b2 (cI b) 38, .blk b1 (cI a) 38] ac wo := h.sub ⟨rfl, trivial⟩
    clear hφ ξ
    refine hK4 _ _ ?_
    refine c_ret ?_
    have hd : ig_Add a b = (ig_made a.neg (ig_add a.mag b.mag)) := (cT hc1)
    exact ret (rs := [.cell 4 38]) h rfl (.cell (v := (vI (ig_made a.neg (ig_add a.mag b.mag)))) rfl (i := 0) rfl Tryz.isAgg38 Tryz.sizeOf38 rfl rfl rfl .nil) rfl (h.retP (by rw [hd] <;> rfl) (by rw [hd]; exact s2))
  · skip
    have hd1 := ne_of_beq_false hc1
    refine c_rs fun K5 hK5 => ?_
    refine rd0 h (r_fa Tryz.runUnderlying38 rfl Tryz.sizeOf9 (by decide) rfl rfl (k' := 1)) rfl ?_; clear h ac wo; intro ac wo h
    refine rd1 h 2 rfl (r_ld Tryz.isAgg9 Tryz.sizeOf9 rfl rfl rfl (v := (.string (bs a.mag))) rfl) rfl ?_; clear h ac wo; intro ac wo h
    refine rd0 h (r_fa Tryz.runUnderlying38 rfl Tryz.sizeOf9 (by decide) rfl rfl (k' := 1)) rfl ?_; clear h ac wo; intro ac wo h
    refine rd1 h 1 rfl (r_ld Tryz.isAgg9 Tryz.sizeOf9 rfl rfl rfl (v := (.string (bs b.mag))) rfl) rfl ?_; clear h ac wo; intro ac wo h
    have p4 := Calls_pr ((ig_compare_ct a.mag b.mag) w0)
    refine clp h Tryz.call191 (vs := [(.string (bs a.mag)), (.string (bs b.mag))]) rfl (ig_compare_ct a.mag b.mag) rfl ?_; clear h ac wo; intro ac wo h
    refine rd0 h (r_geq rfl rfl) rfl ?_; clear h ac wo; intro ac wo h
    refine rd0 h (r_assign rfl) rfl ?_; clear h ac wo; intro ac wo h
    refine w_nil ?_
    refine hK5 _ _ ?_
    refine c_if (b := (decide ((ig_compare a.mag b.mag) ≥ 0))) h rfl (fun hc2 => ?_) (fun hc2 => ?_)
    · skip
      have hd2 := of_decide_eq_true hc2
      refine c_seq fun K6 hK6 => ?_
      have s5 := Calls_pr ((ig_sub_ct a.mag b.mag (k + 1) (by omega) za zb (by first | exact cmp_ge ‹_› | exact cmp_lt ‹_›)) w0)
      have s6 := Calls_pr ((ig_made_ct a.neg (ig_sub a.mag b.mag) (k + 1) (by omega) s5) w0)
      refine draws mixed [⟨.det (ptr b1 0), []⟩, ⟨.det (.bool a.neg), [2]⟩, ⟨.det (ptr b1 1), []⟩, ⟨.det (.string (bs a.mag)), [2]⟩, ⟨.det (ptr b2 1), []⟩, ⟨.det (.string (bs b.mag)), [1]⟩, ⟨.det (.string (bs (ig_sub a.mag b.mag))), []⟩, ⟨.det (vI (ig_made a.neg (ig_sub a.mag b.mag))), []⟩, ⟨.det undef, [0]⟩] [⟨.blk b3 (cI (⟨false, 0⟩ : GI)) 38, [(8, .con (.blk b3 (cI (ig_made a.neg (ig_sub a.mag b.mag))) 38))]⟩, ⟨.blk b2 (cI b) 38, []⟩, ⟨.blk b1 (cI a) 38, []⟩] h rfl (by kernel_rfl) ⟨?_, ?_, ?_, ?_, ?_, ?_, ?_, ?_, ?_, trivial⟩ ?_
      · intro ξ hφ; exact ob_r0 (r_fa Tryz.runUnderlying38 rfl Tryz.sizeOf4 (by decide) rfl rfl (k' := 0))
      · intro ξ hφ; exact ob_r [.blk b1 (cI a) 38] rfl rfl (r_ld Tryz.isAgg4 Tryz.sizeOf4 rfl rfl rfl (v := (.bool a.neg)) rfl)
      · intro ξ hφ; exact ob_r0 (r_fa Tryz.runUnderlying38 rfl Tryz.sizeOf9 (by decide) rfl rfl (k' := 1))
      · intro ξ hφ; exact ob_r [.blk b1 (cI a) 38] rfl rfl (r_ld Tryz.isAgg9 Tryz.sizeOf9 rfl rfl rfl (v := (.string (bs a.mag))) rfl)
      · intro ξ hφ; exact ob_r0 (r_fa Tryz.runUnderlying38 rfl Tryz.sizeOf9 (by decide) rfl rfl (k' := 1))
      · intro ξ hφ; exact ob_r [.blk b2 (cI b) 38] rfl rfl (r_ld Tryz.isAgg9 Tryz.sizeOf9 rfl rfl rfl (v := (.string (bs b.mag))) rfl)
      · intro ξ hφ; exact ob_s (s_clp Tryz.call192 (vs := [(.string (bs a.mag)), (.string (bs b.mag))]) rfl (ig_sub_ct a.mag b.mag (k + 1) (by omega) za zb (by first | exact cmp_ge ‹_› | exact cmp_lt ‹_›)))
      · intro ξ hφ; exact ob_s (s_clp Tryz.call172 (vs := [(.bool a.neg), (.string (bs (ig_sub a.mag b.mag)))]) rfl (ig_made_ct a.neg (ig_sub a.mag b.mag) (k + 1) (by omega) s5))
      · intro ξ hφ; exact ob_u [.blk b3 (cI (⟨false, 0⟩ : GI)) 38] [.blk b3 (cI (ig_made a.neg (ig_sub a.mag b.mag))) 38] rfl rfl (s_st Tryz.sizeOf38 rfl rfl rfl rfl rfl rfl rfl)
      clear h ac wo; intro ξ ac wo hφ h
      replace h : St w0 42 [(4, (ptr b3 0))] [.blk b3 (cI (ig_made a.neg (ig_sub a.mag b.mag))) 38, .blk b2 (cI b) 38, .blk b1 (cI a) 38] ac wo := h.sub ⟨rfl, trivial⟩
      clear hφ ξ
      refine hK6 _ _ ?_
      refine c_ret ?_
      have hd : ig_Add a b = (ig_made a.neg (ig_sub a.mag b.mag)) := (Eq.trans (cF hc1) (cT hc2))
      exact ret (rs := [.cell 4 38]) h rfl (.cell (v := (vI (ig_made a.neg (ig_sub a.mag b.mag)))) rfl (i := 0) rfl Tryz.isAgg38 Tryz.sizeOf38 rfl rfl rfl .nil) rfl (h.retP (by rw [hd] <;> rfl) (by rw [hd]; exact (SzI_le s6 (by omega))))
    · skip
      have hd2 := of_decide_eq_false hc2
      refine c_skip ?_
      refine b_norm ?_
      refine hK2 _ _ ?_
      refine c_seq fun K7 hK7 => ?_
      have s7 := Calls_pr ((ig_sub_ct b.mag a.mag (k + 1) (by omega) zb za (by first | exact cmp_ge ‹_› | exact cmp_lt ‹_›)) w0)
      have s8 := Calls_pr ((ig_made_ct b.neg (ig_sub b.mag a.mag) (k + 1) (by omega) s7) w0)
      refine draws mixed [⟨.det (ptr b2 0), []⟩, ⟨.det (.bool b.neg), [1]⟩, ⟨.det (ptr b2 1), []⟩, ⟨.det (.string (bs b.mag)), [1]⟩, ⟨.det (ptr b1 1), []⟩, ⟨.det (.string (bs a.mag)), [2]⟩, ⟨.det (.string (bs (ig_sub b.mag a.mag))), []⟩, ⟨.det (vI (ig_made b.neg (ig_sub b.mag a.mag))), []⟩, ⟨.det undef, [0]⟩] [⟨.blk b3 (cI (⟨false, 0⟩ : GI)) 38, [(8, .con (.blk b3 (cI (ig_made b.neg (ig_sub b.mag a.mag))) 38))]⟩, ⟨.blk b2 (cI b) 38, []⟩, ⟨.blk b1 (cI a) 38, []⟩] h rfl (by kernel_rfl) ⟨?_, ?_, ?_, ?_, ?_, ?_, ?_, ?_, ?_, trivial⟩ ?_
      · intro ξ hφ; exact ob_r0 (r_fa Tryz.runUnderlying38 rfl Tryz.sizeOf4 (by decide) rfl rfl (k' := 0))
      · intro ξ hφ; exact ob_r [.blk b2 (cI b) 38] rfl rfl (r_ld Tryz.isAgg4 Tryz.sizeOf4 rfl rfl rfl (v := (.bool b.neg)) rfl)
      · intro ξ hφ; exact ob_r0 (r_fa Tryz.runUnderlying38 rfl Tryz.sizeOf9 (by decide) rfl rfl (k' := 1))
      · intro ξ hφ; exact ob_r [.blk b2 (cI b) 38] rfl rfl (r_ld Tryz.isAgg9 Tryz.sizeOf9 rfl rfl rfl (v := (.string (bs b.mag))) rfl)
      · intro ξ hφ; exact ob_r0 (r_fa Tryz.runUnderlying38 rfl Tryz.sizeOf9 (by decide) rfl rfl (k' := 1))
      · intro ξ hφ; exact ob_r [.blk b1 (cI a) 38] rfl rfl (r_ld Tryz.isAgg9 Tryz.sizeOf9 rfl rfl rfl (v := (.string (bs a.mag))) rfl)
      · intro ξ hφ; exact ob_s (s_clp Tryz.call192 (vs := [(.string (bs b.mag)), (.string (bs a.mag))]) rfl (ig_sub_ct b.mag a.mag (k + 1) (by omega) zb za (by first | exact cmp_ge ‹_› | exact cmp_lt ‹_›)))
      · intro ξ hφ; exact ob_s (s_clp Tryz.call172 (vs := [(.bool b.neg), (.string (bs (ig_sub b.mag a.mag)))]) rfl (ig_made_ct b.neg (ig_sub b.mag a.mag) (k + 1) (by omega) s7))
      · intro ξ hφ; exact ob_u [.blk b3 (cI (⟨false, 0⟩ : GI)) 38] [.blk b3 (cI (ig_made b.neg (ig_sub b.mag a.mag))) 38] rfl rfl (s_st Tryz.sizeOf38 rfl rfl rfl rfl rfl rfl rfl)
      clear h ac wo; intro ξ ac wo hφ h
      replace h : St w0 42 [(4, (ptr b3 0))] [.blk b3 (cI (ig_made b.neg (ig_sub b.mag a.mag))) 38, .blk b2 (cI b) 38, .blk b1 (cI a) 38] ac wo := h.sub ⟨rfl, trivial⟩
      clear hφ ξ
      refine hK7 _ _ ?_
      refine c_ret ?_
      have hd : ig_Add a b = (ig_made b.neg (ig_sub b.mag a.mag)) := (Eq.trans (cF hc1) (cF hc2))
      exact ret (rs := [.cell 4 38]) h rfl (.cell (v := (vI (ig_made b.neg (ig_sub b.mag a.mag)))) rfl (i := 0) rfl Tryz.isAgg38 Tryz.sizeOf38 rfl rfl rfl .nil) rfl (h.retP (by rw [hd] <;> rfl) (by rw [hd]; exact (SzI_le s8 (by omega))))
def ig_Mul (a : GI) (b : GI) : GI :=
  (ig_made (a.neg != b.neg) (ig_mul a.mag b.mag))
theorem ig_Mul_ct (a : GI) (b : GI) (k : Nat) (hk : (k + 1) ≤ 40) (za : SzI (k + 1) a) (zb : SzI (k + 1) b) (w0 : World) : Calls Tryz.prog 158 #[(vI a), (vI b)] w0 (RetP w0 (vI (ig_Mul a b)) (SzI k (ig_Mul a b))) := by
  refine enter (N := 16) (args := [(vI a), (vI b)]) Tryz.func158 rfl rfl ?_; intro ac h
  refine c_rs fun K1 hK1 => ?_
  refine bx h (cI a) rfl rfl rfl ?_; clear h ac; intro b1 ac wo h
  refine bx h (cI b) rfl rfl rfl ?_; clear h ac wo; intro b2 ac wo h
  refine al h (cI (⟨false, 0⟩ : GI)) Tryz.zeroValue38 rfl rfl ?_; clear h ac wo; intro b3 ac wo h
  refine w_nil ?_
  refine hK1 _ _ ?_
  refine c_seq fun K2 hK2 => ?_
  have s1 := Calls_pr ((ig_mul_ct a.mag b.mag k (by omega) za zb) w0)
  have s2 := Calls_pr ((ig_made_ct (a.neg != b.neg) (ig_mul a.mag b.mag) k (by omega) s1) w0)
  refine draws mixed [⟨.det (ptr b1 0), []⟩, ⟨.det (.bool a.neg), [2]⟩, ⟨.det (ptr b2 0), []⟩, ⟨.det (.bool b.neg), [1]⟩, ⟨.det (.bool (a.neg != b.neg)), []⟩, ⟨.det (ptr b1 1), []⟩, ⟨.det (.string (bs a.mag)), [2]⟩, ⟨.det (ptr b2 1), []⟩, ⟨.det (.string (bs b.mag)), [1]⟩, ⟨.det (.string (bs (ig_mul a.mag b.mag))), []⟩, ⟨.det (vI (ig_made (a.neg != b.neg) (ig_mul a.mag b.mag))), []⟩, ⟨.det undef, [0]⟩] [⟨.blk b3 (cI (⟨false, 0⟩ : GI)) 38, [(11, .con (.blk b3 (cI (ig_made (a.neg != b.neg) (ig_mul a.mag b.mag))) 38))]⟩, ⟨.blk b2 (cI b) 38, []⟩, ⟨.blk b1 (cI a) 38, []⟩] h rfl (by kernel_rfl) ⟨?_, ?_, ?_, ?_, ?_, ?_, ?_, ?_, ?_, ?_, ?_, ?_, trivial⟩ ?_
  · intro ξ hφ; exact ob_r0 (r_fa Tryz.runUnderlying38 rfl Tryz.sizeOf4 (by decide) rfl rfl (k' := 0))
  · intro ξ hφ; exact ob_r [.blk b1 (cI a) 38] rfl rfl (r_ld Tryz.isAgg4 Tryz.sizeOf4 rfl rfl rfl (v := (.bool a.neg)) rfl)
  · intro ξ hφ; exact ob_r0 (r_fa Tryz.runUnderlying38 rfl Tryz.sizeOf4 (by decide) rfl rfl (k' := 0))
  · intro ξ hφ; exact ob_r [.blk b2 (cI b) 38] rfl rfl (r_ld Tryz.isAgg4 Tryz.sizeOf4 rfl rfl rfl (v := (.bool b.neg)) rfl)
  · intro ξ hφ; exact ob_r0 (r_neqB Tryz.underlying4 rfl rfl)
  · intro ξ hφ; exact ob_r0 (r_fa Tryz.runUnderlying38 rfl Tryz.sizeOf9 (by decide) rfl rfl (k' := 1))
  · intro ξ hφ; exact ob_r [.blk b1 (cI a) 38] rfl rfl (r_ld Tryz.isAgg9 Tryz.sizeOf9 rfl rfl rfl (v := (.string (bs a.mag))) rfl)
  · intro ξ hφ; exact ob_r0 (r_fa Tryz.runUnderlying38 rfl Tryz.sizeOf9 (by decide) rfl rfl (k' := 1))
  · intro ξ hφ; exact ob_r [.blk b2 (cI b) 38] rfl rfl (r_ld Tryz.isAgg9 Tryz.sizeOf9 rfl rfl rfl (v := (.string (bs b.mag))) rfl)
  · intro ξ hφ; exact ob_s (s_clp Tryz.call189 (vs := [(.string (bs a.mag)), (.string (bs b.mag))]) rfl (ig_mul_ct a.mag b.mag k (by omega) za zb))
  · intro ξ hφ; exact ob_s (s_clp Tryz.call172 (vs := [(.bool (a.neg != b.neg)), (.string (bs (ig_mul a.mag b.mag)))]) rfl (ig_made_ct (a.neg != b.neg) (ig_mul a.mag b.mag) k (by omega) s1))
  · intro ξ hφ; exact ob_u [.blk b3 (cI (⟨false, 0⟩ : GI)) 38] [.blk b3 (cI (ig_made (a.neg != b.neg) (ig_mul a.mag b.mag))) 38] rfl rfl (s_st Tryz.sizeOf38 rfl rfl rfl rfl rfl rfl rfl)
  clear h ac wo; intro ξ ac wo hφ h
  replace h : St w0 16 [(4, (ptr b3 0))] [.blk b3 (cI (ig_made (a.neg != b.neg) (ig_mul a.mag b.mag))) 38, .blk b2 (cI b) 38, .blk b1 (cI a) 38] ac wo := h.sub ⟨rfl, trivial⟩
  clear hφ ξ
  refine hK2 _ _ ?_
  refine c_ret ?_
  have hd : ig_Mul a b = (ig_made (a.neg != b.neg) (ig_mul a.mag b.mag)) := rfl
  exact ret (rs := [.cell 4 38]) h rfl (.cell (v := (vI (ig_made (a.neg != b.neg) (ig_mul a.mag b.mag)))) rfl (i := 0) rfl Tryz.isAgg38 Tryz.sizeOf38 rfl rfl rfl .nil) rfl (h.retP (by rw [hd] <;> rfl) (by rw [hd]; exact s2))
def ig_Gcd (a b : GI) : GI := ig_made false (Nat.gcd a.mag b.mag)
theorem gcd_next (x y : Nat) : Nat.gcd y (x % y) = Nat.gcd x y := by rw [Nat.gcd_comm x y, Nat.gcd_rec y x, Nat.gcd_comm]
theorem ig_Gcd_ct (a : GI) (b : GI) (k : Nat) (hk : k ≤ 40) (za : SzI k a) (zb : SzI k b) (w0 : World) : Calls Tryz.prog 165 #[(vI a), (vI b)] w0 (RetP w0 (vI (ig_Gcd a b)) (SzI k (ig_Gcd a b))) := by
  refine enter (N := 45) (args := [(vI a), (vI b)]) Tryz.func165 rfl rfl ?_; intro ac h
  refine c_rs fun K1 hK1 => ?_
  refine bx h (cI a) rfl rfl rfl ?_; clear h ac; intro b1 ac wo h
  refine bx h (cI b) rfl rfl rfl ?_; clear h ac wo; intro b2 ac wo h
  refine al h (cI (⟨false, 0⟩ : GI)) Tryz.zeroValue38 rfl rfl ?_; clear h ac wo; intro b3 ac wo h
  refine w_nil ?_
  refine hK1 _ _ ?_
  refine c_seq fun K2 hK2 => ?_
  refine draws mixed [⟨.det (ptr b1 1), []⟩, ⟨.det (.string (bs a.mag)), [2]⟩, ⟨.det (ptr b2 1), []⟩, ⟨.det (.string (bs b.mag)), [1]⟩, ⟨.det (.string (bs a.mag)), []⟩, ⟨.det (.string (bs b.mag)), []⟩] [⟨.blk b3 (cI (⟨false, 0⟩ : GI)) 38, []⟩, ⟨.blk b2 (cI b) 38, []⟩, ⟨.blk b1 (cI a) 38, []⟩] h rfl (by kernel_rfl) ⟨?_, ?_, ?_, ?_, ?_, ?_, trivial⟩ ?_
  · intro ξ hφ; exact ob_r0 (r_fa Tryz.runUnderlying38 rfl Tryz.sizeOf9 (by decide) rfl rfl (k' := 1))
  · intro ξ hφ; exact ob_r [.blk b1 (cI a) 38] rfl rfl (r_ld Tryz.isAgg9 Tryz.sizeOf9 rfl rfl rfl (v := (.string (bs a.mag))) rfl)
  · intro ξ hφ; exact ob_r0 (r_fa Tryz.runUnderlying38 rfl Tryz.sizeOf9 (by decide) rfl rfl (k' := 1))
  · intro ξ hφ; exact ob_r [.blk b2 (cI b) 38] rfl rfl (r_ld Tryz.isAgg9 Tryz.sizeOf9 rfl rfl rfl (v := (.string (bs b.mag))) rfl)
  · intro ξ hφ; exact ob_r0 (r_assign rfl)
  · intro ξ hφ; exact ob_r0 (r_assign rfl)
  clear h ac wo; intro ξ ac wo hφ h
  replace h : St w0 45 [(4, (ptr b3 0)), (5, (.string (bs a.mag))), (6, (.string (bs b.mag)))] [.blk b3 (cI (⟨false, 0⟩ : GI)) 38, .blk b2 (cI b) 38, .blk b1 (cI a) 38] ac wo := h.sub ⟨rfl, rfl, rfl, trivial⟩
  clear hφ ξ
  refine hK2 _ _ ?_
  refine c_seq fun K3 hK3 => ?_
  refine c_block ?_
  refine wp_loop_ghost (fun n_ a_ w_ => ∃ (x : Nat) (y : Nat), n_ = 1 * y ∧ (Nat.gcd x y = Nat.gcd a.mag b.mag) ∧ (SzB k x) ∧ (SzB k y) ∧ St w0 45 [(4, (ptr b3 0)), (5, (.string (bs x))), (6, (.string (bs y)))] [.blk b3 (cI (⟨false, 0⟩ : GI)) 38, .blk b2 (cI b) 38, .blk b1 (cI a) 38] a_ w_) _ ⟨a.mag, b.mag, rfl, rfl, za, zb, (h.pick [0, 1, 2] (by decide)).sub ⟨rfl, rfl, rfl, trivial⟩⟩ ?_
  clear h ac wo; rintro _ ac wo ⟨x, y, rfl, hg, zx, zy, h⟩
  refine c_seq fun K4 hK4 => ?_
  refine c_rs fun K5 hK5 => ?_
  refine rd0 h (r_move rfl) rfl ?_; clear h ac wo; intro ac wo h
  refine rd0 h (r_neqBs rfl rfl (m := y) (n := 0)) rfl ?_; clear h ac wo; intro ac wo h
  refine w_nil ?_
  refine hK5 _ _ ?_
  refine c_if (b := (!(decide (y = 0)))) h rfl (fun hc1 => ?_) (fun hc1 => ?_)
  · skip
    have hy : y ≠ 0 := by simpa using hc1
    refine c_skip ?_
    refine hK4 _ _ ?_
    refine c_block ?_
    refine c_seq fun K6 hK6 => ?_
    refine c_rs fun K7 hK7 => ?_
    refine rd0 h (r_move rfl) rfl ?_; clear h ac wo; intro ac wo h
    refine rd0 h (r_move rfl) rfl ?_; clear h ac wo; intro ac wo h
    refine clp h Tryz.call193 (vs := [(.string (bs x)), (.string (bs y))]) rfl (ig_words_ct x y) rfl ?_; clear h ac wo; intro ac wo h
    refine rd0 h (r_move rfl) rfl ?_; clear h ac wo; intro ac wo h
    refine rd0 h (r_extract (vs := [(.int .u64 (((ig_words x y).1 : Nat) : Int)), (.int .u64 (((ig_words x y).2.1 : Nat) : Int)), (.bool ((ig_words x y).2.2))]) rfl rfl) rfl ?_; clear h ac wo; intro ac wo h
    refine rd0 h (r_extract (vs := [(.int .u64 (((ig_words x y).1 : Nat) : Int)), (.int .u64 (((ig_words x y).2.1 : Nat) : Int)), (.bool ((ig_words x y).2.2))]) rfl rfl) rfl ?_; clear h ac wo; intro ac wo h
    refine rd0 h (r_extract (vs := [(.int .u64 (((ig_words x y).1 : Nat) : Int)), (.int .u64 (((ig_words x y).2.1 : Nat) : Int)), (.bool ((ig_words x y).2.2))]) rfl rfl) rfl ?_; clear h ac wo; intro ac wo h
    refine rd0 h (r_assign rfl) rfl ?_; clear h ac wo; intro ac wo h
    refine rd0 h (r_assign rfl) rfl ?_; clear h ac wo; intro ac wo h
    refine rd0 h (r_assign rfl) rfl ?_; clear h ac wo; intro ac wo h
    refine w_nil ?_
    refine hK7 _ _ ?_
    refine c_rs fun K8 hK8 => ?_
    refine rd0 h (r_move rfl) rfl ?_; clear h ac wo; intro ac wo h
    refine w_nil ?_
    refine hK8 _ _ ?_
    refine c_if (b := (ig_words x y).2.2) h rfl (fun hc2 => ?_) (fun hc2 => ?_)
    · skip
      obtain ⟨ha6, hb6, hw⟩ := words_yes hc2
      simp only [hw] at h
      refine c_seq fun K9 hK9 => ?_
      refine c_block ?_
      refine wp_loop_ghost (fun n_ a_ w_ => ∃ (u : Nat) (v : Nat), n_ = 1 * v ∧ (Nat.gcd u v = Nat.gcd a.mag b.mag) ∧ (SzB k u) ∧ (SzB k v) ∧ (u < 18446744073709551616 ∧ v < 18446744073709551616) ∧ St w0 45 [(4, (ptr b3 0)), (7, (.int .u64 ((u : Nat) : Int))), (8, (.int .u64 ((v : Nat) : Int)))] [.blk b3 (cI (⟨false, 0⟩ : GI)) 38, .blk b2 (cI b) 38, .blk b1 (cI a) 38] a_ w_) _ ⟨x, y, rfl, hg, zx, zy, ⟨ha6, hb6⟩, (h.pick [0, 1, 2] (by decide)).sub ⟨rfl, rfl, rfl, trivial⟩⟩ ?_
      clear h ac wo; rintro _ ac wo ⟨u, v, rfl, hgu, zu, zv, hul, h⟩
      refine c_seq fun K10 hK10 => ?_
      refine c_rs fun K11 hK11 => ?_
      refine rd0 h (r_move rfl) rfl ?_; clear h ac wo; intro ac wo h
      refine rd0 h (r_neq rfl rfl) rfl ?_; clear h ac wo; intro ac wo h
      refine w_nil ?_
      refine hK11 _ _ ?_
      refine c_if (b := (((v : Nat) : Int) != 0)) h rfl (fun hc3 => ?_) (fun hc3 => ?_)
      · skip
        have hv : v ≠ 0 := by have := hc3; simp at this; omega
        refine c_skip ?_
        refine hK10 _ _ ?_
        refine c_block ?_
        refine draws mixed [⟨.det (.int .u64 ((v : Nat) : Int)), []⟩, ⟨.det (.int .u64 ((u : Nat) : Int)), []⟩, ⟨.det (.int .u64 ((v : Nat) : Int)), []⟩, ⟨.det (.int .u64 ((u % v : Nat) : Int)), []⟩, ⟨.det (.int .u64 ((v : Nat) : Int)), []⟩, ⟨.det (.int .u64 ((u % v : Nat) : Int)), []⟩] [⟨.blk b3 (cI (⟨false, 0⟩ : GI)) 38, []⟩, ⟨.blk b2 (cI b) 38, []⟩, ⟨.blk b1 (cI a) 38, []⟩] h rfl (by kernel_rfl) ⟨?_, ?_, ?_, ?_, ?_, ?_, trivial⟩ ?_
        · intro ξ hφ; exact ob_r0 (r_move rfl)
        · intro ξ hφ; exact ob_r0 (r_move rfl)
        · intro ξ hφ; exact ob_r0 (r_move rfl)
        · intro ξ hφ; exact ob_r0 (r_rem rfl rfl (r := ((u % v : Nat) : Int)) (by omega) (by rw [Int.tmod_eq_emod_of_nonneg (by omega)]; rfl))
        · intro ξ hφ; exact ob_r0 (r_assign rfl)
        · intro ξ hφ; exact ob_r0 (r_assign rfl)
        clear h ac wo; intro ξ ac wo hφ h
        replace h : St w0 45 [(4, (ptr b3 0)), (7, (.int .u64 ((v : Nat) : Int))), (8, (.int .u64 ((u % v : Nat) : Int)))] [.blk b3 (cI (⟨false, 0⟩ : GI)) 38, .blk b2 (cI b) 38, .blk b1 (cI a) 38] ac wo := h.sub ⟨rfl, rfl, rfl, trivial⟩
        clear hφ ξ
        refine b_norm ?_
        exact next_round ⟨_, (by have := Nat.mod_lt u (show v > 0 by omega); omega), v, (u % v), rfl, (by rw [gcd_next]; exact hgu), zv, (SzB_mono zu (Nat.mod_le _ _)), ⟨hul.2, by have := Nat.mod_lt u (show v > 0 by omega); omega⟩, (h.pick [0, 1, 2] (by decide)).sub ⟨rfl, rfl, rfl, trivial⟩⟩
      · skip
        have hv : v = 0 := by have := hc3; simp at this; omega
        subst hv
        refine c_exit ?_
        refine hK9 _ _ ?_
        refine c_rs fun K12 hK12 => ?_
        refine rd0 h (r_move rfl) rfl ?_; clear h ac wo; intro ac wo h
        refine clp h Tryz.call173 (vs := [(.int .u64 ((u : Nat) : Int))]) rfl (ig_magnitude_ct u hul.1) rfl ?_; clear h ac wo; intro ac wo h
        have s1 := Calls_pr ((ig_made_ct false (ig_magnitude u) k (by omega) zu) w0)
        refine clp h Tryz.call172 (vs := [(.bool false), (.string (bs (ig_magnitude u)))]) rfl (ig_made_ct false (ig_magnitude u) k (by omega) zu) rfl ?_; clear h ac wo; intro ac wo h
        refine st h 0 (cI (ig_made false (ig_magnitude u))) rfl Tryz.sizeOf38 rfl rfl rfl rfl rfl rfl rfl ?_; clear h ac wo; intro ac wo h
        refine w_nil ?_
        refine hK12 _ _ ?_
        refine c_ret ?_
        have hd : ig_Gcd a b = (ig_made false (ig_magnitude u)) := (by rw [Nat.gcd_zero_right] at hgu; unfold ig_Gcd; rw [← hgu]; rfl)
        exact ret (rs := [.cell 4 38]) h rfl (.cell (v := (vI (ig_made false (ig_magnitude u)))) rfl (i := 0) rfl Tryz.isAgg38 Tryz.sizeOf38 rfl rfl rfl .nil) rfl (h.retP (by rw [hd] <;> rfl) (by rw [hd]; exact s1))
    · skip
      refine c_skip ?_
      refine hK6 _ _ ?_
      refine c_rs fun K13 hK13 => ?_
      refine rd0 h (r_move rfl) rfl ?_; clear h ac wo; intro ac wo h
      refine rd0 h (r_move rfl) rfl ?_; clear h ac wo; intro ac wo h
      have s2 := Calls_pr ((ig_div_ct x y k (by omega) zx zy (by omega)) w0)
      refine clp h Tryz.call194 (vs := [(.string (bs x)), (.string (bs y))]) rfl (ig_div_ct x y k (by omega) zx zy (by omega)) rfl ?_; clear h ac wo; intro ac wo h
      refine rd0 h (r_move rfl) rfl ?_; clear h ac wo; intro ac wo h
      refine rd0 h (r_extract (vs := [(.string (bs ((ig_div x y).1))), (.string (bs ((ig_div x y).2)))]) rfl rfl) rfl ?_; clear h ac wo; intro ac wo h
      refine rd0 h (r_extract (vs := [(.string (bs ((ig_div x y).1))), (.string (bs ((ig_div x y).2)))]) rfl rfl) rfl ?_; clear h ac wo; intro ac wo h
      refine rd0 h (r_assign rfl) rfl ?_; clear h ac wo; intro ac wo h
      refine rd0 h (r_assign rfl) rfl ?_; clear h ac wo; intro ac wo h
      refine w_nil ?_
      refine hK13 _ _ ?_
      refine c_r ?_
      refine rd0 h (r_move rfl) rfl ?_; clear h ac wo; intro ac wo h
      refine rd0 h (r_move rfl) rfl ?_; clear h ac wo; intro ac wo h
      refine rd0 h (r_assign rfl) rfl ?_; clear h ac wo; intro ac wo h
      refine rd0 h (r_assign rfl) rfl ?_; clear h ac wo; intro ac wo h
      refine w_nil ?_
      refine b_norm ?_
      exact next_round ⟨_, (by have := Nat.mod_lt x (show y > 0 by omega); omega), y, (x % y), rfl, (by rw [gcd_next]; exact hg), zy, (SzB_mono zx (Nat.mod_le _ _)), (h.pick [0, 1, 2] (by decide)).sub ⟨rfl, rfl, rfl, trivial⟩⟩
  · skip
    have hy : y = 0 := by simpa using hc1
    subst hy
    refine c_exit ?_
    refine hK3 _ _ ?_
    refine c_rs fun K14 hK14 => ?_
    refine rd0 h (r_move rfl) rfl ?_; clear h ac wo; intro ac wo h
    have s3 := Calls_pr ((ig_made_ct false x k (by omega) zx) w0)
    refine clp h Tryz.call172 (vs := [(.bool false), (.string (bs x))]) rfl (ig_made_ct false x k (by omega) zx) rfl ?_; clear h ac wo; intro ac wo h
    refine st h 0 (cI (ig_made false x)) rfl Tryz.sizeOf38 rfl rfl rfl rfl rfl rfl rfl ?_; clear h ac wo; intro ac wo h
    refine w_nil ?_
    refine hK14 _ _ ?_
    refine c_ret ?_
    have hd : ig_Gcd a b = (ig_made false x) := (by rw [Nat.gcd_zero_right] at hg; unfold ig_Gcd; rw [← hg])
    exact ret (rs := [.cell 4 38]) h rfl (.cell (v := (vI (ig_made false x))) rfl (i := 0) rfl Tryz.isAgg38 Tryz.sizeOf38 rfl rfl rfl .nil) rfl (h.retP (by rw [hd] <;> rfl) (by rw [hd]; exact s3))
def ig_DivMod (a : GI) (b : GI) : GI × GI × Int :=
  bif (decide (b.mag = 0)) then
    ((⟨false, 0⟩ : GI), (⟨false, 0⟩ : GI), 6)
  else
    bif (a.neg && (!(decide (((ig_div a.mag b.mag).2) = 0)))) then
      ((ig_made (a.neg != b.neg) (ig_add ((ig_div a.mag b.mag).1) 1)), (ig_made false (ig_sub b.mag ((ig_div a.mag b.mag).2))), 0)
    else
      ((ig_made (a.neg != b.neg) ((ig_div a.mag b.mag).1)), (ig_made false ((ig_div a.mag b.mag).2)), 0)
theorem ig_DivMod_ct (a : GI) (b : GI) (k : Nat) (hk : (k + 1) ≤ 40) (za : SzI (k + 1) a) (zb : SzI (k + 1) b) (w0 : World) : Calls Tryz.prog 212 #[(vI a), (vI b)] w0 (RetP w0 (.tuple #[(vI ((ig_DivMod a b).1)), (vI ((ig_DivMod a b).2.1)), (.int .i64 ((ig_DivMod a b).2.2))]) (SzI k ((ig_DivMod a b).1) ∧ SzI k ((ig_DivMod a b).2.1))) := by
  refine enter (N := 43) (args := [(vI a), (vI b)]) Tryz.func212 rfl rfl ?_; intro ac h
  refine c_rs fun K1 hK1 => ?_
  refine bx h (cI a) rfl rfl rfl ?_; clear h ac; intro b1 ac wo h
  refine bx h (cI b) rfl rfl rfl ?_; clear h ac wo; intro b2 ac wo h
  refine al h (cI (⟨false, 0⟩ : GI)) Tryz.zeroValue38 rfl rfl ?_; clear h ac wo; intro b3 ac wo h
  refine al h (cI (⟨false, 0⟩ : GI)) Tryz.zeroValue38 rfl rfl ?_; clear h ac wo; intro b4 ac wo h
  refine rd0 h (r_assign rfl (v := (.int .i64 0))) rfl ?_; clear h ac wo; intro ac wo h
  refine w_nil ?_
  refine hK1 _ _ ?_
  refine c_seq fun K2 hK2 => ?_
  refine c_rs fun K3 hK3 => ?_
  refine rd0 h (r_fa Tryz.runUnderlying38 rfl Tryz.sizeOf9 (by decide) rfl rfl (k' := 1)) rfl ?_; clear h ac wo; intro ac wo h
  refine rd1 h 2 rfl (r_ld Tryz.isAgg9 Tryz.sizeOf9 rfl rfl rfl (v := (.string (bs b.mag))) rfl) rfl ?_; clear h ac wo; intro ac wo h
  refine rd0 h (r_eqlBs rfl rfl (m := b.mag) (n := 0)) rfl ?_; clear h ac wo; intro ac wo h
  refine w_nil ?_
  refine hK3 _ _ ?_
  refine c_if (b := (decide (b.mag = 0))) h rfl (fun hc1 => ?_) (fun hc1 => ?_)
  · skip
    have hd1 := of_decide_eq_true hc1
    refine c_rs fun K4 hK4 => ?_
    refine rd0 h (r_build (parts := []) (vs := []) bld38 rfl rfl (v := (vI (⟨false, 0⟩ : GI))) rfl) rfl ?_; clear h ac wo; intro ac wo h
    refine rd0 h (r_build (parts := []) (vs := []) bld38 rfl rfl (v := (vI (⟨false, 0⟩ : GI))) rfl) rfl ?_; clear h ac wo; intro ac wo h
    refine st h 1 (cI (⟨false, 0⟩ : GI)) rfl Tryz.sizeOf38 rfl rfl rfl rfl rfl rfl rfl ?_; clear h ac wo; intro ac wo h
    refine st h 0 (cI (⟨false, 0⟩ : GI)) rfl Tryz.sizeOf38 rfl rfl rfl rfl rfl rfl rfl ?_; clear h ac wo; intro ac wo h
    refine rd0 h (r_assign rfl (v := (.int .i64 6))) rfl ?_; clear h ac wo; intro ac wo h
    refine w_nil ?_
    refine hK4 _ _ ?_
    refine c_ret ?_
    have hd : ig_DivMod a b = ((⟨false, 0⟩ : GI), (⟨false, 0⟩ : GI), 6) := (cT hc1)
    exact ret (rs := [.cell 4 38, .cell 5 38, .tmp 6]) h rfl (.cell (v := (vI (⟨false, 0⟩ : GI))) rfl (i := 1) rfl Tryz.isAgg38 Tryz.sizeOf38 rfl rfl rfl (.cell (v := (vI (⟨false, 0⟩ : GI))) rfl (i := 0) rfl Tryz.isAgg38 Tryz.sizeOf38 rfl rfl rfl (.tmp rfl .nil))) rfl (h.retP (by rw [hd] <;> rfl) (by rw [hd]; exact ⟨(SzB_lit 0 (by decide) (by omega)), (SzB_lit 0 (by decide) (by omega))⟩))
  · skip
    have hd1 := of_decide_eq_false hc1
    refine c_skip ?_
    refine hK2 _ _ ?_
    refine c_rs fun K5 hK5 => ?_
    refine rd0 h (r_fa Tryz.runUnderlying38 rfl Tryz.sizeOf9 (by decide) rfl rfl (k' := 1)) rfl ?_; clear h ac wo; intro ac wo h
    refine rd1 h 3 rfl (r_ld Tryz.isAgg9 Tryz.sizeOf9 rfl rfl rfl (v := (.string (bs a.mag))) rfl) rfl ?_; clear h ac wo; intro ac wo h
    refine rd0 h (r_fa Tryz.runUnderlying38 rfl Tryz.sizeOf9 (by decide) rfl rfl (k' := 1)) rfl ?_; clear h ac wo; intro ac wo h
    refine rd1 h 2 rfl (r_ld Tryz.isAgg9 Tryz.sizeOf9 rfl rfl rfl (v := (.string (bs b.mag))) rfl) rfl ?_; clear h ac wo; intro ac wo h
    have s1 := Calls_pr ((ig_div_ct a.mag b.mag (k + 1) (by omega) za zb (by omega)) w0)
    refine clp h Tryz.call194 (vs := [(.string (bs a.mag)), (.string (bs b.mag))]) rfl (ig_div_ct a.mag b.mag (k + 1) (by omega) za zb (by omega)) rfl ?_; clear h ac wo; intro ac wo h
    refine rd0 h (r_move rfl) rfl ?_; clear h ac wo; intro ac wo h
    refine rd0 h (r_extract (vs := [(.string (bs ((ig_div a.mag b.mag).1))), (.string (bs ((ig_div a.mag b.mag).2)))]) rfl rfl) rfl ?_; clear h ac wo; intro ac wo h
    refine rd0 h (r_extract (vs := [(.string (bs ((ig_div a.mag b.mag).1))), (.string (bs ((ig_div a.mag b.mag).2)))]) rfl rfl) rfl ?_; clear h ac wo; intro ac wo h
    refine rd0 h (r_assign rfl) rfl ?_; clear h ac wo; intro ac wo h
    refine rd0 h (r_assign rfl) rfl ?_; clear h ac wo; intro ac wo h
    refine w_nil ?_
    refine hK5 _ _ ?_
    refine c_seq fun K6 hK6 => ?_
    refine c_rs fun K7 hK7 => ?_
    refine rd0 h (r_fa Tryz.runUnderlying38 rfl Tryz.sizeOf4 (by decide) rfl rfl (k' := 0)) rfl ?_; clear h ac wo; intro ac wo h
    refine rd1 h 3 rfl (r_ld Tryz.isAgg4 Tryz.sizeOf4 rfl rfl rfl (v := (.bool a.neg)) rfl) rfl ?_; clear h ac wo; intro ac wo h
    refine rd0 h (r_move rfl) rfl ?_; clear h ac wo; intro ac wo h
    refine gd (j := 2) (c := true) (b := a.neg) (g := a.neg) h rfl rfl g_t (fun hg => (Rd.of_nil (r_move rfl)).step) rfl ?_; clear h ac wo; intro ac wo h
    refine gd (j := 2) (c := true) (b := a.neg) (g := a.neg) h rfl rfl g_t (fun hg => (Rd.of_nil (r_neqBs (gv_ev rfl hg) rfl (m := ((ig_div a.mag b.mag).2)) (n := 0))).step) rfl ?_; clear h ac wo; intro ac wo h
    refine rd0 h (r_and rfl (fun e => (gv_ev rfl e))) rfl ?_; clear h ac wo; intro ac wo h
    refine w_nil ?_
    refine hK7 _ _ ?_
    refine c_if (b := (a.neg && (!(decide (((ig_div a.mag b.mag).2) = 0))))) h rfl (fun hc2 => ?_) (fun hc2 => ?_)
    · skip
      have s2 := Calls_pr ((ig_add_ct ((ig_div a.mag b.mag).1) 1 k (by omega) s1.1 (SzB_lit 1 (by decide) (by omega))) w0)
      have s3 := Calls_pr ((ig_sub_ct b.mag ((ig_div a.mag b.mag).2) (k + 1) (by omega) zb s1.2 (Nat.le_of_lt (Nat.mod_lt _ (by omega)))) w0)
      refine draws mixed [⟨.det (.string (bs ((ig_div a.mag b.mag).1))), []⟩, ⟨.det (.string (bs (ig_add ((ig_div a.mag b.mag).1) 1))), []⟩, ⟨.det (ptr b2 1), []⟩, ⟨.det (.string (bs b.mag)), [2]⟩, ⟨.det (.string (bs ((ig_div a.mag b.mag).2))), []⟩, ⟨.det (.string (bs (ig_sub b.mag ((ig_div a.mag b.mag).2)))), []⟩, ⟨.det (.string (bs (ig_add ((ig_div a.mag b.mag).1) 1))), []⟩, ⟨.det (.string (bs (ig_sub b.mag ((ig_div a.mag b.mag).2)))), []⟩] [⟨.blk b4 (cI (⟨false, 0⟩ : GI)) 38, []⟩, ⟨.blk b3 (cI (⟨false, 0⟩ : GI)) 38, []⟩, ⟨.blk b2 (cI b) 38, []⟩, ⟨.blk b1 (cI a) 38, []⟩] h rfl (by kernel_rfl) ⟨?_, ?_, ?_, ?_, ?_, ?_, ?_, ?_, trivial⟩ ?_
      · intro ξ hφ; exact ob_r0 (r_move rfl)
      · intro ξ hφ; exact ob_s (s_clp Tryz.call190 (vs := [(.string (bs ((ig_div a.mag b.mag).1))), (.string (bs 1))]) rfl (ig_add_ct ((ig_div a.mag b.mag).1) 1 k (by omega) s1.1 (SzB_lit 1 (by decide) (by omega))))
      · intro ξ hφ; exact ob_r0 (r_fa Tryz.runUnderlying38 rfl Tryz.sizeOf9 (by decide) rfl rfl (k' := 1))
      · intro ξ hφ; exact ob_r [.blk b2 (cI b) 38] rfl rfl (r_ld Tryz.isAgg9 Tryz.sizeOf9 rfl rfl rfl (v := (.string (bs b.mag))) rfl)
      · intro ξ hφ; exact ob_r0 (r_move rfl)
      · intro ξ hφ; exact ob_s (s_clp Tryz.call192 (vs := [(.string (bs b.mag)), (.string (bs ((ig_div a.mag b.mag).2)))]) rfl (ig_sub_ct b.mag ((ig_div a.mag b.mag).2) (k + 1) (by omega) zb s1.2 (Nat.le_of_lt (Nat.mod_lt _ (by omega)))))
      · intro ξ hφ; exact ob_r0 (r_assign rfl)
      · intro ξ hφ; exact ob_r0 (r_assign rfl)
      clear h ac wo; intro ξ ac wo hφ h
      replace h : St w0 43 [(2, (ptr b1 0)), (3, (ptr b2 0)), (4, (ptr b3 0)), (5, (ptr b4 0)), (7, (.string (bs (ig_add ((ig_div a.mag b.mag).1) 1)))), (8, (.string (bs (ig_sub b.mag ((ig_div a.mag b.mag).2)))))] [.blk b4 (cI (⟨false, 0⟩ : GI)) 38, .blk b3 (cI (⟨false, 0⟩ : GI)) 38, .blk b2 (cI b) 38, .blk b1 (cI a) 38] ac wo := h.sub ⟨rfl, rfl, rfl, rfl, rfl, rfl, trivial⟩
      clear hφ ξ
      refine hK6 _ _ ?_
      refine c_rs fun K8 hK8 => ?_
      refine rd0 h (r_fa Tryz.runUnderlying38 rfl Tryz.sizeOf4 (by decide) rfl rfl (k' := 0)) rfl ?_; clear h ac wo; intro ac wo h
      refine rd1 h 3 rfl (r_ld Tryz.isAgg4 Tryz.sizeOf4 rfl rfl rfl (v := (.bool a.neg)) rfl) rfl ?_; clear h ac wo; intro ac wo h
      refine rd0 h (r_fa Tryz.runUnderlying38 rfl Tryz.sizeOf4 (by decide) rfl rfl (k' := 0)) rfl ?_; clear h ac wo; intro ac wo h
      refine rd1 h 2 rfl (r_ld Tryz.isAgg4 Tryz.sizeOf4 rfl rfl rfl (v := (.bool b.neg)) rfl) rfl ?_; clear h ac wo; intro ac wo h
      refine rd0 h (r_neqB Tryz.underlying4 rfl rfl) rfl ?_; clear h ac wo; intro ac wo h
      refine rd0 h (r_move rfl) rfl ?_; clear h ac wo; intro ac wo h
      have s4 := Calls_pr ((ig_made_ct (a.neg != b.neg) (ig_add ((ig_div a.mag b.mag).1) 1) k (by omega) s2) w0)
      refine clp h Tryz.call172 (vs := [(.bool (a.neg != b.neg)), (.string (bs (ig_add ((ig_div a.mag b.mag).1) 1)))]) rfl (ig_made_ct (a.neg != b.neg) (ig_add ((ig_div a.mag b.mag).1) 1) k (by omega) s2) rfl ?_; clear h ac wo; intro ac wo h
      refine rd0 h (r_move rfl) rfl ?_; clear h ac wo; intro ac wo h
      have s5 := Calls_pr ((ig_made_ct false (ig_sub b.mag ((ig_div a.mag b.mag).2)) (k + 1) (by omega) s3) w0)
      refine clp h Tryz.call172 (vs := [(.bool false), (.string (bs (ig_sub b.mag ((ig_div a.mag b.mag).2))))]) rfl (ig_made_ct false (ig_sub b.mag ((ig_div a.mag b.mag).2)) (k + 1) (by omega) s3) rfl ?_; clear h ac wo; intro ac wo h
      refine st h 1 (cI (ig_made (a.neg != b.neg) (ig_add ((ig_div a.mag b.mag).1) 1))) rfl Tryz.sizeOf38 rfl rfl rfl rfl rfl rfl rfl ?_; clear h ac wo; intro ac wo h
      refine st h 0 (cI (ig_made false (ig_sub b.mag ((ig_div a.mag b.mag).2)))) rfl Tryz.sizeOf38 rfl rfl rfl rfl rfl rfl rfl ?_; clear h ac wo; intro ac wo h
      refine rd0 h (r_assign rfl (v := (.int .i64 0))) rfl ?_; clear h ac wo; intro ac wo h
      refine w_nil ?_
      refine hK8 _ _ ?_
      refine c_ret ?_
      have hd : ig_DivMod a b = ((ig_made (a.neg != b.neg) (ig_add ((ig_div a.mag b.mag).1) 1)), (ig_made false (ig_sub b.mag ((ig_div a.mag b.mag).2))), 0) := (Eq.trans (cF hc1) (cT hc2))
      exact ret (rs := [.cell 4 38, .cell 5 38, .tmp 6]) h rfl (.cell (v := (vI (ig_made (a.neg != b.neg) (ig_add ((ig_div a.mag b.mag).1) 1)))) rfl (i := 1) rfl Tryz.isAgg38 Tryz.sizeOf38 rfl rfl rfl (.cell (v := (vI (ig_made false (ig_sub b.mag ((ig_div a.mag b.mag).2))))) rfl (i := 0) rfl Tryz.isAgg38 Tryz.sizeOf38 rfl rfl rfl (.tmp rfl .nil))) rfl (h.retP (by rw [hd] <;> rfl) (by rw [hd]; exact ⟨s4, (SzI_le s5 (by omega))⟩))
    · skip
      refine c_skip ?_
      refine hK6 _ _ ?_
      refine c_rs fun K9 hK9 => ?_
      refine rd0 h (r_fa Tryz.runUnderlying38 rfl Tryz.sizeOf4 (by decide) rfl rfl (k' := 0)) rfl ?_; clear h ac wo; intro ac wo h
      refine rd1 h 3 rfl (r_ld Tryz.isAgg4 Tryz.sizeOf4 rfl rfl rfl (v := (.bool a.neg)) rfl) rfl ?_; clear h ac wo; intro ac wo h
      refine rd0 h (r_fa Tryz.runUnderlying38 rfl Tryz.sizeOf4 (by decide) rfl rfl (k' := 0)) rfl ?_; clear h ac wo; intro ac wo h
      refine rd1 h 2 rfl (r_ld Tryz.isAgg4 Tryz.sizeOf4 rfl rfl rfl (v := (.bool b.neg)) rfl) rfl ?_; clear h ac wo; intro ac wo h
      refine rd0 h (r_neqB Tryz.underlying4 rfl rfl) rfl ?_; clear h ac wo; intro ac wo h
      refine rd0 h (r_move rfl) rfl ?_; clear h ac wo; intro ac wo h
      have s6 := Calls_pr ((ig_made_ct (a.neg != b.neg) ((ig_div a.mag b.mag).1) (k + 1) (by omega) s1.1) w0)
      refine clp h Tryz.call172 (vs := [(.bool (a.neg != b.neg)), (.string (bs ((ig_div a.mag b.mag).1)))]) rfl (ig_made_ct (a.neg != b.neg) ((ig_div a.mag b.mag).1) (k + 1) (by omega) s1.1) rfl ?_; clear h ac wo; intro ac wo h
      refine rd0 h (r_move rfl) rfl ?_; clear h ac wo; intro ac wo h
      have s7 := Calls_pr ((ig_made_ct false ((ig_div a.mag b.mag).2) (k + 1) (by omega) s1.2) w0)
      refine clp h Tryz.call172 (vs := [(.bool false), (.string (bs ((ig_div a.mag b.mag).2)))]) rfl (ig_made_ct false ((ig_div a.mag b.mag).2) (k + 1) (by omega) s1.2) rfl ?_; clear h ac wo; intro ac wo h
      refine st h 1 (cI (ig_made (a.neg != b.neg) ((ig_div a.mag b.mag).1))) rfl Tryz.sizeOf38 rfl rfl rfl rfl rfl rfl rfl ?_; clear h ac wo; intro ac wo h
      refine st h 0 (cI (ig_made false ((ig_div a.mag b.mag).2))) rfl Tryz.sizeOf38 rfl rfl rfl rfl rfl rfl rfl ?_; clear h ac wo; intro ac wo h
      refine rd0 h (r_assign rfl (v := (.int .i64 0))) rfl ?_; clear h ac wo; intro ac wo h
      refine w_nil ?_
      refine hK9 _ _ ?_
      refine c_ret ?_
      have hd : ig_DivMod a b = ((ig_made (a.neg != b.neg) ((ig_div a.mag b.mag).1)), (ig_made false ((ig_div a.mag b.mag).2)), 0) := (Eq.trans (cF hc1) (cF hc2))
      exact ret (rs := [.cell 4 38, .cell 5 38, .tmp 6]) h rfl (.cell (v := (vI (ig_made (a.neg != b.neg) ((ig_div a.mag b.mag).1)))) rfl (i := 1) rfl Tryz.isAgg38 Tryz.sizeOf38 rfl rfl rfl (.cell (v := (vI (ig_made false ((ig_div a.mag b.mag).2)))) rfl (i := 0) rfl Tryz.isAgg38 Tryz.sizeOf38 rfl rfl rfl (.tmp rfl .nil))) rfl (h.retP (by rw [hd] <;> rfl) (by rw [hd]; exact ⟨(SzI_le s6 (by omega)), (SzI_le s7 (by omega))⟩))
def ra_one  : GI :=
  (ig_FromInt 1)
theorem ra_one_ct (k : Nat) (hk : k ≤ 40) (w0 : World) : Calls Tryz.prog 164 #[] w0 (RetP w0 (vI ra_one) (SzI k ra_one)) := by
  refine enter (N := 2) (args := []) Tryz.func164 rfl rfl ?_; intro ac h
  refine c_rs fun K1 hK1 => ?_
  refine al h (cI (⟨false, 0⟩ : GI)) Tryz.zeroValue38 rfl rfl ?_; clear h ac; intro b1 ac wo h
  refine w_nil ?_
  refine hK1 _ _ ?_
  refine c_rs fun K2 hK2 => ?_
  have s1 := Calls_pr ((ig_FromInt_ct 1 k (by omega)  (by omega)) w0)
  refine clp h Tryz.call113 (vs := [(.int .i64 1)]) rfl (ig_FromInt_ct 1 k (by omega)  (by omega)) rfl ?_; clear h ac wo; intro ac wo h
  refine st h 0 (cI (ig_FromInt 1)) rfl Tryz.sizeOf38 rfl rfl rfl rfl rfl rfl rfl ?_; clear h ac wo; intro ac wo h
  refine w_nil ?_
  refine hK2 _ _ ?_
  refine c_ret ?_
  have hd : ra_one = (ig_FromInt 1) := rfl
  exact ret (rs := [.cell 0 38]) h rfl (.cell (v := (vI (ig_FromInt 1))) rfl (i := 0) rfl Tryz.isAgg38 Tryz.sizeOf38 rfl rfl rfl .nil) rfl (h.retP (by rw [hd] <;> rfl) (by rw [hd]; exact s1))
def ra_FromInt (n : Int) : GQ :=
  (⟨(ig_FromInt n), (⟨false, 0⟩ : GI)⟩ : GQ)
theorem ra_FromInt_ct (n : Int) (k : Nat) (hk : k ≤ 40) (hn : -9223372036854775808 ≤ n ∧ n ≤ 9223372036854775807) (w0 : World) : Calls Tryz.prog 45 #[(.int .i64 n)] w0 (RetP w0 (vQ (ra_FromInt n)) (SzQ k (ra_FromInt n))) := by
  refine enter (N := 6) (args := [(.int .i64 n)]) Tryz.func45 rfl rfl ?_; intro ac h
  refine c_rs fun K1 hK1 => ?_
  refine al h (cQ (⟨(⟨false, 0⟩ : GI), (⟨false, 0⟩ : GI)⟩ : GQ)) Tryz.zeroValue40 rfl rfl ?_; clear h ac; intro b1 ac wo h
  refine w_nil ?_
  refine hK1 _ _ ?_
  refine c_rs fun K2 hK2 => ?_
  refine rd0 h (r_move rfl) rfl ?_; clear h ac wo; intro ac wo h
  have s1 := Calls_pr ((ig_FromInt_ct n k (by omega)  (by omega)) w0)
  refine clp h Tryz.call113 (vs := [(.int .i64 n)]) rfl (ig_FromInt_ct n k (by omega)  (by omega)) rfl ?_; clear h ac wo; intro ac wo h
  refine rd0 h (r_build (parts := [(0, .tmp 4)]) (vs := [(vI (ig_FromInt n))]) bld40 rfl rfl (v := (vQ (⟨(ig_FromInt n), (⟨false, 0⟩ : GI)⟩ : GQ))) rfl) rfl ?_; clear h ac wo; intro ac wo h
  refine st h 0 (cQ (⟨(ig_FromInt n), (⟨false, 0⟩ : GI)⟩ : GQ)) rfl Tryz.sizeOf40 rfl rfl rfl rfl rfl rfl rfl ?_; clear h ac wo; intro ac wo h
  refine w_nil ?_
  refine hK2 _ _ ?_
  refine c_ret ?_
  have hd : ra_FromInt n = (⟨(ig_FromInt n), (⟨false, 0⟩ : GI)⟩ : GQ) := rfl
  exact ret (rs := [.cell 2 40]) h rfl (.cell (v := (vQ (⟨(ig_FromInt n), (⟨false, 0⟩ : GI)⟩ : GQ))) rfl (i := 0) rfl Tryz.isAgg40 Tryz.sizeOf40 rfl rfl rfl .nil) rfl (h.retP (by rw [hd] <;> rfl) (by rw [hd]; exact ⟨s1, (SzB_lit 0 (by decide) (by omega))⟩))
def ra_Den (a : GQ) : GI :=
  bif (decide (a.den = (⟨false, 0⟩ : GI))) then
    ra_one
  else
    a.den
theorem ra_Den_ct (a : GQ) (k : Nat) (hk : k ≤ 40) (za : SzQ k a) (w0 : World) : Calls Tryz.prog 159 #[(vQ a)] w0 (RetP w0 (vI (ra_Den a)) (SzI k (ra_Den a))) := by
  refine enter (N := 10) (args := [(vQ a)]) Tryz.func159 rfl rfl ?_; intro ac h
  refine c_rs fun K1 hK1 => ?_
  refine bx h (cQ a) rfl rfl rfl ?_; clear h ac; intro b1 ac wo h
  refine al h (cI (⟨false, 0⟩ : GI)) Tryz.zeroValue38 rfl rfl ?_; clear h ac wo; intro b2 ac wo h
  refine w_nil ?_
  refine hK1 _ _ ?_
  refine c_seq fun K2 hK2 => ?_
  refine c_rs fun K3 hK3 => ?_
  refine rd0 h (r_fa Tryz.runUnderlying40 rfl Tryz.sizeOf38 (by decide) rfl rfl (k' := 2)) rfl ?_; clear h ac wo; intro ac wo h
  refine rd1 h 1 rfl (r_ld Tryz.isAgg38 Tryz.sizeOf38 rfl rfl rfl (v := (vI a.den)) rfl) rfl ?_; clear h ac wo; intro ac wo h
  refine rd0 h (r_build (parts := []) (vs := []) bld38 rfl rfl (v := (vI (⟨false, 0⟩ : GI))) rfl) rfl ?_; clear h ac wo; intro ac wo h
  refine rd0 h (r_eqlT eqp38 rfl rfl (b := a.den) (c := (⟨false, 0⟩ : GI))) rfl ?_; clear h ac wo; intro ac wo h
  refine w_nil ?_
  refine hK3 _ _ ?_
  refine c_if (b := (decide (a.den = (⟨false, 0⟩ : GI)))) h rfl (fun hc1 => ?_) (fun hc1 => ?_)
  · skip
    have hd1 := of_decide_eq_true hc1
    refine c_rs fun K4 hK4 => ?_
    have s1 := Calls_pr ((ra_one_ct  k (by omega) ) w0)
    refine clp h Tryz.call164 (vs := []) rfl (ra_one_ct  k (by omega) ) rfl ?_; clear h ac wo; intro ac wo h
    refine st h 0 (cI ra_one) rfl Tryz.sizeOf38 rfl rfl rfl rfl rfl rfl rfl ?_; clear h ac wo; intro ac wo h
    refine w_nil ?_
    refine hK4 _ _ ?_
    refine c_ret ?_
    have hd : ra_Den a = ra_one := (cT hc1)
    exact ret (rs := [.cell 2 38]) h rfl (.cell (v := (vI ra_one)) rfl (i := 0) rfl Tryz.isAgg38 Tryz.sizeOf38 rfl rfl rfl .nil) rfl (h.retP (by rw [hd] <;> rfl) (by rw [hd]; exact s1))
  · skip
    have hd1 := of_decide_eq_false hc1
    refine c_skip ?_
    refine hK2 _ _ ?_
    refine c_rs fun K5 hK5 => ?_
    refine rd0 h (r_fa Tryz.runUnderlying40 rfl Tryz.sizeOf38 (by decide) rfl rfl (k' := 2)) rfl ?_; clear h ac wo; intro ac wo h
    refine rd1 h 1 rfl (r_ld Tryz.isAgg38 Tryz.sizeOf38 rfl rfl rfl (v := (vI a.den)) rfl) rfl ?_; clear h ac wo; intro ac wo h
    refine st h 0 (cI a.den) rfl Tryz.sizeOf38 rfl rfl rfl rfl rfl rfl rfl ?_; clear h ac wo; intro ac wo h
    refine w_nil ?_
    refine hK5 _ _ ?_
    refine c_ret ?_
    have hd : ra_Den a = a.den := (cF hc1)
    exact ret (rs := [.cell 2 38]) h rfl (.cell (v := (vI a.den)) rfl (i := 0) rfl Tryz.isAgg38 Tryz.sizeOf38 rfl rfl rfl .nil) rfl (h.retP (by rw [hd] <;> rfl) (by rw [hd]; exact za.2))
def ra_quotient (a : GI) (b : GI) : GI :=
  (ig_DivMod a b).1
theorem ra_quotient_ct (a : GI) (b : GI) (k : Nat) (hk : (k + 1) ≤ 40) (za : SzI (k + 1) a) (zb : SzI (k + 1) b) (w0 : World) : Calls Tryz.prog 188 #[(vI a), (vI b)] w0 (RetP w0 (vI (ra_quotient a b)) (SzI k (ra_quotient a b))) := by
  refine enter (N := 16) (args := [(vI a), (vI b)]) Tryz.func188 rfl rfl ?_; intro ac h
  refine c_rs fun K1 hK1 => ?_
  refine bx h (cI a) rfl rfl rfl ?_; clear h ac; intro b1 ac wo h
  refine bx h (cI b) rfl rfl rfl ?_; clear h ac wo; intro b2 ac wo h
  refine al h (cI (⟨false, 0⟩ : GI)) Tryz.zeroValue38 rfl rfl ?_; clear h ac wo; intro b3 ac wo h
  refine w_nil ?_
  refine hK1 _ _ ?_
  refine c_rs fun K2 hK2 => ?_
  refine rd1 h 2 rfl (r_ld Tryz.isAgg38 Tryz.sizeOf38 rfl rfl rfl (v := (vI a)) rfl) rfl ?_; clear h ac wo; intro ac wo h
  refine rd1 h 1 rfl (r_ld Tryz.isAgg38 Tryz.sizeOf38 rfl rfl rfl (v := (vI b)) rfl) rfl ?_; clear h ac wo; intro ac wo h
  have s1 := Calls_pr ((ig_DivMod_ct a b k (by omega) za zb) w0)
  refine clp h Tryz.call212 (vs := [(vI a), (vI b)]) rfl (ig_DivMod_ct a b k (by omega) za zb) rfl ?_; clear h ac wo; intro ac wo h
  refine rd0 h (r_move rfl) rfl ?_; clear h ac wo; intro ac wo h
  refine rd0 h (r_extract (vs := [(vI ((ig_DivMod a b).1)), (vI ((ig_DivMod a b).2.1)), (.int .i64 ((ig_DivMod a b).2.2))]) rfl rfl) rfl ?_; clear h ac wo; intro ac wo h
  refine rd0 h (r_extract (vs := [(vI ((ig_DivMod a b).1)), (vI ((ig_DivMod a b).2.1)), (.int .i64 ((ig_DivMod a b).2.2))]) rfl rfl) rfl ?_; clear h ac wo; intro ac wo h
  refine rd0 h (r_extract (vs := [(vI ((ig_DivMod a b).1)), (vI ((ig_DivMod a b).2.1)), (.int .i64 ((ig_DivMod a b).2.2))]) rfl rfl) rfl ?_; clear h ac wo; intro ac wo h
  refine al h (cI (⟨false, 0⟩ : GI)) Tryz.zeroValue38 rfl rfl ?_; clear h ac wo; intro b4 ac wo h
  refine al h (cI (⟨false, 0⟩ : GI)) Tryz.zeroValue38 rfl rfl ?_; clear h ac wo; intro b5 ac wo h
  refine st h 1 (cI ((ig_DivMod a b).1)) rfl Tryz.sizeOf38 rfl rfl rfl rfl rfl rfl rfl ?_; clear h ac wo; intro ac wo h
  refine st h 0 (cI ((ig_DivMod a b).2.1)) rfl Tryz.sizeOf38 rfl rfl rfl rfl rfl rfl rfl ?_; clear h ac wo; intro ac wo h
  refine rd0 h (r_assign rfl) rfl ?_; clear h ac wo; intro ac wo h
  refine w_nil ?_
  refine hK2 _ _ ?_
  refine c_rs fun K3 hK3 => ?_
  refine rd1 h 1 rfl (r_ld Tryz.isAgg38 Tryz.sizeOf38 rfl rfl rfl (v := (vI ((ig_DivMod a b).1))) rfl) rfl ?_; clear h ac wo; intro ac wo h
  refine st h 2 (cI ((ig_DivMod a b).1)) rfl Tryz.sizeOf38 rfl rfl rfl rfl rfl rfl rfl ?_; clear h ac wo; intro ac wo h
  refine w_nil ?_
  refine hK3 _ _ ?_
  refine c_ret ?_
  have hd : ra_quotient a b = (ig_DivMod a b).1 := rfl
  exact ret (rs := [.cell 4 38]) h rfl (.cell (v := (vI ((ig_DivMod a b).1))) rfl (i := 2) rfl Tryz.isAgg38 Tryz.sizeOf38 rfl rfl rfl .nil) rfl (h.retP (by rw [hd] <;> rfl) (by rw [hd]; exact s1.1))
def ra_canonical (num : GI) (den : GI) : GQ :=
  bif (decide ((ig_Sign den) < 0)) then
    bif (decide ((ra_quotient (ig_Negate den) (ig_Gcd (ig_Negate num) (ig_Negate den))) = ra_one)) then
      (⟨(ra_quotient (ig_Negate num) (ig_Gcd (ig_Negate num) (ig_Negate den))), (⟨false, 0⟩ : GI)⟩ : GQ)
    else
      (⟨(ra_quotient (ig_Negate num) (ig_Gcd (ig_Negate num) (ig_Negate den))), (ra_quotient (ig_Negate den) (ig_Gcd (ig_Negate num) (ig_Negate den)))⟩ : GQ)
  else
    bif (decide ((ra_quotient den (ig_Gcd num den)) = ra_one)) then
      (⟨(ra_quotient num (ig_Gcd num den)), (⟨false, 0⟩ : GI)⟩ : GQ)
    else
      (⟨(ra_quotient num (ig_Gcd num den)), (ra_quotient den (ig_Gcd num den))⟩ : GQ)
theorem ra_canonical_ct (num : GI) (den : GI) (k : Nat) (hk : (k + 1) ≤ 40) (znum : SzI (k + 1) num) (zden : SzI (k + 1) den) (w0 : World) : Calls Tryz.prog 157 #[(vI num), (vI den)] w0 (RetP w0 (vQ (ra_canonical num den)) (SzQ k (ra_canonical num den))) := by
  refine enter (N := 29) (args := [(vI num), (vI den)]) Tryz.func157 rfl rfl ?_; intro ac h
  refine c_rs fun K1 hK1 => ?_
  refine bx h (cI num) rfl rfl rfl ?_; clear h ac; intro b1 ac wo h
  refine bx h (cI den) rfl rfl rfl ?_; clear h ac wo; intro b2 ac wo h
  refine al h (cQ (⟨(⟨false, 0⟩ : GI), (⟨false, 0⟩ : GI)⟩ : GQ)) Tryz.zeroValue40 rfl rfl ?_; clear h ac wo; intro b3 ac wo h
  refine w_nil ?_
  refine hK1 _ _ ?_
  refine c_seq fun K2 hK2 => ?_
  refine c_rs fun K3 hK3 => ?_
  refine rd1 h 1 rfl (r_ld Tryz.isAgg38 Tryz.sizeOf38 rfl rfl rfl (v := (vI den)) rfl) rfl ?_; clear h ac wo; intro ac wo h
  have p2 := Calls_pr ((ig_Sign_ct den) w0)
  refine clp h Tryz.call124 (vs := [(vI den)]) rfl (ig_Sign_ct den) rfl ?_; clear h ac wo; intro ac wo h
  refine rd0 h (r_lss rfl rfl) rfl ?_; clear h ac wo; intro ac wo h
  refine w_nil ?_
  refine hK3 _ _ ?_
  refine c_if (b := (decide ((ig_Sign den) < 0))) h rfl (fun hc1 => ?_) (fun hc1 => ?_)
  · skip
    have hd1 := of_decide_eq_true hc1
    have s3 := Calls_pr ((ig_Negate_ct num (k + 1) (by omega) znum) w0)
    have s4 := Calls_pr ((ig_Negate_ct den (k + 1) (by omega) zden) w0)
    refine draws mixed [⟨.det (vI num), [2]⟩, ⟨.det (vI (ig_Negate num)), []⟩, ⟨.det (vI den), [1]⟩, ⟨.det (vI (ig_Negate den)), []⟩, ⟨.det undef, [2]⟩, ⟨.det undef, [1]⟩] [⟨.blk b3 (cQ (⟨(⟨false, 0⟩ : GI), (⟨false, 0⟩ : GI)⟩ : GQ)) 40, []⟩, ⟨.blk b2 (cI den) 38, [(5, .con (.blk b2 (cI (ig_Negate den)) 38))]⟩, ⟨.blk b1 (cI num) 38, [(4, .con (.blk b1 (cI (ig_Negate num)) 38))]⟩] h rfl (by kernel_rfl) ⟨?_, ?_, ?_, ?_, ?_, ?_, trivial⟩ ?_
    · intro ξ hφ; exact ob_r [.blk b1 (cI num) 38] rfl rfl (r_ld Tryz.isAgg38 Tryz.sizeOf38 rfl rfl rfl (v := (vI num)) rfl)
    · intro ξ hφ; exact ob_s (s_clp Tryz.call118 (vs := [(vI num)]) rfl (ig_Negate_ct num (k + 1) (by omega) znum))
    · intro ξ hφ; exact ob_r [.blk b2 (cI den) 38] rfl rfl (r_ld Tryz.isAgg38 Tryz.sizeOf38 rfl rfl rfl (v := (vI den)) rfl)
    · intro ξ hφ; exact ob_s (s_clp Tryz.call118 (vs := [(vI den)]) rfl (ig_Negate_ct den (k + 1) (by omega) zden))
    · intro ξ hφ; exact ob_u [.blk b1 (cI num) 38] [.blk b1 (cI (ig_Negate num)) 38] rfl rfl (s_st Tryz.sizeOf38 rfl rfl rfl rfl rfl rfl rfl)
    · intro ξ hφ; exact ob_u [.blk b2 (cI den) 38] [.blk b2 (cI (ig_Negate den)) 38] rfl rfl (s_st Tryz.sizeOf38 rfl rfl rfl rfl rfl rfl rfl)
    clear h ac wo; intro ξ ac wo hφ h
    replace h : St w0 29 [(2, (ptr b1 0)), (3, (ptr b2 0)), (4, (ptr b3 0))] [.blk b3 (cQ (⟨(⟨false, 0⟩ : GI), (⟨false, 0⟩ : GI)⟩ : GQ)) 40, .blk b2 (cI (ig_Negate den)) 38, .blk b1 (cI (ig_Negate num)) 38] ac wo := h.sub ⟨rfl, rfl, rfl, trivial⟩
    clear hφ ξ
    refine hK2 _ _ ?_
    refine c_rs fun K4 hK4 => ?_
    refine rd1 h 2 rfl (r_ld Tryz.isAgg38 Tryz.sizeOf38 rfl rfl rfl (v := (vI (ig_Negate num))) rfl) rfl ?_; clear h ac wo; intro ac wo h
    refine rd1 h 1 rfl (r_ld Tryz.isAgg38 Tryz.sizeOf38 rfl rfl rfl (v := (vI (ig_Negate den))) rfl) rfl ?_; clear h ac wo; intro ac wo h
    have s5 := Calls_pr ((ig_Gcd_ct (ig_Negate num) (ig_Negate den) (k + 1) (by omega) s3 s4) w0)
    refine clp h Tryz.call165 (vs := [(vI (ig_Negate num)), (vI (ig_Negate den))]) rfl (ig_Gcd_ct (ig_Negate num) (ig_Negate den) (k + 1) (by omega) s3 s4) rfl ?_; clear h ac wo; intro ac wo h
    refine al h (cI (⟨false, 0⟩ : GI)) Tryz.zeroValue38 rfl rfl ?_; clear h ac wo; intro b4 ac wo h
    refine st h 0 (cI (ig_Gcd (ig_Negate num) (ig_Negate den))) rfl Tryz.sizeOf38 rfl rfl rfl rfl rfl rfl rfl ?_; clear h ac wo; intro ac wo h
    refine w_nil ?_
    refine hK4 _ _ ?_
    refine c_seq fun K5 hK5 => ?_
    have s6 := Calls_pr ((ra_quotient_ct (ig_Negate num) (ig_Gcd (ig_Negate num) (ig_Negate den)) k (by omega) s3 s5) w0)
    have s7 := Calls_pr ((ra_quotient_ct (ig_Negate den) (ig_Gcd (ig_Negate num) (ig_Negate den)) k (by omega) s4 s5) w0)
    refine draws mixed [⟨.det (vI (ig_Negate num)), [3]⟩, ⟨.det (vI (ig_Gcd (ig_Negate num) (ig_Negate den))), [0]⟩, ⟨.det (vI (ra_quotient (ig_Negate num) (ig_Gcd (ig_Negate num) (ig_Negate den)))), []⟩, ⟨.det (vI (ig_Negate den)), [2]⟩, ⟨.det (vI (ig_Gcd (ig_Negate num) (ig_Negate den))), [0]⟩, ⟨.det (vI (ra_quotient (ig_Negate den) (ig_Gcd (ig_Negate num) (ig_Negate den)))), []⟩, ⟨.det undef, [3]⟩, ⟨.det undef, [2]⟩] [⟨.blk b4 (cI (ig_Gcd (ig_Negate num) (ig_Negate den))) 38, []⟩, ⟨.blk b3 (cQ (⟨(⟨false, 0⟩ : GI), (⟨false, 0⟩ : GI)⟩ : GQ)) 40, []⟩, ⟨.blk b2 (cI (ig_Negate den)) 38, [(7, .con (.blk b2 (cI (ra_quotient (ig_Negate den) (ig_Gcd (ig_Negate num) (ig_Negate den)))) 38))]⟩, ⟨.blk b1 (cI (ig_Negate num)) 38, [(6, .con (.blk b1 (cI (ra_quotient (ig_Negate num) (ig_Gcd (ig_Negate num) (ig_Negate den)))) 38))]⟩] h rfl (by kernel_rfl) ⟨?_, ?_, ?_, ?_, ?_, ?_, ?_, ?_, trivial⟩ ?_
    · intro ξ hφ; exact ob_r [.blk b1 (cI (ig_Negate num)) 38] rfl rfl (r_ld Tryz.isAgg38 Tryz.sizeOf38 rfl rfl rfl (v := (vI (ig_Negate num))) rfl)
    · intro ξ hφ; exact ob_r [.blk b4 (cI (ig_Gcd (ig_Negate num) (ig_Negate den))) 38] rfl rfl (r_ld Tryz.isAgg38 Tryz.sizeOf38 rfl rfl rfl (v := (vI (ig_Gcd (ig_Negate num) (ig_Negate den)))) rfl)
    · intro ξ hφ; exact ob_s (s_clp Tryz.call188 (vs := [(vI (ig_Negate num)), (vI (ig_Gcd (ig_Negate num) (ig_Negate den)))]) rfl (ra_quotient_ct (ig_Negate num) (ig_Gcd (ig_Negate num) (ig_Negate den)) k (by omega) s3 s5))
    · intro ξ hφ; exact ob_r [.blk b2 (cI (ig_Negate den)) 38] rfl rfl (r_ld Tryz.isAgg38 Tryz.sizeOf38 rfl rfl rfl (v := (vI (ig_Negate den))) rfl)
    · intro ξ hφ; exact ob_r [.blk b4 (cI (ig_Gcd (ig_Negate num) (ig_Negate den))) 38] rfl rfl (r_ld Tryz.isAgg38 Tryz.sizeOf38 rfl rfl rfl (v := (vI (ig_Gcd (ig_Negate num) (ig_Negate den)))) rfl)
    · intro ξ hφ; exact ob_s (s_clp Tryz.call188 (vs := [(vI (ig_Negate den)), (vI (ig_Gcd (ig_Negate num) (ig_Negate den)))]) rfl (ra_quotient_ct (ig_Negate den) (ig_Gcd (ig_Negate num) (ig_Negate den)) k (by omega) s4 s5))
    · intro ξ hφ; exact ob_u [.blk b1 (cI (ig_Negate num)) 38] [.blk b1 (cI (ra_quotient (ig_Negate num) (ig_Gcd (ig_Negate num) (ig_Negate den)))) 38] rfl rfl (s_st Tryz.sizeOf38 rfl rfl rfl rfl rfl rfl rfl)
    · intro ξ hφ; exact ob_u [.blk b2 (cI (ig_Negate den)) 38] [.blk b2 (cI (ra_quotient (ig_Negate den) (ig_Gcd (ig_Negate num) (ig_Negate den)))) 38] rfl rfl (s_st Tryz.sizeOf38 rfl rfl rfl rfl rfl rfl rfl)
    clear h ac wo; intro ξ ac wo hφ h
    replace h : St w0 29 [(2, (ptr b1 0)), (3, (ptr b2 0)), (4, (ptr b3 0))] [.blk b4 (cI (ig_Gcd (ig_Negate num) (ig_Negate den))) 38, .blk b3 (cQ (⟨(⟨false, 0⟩ : GI), (⟨false, 0⟩ : GI)⟩ : GQ)) 40, .blk b2 (cI (ra_quotient (ig_Negate den) (ig_Gcd (ig_Negate num) (ig_Negate den)))) 38, .blk b1 (cI (ra_quotient (ig_Negate num) (ig_Gcd (ig_Negate num) (ig_Negate den)))) 38] ac wo := h.sub ⟨rfl, rfl, rfl, trivial⟩
    clear hφ ξ
    refine hK5 _ _ ?_
    refine c_seq fun K6 hK6 => ?_
    refine c_seq fun K7 hK7 => ?_
    have s8 := Calls_pr ((ra_one_ct  (k + 1) (by omega) ) w0)
    refine draws mixed [⟨.det (vI (ra_quotient (ig_Negate den) (ig_Gcd (ig_Negate num) (ig_Negate den)))), [2]⟩, ⟨.det (vI ra_one), []⟩, ⟨.det (.bool (decide ((ra_quotient (ig_Negate den) (ig_Gcd (ig_Negate num) (ig_Negate den))) = ra_one))), []⟩] [⟨.blk b4 (cI (ig_Gcd (ig_Negate num) (ig_Negate den))) 38, []⟩, ⟨.blk b3 (cQ (⟨(⟨false, 0⟩ : GI), (⟨false, 0⟩ : GI)⟩ : GQ)) 40, []⟩, ⟨.blk b2 (cI (ra_quotient (ig_Negate den) (ig_Gcd (ig_Negate num) (ig_Negate den)))) 38, []⟩, ⟨.blk b1 (cI (ra_quotient (ig_Negate num) (ig_Gcd (ig_Negate num) (ig_Negate den)))) 38, []⟩] h rfl (by kernel_rfl) ⟨?_, ?_, ?_, trivial⟩ ?_
    · intro ξ hφ; exact ob_r [.blk b2 (cI (ra_quotient (ig_Negate den) (ig_Gcd (ig_Negate num) (ig_Negate den)))) 38] rfl rfl (r_ld Tryz.isAgg38 Tryz.sizeOf38 rfl rfl rfl (v := (vI (ra_quotient (ig_Negate den) (ig_Gcd (ig_Negate num) (ig_Negate den))))) rfl)
    · intro ξ hφ; exact ob_s (s_clp Tryz.call164 (vs := []) rfl (ra_one_ct  (k + 1) (by omega) ))
    · intro ξ hφ; exact ob_r0 (r_eqlT eqp38 rfl rfl (b := (ra_quotient (ig_Negate den) (ig_Gcd (ig_Negate num) (ig_Negate den)))) (c := ra_one))
    clear h ac wo; intro ξ ac wo hφ h
    replace h : St w0 29 [(2, (ptr b1 0)), (3, (ptr b2 0)), (4, (ptr b3 0)), (24, (.bool (decide ((ra_quotient (ig_Negate den) (ig_Gcd (ig_Negate num) (ig_Negate den))) = ra_one))))] [.blk b4 (cI (ig_Gcd (ig_Negate num) (ig_Negate den))) 38, .blk b3 (cQ (⟨(⟨false, 0⟩ : GI), (⟨false, 0⟩ : GI)⟩ : GQ)) 40, .blk b2 (cI (ra_quotient (ig_Negate den) (ig_Gcd (ig_Negate num) (ig_Negate den)))) 38, .blk b1 (cI (ra_quotient (ig_Negate num) (ig_Gcd (ig_Negate num) (ig_Negate den)))) 38] ac wo := h.sub ⟨rfl, rfl, rfl, rfl, trivial⟩
    clear hφ ξ
    refine hK7 _ _ ?_
    refine c_if (b := (decide ((ra_quotient (ig_Negate den) (ig_Gcd (ig_Negate num) (ig_Negate den))) = ra_one))) h rfl (fun hc2 => ?_) (fun hc2 => ?_)
    · skip
      have hd2 := of_decide_eq_true hc2
      refine c_r ?_
      refine rd0 h (r_build (parts := []) (vs := []) bld38 rfl rfl (v := (vI (⟨false, 0⟩ : GI))) rfl) rfl ?_; clear h ac wo; intro ac wo h
      refine st h 2 (cI (⟨false, 0⟩ : GI)) rfl Tryz.sizeOf38 rfl rfl rfl rfl rfl rfl rfl ?_; clear h ac wo; intro ac wo h
      refine w_nil ?_
      refine hK6 _ _ ?_
      refine c_rs fun K8 hK8 => ?_
      refine rd1 h 3 rfl (r_ld Tryz.isAgg38 Tryz.sizeOf38 rfl rfl rfl (v := (vI (ra_quotient (ig_Negate num) (ig_Gcd (ig_Negate num) (ig_Negate den))))) rfl) rfl ?_; clear h ac wo; intro ac wo h
      refine rd1 h 2 rfl (r_ld Tryz.isAgg38 Tryz.sizeOf38 rfl rfl rfl (v := (vI (⟨false, 0⟩ : GI))) rfl) rfl ?_; clear h ac wo; intro ac wo h
      refine rd0 h (r_build (parts := [(0, .tmp 26), (1, .tmp 27)]) (vs := [(vI (ra_quotient (ig_Negate num) (ig_Gcd (ig_Negate num) (ig_Negate den)))), (vI (⟨false, 0⟩ : GI))]) bld40 rfl rfl (v := (vQ (⟨(ra_quotient (ig_Negate num) (ig_Gcd (ig_Negate num) (ig_Negate den))), (⟨false, 0⟩ : GI)⟩ : GQ))) rfl) rfl ?_; clear h ac wo; intro ac wo h
      refine st h 1 (cQ (⟨(ra_quotient (ig_Negate num) (ig_Gcd (ig_Negate num) (ig_Negate den))), (⟨false, 0⟩ : GI)⟩ : GQ)) rfl Tryz.sizeOf40 rfl rfl rfl rfl rfl rfl rfl ?_; clear h ac wo; intro ac wo h
      refine w_nil ?_
      refine hK8 _ _ ?_
      refine c_ret ?_
      have hd : ra_canonical num den = (⟨(ra_quotient (ig_Negate num) (ig_Gcd (ig_Negate num) (ig_Negate den))), (⟨false, 0⟩ : GI)⟩ : GQ) := (Eq.trans (cT hc1) (cT hc2))
      exact ret (rs := [.cell 4 40]) h rfl (.cell (v := (vQ (⟨(ra_quotient (ig_Negate num) (ig_Gcd (ig_Negate num) (ig_Negate den))), (⟨false, 0⟩ : GI)⟩ : GQ))) rfl (i := 1) rfl Tryz.isAgg40 Tryz.sizeOf40 rfl rfl rfl .nil) rfl (h.retP (by rw [hd] <;> rfl) (by rw [hd]; exact ⟨s6, (SzB_lit 0 (by decide) (by omega))⟩))
    · skip
      have hd2 := of_decide_eq_false hc2
      refine c_skip ?_
      refine hK6 _ _ ?_
      refine c_rs fun K9 hK9 => ?_
      refine rd1 h 3 rfl (r_ld Tryz.isAgg38 Tryz.sizeOf38 rfl rfl rfl (v := (vI (ra_quotient (ig_Negate num) (ig_Gcd (ig_Negate num) (ig_Negate den))))) rfl) rfl ?_; clear h ac wo; intro ac wo h
      refine rd1 h 2 rfl (r_ld Tryz.isAgg38 Tryz.sizeOf38 rfl rfl rfl (v := (vI (ra_quotient (ig_Negate den) (ig_Gcd (ig_Negate num) (ig_Negate den))))) rfl) rfl ?_; clear h ac wo; intro ac wo h
      refine rd0 h (r_build (parts := [(0, .tmp 26), (1, .tmp 27)]) (vs := [(vI (ra_quotient (ig_Negate num) (ig_Gcd (ig_Negate num) (ig_Negate den)))), (vI (ra_quotient (ig_Negate den) (ig_Gcd (ig_Negate num) (ig_Negate den))))]) bld40 rfl rfl (v := (vQ (⟨(ra_quotient (ig_Negate num) (ig_Gcd (ig_Negate num) (ig_Negate den))), (ra_quotient (ig_Negate den) (ig_Gcd (ig_Negate num) (ig_Negate den)))⟩ : GQ))) rfl) rfl ?_; clear h ac wo; intro ac wo h
      refine st h 1 (cQ (⟨(ra_quotient (ig_Negate num) (ig_Gcd (ig_Negate num) (ig_Negate den))), (ra_quotient (ig_Negate den) (ig_Gcd (ig_Negate num) (ig_Negate den)))⟩ : GQ)) rfl Tryz.sizeOf40 rfl rfl rfl rfl rfl rfl rfl ?_; clear h ac wo; intro ac wo h
      refine w_nil ?_
      refine hK9 _ _ ?_
      refine c_ret ?_
      have hd : ra_canonical num den = (⟨(ra_quotient (ig_Negate num) (ig_Gcd (ig_Negate num) (ig_Negate den))), (ra_quotient (ig_Negate den) (ig_Gcd (ig_Negate num) (ig_Negate den)))⟩ : GQ) := (Eq.trans (cT hc1) (cF hc2))
      exact ret (rs := [.cell 4 40]) h rfl (.cell (v := (vQ (⟨(ra_quotient (ig_Negate num) (ig_Gcd (ig_Negate num) (ig_Negate den))), (ra_quotient (ig_Negate den) (ig_Gcd (ig_Negate num) (ig_Negate den)))⟩ : GQ))) rfl (i := 1) rfl Tryz.isAgg40 Tryz.sizeOf40 rfl rfl rfl .nil) rfl (h.retP (by rw [hd] <;> rfl) (by rw [hd]; exact ⟨s6, s7⟩))
  · skip
    have hd1 := of_decide_eq_false hc1
    refine c_skip ?_
    refine hK2 _ _ ?_
    refine c_rs fun K10 hK10 => ?_
    refine rd1 h 2 rfl (r_ld Tryz.isAgg38 Tryz.sizeOf38 rfl rfl rfl (v := (vI num)) rfl) rfl ?_; clear h ac wo; intro ac wo h
    refine rd1 h 1 rfl (r_ld Tryz.isAgg38 Tryz.sizeOf38 rfl rfl rfl (v := (vI den)) rfl) rfl ?_; clear h ac wo; intro ac wo h
    have s9 := Calls_pr ((ig_Gcd_ct num den (k + 1) (by omega) znum zden) w0)
    refine clp h Tryz.call165 (vs := [(vI num), (vI den)]) rfl (ig_Gcd_ct num den (k + 1) (by omega) znum zden) rfl ?_; clear h ac wo; intro ac wo h
    refine al h (cI (⟨false, 0⟩ : GI)) Tryz.zeroValue38 rfl rfl ?_; clear h ac wo; intro b5 ac wo h
    refine st h 0 (cI (ig_Gcd num den)) rfl Tryz.sizeOf38 rfl rfl rfl rfl rfl rfl rfl ?_; clear h ac wo; intro ac wo h
    refine w_nil ?_
    refine hK10 _ _ ?_
    refine c_seq fun K11 hK11 => ?_
    have s10 := Calls_pr ((ra_quotient_ct num (ig_Gcd num den) k (by omega) znum s9) w0)
    have s11 := Calls_pr ((ra_quotient_ct den (ig_Gcd num den) k (by omega) zden s9) w0)
    refine draws mixed [⟨.det (vI num), [3]⟩, ⟨.det (vI (ig_Gcd num den)), [0]⟩, ⟨.det (vI (ra_quotient num (ig_Gcd num den))), []⟩, ⟨.det (vI den), [2]⟩, ⟨.det (vI (ig_Gcd num den)), [0]⟩, ⟨.det (vI (ra_quotient den (ig_Gcd num den))), []⟩, ⟨.det undef, [3]⟩, ⟨.det undef, [2]⟩] [⟨.blk b5 (cI (ig_Gcd num den)) 38, []⟩, ⟨.blk b3 (cQ (⟨(⟨false, 0⟩ : GI), (⟨false, 0⟩ : GI)⟩ : GQ)) 40, []⟩, ⟨.blk b2 (cI den) 38, [(7, .con (.blk b2 (cI (ra_quotient den (ig_Gcd num den))) 38))]⟩, ⟨.blk b1 (cI num) 38, [(6, .con (.blk b1 (cI (ra_quotient num (ig_Gcd num den))) 38))]⟩] h rfl (by kernel_rfl) ⟨?_, ?_, ?_, ?_, ?_, ?_, ?_, ?_, trivial⟩ ?_
    · intro ξ hφ; exact ob_r [.blk b1 (cI num) 38] rfl rfl (r_ld Tryz.isAgg38 Tryz.sizeOf38 rfl rfl rfl (v := (vI num)) rfl)
    · intro ξ hφ; exact ob_r [.blk b5 (cI (ig_Gcd num den)) 38] rfl rfl (r_ld Tryz.isAgg38 Tryz.sizeOf38 rfl rfl rfl (v := (vI (ig_Gcd num den))) rfl)
    · intro ξ hφ; exact ob_s (s_clp Tryz.call188 (vs := [(vI num), (vI (ig_Gcd num den))]) rfl (ra_quotient_ct num (ig_Gcd num den) k (by omega) znum s9))
    · intro ξ hφ; exact ob_r [.blk b2 (cI den) 38] rfl rfl (r_ld Tryz.isAgg38 Tryz.sizeOf38 rfl rfl rfl (v := (vI den)) rfl)
    · intro ξ hφ; exact ob_r [.blk b5 (cI (ig_Gcd num den)) 38] rfl rfl (r_ld Tryz.isAgg38 Tryz.sizeOf38 rfl rfl rfl (v := (vI (ig_Gcd num den))) rfl)
    · intro ξ hφ; exact ob_s (s_clp Tryz.call188 (vs := [(vI den), (vI (ig_Gcd num den))]) rfl (ra_quotient_ct den (ig_Gcd num den) k (by omega) zden s9))
    · intro ξ hφ; exact ob_u [.blk b1 (cI num) 38] [.blk b1 (cI (ra_quotient num (ig_Gcd num den))) 38] rfl rfl (s_st Tryz.sizeOf38 rfl rfl rfl rfl rfl rfl rfl)
    · intro ξ hφ; exact ob_u [.blk b2 (cI den) 38] [.blk b2 (cI (ra_quotient den (ig_Gcd num den))) 38] rfl rfl (s_st Tryz.sizeOf38 rfl rfl rfl rfl rfl rfl rfl)
    clear h ac wo; intro ξ ac wo hφ h
    replace h : St w0 29 [(2, (ptr b1 0)), (3, (ptr b2 0)), (4, (ptr b3 0))] [.blk b5 (cI (ig_Gcd num den)) 38, .blk b3 (cQ (⟨(⟨false, 0⟩ : GI), (⟨false, 0⟩ : GI)⟩ : GQ)) 40, .blk b2 (cI (ra_quotient den (ig_Gcd num den))) 38, .blk b1 (cI (ra_quotient num (ig_Gcd num den))) 38] ac wo := h.sub ⟨rfl, rfl, rfl, trivial⟩
    clear hφ ξ
    refine hK11 _ _ ?_
    refine c_seq fun K12 hK12 => ?_
    refine c_seq fun K13 hK13 => ?_
    have s12 := Calls_pr ((ra_one_ct  (k + 1) (by omega) ) w0)
    refine draws mixed [⟨.det (vI (ra_quotient den (ig_Gcd num den))), [2]⟩, ⟨.det (vI ra_one), []⟩, ⟨.det (.bool (decide ((ra_quotient den (ig_Gcd num den)) = ra_one))), []⟩] [⟨.blk b5 (cI (ig_Gcd num den)) 38, []⟩, ⟨.blk b3 (cQ (⟨(⟨false, 0⟩ : GI), (⟨false, 0⟩ : GI)⟩ : GQ)) 40, []⟩, ⟨.blk b2 (cI (ra_quotient den (ig_Gcd num den))) 38, []⟩, ⟨.blk b1 (cI (ra_quotient num (ig_Gcd num den))) 38, []⟩] h rfl (by kernel_rfl) ⟨?_, ?_, ?_, trivial⟩ ?_
    · intro ξ hφ; exact ob_r [.blk b2 (cI (ra_quotient den (ig_Gcd num den))) 38] rfl rfl (r_ld Tryz.isAgg38 Tryz.sizeOf38 rfl rfl rfl (v := (vI (ra_quotient den (ig_Gcd num den)))) rfl)
    · intro ξ hφ; exact ob_s (s_clp Tryz.call164 (vs := []) rfl (ra_one_ct  (k + 1) (by omega) ))
    · intro ξ hφ; exact ob_r0 (r_eqlT eqp38 rfl rfl (b := (ra_quotient den (ig_Gcd num den))) (c := ra_one))
    clear h ac wo; intro ξ ac wo hφ h
    replace h : St w0 29 [(2, (ptr b1 0)), (3, (ptr b2 0)), (4, (ptr b3 0)), (24, (.bool (decide ((ra_quotient den (ig_Gcd num den)) = ra_one))))] [.blk b5 (cI (ig_Gcd num den)) 38, .blk b3 (cQ (⟨(⟨false, 0⟩ : GI), (⟨false, 0⟩ : GI)⟩ : GQ)) 40, .blk b2 (cI (ra_quotient den (ig_Gcd num den))) 38, .blk b1 (cI (ra_quotient num (ig_Gcd num den))) 38] ac wo := h.sub ⟨rfl, rfl, rfl, rfl, trivial⟩
    clear hφ ξ
    refine hK13 _ _ ?_
    refine c_if (b := (decide ((ra_quotient den (ig_Gcd num den)) = ra_one))) h rfl (fun hc3 => ?_) (fun hc3 => ?_)
    · skip
      have hd3 := of_decide_eq_true hc3
      refine c_r ?_
      refine rd0 h (r_build (parts := []) (vs := []) bld38 rfl rfl (v := (vI (⟨false, 0⟩ : GI))) rfl) rfl ?_; clear h ac wo; intro ac wo h
      refine st h 2 (cI (⟨false, 0⟩ : GI)) rfl Tryz.sizeOf38 rfl rfl rfl rfl rfl rfl rfl ?_; clear h ac wo; intro ac wo h
      refine w_nil ?_
      refine hK12 _ _ ?_
      refine c_rs fun K14 hK14 => ?_
      refine rd1 h 3 rfl (r_ld Tryz.isAgg38 Tryz.sizeOf38 rfl rfl rfl (v := (vI (ra_quotient num (ig_Gcd num den)))) rfl) rfl ?_; clear h ac wo; intro ac wo h
      refine rd1 h 2 rfl (r_ld Tryz.isAgg38 Tryz.sizeOf38 rfl rfl rfl (v := (vI (⟨false, 0⟩ : GI))) rfl) rfl ?_; clear h ac wo; intro ac wo h
      refine rd0 h (r_build (parts := [(0, .tmp 26), (1, .tmp 27)]) (vs := [(vI (ra_quotient num (ig_Gcd num den))), (vI (⟨false, 0⟩ : GI))]) bld40 rfl rfl (v := (vQ (⟨(ra_quotient num (ig_Gcd num den)), (⟨false, 0⟩ : GI)⟩ : GQ))) rfl) rfl ?_; clear h ac wo; intro ac wo h
      refine st h 1 (cQ (⟨(ra_quotient num (ig_Gcd num den)), (⟨false, 0⟩ : GI)⟩ : GQ)) rfl Tryz.sizeOf40 rfl rfl rfl rfl rfl rfl rfl ?_; clear h ac wo; intro ac wo h
      refine w_nil ?_
      refine hK14 _ _ ?_
      refine c_ret ?_
      have hd : ra_canonical num den = (⟨(ra_quotient num (ig_Gcd num den)), (⟨false, 0⟩ : GI)⟩ : GQ) := (Eq.trans (cF hc1) (cT hc3))
      exact ret (rs := [.cell 4 40]) h rfl (.cell (v := (vQ (⟨(ra_quotient num (ig_Gcd num den)), (⟨false, 0⟩ : GI)⟩ : GQ))) rfl (i := 1) rfl Tryz.isAgg40 Tryz.sizeOf40 rfl rfl rfl .nil) rfl (h.retP (by rw [hd] <;> rfl) (by rw [hd]; exact ⟨s10, (SzB_lit 0 (by decide) (by omega))⟩))
    · skip
      have hd3 := of_decide_eq_false hc3
      refine c_skip ?_
      refine hK12 _ _ ?_
      refine c_rs fun K15 hK15 => ?_
      refine rd1 h 3 rfl (r_ld Tryz.isAgg38 Tryz.sizeOf38 rfl rfl rfl (v := (vI (ra_quotient num (ig_Gcd num den)))) rfl) rfl ?_; clear h ac wo; intro ac wo h
      refine rd1 h 2 rfl (r_ld Tryz.isAgg38 Tryz.sizeOf38 rfl rfl rfl (v := (vI (ra_quotient den (ig_Gcd num den)))) rfl) rfl ?_; clear h ac wo; intro ac wo h
      refine rd0 h (r_build (parts := [(0, .tmp 26), (1, .tmp 27)]) (vs := [(vI (ra_quotient num (ig_Gcd num den))), (vI (ra_quotient den (ig_Gcd num den)))]) bld40 rfl rfl (v := (vQ (⟨(ra_quotient num (ig_Gcd num den)), (ra_quotient den (ig_Gcd num den))⟩ : GQ))) rfl) rfl ?_; clear h ac wo; intro ac wo h
      refine st h 1 (cQ (⟨(ra_quotient num (ig_Gcd num den)), (ra_quotient den (ig_Gcd num den))⟩ : GQ)) rfl Tryz.sizeOf40 rfl rfl rfl rfl rfl rfl rfl ?_; clear h ac wo; intro ac wo h
      refine w_nil ?_
      refine hK15 _ _ ?_
      refine c_ret ?_
      have hd : ra_canonical num den = (⟨(ra_quotient num (ig_Gcd num den)), (ra_quotient den (ig_Gcd num den))⟩ : GQ) := (Eq.trans (cF hc1) (cF hc3))
      exact ret (rs := [.cell 4 40]) h rfl (.cell (v := (vQ (⟨(ra_quotient num (ig_Gcd num den)), (ra_quotient den (ig_Gcd num den))⟩ : GQ))) rfl (i := 1) rfl Tryz.isAgg40 Tryz.sizeOf40 rfl rfl rfl .nil) rfl (h.retP (by rw [hd] <;> rfl) (by rw [hd]; exact ⟨s10, s11⟩))
def ra_cross (a : GQ) (b : GQ) : GI × GI × GI :=
  bif (decide (a.den = b.den)) then
    (a.num, b.num, (ra_Den a))
  else
    ((ig_Mul a.num (ra_Den b)), (ig_Mul b.num (ra_Den a)), (ig_Mul (ra_Den a) (ra_Den b)))
theorem ra_cross_ct (a : GQ) (b : GQ) (k : Nat) (hk : (k + 1) ≤ 40) (za : SzQ (k + 1) a) (zb : SzQ (k + 1) b) (w0 : World) : Calls Tryz.prog 160 #[(vQ a), (vQ b)] w0 (RetP w0 (.tuple #[(vI ((ra_cross a b).1)), (vI ((ra_cross a b).2.1)), (vI ((ra_cross a b).2.2))]) (SzI k ((ra_cross a b).1) ∧ SzI k ((ra_cross a b).2.1) ∧ SzI k ((ra_cross a b).2.2))) := by
  refine enter (N := 33) (args := [(vQ a), (vQ b)]) Tryz.func160 rfl rfl ?_; intro ac h
  refine c_rs fun K1 hK1 => ?_
  refine bx h (cQ a) rfl rfl rfl ?_; clear h ac; intro b1 ac wo h
  refine bx h (cQ b) rfl rfl rfl ?_; clear h ac wo; intro b2 ac wo h
  refine al h (cI (⟨false, 0⟩ : GI)) Tryz.zeroValue38 rfl rfl ?_; clear h ac wo; intro b3 ac wo h
  refine al h (cI (⟨false, 0⟩ : GI)) Tryz.zeroValue38 rfl rfl ?_; clear h ac wo; intro b4 ac wo h
  refine al h (cI (⟨false, 0⟩ : GI)) Tryz.zeroValue38 rfl rfl ?_; clear h ac wo; intro b5 ac wo h
  refine w_nil ?_
  refine hK1 _ _ ?_
  refine c_seq fun K2 hK2 => ?_
  refine c_rs fun K3 hK3 => ?_
  refine rd0 h (r_fa Tryz.runUnderlying40 rfl Tryz.sizeOf38 (by decide) rfl rfl (k' := 2)) rfl ?_; clear h ac wo; intro ac wo h
  refine rd1 h 4 rfl (r_ld Tryz.isAgg38 Tryz.sizeOf38 rfl rfl rfl (v := (vI a.den)) rfl) rfl ?_; clear h ac wo; intro ac wo h
  refine rd0 h (r_fa Tryz.runUnderlying40 rfl Tryz.sizeOf38 (by decide) rfl rfl (k' := 2)) rfl ?_; clear h ac wo; intro ac wo h
  refine rd1 h 3 rfl (r_ld Tryz.isAgg38 Tryz.sizeOf38 rfl rfl rfl (v := (vI b.den)) rfl) rfl ?_; clear h ac wo; intro ac wo h
  refine rd0 h (r_eqlT eqp38 rfl rfl (b := a.den) (c := b.den)) rfl ?_; clear h ac wo; intro ac wo h
  refine w_nil ?_
  refine hK3 _ _ ?_
  refine c_if (b := (decide (a.den = b.den))) h rfl (fun hc1 => ?_) (fun hc1 => ?_)
  · skip
    have hd1 := of_decide_eq_true hc1
    refine c_seq fun K4 hK4 => ?_
    have s1 := Calls_pr ((ra_Den_ct a (k + 1) (by omega) za) w0)
    refine draws mixed [⟨.det (ptr b1 0), []⟩, ⟨.det (vI a.num), [4]⟩, ⟨.det (ptr b2 0), []⟩, ⟨.det (vI b.num), [3]⟩, ⟨.det (vQ a), [4]⟩, ⟨.det (vI (ra_Den a)), []⟩, ⟨.det undef, [2]⟩, ⟨.det undef, [1]⟩, ⟨.det undef, [0]⟩] [⟨.blk b5 (cI (⟨false, 0⟩ : GI)) 38, [(8, .con (.blk b5 (cI (ra_Den a)) 38))]⟩, ⟨.blk b4 (cI (⟨false, 0⟩ : GI)) 38, [(7, .con (.blk b4 (cI b.num) 38))]⟩, ⟨.blk b3 (cI (⟨false, 0⟩ : GI)) 38, [(6, .con (.blk b3 (cI a.num) 38))]⟩, ⟨.blk b2 (cQ b) 40, []⟩, ⟨.blk b1 (cQ a) 40, []⟩] h rfl (by kernel_rfl) ⟨?_, ?_, ?_, ?_, ?_, ?_, ?_, ?_, ?_, trivial⟩ ?_
    · intro ξ hφ; exact ob_r0 (r_fa Tryz.runUnderlying40 rfl Tryz.sizeOf38 (by decide) rfl rfl (k' := 0))
    · intro ξ hφ; exact ob_r [.blk b1 (cQ a) 40] rfl rfl (r_ld Tryz.isAgg38 Tryz.sizeOf38 rfl rfl rfl (v := (vI a.num)) rfl)
    · intro ξ hφ; exact ob_r0 (r_fa Tryz.runUnderlying40 rfl Tryz.sizeOf38 (by decide) rfl rfl (k' := 0))
    · intro ξ hφ; exact ob_r [.blk b2 (cQ b) 40] rfl rfl (r_ld Tryz.isAgg38 Tryz.sizeOf38 rfl rfl rfl (v := (vI b.num)) rfl)
    · intro ξ hφ; exact ob_r [.blk b1 (cQ a) 40] rfl rfl (r_ld Tryz.isAgg40 Tryz.sizeOf40 rfl rfl rfl (v := (vQ a)) rfl)
    · intro ξ hφ; exact ob_s (s_clp Tryz.call159 (vs := [(vQ a)]) rfl (ra_Den_ct a (k + 1) (by omega) za))
    · intro ξ hφ; exact ob_u [.blk b3 (cI (⟨false, 0⟩ : GI)) 38] [.blk b3 (cI a.num) 38] rfl rfl (s_st Tryz.sizeOf38 rfl rfl rfl rfl rfl rfl rfl)
    · intro ξ hφ; exact ob_u [.blk b4 (cI (⟨false, 0⟩ : GI)) 38] [.blk b4 (cI b.num) 38] rfl rfl (s_st Tryz.sizeOf38 rfl rfl rfl rfl rfl rfl rfl)
    · intro ξ hφ; exact ob_u [.blk b5 (cI (⟨false, 0⟩ : GI)) 38] [.blk b5 (cI (ra_Den a)) 38] rfl rfl (s_st Tryz.sizeOf38 rfl rfl rfl rfl rfl rfl rfl)
    clear h ac wo; intro ξ ac wo hφ h
    replace h : St w0 33 [(4, (ptr b3 0)), (5, (ptr b4 0)), (6, (ptr b5 0))] [.blk b5 (cI (ra_Den a)) 38, .blk b4 (cI b.num) 38, .blk b3 (cI a.num) 38, .blk b2 (cQ b) 40, .blk b1 (cQ a) 40] ac wo := h.sub ⟨rfl, rfl, rfl, trivial⟩
    clear hφ ξ
    refine hK4 _ _ ?_
    refine c_ret ?_
    have hd : ra_cross a b = (a.num, b.num, (ra_Den a)) := (cT hc1)
    exact ret (rs := [.cell 4 38, .cell 5 38, .cell 6 38]) h rfl (.cell (v := (vI a.num)) rfl (i := 2) rfl Tryz.isAgg38 Tryz.sizeOf38 rfl rfl rfl (.cell (v := (vI b.num)) rfl (i := 1) rfl Tryz.isAgg38 Tryz.sizeOf38 rfl rfl rfl (.cell (v := (vI (ra_Den a))) rfl (i := 0) rfl Tryz.isAgg38 Tryz.sizeOf38 rfl rfl rfl .nil))) rfl (h.retP (by rw [hd] <;> rfl) (by rw [hd]; exact ⟨(SzQ_le za (by omega)).1, (SzQ_le zb (by omega)).1, (SzI_le s1 (by omega))⟩))
  · skip
    have hd1 := of_decide_eq_false hc1
    refine c_skip ?_
    refine hK2 _ _ ?_
    refine c_seq fun K5 hK5 => ?_
    have s2 := Calls_pr ((ra_Den_ct b (k + 1) (by omega) zb) w0)
    have s3 := Calls_pr ((ig_Mul_ct a.num (ra_Den b) k (by omega) za.1 s2) w0)
    have s4 := Calls_pr ((ra_Den_ct a (k + 1) (by omega) za) w0)
    have s5 := Calls_pr ((ig_Mul_ct b.num (ra_Den a) k (by omega) zb.1 s4) w0)
    have s6 := Calls_pr ((ra_Den_ct a (k + 1) (by omega) za) w0)
    have s7 := Calls_pr ((ra_Den_ct b (k + 1) (by omega) zb) w0)
    have s8 := Calls_pr ((ig_Mul_ct (ra_Den a) (ra_Den b) k (by omega) s6 s7) w0)
    refine draws mixed [⟨.det (ptr b1 0), []⟩, ⟨.det (vI a.num), [4]⟩, ⟨.det (vQ b), [3]⟩, ⟨.det (vI (ra_Den b)), []⟩, ⟨.det (vI (ig_Mul a.num (ra_Den b))), []⟩, ⟨.det (ptr b2 0), []⟩, ⟨.det (vI b.num), [3]⟩, ⟨.det (vQ a), [4]⟩, ⟨.det (vI (ra_Den a)), []⟩, ⟨.det (vI (ig_Mul b.num (ra_Den a))), []⟩, ⟨.det (vQ a), [4]⟩, ⟨.det (vI (ra_Den a)), []⟩, ⟨.det (vQ b), [3]⟩, ⟨.det (vI (ra_Den b)), []⟩, ⟨.det (vI (ig_Mul (ra_Den a) (ra_Den b))), []⟩, ⟨.det undef, [2]⟩, ⟨.det undef, [1]⟩, ⟨.det undef, [0]⟩] [⟨.blk b5 (cI (⟨false, 0⟩ : GI)) 38, [(17, .con (.blk b5 (cI (ig_Mul (ra_Den a) (ra_Den b))) 38))]⟩, ⟨.blk b4 (cI (⟨false, 0⟩ : GI)) 38, [(16, .con (.blk b4 (cI (ig_Mul b.num (ra_Den a))) 38))]⟩, ⟨.blk b3 (cI (⟨false, 0⟩ : GI)) 38, [(15, .con (.blk b3 (cI (ig_Mul a.num (ra_Den b))) 38))]⟩, ⟨.blk b2 (cQ b) 40, []⟩, ⟨.blk b1 (cQ a) 40, []⟩] h rfl (by kernel_rfl) ⟨?_, ?_, ?_, ?_, ?_, ?_, ?_, ?_, ?_, ?_, ?_, ?_, ?_, ?_, ?_, ?_, ?_, ?_, trivial⟩ ?_
    · intro ξ hφ; exact ob_r0 (r_fa Tryz.runUnderlying40 rfl Tryz.sizeOf38 (by decide) rfl rfl (k' := 0))
    · intro ξ hφ; exact ob_r [.blk b1 (cQ a) 40] rfl rfl (r_ld Tryz.isAgg38 Tryz.sizeOf38 rfl rfl rfl (v := (vI a.num)) rfl)
    · intro ξ hφ; exact ob_r [.blk b2 (cQ b) 40] rfl rfl (r_ld Tryz.isAgg40 Tryz.sizeOf40 rfl rfl rfl (v := (vQ b)) rfl)
    · intro ξ hφ; exact ob_s (s_clp Tryz.call159 (vs := [(vQ b)]) rfl (ra_Den_ct b (k + 1) (by omega) zb))
    · intro ξ hφ; exact ob_s (s_clp Tryz.call158 (vs := [(vI a.num), (vI (ra_Den b))]) rfl (ig_Mul_ct a.num (ra_Den b) k (by omega) za.1 s2))
    · intro ξ hφ; exact ob_r0 (r_fa Tryz.runUnderlying40 rfl Tryz.sizeOf38 (by decide) rfl rfl (k' := 0))
    · intro ξ hφ; exact ob_r [.blk b2 (cQ b) 40] rfl rfl (r_ld Tryz.isAgg38 Tryz.sizeOf38 rfl rfl rfl (v := (vI b.num)) rfl)
    · intro ξ hφ; exact ob_r [.blk b1 (cQ a) 40] rfl rfl (r_ld Tryz.isAgg40 Tryz.sizeOf40 rfl rfl rfl (v := (vQ a)) rfl)
    · intro ξ hφ; exact ob_s (s_clp Tryz.call159 (vs := [(vQ a)]) rfl (ra_Den_ct a (k + 1) (by omega) za))
    · intro ξ hφ; exact ob_s (s_clp Tryz.call158 (vs := [(vI b.num), (vI (ra_Den a))]) rfl (ig_Mul_ct b.num (ra_Den a) k (by omega) zb.1 s4))
    · intro ξ hφ; exact ob_r [.blk b1 (cQ a) 40] rfl rfl (r_ld Tryz.isAgg40 Tryz.sizeOf40 rfl rfl rfl (v := (vQ a)) rfl)
    · intro ξ hφ; exact ob_s (s_clp Tryz.call159 (vs := [(vQ a)]) rfl (ra_Den_ct a (k + 1) (by omega) za))
    · intro ξ hφ; exact ob_r [.blk b2 (cQ b) 40] rfl rfl (r_ld Tryz.isAgg40 Tryz.sizeOf40 rfl rfl rfl (v := (vQ b)) rfl)
    · intro ξ hφ; exact ob_s (s_clp Tryz.call159 (vs := [(vQ b)]) rfl (ra_Den_ct b (k + 1) (by omega) zb))
    · intro ξ hφ; exact ob_s (s_clp Tryz.call158 (vs := [(vI (ra_Den a)), (vI (ra_Den b))]) rfl (ig_Mul_ct (ra_Den a) (ra_Den b) k (by omega) s6 s7))
    · intro ξ hφ; exact ob_u [.blk b3 (cI (⟨false, 0⟩ : GI)) 38] [.blk b3 (cI (ig_Mul a.num (ra_Den b))) 38] rfl rfl (s_st Tryz.sizeOf38 rfl rfl rfl rfl rfl rfl rfl)
    · intro ξ hφ; exact ob_u [.blk b4 (cI (⟨false, 0⟩ : GI)) 38] [.blk b4 (cI (ig_Mul b.num (ra_Den a))) 38] rfl rfl (s_st Tryz.sizeOf38 rfl rfl rfl rfl rfl rfl rfl)
    · intro ξ hφ; exact ob_u [.blk b5 (cI (⟨false, 0⟩ : GI)) 38] [.blk b5 (cI (ig_Mul (ra_Den a) (ra_Den b))) 38] rfl rfl (s_st Tryz.sizeOf38 rfl rfl rfl rfl rfl rfl rfl)
    clear h ac wo; intro ξ ac wo hφ h
    replace h : St w0 33 [(4, (ptr b3 0)), (5, (ptr b4 0)), (6, (ptr b5 0))] [.blk b5 (cI (ig_Mul (ra_Den a) (ra_Den b))) 38, .blk b4 (cI (ig_Mul b.num (ra_Den a))) 38, .blk b3 (cI (ig_Mul a.num (ra_Den b))) 38, .blk b2 (cQ b) 40, .blk b1 (cQ a) 40] ac wo := h.sub ⟨rfl, rfl, rfl, trivial⟩
    clear hφ ξ
    refine hK5 _ _ ?_
    refine c_ret ?_
    have hd : ra_cross a b = ((ig_Mul a.num (ra_Den b)), (ig_Mul b.num (ra_Den a)), (ig_Mul (ra_Den a) (ra_Den b))) := (cF hc1)
    exact ret (rs := [.cell 4 38, .cell 5 38, .cell 6 38]) h rfl (.cell (v := (vI (ig_Mul a.num (ra_Den b)))) rfl (i := 2) rfl Tryz.isAgg38 Tryz.sizeOf38 rfl rfl rfl (.cell (v := (vI (ig_Mul b.num (ra_Den a)))) rfl (i := 1) rfl Tryz.isAgg38 Tryz.sizeOf38 rfl rfl rfl (.cell (v := (vI (ig_Mul (ra_Den a) (ra_Den b)))) rfl (i := 0) rfl Tryz.isAgg38 Tryz.sizeOf38 rfl rfl rfl .nil))) rfl (h.retP (by rw [hd] <;> rfl) (by rw [hd]; exact ⟨s3, s5, s8⟩))
def ra_Add (a : GQ) (b : GQ) : GQ :=
  (ra_canonical (ig_Add ((ra_cross a b).1) ((ra_cross a b).2.1)) ((ra_cross a b).2.2))
theorem ra_Add_ct (a : GQ) (b : GQ) (k : Nat) (hk : (k + 3) ≤ 40) (za : SzQ (k + 3) a) (zb : SzQ (k + 3) b) (w0 : World) : Calls Tryz.prog 102 #[(vQ a), (vQ b)] w0 (RetP w0 (vQ (ra_Add a b)) (SzQ k (ra_Add a b))) := by
  refine enter (N := 20) (args := [(vQ a), (vQ b)]) Tryz.func102 rfl rfl ?_; intro ac h
  refine c_rs fun K1 hK1 => ?_
  refine bx h (cQ a) rfl rfl rfl ?_; clear h ac; intro b1 ac wo h
  refine bx h (cQ b) rfl rfl rfl ?_; clear h ac wo; intro b2 ac wo h
  refine al h (cQ (⟨(⟨false, 0⟩ : GI), (⟨false, 0⟩ : GI)⟩ : GQ)) Tryz.zeroValue40 rfl rfl ?_; clear h ac wo; intro b3 ac wo h
  refine w_nil ?_
  refine hK1 _ _ ?_
  refine c_rs fun K2 hK2 => ?_
  refine rd1 h 2 rfl (r_ld Tryz.isAgg40 Tryz.sizeOf40 rfl rfl rfl (v := (vQ a)) rfl) rfl ?_; clear h ac wo; intro ac wo h
  refine rd1 h 1 rfl (r_ld Tryz.isAgg40 Tryz.sizeOf40 rfl rfl rfl (v := (vQ b)) rfl) rfl ?_; clear h ac wo; intro ac wo h
  have s1 := Calls_pr ((ra_cross_ct a b (k + 2) (by omega) za zb) w0)
  refine clp h Tryz.call160 (vs := [(vQ a), (vQ b)]) rfl (ra_cross_ct a b (k + 2) (by omega) za zb) rfl ?_; clear h ac wo; intro ac wo h
  refine rd0 h (r_move rfl) rfl ?_; clear h ac wo; intro ac wo h
  refine rd0 h (r_extract (vs := [(vI ((ra_cross a b).1)), (vI ((ra_cross a b).2.1)), (vI ((ra_cross a b).2.2))]) rfl rfl) rfl ?_; clear h ac wo; intro ac wo h
  refine rd0 h (r_extract (vs := [(vI ((ra_cross a b).1)), (vI ((ra_cross a b).2.1)), (vI ((ra_cross a b).2.2))]) rfl rfl) rfl ?_; clear h ac wo; intro ac wo h
  refine rd0 h (r_extract (vs := [(vI ((ra_cross a b).1)), (vI ((ra_cross a b).2.1)), (vI ((ra_cross a b).2.2))]) rfl rfl) rfl ?_; clear h ac wo; intro ac wo h
  refine al h (cI (⟨false, 0⟩ : GI)) Tryz.zeroValue38 rfl rfl ?_; clear h ac wo; intro b4 ac wo h
  refine al h (cI (⟨false, 0⟩ : GI)) Tryz.zeroValue38 rfl rfl ?_; clear h ac wo; intro b5 ac wo h
  refine al h (cI (⟨false, 0⟩ : GI)) Tryz.zeroValue38 rfl rfl ?_; clear h ac wo; intro b6 ac wo h
  refine st h 2 (cI ((ra_cross a b).1)) rfl Tryz.sizeOf38 rfl rfl rfl rfl rfl rfl rfl ?_; clear h ac wo; intro ac wo h
  refine st h 1 (cI ((ra_cross a b).2.1)) rfl Tryz.sizeOf38 rfl rfl rfl rfl rfl rfl rfl ?_; clear h ac wo; intro ac wo h
  refine st h 0 (cI ((ra_cross a b).2.2)) rfl Tryz.sizeOf38 rfl rfl rfl rfl rfl rfl rfl ?_; clear h ac wo; intro ac wo h
  refine w_nil ?_
  refine hK2 _ _ ?_
  refine c_seq fun K3 hK3 => ?_
  have s2 := Calls_pr ((ig_Add_ct ((ra_cross a b).1) ((ra_cross a b).2.1) (k + 1) (by omega) s1.1 s1.2.1) w0)
  have s3 := Calls_pr ((ra_canonical_ct (ig_Add ((ra_cross a b).1) ((ra_cross a b).2.1)) ((ra_cross a b).2.2) k (by omega) s2 (SzI_le s1.2.2 (by omega))) w0)
  refine draws mixed [⟨.det (vI ((ra_cross a b).1)), [2]⟩, ⟨.det (vI ((ra_cross a b).2.1)), [1]⟩, ⟨.det (vI (ig_Add ((ra_cross a b).1) ((ra_cross a b).2.1))), []⟩, ⟨.det (vI ((ra_cross a b).2.2)), [0]⟩, ⟨.det (vQ (ra_canonical (ig_Add ((ra_cross a b).1) ((ra_cross a b).2.1)) ((ra_cross a b).2.2))), []⟩, ⟨.det undef, [3]⟩] [⟨.blk b6 (cI ((ra_cross a b).2.2)) 38, []⟩, ⟨.blk b5 (cI ((ra_cross a b).2.1)) 38, []⟩, ⟨.blk b4 (cI ((ra_cross a b).1)) 38, []⟩, ⟨.blk b3 (cQ (⟨(⟨false, 0⟩ : GI), (⟨false, 0⟩ : GI)⟩ : GQ)) 40, [(5, .con (.blk b3 (cQ (ra_canonical (ig_Add ((ra_cross a b).1) ((ra_cross a b).2.1)) ((ra_cross a b).2.2))) 40))]⟩, ⟨.blk b2 (cQ b) 40, []⟩, ⟨.blk b1 (cQ a) 40, []⟩] h rfl (by kernel_rfl) ⟨?_, ?_, ?_, ?_, ?_, ?_, trivial⟩ ?_
  · intro ξ hφ; exact ob_r [.blk b4 (cI ((ra_cross a b).1)) 38] rfl rfl (r_ld Tryz.isAgg38 Tryz.sizeOf38 rfl rfl rfl (v := (vI ((ra_cross a b).1))) rfl)
  · intro ξ hφ; exact ob_r [.blk b5 (cI ((ra_cross a b).2.1)) 38] rfl rfl (r_ld Tryz.isAgg38 Tryz.sizeOf38 rfl rfl rfl (v := (vI ((ra_cross a b).2.1))) rfl)
  · intro ξ hφ; exact ob_s (s_clp Tryz.call161 (vs := [(vI ((ra_cross a b).1)), (vI ((ra_cross a b).2.1))]) rfl (ig_Add_ct ((ra_cross a b).1) ((ra_cross a b).2.1) (k + 1) (by omega) s1.1 s1.2.1))
  · intro ξ hφ; exact ob_r [.blk b6 (cI ((ra_cross a b).2.2)) 38] rfl rfl (r_ld Tryz.isAgg38 Tryz.sizeOf38 rfl rfl rfl (v := (vI ((ra_cross a b).2.2))) rfl)
  · intro ξ hφ; exact ob_s (s_clp Tryz.call157 (vs := [(vI (ig_Add ((ra_cross a b).1) ((ra_cross a b).2.1))), (vI ((ra_cross a b).2.2))]) rfl (ra_canonical_ct (ig_Add ((ra_cross a b).1) ((ra_cross a b).2.1)) ((ra_cross a b).2.2) k (by omega) s2 (SzI_le s1.2.2 (by omega))))
  · intro ξ hφ; exact ob_u [.blk b3 (cQ (⟨(⟨false, 0⟩ : GI), (⟨false, 0⟩ : GI)⟩ : GQ)) 40] [.blk b3 (cQ (ra_canonical (ig_Add ((ra_cross a b).1) ((ra_cross a b).2.1)) ((ra_cross a b).2.2))) 40] rfl rfl (s_st Tryz.sizeOf40 rfl rfl rfl rfl rfl rfl rfl)
  clear h ac wo; intro ξ ac wo hφ h
  replace h : St w0 20 [(4, (ptr b3 0))] [.blk b6 (cI ((ra_cross a b).2.2)) 38, .blk b5 (cI ((ra_cross a b).2.1)) 38, .blk b4 (cI ((ra_cross a b).1)) 38, .blk b3 (cQ (ra_canonical (ig_Add ((ra_cross a b).1) ((ra_cross a b).2.1)) ((ra_cross a b).2.2))) 40, .blk b2 (cQ b) 40, .blk b1 (cQ a) 40] ac wo := h.sub ⟨rfl, trivial⟩
  clear hφ ξ
  refine hK3 _ _ ?_
  refine c_ret ?_
  have hd : ra_Add a b = (ra_canonical (ig_Add ((ra_cross a b).1) ((ra_cross a b).2.1)) ((ra_cross a b).2.2)) := rfl
  exact ret (rs := [.cell 4 40]) h rfl (.cell (v := (vQ (ra_canonical (ig_Add ((ra_cross a b).1) ((ra_cross a b).2.1)) ((ra_cross a b).2.2)))) rfl (i := 3) rfl Tryz.isAgg40 Tryz.sizeOf40 rfl rfl rfl .nil) rfl (h.retP (by rw [hd] <;> rfl) (by rw [hd]; exact s3))
def ra_Neg (a : GQ) : GQ :=
  (⟨(ig_Negate a.num), a.den⟩ : GQ)
theorem ra_Neg_ct (a : GQ) (k : Nat) (hk : k ≤ 40) (za : SzQ k a) (w0 : World) : Calls Tryz.prog 52 #[(vQ a)] w0 (RetP w0 (vQ (ra_Neg a)) (SzQ k (ra_Neg a))) := by
  refine enter (N := 9) (args := [(vQ a)]) Tryz.func52 rfl rfl ?_; intro ac h
  refine c_rs fun K1 hK1 => ?_
  refine bx h (cQ a) rfl rfl rfl ?_; clear h ac; intro b1 ac wo h
  refine al h (cQ (⟨(⟨false, 0⟩ : GI), (⟨false, 0⟩ : GI)⟩ : GQ)) Tryz.zeroValue40 rfl rfl ?_; clear h ac wo; intro b2 ac wo h
  refine w_nil ?_
  refine hK1 _ _ ?_
  refine c_seq fun K2 hK2 => ?_
  have s1 := Calls_pr ((ig_Negate_ct a.num k (by omega) za.1) w0)
  refine draws mixed [⟨.det (ptr b1 0), []⟩, ⟨.det (vI a.num), [1]⟩, ⟨.det (vI (ig_Negate a.num)), []⟩, ⟨.det (ptr b1 2), []⟩, ⟨.det (vI a.den), [1]⟩, ⟨.det (vQ (⟨(ig_Negate a.num), a.den⟩ : GQ)), []⟩, ⟨.det undef, [0]⟩] [⟨.blk b2 (cQ (⟨(⟨false, 0⟩ : GI), (⟨false, 0⟩ : GI)⟩ : GQ)) 40, [(6, .con (.blk b2 (cQ (⟨(ig_Negate a.num), a.den⟩ : GQ)) 40))]⟩, ⟨.blk b1 (cQ a) 40, []⟩] h rfl (by kernel_rfl) ⟨?_, ?_, ?_, ?_, ?_, ?_, ?_, trivial⟩ ?_
  · intro ξ hφ; exact ob_r0 (r_fa Tryz.runUnderlying40 rfl Tryz.sizeOf38 (by decide) rfl rfl (k' := 0))
  · intro ξ hφ; exact ob_r [.blk b1 (cQ a) 40] rfl rfl (r_ld Tryz.isAgg38 Tryz.sizeOf38 rfl rfl rfl (v := (vI a.num)) rfl)
  · intro ξ hφ; exact ob_s (s_clp Tryz.call118 (vs := [(vI a.num)]) rfl (ig_Negate_ct a.num k (by omega) za.1))
  · intro ξ hφ; exact ob_r0 (r_fa Tryz.runUnderlying40 rfl Tryz.sizeOf38 (by decide) rfl rfl (k' := 2))
  · intro ξ hφ; exact ob_r [.blk b1 (cQ a) 40] rfl rfl (r_ld Tryz.isAgg38 Tryz.sizeOf38 rfl rfl rfl (v := (vI a.den)) rfl)
  · intro ξ hφ; exact ob_r0 (r_build (parts := [(0, .tmp 5), (1, .tmp 7)]) (vs := [(vI (ig_Negate a.num)), (vI a.den)]) bld40 rfl rfl (v := (vQ (⟨(ig_Negate a.num), a.den⟩ : GQ))) rfl)
  · intro ξ hφ; exact ob_u [.blk b2 (cQ (⟨(⟨false, 0⟩ : GI), (⟨false, 0⟩ : GI)⟩ : GQ)) 40] [.blk b2 (cQ (⟨(ig_Negate a.num), a.den⟩ : GQ)) 40] rfl rfl (s_st Tryz.sizeOf40 rfl rfl rfl rfl rfl rfl rfl)
  clear h ac wo; intro ξ ac wo hφ h
  replace h : St w0 9 [(2, (ptr b2 0))] [.blk b2 (cQ (⟨(ig_Negate a.num), a.den⟩ : GQ)) 40, .blk b1 (cQ a) 40] ac wo := h.sub ⟨rfl, trivial⟩
  clear hφ ξ
  refine hK2 _ _ ?_
  refine c_ret ?_
  have hd : ra_Neg a = (⟨(ig_Negate a.num), a.den⟩ : GQ) := rfl
  exact ret (rs := [.cell 2 40]) h rfl (.cell (v := (vQ (⟨(ig_Negate a.num), a.den⟩ : GQ))) rfl (i := 0) rfl Tryz.isAgg40 Tryz.sizeOf40 rfl rfl rfl .nil) rfl (h.retP (by rw [hd] <;> rfl) (by rw [hd]; exact ⟨s1, za.2⟩))
def ra_Sub (a : GQ) (b : GQ) : GQ :=
  (ra_Add a (ra_Neg b))
theorem ra_Sub_ct (a : GQ) (b : GQ) (k : Nat) (hk : (k + 3) ≤ 40) (za : SzQ (k + 3) a) (zb : SzQ (k + 3) b) (w0 : World) : Calls Tryz.prog 100 #[(vQ a), (vQ b)] w0 (RetP w0 (vQ (ra_Sub a b)) (SzQ k (ra_Sub a b))) := by
  refine enter (N := 9) (args := [(vQ a), (vQ b)]) Tryz.func100 rfl rfl ?_; intro ac h
  refine c_rs fun K1 hK1 => ?_
  refine bx h (cQ a) rfl rfl rfl ?_; clear h ac; intro b1 ac wo h
  refine bx h (cQ b) rfl rfl rfl ?_; clear h ac wo; intro b2 ac wo h
  refine al h (cQ (⟨(⟨false, 0⟩ : GI), (⟨false, 0⟩ : GI)⟩ : GQ)) Tryz.zeroValue40 rfl rfl ?_; clear h ac wo; intro b3 ac wo h
  refine w_nil ?_
  refine hK1 _ _ ?_
  refine c_seq fun K2 hK2 => ?_
  have s1 := Calls_pr ((ra_Neg_ct b (k + 3) (by omega) zb) w0)
  have s2 := Calls_pr ((ra_Add_ct a (ra_Neg b) k (by omega) za s1) w0)
  refine draws mixed [⟨.det (vQ a), [2]⟩, ⟨.det (vQ b), [1]⟩, ⟨.det (vQ (ra_Neg b)), []⟩, ⟨.det (vQ (ra_Add a (ra_Neg b))), []⟩, ⟨.det undef, [0]⟩] [⟨.blk b3 (cQ (⟨(⟨false, 0⟩ : GI), (⟨false, 0⟩ : GI)⟩ : GQ)) 40, [(4, .con (.blk b3 (cQ (ra_Add a (ra_Neg b))) 40))]⟩, ⟨.blk b2 (cQ b) 40, []⟩, ⟨.blk b1 (cQ a) 40, []⟩] h rfl (by kernel_rfl) ⟨?_, ?_, ?_, ?_, ?_, trivial⟩ ?_
  · intro ξ hφ; exact ob_r [.blk b1 (cQ a) 40] rfl rfl (r_ld Tryz.isAgg40 Tryz.sizeOf40 rfl rfl rfl (v := (vQ a)) rfl)
  · intro ξ hφ; exact ob_r [.blk b2 (cQ b) 40] rfl rfl (r_ld Tryz.isAgg40 Tryz.sizeOf40 rfl rfl rfl (v := (vQ b)) rfl)
  · intro ξ hφ; exact ob_s (s_clp Tryz.call52 (vs := [(vQ b)]) rfl (ra_Neg_ct b (k + 3) (by omega) zb))
  · intro ξ hφ; exact ob_s (s_clp Tryz.call102 (vs := [(vQ a), (vQ (ra_Neg b))]) rfl (ra_Add_ct a (ra_Neg b) k (by omega) za s1))
  · intro ξ hφ; exact ob_u [.blk b3 (cQ (⟨(⟨false, 0⟩ : GI), (⟨false, 0⟩ : GI)⟩ : GQ)) 40] [.blk b3 (cQ (ra_Add a (ra_Neg b))) 40] rfl rfl (s_st Tryz.sizeOf40 rfl rfl rfl rfl rfl rfl rfl)
  clear h ac wo; intro ξ ac wo hφ h
  replace h : St w0 9 [(4, (ptr b3 0))] [.blk b3 (cQ (ra_Add a (ra_Neg b))) 40, .blk b2 (cQ b) 40, .blk b1 (cQ a) 40] ac wo := h.sub ⟨rfl, trivial⟩
  clear hφ ξ
  refine hK2 _ _ ?_
  refine c_ret ?_
  have hd : ra_Sub a b = (ra_Add a (ra_Neg b)) := rfl
  exact ret (rs := [.cell 4 40]) h rfl (.cell (v := (vQ (ra_Add a (ra_Neg b)))) rfl (i := 0) rfl Tryz.isAgg40 Tryz.sizeOf40 rfl rfl rfl .nil) rfl (h.retP (by rw [hd] <;> rfl) (by rw [hd]; exact s2))
def ra_Mul (a : GQ) (b : GQ) : GQ :=
  (ra_canonical (ig_Mul a.num b.num) (ig_Mul (ra_Den a) (ra_Den b)))
theorem ra_Mul_ct (a : GQ) (b : GQ) (k : Nat) (hk : (k + 2) ≤ 40) (za : SzQ (k + 2) a) (zb : SzQ (k + 2) b) (w0 : World) : Calls Tryz.prog 101 #[(vQ a), (vQ b)] w0 (RetP w0 (vQ (ra_Mul a b)) (SzQ k (ra_Mul a b))) := by
  refine enter (N := 16) (args := [(vQ a), (vQ b)]) Tryz.func101 rfl rfl ?_; intro ac h
  refine c_rs fun K1 hK1 => ?_
  refine bx h (cQ a) rfl rfl rfl ?_; clear h ac; intro b1 ac wo h
  refine bx h (cQ b) rfl rfl rfl ?_; clear h ac wo; intro b2 ac wo h
  refine al h (cQ (⟨(⟨false, 0⟩ : GI), (⟨false, 0⟩ : GI)⟩ : GQ)) Tryz.zeroValue40 rfl rfl ?_; clear h ac wo; intro b3 ac wo h
  refine w_nil ?_
  refine hK1 _ _ ?_
  refine c_seq fun K2 hK2 => ?_
  have s1 := Calls_pr ((ig_Mul_ct a.num b.num (k + 1) (by omega) za.1 zb.1) w0)
  have s2 := Calls_pr ((ra_Den_ct a (k + 2) (by omega) za) w0)
  have s3 := Calls_pr ((ra_Den_ct b (k + 2) (by omega) zb) w0)
  have s4 := Calls_pr ((ig_Mul_ct (ra_Den a) (ra_Den b) (k + 1) (by omega) s2 s3) w0)
  have s5 := Calls_pr ((ra_canonical_ct (ig_Mul a.num b.num) (ig_Mul (ra_Den a) (ra_Den b)) k (by omega) s1 s4) w0)
  refine draws mixed [⟨.det (ptr b1 0), []⟩, ⟨.det (vI a.num), [2]⟩, ⟨.det (ptr b2 0), []⟩, ⟨.det (vI b.num), [1]⟩, ⟨.det (vI (ig_Mul a.num b.num)), []⟩, ⟨.det (vQ a), [2]⟩, ⟨.det (vI (ra_Den a)), []⟩, ⟨.det (vQ b), [1]⟩, ⟨.det (vI (ra_Den b)), []⟩, ⟨.det (vI (ig_Mul (ra_Den a) (ra_Den b))), []⟩, ⟨.det (vQ (ra_canonical (ig_Mul a.num b.num) (ig_Mul (ra_Den a) (ra_Den b)))), []⟩, ⟨.det undef, [0]⟩] [⟨.blk b3 (cQ (⟨(⟨false, 0⟩ : GI), (⟨false, 0⟩ : GI)⟩ : GQ)) 40, [(11, .con (.blk b3 (cQ (ra_canonical (ig_Mul a.num b.num) (ig_Mul (ra_Den a) (ra_Den b)))) 40))]⟩, ⟨.blk b2 (cQ b) 40, []⟩, ⟨.blk b1 (cQ a) 40, []⟩] h rfl (by kernel_rfl) ⟨?_, ?_, ?_, ?_, ?_, ?_, ?_, ?_, ?_, ?_, ?_, ?_, trivial⟩ ?_
  · intro ξ hφ; exact ob_r0 (r_fa Tryz.runUnderlying40 rfl Tryz.sizeOf38 (by decide) rfl rfl (k' := 0))
  · intro ξ hφ; exact ob_r [.blk b1 (cQ a) 40] rfl rfl (r_ld Tryz.isAgg38 Tryz.sizeOf38 rfl rfl rfl (v := (vI a.num)) rfl)
  · intro ξ hφ; exact ob_r0 (r_fa Tryz.runUnderlying40 rfl Tryz.sizeOf38 (by decide) rfl rfl (k' := 0))
  · intro ξ hφ; exact ob_r [.blk b2 (cQ b) 40] rfl rfl (r_ld Tryz.isAgg38 Tryz.sizeOf38 rfl rfl rfl (v := (vI b.num)) rfl)
  · intro ξ hφ; exact ob_s (s_clp Tryz.call158 (vs := [(vI a.num), (vI b.num)]) rfl (ig_Mul_ct a.num b.num (k + 1) (by omega) za.1 zb.1))
  · intro ξ hφ; exact ob_r [.blk b1 (cQ a) 40] rfl rfl (r_ld Tryz.isAgg40 Tryz.sizeOf40 rfl rfl rfl (v := (vQ a)) rfl)
  · intro ξ hφ; exact ob_s (s_clp Tryz.call159 (vs := [(vQ a)]) rfl (ra_Den_ct a (k + 2) (by omega) za))
  · intro ξ hφ; exact ob_r [.blk b2 (cQ b) 40] rfl rfl (r_ld Tryz.isAgg40 Tryz.sizeOf40 rfl rfl rfl (v := (vQ b)) rfl)
  · intro ξ hφ; exact ob_s (s_clp Tryz.call159 (vs := [(vQ b)]) rfl (ra_Den_ct b (k + 2) (by omega) zb))
  · intro ξ hφ; exact ob_s (s_clp Tryz.call158 (vs := [(vI (ra_Den a)), (vI (ra_Den b))]) rfl (ig_Mul_ct (ra_Den a) (ra_Den b) (k + 1) (by omega) s2 s3))
  · intro ξ hφ; exact ob_s (s_clp Tryz.call157 (vs := [(vI (ig_Mul a.num b.num)), (vI (ig_Mul (ra_Den a) (ra_Den b)))]) rfl (ra_canonical_ct (ig_Mul a.num b.num) (ig_Mul (ra_Den a) (ra_Den b)) k (by omega) s1 s4))
  · intro ξ hφ; exact ob_u [.blk b3 (cQ (⟨(⟨false, 0⟩ : GI), (⟨false, 0⟩ : GI)⟩ : GQ)) 40] [.blk b3 (cQ (ra_canonical (ig_Mul a.num b.num) (ig_Mul (ra_Den a) (ra_Den b)))) 40] rfl rfl (s_st Tryz.sizeOf40 rfl rfl rfl rfl rfl rfl rfl)
  clear h ac wo; intro ξ ac wo hφ h
  replace h : St w0 16 [(4, (ptr b3 0))] [.blk b3 (cQ (ra_canonical (ig_Mul a.num b.num) (ig_Mul (ra_Den a) (ra_Den b)))) 40, .blk b2 (cQ b) 40, .blk b1 (cQ a) 40] ac wo := h.sub ⟨rfl, trivial⟩
  clear hφ ξ
  refine hK2 _ _ ?_
  refine c_ret ?_
  have hd : ra_Mul a b = (ra_canonical (ig_Mul a.num b.num) (ig_Mul (ra_Den a) (ra_Den b))) := rfl
  exact ret (rs := [.cell 4 40]) h rfl (.cell (v := (vQ (ra_canonical (ig_Mul a.num b.num) (ig_Mul (ra_Den a) (ra_Den b))))) rfl (i := 0) rfl Tryz.isAgg40 Tryz.sizeOf40 rfl rfl rfl .nil) rfl (h.retP (by rw [hd] <;> rfl) (by rw [hd]; exact s5))
def ra_Sign (a : GQ) : Int :=
  (ig_Sign a.num)
theorem ra_Sign_ct (a : GQ) (w0 : World) : Calls Tryz.prog 58 #[(vQ a)] w0 (RetP w0 (.int .i64 (ra_Sign a)) ((-1 ≤ (ra_Sign a) ∧ (ra_Sign a) ≤ 1))) := by
  refine enter (N := 6) (args := [(vQ a)]) Tryz.func58 rfl rfl ?_; intro ac h
  refine c_rs fun K1 hK1 => ?_
  refine bx h (cQ a) rfl rfl rfl ?_; clear h ac; intro b1 ac wo h
  refine rd0 h (r_assign rfl (v := (.int .i64 0))) rfl ?_; clear h ac wo; intro ac wo h
  refine w_nil ?_
  refine hK1 _ _ ?_
  refine c_rs fun K2 hK2 => ?_
  refine rd0 h (r_fa Tryz.runUnderlying40 rfl Tryz.sizeOf38 (by decide) rfl rfl (k' := 0)) rfl ?_; clear h ac wo; intro ac wo h
  refine rd1 h 0 rfl (r_ld Tryz.isAgg38 Tryz.sizeOf38 rfl rfl rfl (v := (vI a.num)) rfl) rfl ?_; clear h ac wo; intro ac wo h
  have p2 := Calls_pr ((ig_Sign_ct a.num) w0)
  refine clp h Tryz.call124 (vs := [(vI a.num)]) rfl (ig_Sign_ct a.num) rfl ?_; clear h ac wo; intro ac wo h
  refine rd0 h (r_assign rfl) rfl ?_; clear h ac wo; intro ac wo h
  refine w_nil ?_
  refine hK2 _ _ ?_
  refine c_ret ?_
  have hd : ra_Sign a = (ig_Sign a.num) := rfl
  exact ret (rs := [.tmp 2]) h rfl (.tmp rfl .nil) rfl (h.retP (by rw [hd] <;> rfl) (by rw [hd]; exact by first | omega | exact sgn_mul (by omega) (by omega)))
def ra_Compare (a : GQ) (b : GQ) : Int :=
  bif (decide (a = b)) then
    0
  else
    (ig_Compare ((ra_cross a b).1) ((ra_cross a b).2.1))
theorem ra_Compare_ct (a : GQ) (b : GQ) (k : Nat) (hk : (k + 1) ≤ 40) (za : SzQ (k + 1) a) (zb : SzQ (k + 1) b) (w0 : World) : Calls Tryz.prog 198 #[(vQ a), (vQ b)] w0 (RetP w0 (.int .i64 (ra_Compare a b)) ((-1 ≤ (ra_Compare a b) ∧ (ra_Compare a b) ≤ 1))) := by
  refine enter (N := 21) (args := [(vQ a), (vQ b)]) Tryz.func198 rfl rfl ?_; intro ac h
  refine c_rs fun K1 hK1 => ?_
  refine bx h (cQ a) rfl rfl rfl ?_; clear h ac; intro b1 ac wo h
  refine bx h (cQ b) rfl rfl rfl ?_; clear h ac wo; intro b2 ac wo h
  refine rd0 h (r_assign rfl (v := (.int .i64 0))) rfl ?_; clear h ac wo; intro ac wo h
  refine w_nil ?_
  refine hK1 _ _ ?_
  refine c_seq fun K2 hK2 => ?_
  refine c_rs fun K3 hK3 => ?_
  refine rd1 h 1 rfl (r_ld Tryz.isAgg40 Tryz.sizeOf40 rfl rfl rfl (v := (vQ a)) rfl) rfl ?_; clear h ac wo; intro ac wo h
  refine rd1 h 0 rfl (r_ld Tryz.isAgg40 Tryz.sizeOf40 rfl rfl rfl (v := (vQ b)) rfl) rfl ?_; clear h ac wo; intro ac wo h
  refine rd0 h (r_eqlT eqp40 rfl rfl (b := a) (c := b)) rfl ?_; clear h ac wo; intro ac wo h
  refine w_nil ?_
  refine hK3 _ _ ?_
  refine c_if (b := (decide (a = b))) h rfl (fun hc1 => ?_) (fun hc1 => ?_)
  · skip
    have hd1 := of_decide_eq_true hc1
    refine c_rs fun K4 hK4 => ?_
    refine rd0 h (r_assign rfl (v := (.int .i64 0))) rfl ?_; clear h ac wo; intro ac wo h
    refine w_nil ?_
    refine hK4 _ _ ?_
    refine c_ret ?_
    have hd : ra_Compare a b = 0 := (cT hc1)
    exact ret (rs := [.tmp 4]) h rfl (.tmp rfl .nil) rfl (h.retP (by rw [hd] <;> rfl) (by rw [hd]; exact by first | omega | exact sgn_mul (by omega) (by omega)))
  · skip
    have hd1 := of_decide_eq_false hc1
    refine c_skip ?_
    refine hK2 _ _ ?_
    refine c_rs fun K5 hK5 => ?_
    refine rd1 h 1 rfl (r_ld Tryz.isAgg40 Tryz.sizeOf40 rfl rfl rfl (v := (vQ a)) rfl) rfl ?_; clear h ac wo; intro ac wo h
    refine rd1 h 0 rfl (r_ld Tryz.isAgg40 Tryz.sizeOf40 rfl rfl rfl (v := (vQ b)) rfl) rfl ?_; clear h ac wo; intro ac wo h
    have s1 := Calls_pr ((ra_cross_ct a b k (by omega) za zb) w0)
    refine clp h Tryz.call160 (vs := [(vQ a), (vQ b)]) rfl (ra_cross_ct a b k (by omega) za zb) rfl ?_; clear h ac wo; intro ac wo h
    refine rd0 h (r_move rfl) rfl ?_; clear h ac wo; intro ac wo h
    refine rd0 h (r_extract (vs := [(vI ((ra_cross a b).1)), (vI ((ra_cross a b).2.1)), (vI ((ra_cross a b).2.2))]) rfl rfl) rfl ?_; clear h ac wo; intro ac wo h
    refine rd0 h (r_extract (vs := [(vI ((ra_cross a b).1)), (vI ((ra_cross a b).2.1)), (vI ((ra_cross a b).2.2))]) rfl rfl) rfl ?_; clear h ac wo; intro ac wo h
    refine rd0 h (r_extract (vs := [(vI ((ra_cross a b).1)), (vI ((ra_cross a b).2.1)), (vI ((ra_cross a b).2.2))]) rfl rfl) rfl ?_; clear h ac wo; intro ac wo h
    refine al h (cI (⟨false, 0⟩ : GI)) Tryz.zeroValue38 rfl rfl ?_; clear h ac wo; intro b3 ac wo h
    refine al h (cI (⟨false, 0⟩ : GI)) Tryz.zeroValue38 rfl rfl ?_; clear h ac wo; intro b4 ac wo h
    refine al h (cI (⟨false, 0⟩ : GI)) Tryz.zeroValue38 rfl rfl ?_; clear h ac wo; intro b5 ac wo h
    refine st h 2 (cI ((ra_cross a b).1)) rfl Tryz.sizeOf38 rfl rfl rfl rfl rfl rfl rfl ?_; clear h ac wo; intro ac wo h
    refine st h 1 (cI ((ra_cross a b).2.1)) rfl Tryz.sizeOf38 rfl rfl rfl rfl rfl rfl rfl ?_; clear h ac wo; intro ac wo h
    refine st h 0 (cI ((ra_cross a b).2.2)) rfl Tryz.sizeOf38 rfl rfl rfl rfl rfl rfl rfl ?_; clear h ac wo; intro ac wo h
    refine w_nil ?_
    refine hK5 _ _ ?_
    refine c_rs fun K6 hK6 => ?_
    refine rd1 h 2 rfl (r_ld Tryz.isAgg38 Tryz.sizeOf38 rfl rfl rfl (v := (vI ((ra_cross a b).1))) rfl) rfl ?_; clear h ac wo; intro ac wo h
    refine rd1 h 1 rfl (r_ld Tryz.isAgg38 Tryz.sizeOf38 rfl rfl rfl (v := (vI ((ra_cross a b).2.1))) rfl) rfl ?_; clear h ac wo; intro ac wo h
    have p3 := Calls_pr ((ig_Compare_ct ((ra_cross a b).1) ((ra_cross a b).2.1) k (by omega) s1.1 s1.2.1) w0)
    refine clp h Tryz.call163 (vs := [(vI ((ra_cross a b).1)), (vI ((ra_cross a b).2.1))]) rfl (ig_Compare_ct ((ra_cross a b).1) ((ra_cross a b).2.1) k (by omega) s1.1 s1.2.1) rfl ?_; clear h ac wo; intro ac wo h
    refine rd0 h (r_assign rfl) rfl ?_; clear h ac wo; intro ac wo h
    refine w_nil ?_
    refine hK6 _ _ ?_
    refine c_ret ?_
    have hd : ra_Compare a b = (ig_Compare ((ra_cross a b).1) ((ra_cross a b).2.1)) := (cF hc1)
    exact ret (rs := [.tmp 4]) h rfl (.tmp rfl .nil) rfl (h.retP (by rw [hd] <;> rfl) (by rw [hd]; exact by first | omega | exact sgn_mul (by omega) (by omega)))
def qu_Linear (c0 : GQ) (c1 : GQ) : Qd :=
  (⟨c0, c1, (⟨(⟨false, 0⟩ : GI), (⟨false, 0⟩ : GI)⟩ : GQ)⟩ : Qd)
theorem qu_Linear_ct (c0 : GQ) (c1 : GQ) (k : Nat) (hk : k ≤ 40) (zc0 : SzQ k c0) (zc1 : SzQ k c1) (w0 : World) : Calls Tryz.prog 31 #[(vQ c0), (vQ c1)] w0 (RetP w0 (vD (qu_Linear c0 c1)) (SzD k (qu_Linear c0 c1))) := by
  refine enter (N := 8) (args := [(vQ c0), (vQ c1)]) Tryz.func31 rfl rfl ?_; intro ac h
  refine c_rs fun K1 hK1 => ?_
  refine bx h (cQ c0) rfl rfl rfl ?_; clear h ac; intro b1 ac wo h
  refine bx h (cQ c1) rfl rfl rfl ?_; clear h ac wo; intro b2 ac wo h
  refine al h (cD (⟨(⟨(⟨false, 0⟩ : GI), (⟨false, 0⟩ : GI)⟩ : GQ), (⟨(⟨false, 0⟩ : GI), (⟨false, 0⟩ : GI)⟩ : GQ), (⟨(⟨false, 0⟩ : GI), (⟨false, 0⟩ : GI)⟩ : GQ)⟩ : Qd)) Tryz.zeroValue69 rfl rfl ?_; clear h ac wo; intro b3 ac wo h
  refine w_nil ?_
  refine hK1 _ _ ?_
  refine c_rs fun K2 hK2 => ?_
  refine rd1 h 2 rfl (r_ld Tryz.isAgg40 Tryz.sizeOf40 rfl rfl rfl (v := (vQ c0)) rfl) rfl ?_; clear h ac wo; intro ac wo h
  refine rd1 h 1 rfl (r_ld Tryz.isAgg40 Tryz.sizeOf40 rfl rfl rfl (v := (vQ c1)) rfl) rfl ?_; clear h ac wo; intro ac wo h
  refine rd0 h (r_build (parts := [(0, .tmp 5), (1, .tmp 6)]) (vs := [(vQ c0), (vQ c1)]) bld69 rfl rfl (v := (vD (⟨c0, c1, (⟨(⟨false, 0⟩ : GI), (⟨false, 0⟩ : GI)⟩ : GQ)⟩ : Qd))) rfl) rfl ?_; clear h ac wo; intro ac wo h
  refine st h 0 (cD (⟨c0, c1, (⟨(⟨false, 0⟩ : GI), (⟨false, 0⟩ : GI)⟩ : GQ)⟩ : Qd)) rfl Tryz.sizeOf69 rfl rfl rfl rfl rfl rfl rfl ?_; clear h ac wo; intro ac wo h
  refine w_nil ?_
  refine hK2 _ _ ?_
  refine c_ret ?_
  have hd : qu_Linear c0 c1 = (⟨c0, c1, (⟨(⟨false, 0⟩ : GI), (⟨false, 0⟩ : GI)⟩ : GQ)⟩ : Qd) := rfl
  exact ret (rs := [.cell 4 69]) h rfl (.cell (v := (vD (⟨c0, c1, (⟨(⟨false, 0⟩ : GI), (⟨false, 0⟩ : GI)⟩ : GQ)⟩ : Qd))) rfl (i := 0) rfl Tryz.isAgg69 Tryz.sizeOf69 rfl rfl rfl .nil) rfl (h.retP (by rw [hd] <;> rfl) (by rw [hd]; exact ⟨zc0, zc1, ⟨(SzB_lit 0 (by decide) (by omega)), (SzB_lit 0 (by decide) (by omega))⟩⟩))
def qu_Constant (c : GQ) : Qd :=
  (⟨c, (⟨(⟨false, 0⟩ : GI), (⟨false, 0⟩ : GI)⟩ : GQ), (⟨(⟨false, 0⟩ : GI), (⟨false, 0⟩ : GI)⟩ : GQ)⟩ : Qd)
theorem qu_Constant_ct (c : GQ) (k : Nat) (hk : k ≤ 40) (zc : SzQ k c) (w0 : World) : Calls Tryz.prog 79 #[(vQ c)] w0 (RetP w0 (vD (qu_Constant c)) (SzD k (qu_Constant c))) := by
  refine enter (N := 5) (args := [(vQ c)]) Tryz.func79 rfl rfl ?_; intro ac h
  refine c_rs fun K1 hK1 => ?_
  refine bx h (cQ c) rfl rfl rfl ?_; clear h ac; intro b1 ac wo h
  refine al h (cD (⟨(⟨(⟨false, 0⟩ : GI), (⟨false, 0⟩ : GI)⟩ : GQ), (⟨(⟨false, 0⟩ : GI), (⟨false, 0⟩ : GI)⟩ : GQ), (⟨(⟨false, 0⟩ : GI), (⟨false, 0⟩ : GI)⟩ : GQ)⟩ : Qd)) Tryz.zeroValue69 rfl rfl ?_; clear h ac wo; intro b2 ac wo h
  refine w_nil ?_
  refine hK1 _ _ ?_
  refine c_rs fun K2 hK2 => ?_
  refine rd1 h 1 rfl (r_ld Tryz.isAgg40 Tryz.sizeOf40 rfl rfl rfl (v := (vQ c)) rfl) rfl ?_; clear h ac wo; intro ac wo h
  refine rd0 h (r_build (parts := [(0, .tmp 3)]) (vs := [(vQ c)]) bld69 rfl rfl (v := (vD (⟨c, (⟨(⟨false, 0⟩ : GI), (⟨false, 0⟩ : GI)⟩ : GQ), (⟨(⟨false, 0⟩ : GI), (⟨false, 0⟩ : GI)⟩ : GQ)⟩ : Qd))) rfl) rfl ?_; clear h ac wo; intro ac wo h
  refine st h 0 (cD (⟨c, (⟨(⟨false, 0⟩ : GI), (⟨false, 0⟩ : GI)⟩ : GQ), (⟨(⟨false, 0⟩ : GI), (⟨false, 0⟩ : GI)⟩ : GQ)⟩ : Qd)) rfl Tryz.sizeOf69 rfl rfl rfl rfl rfl rfl rfl ?_; clear h ac wo; intro ac wo h
  refine w_nil ?_
  refine hK2 _ _ ?_
  refine c_ret ?_
  have hd : qu_Constant c = (⟨c, (⟨(⟨false, 0⟩ : GI), (⟨false, 0⟩ : GI)⟩ : GQ), (⟨(⟨false, 0⟩ : GI), (⟨false, 0⟩ : GI)⟩ : GQ)⟩ : Qd) := rfl
  exact ret (rs := [.cell 2 69]) h rfl (.cell (v := (vD (⟨c, (⟨(⟨false, 0⟩ : GI), (⟨false, 0⟩ : GI)⟩ : GQ), (⟨(⟨false, 0⟩ : GI), (⟨false, 0⟩ : GI)⟩ : GQ)⟩ : Qd))) rfl (i := 0) rfl Tryz.isAgg69 Tryz.sizeOf69 rfl rfl rfl .nil) rfl (h.retP (by rw [hd] <;> rfl) (by rw [hd]; exact ⟨zc, ⟨(SzB_lit 0 (by decide) (by omega)), (SzB_lit 0 (by decide) (by omega))⟩, ⟨(SzB_lit 0 (by decide) (by omega)), (SzB_lit 0 (by decide) (by omega))⟩⟩))
def qu_Sub (p : Qd) (q : Qd) : Qd :=
  (⟨(ra_Sub p.c0 q.c0), (ra_Sub p.c1 q.c1), (ra_Sub p.c2 q.c2)⟩ : Qd)
theorem qu_Sub_ct (p : Qd) (q : Qd) (k : Nat) (hk : (k + 3) ≤ 40) (zp : SzD (k + 3) p) (zq : SzD (k + 3) q) (w0 : World) : Calls Tryz.prog 96 #[(vD p), (vD q)] w0 (RetP w0 (vD (qu_Sub p q)) (SzD k (qu_Sub p q))) := by
  refine enter (N := 21) (args := [(vD p), (vD q)]) Tryz.func96 rfl rfl ?_; intro ac h
  refine c_rs fun K1 hK1 => ?_
  refine bx h (cD p) rfl rfl rfl ?_; clear h ac; intro b1 ac wo h
  refine bx h (cD q) rfl rfl rfl ?_; clear h ac wo; intro b2 ac wo h
  refine al h (cD (⟨(⟨(⟨false, 0⟩ : GI), (⟨false, 0⟩ : GI)⟩ : GQ), (⟨(⟨false, 0⟩ : GI), (⟨false, 0⟩ : GI)⟩ : GQ), (⟨(⟨false, 0⟩ : GI), (⟨false, 0⟩ : GI)⟩ : GQ)⟩ : Qd)) Tryz.zeroValue69 rfl rfl ?_; clear h ac wo; intro b3 ac wo h
  refine w_nil ?_
  refine hK1 _ _ ?_
  refine c_seq fun K2 hK2 => ?_
  have s1 := Calls_pr ((ra_Sub_ct p.c0 q.c0 k (by omega) zp.1 zq.1) w0)
  have s2 := Calls_pr ((ra_Sub_ct p.c1 q.c1 k (by omega) zp.2.1 zq.2.1) w0)
  have s3 := Calls_pr ((ra_Sub_ct p.c2 q.c2 k (by omega) zp.2.2 zq.2.2) w0)
  refine draws mixed [⟨.det (ptr b1 0), []⟩, ⟨.det (vQ p.c0), [2]⟩, ⟨.det (ptr b2 0), []⟩, ⟨.det (vQ q.c0), [1]⟩, ⟨.det (vQ (ra_Sub p.c0 q.c0)), []⟩, ⟨.det (ptr b1 4), []⟩, ⟨.det (vQ p.c1), [2]⟩, ⟨.det (ptr b2 4), []⟩, ⟨.det (vQ q.c1), [1]⟩, ⟨.det (vQ (ra_Sub p.c1 q.c1)), []⟩, ⟨.det (ptr b1 8), []⟩, ⟨.det (vQ p.c2), [2]⟩, ⟨.det (ptr b2 8), []⟩, ⟨.det (vQ q.c2), [1]⟩, ⟨.det (vQ (ra_Sub p.c2 q.c2)), []⟩, ⟨.det (vD (⟨(ra_Sub p.c0 q.c0), (ra_Sub p.c1 q.c1), (ra_Sub p.c2 q.c2)⟩ : Qd)), []⟩, ⟨.det undef, [0]⟩] [⟨.blk b3 (cD (⟨(⟨(⟨false, 0⟩ : GI), (⟨false, 0⟩ : GI)⟩ : GQ), (⟨(⟨false, 0⟩ : GI), (⟨false, 0⟩ : GI)⟩ : GQ), (⟨(⟨false, 0⟩ : GI), (⟨false, 0⟩ : GI)⟩ : GQ)⟩ : Qd)) 69, [(16, .con (.blk b3 (cD (⟨(ra_Sub p.c0 q.c0), (ra_Sub p.c1 q.c1), (ra_Sub p.c2 q.c2)⟩ : Qd)) 69))]⟩, ⟨.blk b2 (cD q) 69, []⟩, ⟨.blk b1 (cD p) 69, []⟩] h rfl (by kernel_rfl) ⟨?_, ?_, ?_, ?_, ?_, ?_, ?_, ?_, ?_, ?_, ?_, ?_, ?_, ?_, ?_, ?_, ?_, trivial⟩ ?_
  · intro ξ hφ; exact ob_r0 (r_fa Tryz.runUnderlying69 rfl Tryz.sizeOf40 (by decide) rfl rfl (k' := 0))
  · intro ξ hφ; exact ob_r [.blk b1 (cD p) 69] rfl rfl (r_ld Tryz.isAgg40 Tryz.sizeOf40 rfl rfl rfl (v := (vQ p.c0)) rfl)
  · intro ξ hφ; exact ob_r0 (r_fa Tryz.runUnderlying69 rfl Tryz.sizeOf40 (by decide) rfl rfl (k' := 0))
  · intro ξ hφ; exact ob_r [.blk b2 (cD q) 69] rfl rfl (r_ld Tryz.isAgg40 Tryz.sizeOf40 rfl rfl rfl (v := (vQ q.c0)) rfl)
  · intro ξ hφ; exact ob_s (s_clp Tryz.call100 (vs := [(vQ p.c0), (vQ q.c0)]) rfl (ra_Sub_ct p.c0 q.c0 k (by omega) zp.1 zq.1))
  · intro ξ hφ; exact ob_r0 (r_fa Tryz.runUnderlying69 rfl Tryz.sizeOf40 (by decide) rfl rfl (k' := 4))
  · intro ξ hφ; exact ob_r [.blk b1 (cD p) 69] rfl rfl (r_ld Tryz.isAgg40 Tryz.sizeOf40 rfl rfl rfl (v := (vQ p.c1)) rfl)
  · intro ξ hφ; exact ob_r0 (r_fa Tryz.runUnderlying69 rfl Tryz.sizeOf40 (by decide) rfl rfl (k' := 4))
  · intro ξ hφ; exact ob_r [.blk b2 (cD q) 69] rfl rfl (r_ld Tryz.isAgg40 Tryz.sizeOf40 rfl rfl rfl (v := (vQ q.c1)) rfl)
  · intro ξ hφ; exact ob_s (s_clp Tryz.call100 (vs := [(vQ p.c1), (vQ q.c1)]) rfl (ra_Sub_ct p.c1 q.c1 k (by omega) zp.2.1 zq.2.1))
  · intro ξ hφ; exact ob_r0 (r_fa Tryz.runUnderlying69 rfl Tryz.sizeOf40 (by decide) rfl rfl (k' := 8))
  · intro ξ hφ; exact ob_r [.blk b1 (cD p) 69] rfl rfl (r_ld Tryz.isAgg40 Tryz.sizeOf40 rfl rfl rfl (v := (vQ p.c2)) rfl)
  · intro ξ hφ; exact ob_r0 (r_fa Tryz.runUnderlying69 rfl Tryz.sizeOf40 (by decide) rfl rfl (k' := 8))
  · intro ξ hφ; exact ob_r [.blk b2 (cD q) 69] rfl rfl (r_ld Tryz.isAgg40 Tryz.sizeOf40 rfl rfl rfl (v := (vQ q.c2)) rfl)
  · intro ξ hφ; exact ob_s (s_clp Tryz.call100 (vs := [(vQ p.c2), (vQ q.c2)]) rfl (ra_Sub_ct p.c2 q.c2 k (by omega) zp.2.2 zq.2.2))
  · intro ξ hφ; exact ob_r0 (r_build (parts := [(0, .tmp 9), (1, .tmp 14), (2, .tmp 19)]) (vs := [(vQ (ra_Sub p.c0 q.c0)), (vQ (ra_Sub p.c1 q.c1)), (vQ (ra_Sub p.c2 q.c2))]) bld69 rfl rfl (v := (vD (⟨(ra_Sub p.c0 q.c0), (ra_Sub p.c1 q.c1), (ra_Sub p.c2 q.c2)⟩ : Qd))) rfl)
  · intro ξ hφ; exact ob_u [.blk b3 (cD (⟨(⟨(⟨false, 0⟩ : GI), (⟨false, 0⟩ : GI)⟩ : GQ), (⟨(⟨false, 0⟩ : GI), (⟨false, 0⟩ : GI)⟩ : GQ), (⟨(⟨false, 0⟩ : GI), (⟨false, 0⟩ : GI)⟩ : GQ)⟩ : Qd)) 69] [.blk b3 (cD (⟨(ra_Sub p.c0 q.c0), (ra_Sub p.c1 q.c1), (ra_Sub p.c2 q.c2)⟩ : Qd)) 69] rfl rfl (s_st Tryz.sizeOf69 rfl rfl rfl rfl rfl rfl rfl)
  clear h ac wo; intro ξ ac wo hφ h
  replace h : St w0 21 [(4, (ptr b3 0))] [.blk b3 (cD (⟨(ra_Sub p.c0 q.c0), (ra_Sub p.c1 q.c1), (ra_Sub p.c2 q.c2)⟩ : Qd)) 69, .blk b2 (cD q) 69, .blk b1 (cD p) 69] ac wo := h.sub ⟨rfl, trivial⟩
  clear hφ ξ
  refine hK2 _ _ ?_
  refine c_ret ?_
  have hd : qu_Sub p q = (⟨(ra_Sub p.c0 q.c0), (ra_Sub p.c1 q.c1), (ra_Sub p.c2 q.c2)⟩ : Qd) := rfl
  exact ret (rs := [.cell 4 69]) h rfl (.cell (v := (vD (⟨(ra_Sub p.c0 q.c0), (ra_Sub p.c1 q.c1), (ra_Sub p.c2 q.c2)⟩ : Qd))) rfl (i := 0) rfl Tryz.isAgg69 Tryz.sizeOf69 rfl rfl rfl .nil) rfl (h.retP (by rw [hd] <;> rfl) (by rw [hd]; exact ⟨s1, s2, s3⟩))
def qu_Eval (q : Qd) (t : GQ) : GQ :=
  (ra_Add q.c0 (ra_Mul t (ra_Add q.c1 (ra_Mul t q.c2))))
theorem qu_Eval_ct (q : Qd) (t : GQ) (k : Nat) (hk : (k + 10) ≤ 40) (zq : SzD (k + 10) q) (zt : SzQ (k + 10) t) (w0 : World) : Calls Tryz.prog 99 #[(vD q), (vQ t)] w0 (RetP w0 (vQ (qu_Eval q t)) (SzQ k (qu_Eval q t))) := by
  refine enter (N := 17) (args := [(vD q), (vQ t)]) Tryz.func99 rfl rfl ?_; intro ac h
  refine c_rs fun K1 hK1 => ?_
  refine bx h (cD q) rfl rfl rfl ?_; clear h ac; intro b1 ac wo h
  refine bx h (cQ t) rfl rfl rfl ?_; clear h ac wo; intro b2 ac wo h
  refine al h (cQ (⟨(⟨false, 0⟩ : GI), (⟨false, 0⟩ : GI)⟩ : GQ)) Tryz.zeroValue40 rfl rfl ?_; clear h ac wo; intro b3 ac wo h
  refine w_nil ?_
  refine hK1 _ _ ?_
  refine c_seq fun K2 hK2 => ?_
  have s1 := Calls_pr ((ra_Mul_ct t q.c2 (k + 8) (by omega) zt zq.2.2) w0)
  have s2 := Calls_pr ((ra_Add_ct q.c1 (ra_Mul t q.c2) (k + 5) (by omega) (SzD_le zq (by omega)).2.1 s1) w0)
  have s3 := Calls_pr ((ra_Mul_ct t (ra_Add q.c1 (ra_Mul t q.c2)) (k + 3) (by omega) (SzQ_le zt (by omega)) s2) w0)
  have s4 := Calls_pr ((ra_Add_ct q.c0 (ra_Mul t (ra_Add q.c1 (ra_Mul t q.c2))) k (by omega) (SzD_le zq (by omega)).1 s3) w0)
  refine draws mixed [⟨.det (ptr b1 0), []⟩, ⟨.det (vQ q.c0), [2]⟩, ⟨.det (vQ t), [1]⟩, ⟨.det (ptr b1 4), []⟩, ⟨.det (vQ q.c1), [2]⟩, ⟨.det (vQ t), [1]⟩, ⟨.det (ptr b1 8), []⟩, ⟨.det (vQ q.c2), [2]⟩, ⟨.det (vQ (ra_Mul t q.c2)), []⟩, ⟨.det (vQ (ra_Add q.c1 (ra_Mul t q.c2))), []⟩, ⟨.det (vQ (ra_Mul t (ra_Add q.c1 (ra_Mul t q.c2)))), []⟩, ⟨.det (vQ (ra_Add q.c0 (ra_Mul t (ra_Add q.c1 (ra_Mul t q.c2))))), []⟩, ⟨.det undef, [0]⟩] [⟨.blk b3 (cQ (⟨(⟨false, 0⟩ : GI), (⟨false, 0⟩ : GI)⟩ : GQ)) 40, [(12, .con (.blk b3 (cQ (ra_Add q.c0 (ra_Mul t (ra_Add q.c1 (ra_Mul t q.c2))))) 40))]⟩, ⟨.blk b2 (cQ t) 40, []⟩, ⟨.blk b1 (cD q) 69, []⟩] h rfl (by kernel_rfl) ⟨?_, ?_, ?_, ?_, ?_, ?_, ?_, ?_, ?_, ?_, ?_, ?_, ?_, trivial⟩ ?_
  · intro ξ hφ; exact ob_r0 (r_fa Tryz.runUnderlying69 rfl Tryz.sizeOf40 (by decide) rfl rfl (k' := 0))
  · intro ξ hφ; exact ob_r [.blk b1 (cD q) 69] rfl rfl (r_ld Tryz.isAgg40 Tryz.sizeOf40 rfl rfl rfl (v := (vQ q.c0)) rfl)
  · intro ξ hφ; exact ob_r [.blk b2 (cQ t) 40] rfl rfl (r_ld Tryz.isAgg40 Tryz.sizeOf40 rfl rfl rfl (v := (vQ t)) rfl)
  · intro ξ hφ; exact ob_r0 (r_fa Tryz.runUnderlying69 rfl Tryz.sizeOf40 (by decide) rfl rfl (k' := 4))
  · intro ξ hφ; exact ob_r [.blk b1 (cD q) 69] rfl rfl (r_ld Tryz.isAgg40 Tryz.sizeOf40 rfl rfl rfl (v := (vQ q.c1)) rfl)
  · intro ξ hφ; exact ob_r [.blk b2 (cQ t) 40] rfl rfl (r_ld Tryz.isAgg40 Tryz.sizeOf40 rfl rfl rfl (v := (vQ t)) rfl)
  · intro ξ hφ; exact ob_r0 (r_fa Tryz.runUnderlying69 rfl Tryz.sizeOf40 (by decide) rfl rfl (k' := 8))
  · intro ξ hφ; exact ob_r [.blk b1 (cD q) 69] rfl rfl (r_ld Tryz.isAgg40 Tryz.sizeOf40 rfl rfl rfl (v := (vQ q.c2)) rfl)
  · intro ξ hφ; exact ob_s (s_clp Tryz.call101 (vs := [(vQ t), (vQ q.c2)]) rfl (ra_Mul_ct t q.c2 (k + 8) (by omega) zt zq.2.2))
  · intro ξ hφ; exact ob_s (s_clp Tryz.call102 (vs := [(vQ q.c1), (vQ (ra_Mul t q.c2))]) rfl (ra_Add_ct q.c1 (ra_Mul t q.c2) (k + 5) (by omega) (SzD_le zq (by omega)).2.1 s1))
  · intro ξ hφ; exact ob_s (s_clp Tryz.call101 (vs := [(vQ t), (vQ (ra_Add q.c1 (ra_Mul t q.c2)))]) rfl (ra_Mul_ct t (ra_Add q.c1 (ra_Mul t q.c2)) (k + 3) (by omega) (SzQ_le zt (by omega)) s2))
  · intro ξ hφ; exact ob_s (s_clp Tryz.call102 (vs := [(vQ q.c0), (vQ (ra_Mul t (ra_Add q.c1 (ra_Mul t q.c2))))]) rfl (ra_Add_ct q.c0 (ra_Mul t (ra_Add q.c1 (ra_Mul t q.c2))) k (by omega) (SzD_le zq (by omega)).1 s3))
  · intro ξ hφ; exact ob_u [.blk b3 (cQ (⟨(⟨false, 0⟩ : GI), (⟨false, 0⟩ : GI)⟩ : GQ)) 40] [.blk b3 (cQ (ra_Add q.c0 (ra_Mul t (ra_Add q.c1 (ra_Mul t q.c2))))) 40] rfl rfl (s_st Tryz.sizeOf40 rfl rfl rfl rfl rfl rfl rfl)
  clear h ac wo; intro ξ ac wo hφ h
  replace h : St w0 17 [(4, (ptr b3 0))] [.blk b3 (cQ (ra_Add q.c0 (ra_Mul t (ra_Add q.c1 (ra_Mul t q.c2))))) 40, .blk b2 (cQ t) 40, .blk b1 (cD q) 69] ac wo := h.sub ⟨rfl, trivial⟩
  clear hφ ξ
  refine hK2 _ _ ?_
  refine c_ret ?_
  have hd : qu_Eval q t = (ra_Add q.c0 (ra_Mul t (ra_Add q.c1 (ra_Mul t q.c2)))) := rfl
  exact ret (rs := [.cell 4 40]) h rfl (.cell (v := (vQ (ra_Add q.c0 (ra_Mul t (ra_Add q.c1 (ra_Mul t q.c2)))))) rfl (i := 0) rfl Tryz.isAgg40 Tryz.sizeOf40 rfl rfl rfl .nil) rfl (h.retP (by rw [hd] <;> rfl) (by rw [hd]; exact s4))
def qu_slope (q : Qd) (t : GQ) : GQ :=
  (ra_Add q.c1 (ra_Mul (ra_Add q.c2 q.c2) t))
theorem qu_slope_ct (q : Qd) (t : GQ) (k : Nat) (hk : (k + 8) ≤ 40) (zq : SzD (k + 8) q) (zt : SzQ (k + 8) t) (w0 : World) : Calls Tryz.prog 103 #[(vD q), (vQ t)] w0 (RetP w0 (vQ (qu_slope q t)) (SzQ k (qu_slope q t))) := by
  refine enter (N := 15) (args := [(vD q), (vQ t)]) Tryz.func103 rfl rfl ?_; intro ac h
  refine c_rs fun K1 hK1 => ?_
  refine bx h (cD q) rfl rfl rfl ?_; clear h ac; intro b1 ac wo h
  refine bx h (cQ t) rfl rfl rfl ?_; clear h ac wo; intro b2 ac wo h
  refine al h (cQ (⟨(⟨false, 0⟩ : GI), (⟨false, 0⟩ : GI)⟩ : GQ)) Tryz.zeroValue40 rfl rfl ?_; clear h ac wo; intro b3 ac wo h
  refine w_nil ?_
  refine hK1 _ _ ?_
  refine c_seq fun K2 hK2 => ?_
  have s1 := Calls_pr ((ra_Add_ct q.c2 q.c2 (k + 5) (by omega) zq.2.2 zq.2.2) w0)
  have s2 := Calls_pr ((ra_Mul_ct (ra_Add q.c2 q.c2) t (k + 3) (by omega) s1 (SzQ_le zt (by omega))) w0)
  have s3 := Calls_pr ((ra_Add_ct q.c1 (ra_Mul (ra_Add q.c2 q.c2) t) k (by omega) (SzD_le zq (by omega)).2.1 s2) w0)
  refine draws mixed [⟨.det (ptr b1 4), []⟩, ⟨.det (vQ q.c1), [2]⟩, ⟨.det (ptr b1 8), []⟩, ⟨.det (vQ q.c2), [2]⟩, ⟨.det (ptr b1 8), []⟩, ⟨.det (vQ q.c2), [2]⟩, ⟨.det (vQ (ra_Add q.c2 q.c2)), []⟩, ⟨.det (vQ t), [1]⟩, ⟨.det (vQ (ra_Mul (ra_Add q.c2 q.c2) t)), []⟩, ⟨.det (vQ (ra_Add q.c1 (ra_Mul (ra_Add q.c2 q.c2) t))), []⟩, ⟨.det undef, [0]⟩] [⟨.blk b3 (cQ (⟨(⟨false, 0⟩ : GI), (⟨false, 0⟩ : GI)⟩ : GQ)) 40, [(10, .con (.blk b3 (cQ (ra_Add q.c1 (ra_Mul (ra_Add q.c2 q.c2) t))) 40))]⟩, ⟨.blk b2 (cQ t) 40, []⟩, ⟨.blk b1 (cD q) 69, []⟩] h rfl (by kernel_rfl) ⟨?_, ?_, ?_, ?_, ?_, ?_, ?_, ?_, ?_, ?_, ?_, trivial⟩ ?_
  · intro ξ hφ; exact ob_r0 (r_fa Tryz.runUnderlying69 rfl Tryz.sizeOf40 (by decide) rfl rfl (k' := 4))
  · intro ξ hφ; exact ob_r [.blk b1 (cD q) 69] rfl rfl (r_ld Tryz.isAgg40 Tryz.sizeOf40 rfl rfl rfl (v := (vQ q.c1)) rfl)
  · intro ξ hφ; exact ob_r0 (r_fa Tryz.runUnderlying69 rfl Tryz.sizeOf40 (by decide) rfl rfl (k' := 8))
  · intro ξ hφ; exact ob_r [.blk b1 (cD q) 69] rfl rfl (r_ld Tryz.isAgg40 Tryz.sizeOf40 rfl rfl rfl (v := (vQ q.c2)) rfl)
  · intro ξ hφ; exact ob_r0 (r_fa Tryz.runUnderlying69 rfl Tryz.sizeOf40 (by decide) rfl rfl (k' := 8))
  · intro ξ hφ; exact ob_r [.blk b1 (cD q) 69] rfl rfl (r_ld Tryz.isAgg40 Tryz.sizeOf40 rfl rfl rfl (v := (vQ q.c2)) rfl)
  · intro ξ hφ; exact ob_s (s_clp Tryz.call102 (vs := [(vQ q.c2), (vQ q.c2)]) rfl (ra_Add_ct q.c2 q.c2 (k + 5) (by omega) zq.2.2 zq.2.2))
  · intro ξ hφ; exact ob_r [.blk b2 (cQ t) 40] rfl rfl (r_ld Tryz.isAgg40 Tryz.sizeOf40 rfl rfl rfl (v := (vQ t)) rfl)
  · intro ξ hφ; exact ob_s (s_clp Tryz.call101 (vs := [(vQ (ra_Add q.c2 q.c2)), (vQ t)]) rfl (ra_Mul_ct (ra_Add q.c2 q.c2) t (k + 3) (by omega) s1 (SzQ_le zt (by omega))))
  · intro ξ hφ; exact ob_s (s_clp Tryz.call102 (vs := [(vQ q.c1), (vQ (ra_Mul (ra_Add q.c2 q.c2) t))]) rfl (ra_Add_ct q.c1 (ra_Mul (ra_Add q.c2 q.c2) t) k (by omega) (SzD_le zq (by omega)).2.1 s2))
  · intro ξ hφ; exact ob_u [.blk b3 (cQ (⟨(⟨false, 0⟩ : GI), (⟨false, 0⟩ : GI)⟩ : GQ)) 40] [.blk b3 (cQ (ra_Add q.c1 (ra_Mul (ra_Add q.c2 q.c2) t))) 40] rfl rfl (s_st Tryz.sizeOf40 rfl rfl rfl rfl rfl rfl rfl)
  clear h ac wo; intro ξ ac wo hφ h
  replace h : St w0 15 [(4, (ptr b3 0))] [.blk b3 (cQ (ra_Add q.c1 (ra_Mul (ra_Add q.c2 q.c2) t))) 40, .blk b2 (cQ t) 40, .blk b1 (cD q) 69] ac wo := h.sub ⟨rfl, trivial⟩
  clear hφ ξ
  refine hK2 _ _ ?_
  refine c_ret ?_
  have hd : qu_slope q t = (ra_Add q.c1 (ra_Mul (ra_Add q.c2 q.c2) t)) := rfl
  exact ret (rs := [.cell 4 40]) h rfl (.cell (v := (vQ (ra_Add q.c1 (ra_Mul (ra_Add q.c2 q.c2) t)))) rfl (i := 0) rfl Tryz.isAgg40 Tryz.sizeOf40 rfl rfl rfl .nil) rfl (h.retP (by rw [hd] <;> rfl) (by rw [hd]; exact s3))
def rl_Rational (x : GR) : GQ × Bool :=
  bif (!(decide (x.r = (⟨(⟨false, 0⟩ : GI), (⟨false, 0⟩ : GI)⟩ : GQ)))) then
    ((⟨(⟨false, 0⟩ : GI), (⟨false, 0⟩ : GI)⟩ : GQ), false)
  else
    (x.p, true)
theorem rl_Rational_ct (x : GR) (k : Nat) (hk : k ≤ 40) (zx : SzR k x) (w0 : World) : Calls Tryz.prog 98 #[(vR x)] w0 (RetP w0 (.tuple #[(vQ ((rl_Rational x).1)), (.bool ((rl_Rational x).2))]) (SzQ k ((rl_Rational x).1))) := by
  refine enter (N := 11) (args := [(vR x)]) Tryz.func98 rfl rfl ?_; intro ac h
  refine c_rs fun K1 hK1 => ?_
  refine bx h (cR x) rfl rfl rfl ?_; clear h ac; intro b1 ac wo h
  refine al h (cQ (⟨(⟨false, 0⟩ : GI), (⟨false, 0⟩ : GI)⟩ : GQ)) Tryz.zeroValue40 rfl rfl ?_; clear h ac wo; intro b2 ac wo h
  refine rd0 h (r_assign rfl (v := (.bool false))) rfl ?_; clear h ac wo; intro ac wo h
  refine w_nil ?_
  refine hK1 _ _ ?_
  refine c_seq fun K2 hK2 => ?_
  refine c_rs fun K3 hK3 => ?_
  refine rd0 h (r_fa Tryz.runUnderlying53 rfl Tryz.sizeOf40 (by decide) rfl rfl (k' := 4)) rfl ?_; clear h ac wo; intro ac wo h
  refine rd1 h 1 rfl (r_ld Tryz.isAgg40 Tryz.sizeOf40 rfl rfl rfl (v := (vQ x.r)) rfl) rfl ?_; clear h ac wo; intro ac wo h
  refine rd0 h (r_build (parts := []) (vs := []) bld40 rfl rfl (v := (vQ (⟨(⟨false, 0⟩ : GI), (⟨false, 0⟩ : GI)⟩ : GQ))) rfl) rfl ?_; clear h ac wo; intro ac wo h
  refine rd0 h (r_neqT eqp40 rfl rfl (b := x.r) (c := (⟨(⟨false, 0⟩ : GI), (⟨false, 0⟩ : GI)⟩ : GQ))) rfl ?_; clear h ac wo; intro ac wo h
  refine w_nil ?_
  refine hK3 _ _ ?_
  refine c_if (b := (!(decide (x.r = (⟨(⟨false, 0⟩ : GI), (⟨false, 0⟩ : GI)⟩ : GQ))))) h rfl (fun hc1 => ?_) (fun hc1 => ?_)
  · skip
    refine c_rs fun K4 hK4 => ?_
    refine rd0 h (r_build (parts := []) (vs := []) bld40 rfl rfl (v := (vQ (⟨(⟨false, 0⟩ : GI), (⟨false, 0⟩ : GI)⟩ : GQ))) rfl) rfl ?_; clear h ac wo; intro ac wo h
    refine st h 0 (cQ (⟨(⟨false, 0⟩ : GI), (⟨false, 0⟩ : GI)⟩ : GQ)) rfl Tryz.sizeOf40 rfl rfl rfl rfl rfl rfl rfl ?_; clear h ac wo; intro ac wo h
    refine rd0 h (r_assign rfl (v := (.bool false))) rfl ?_; clear h ac wo; intro ac wo h
    refine w_nil ?_
    refine hK4 _ _ ?_
    refine c_ret ?_
    have hd : rl_Rational x = ((⟨(⟨false, 0⟩ : GI), (⟨false, 0⟩ : GI)⟩ : GQ), false) := (cT hc1)
    exact ret (rs := [.cell 2 40, .tmp 3]) h rfl (.cell (v := (vQ (⟨(⟨false, 0⟩ : GI), (⟨false, 0⟩ : GI)⟩ : GQ))) rfl (i := 0) rfl Tryz.isAgg40 Tryz.sizeOf40 rfl rfl rfl (.tmp rfl .nil)) rfl (h.retP (by rw [hd] <;> rfl) (by rw [hd]; exact ⟨(SzB_lit 0 (by decide) (by omega)), (SzB_lit 0 (by decide) (by omega))⟩))
  · skip
    refine c_skip ?_
    refine hK2 _ _ ?_
    refine c_rs fun K5 hK5 => ?_
    refine rd0 h (r_fa Tryz.runUnderlying53 rfl Tryz.sizeOf40 (by decide) rfl rfl (k' := 0)) rfl ?_; clear h ac wo; intro ac wo h
    refine rd1 h 1 rfl (r_ld Tryz.isAgg40 Tryz.sizeOf40 rfl rfl rfl (v := (vQ x.p)) rfl) rfl ?_; clear h ac wo; intro ac wo h
    refine st h 0 (cQ x.p) rfl Tryz.sizeOf40 rfl rfl rfl rfl rfl rfl rfl ?_; clear h ac wo; intro ac wo h
    refine rd0 h (r_assign rfl (v := (.bool true))) rfl ?_; clear h ac wo; intro ac wo h
    refine w_nil ?_
    refine hK5 _ _ ?_
    refine c_ret ?_
    have hd : rl_Rational x = (x.p, true) := (cF hc1)
    exact ret (rs := [.cell 2 40, .tmp 3]) h rfl (.cell (v := (vQ x.p)) rfl (i := 0) rfl Tryz.isAgg40 Tryz.sizeOf40 rfl rfl rfl (.tmp rfl .nil)) rfl (h.retP (by rw [hd] <;> rfl) (by rw [hd]; exact zx.1))
def qu_Reduce (q : Qd) (t : GR) : Qd :=
  bif (rl_Rational t).2 then
    (qu_Constant (qu_Eval q ((rl_Rational t).1)))
  else
    (qu_Linear (ra_Add q.c0 (ra_Mul q.c2 (ra_Sub t.r (ra_Mul t.p t.p)))) (qu_slope q t.p))
theorem qu_Reduce_ct (q : Qd) (t : GR) (k : Nat) (hk : (k + 10) ≤ 40) (zq : SzD (k + 10) q) (zt : SzR (k + 10) t) (w0 : World) : Calls Tryz.prog 37 #[(vD q), (vR t)] w0 (RetP w0 (vD (qu_Reduce q t)) (SzD k (qu_Reduce q t))) := by
  refine enter (N := 38) (args := [(vD q), (vR t)]) Tryz.func37 rfl rfl ?_; intro ac h
  refine c_rs fun K1 hK1 => ?_
  refine bx h (cD q) rfl rfl rfl ?_; clear h ac; intro b1 ac wo h
  refine bx h (cR t) rfl rfl rfl ?_; clear h ac wo; intro b2 ac wo h
  refine al h (cD (⟨(⟨(⟨false, 0⟩ : GI), (⟨false, 0⟩ : GI)⟩ : GQ), (⟨(⟨false, 0⟩ : GI), (⟨false, 0⟩ : GI)⟩ : GQ), (⟨(⟨false, 0⟩ : GI), (⟨false, 0⟩ : GI)⟩ : GQ)⟩ : Qd)) Tryz.zeroValue69 rfl rfl ?_; clear h ac wo; intro b3 ac wo h
  refine w_nil ?_
  refine hK1 _ _ ?_
  refine c_seq fun K2 hK2 => ?_
  refine c_rs fun K3 hK3 => ?_
  refine rd1 h 1 rfl (r_ld Tryz.isAgg53 Tryz.sizeOf53 rfl rfl rfl (v := (vR t)) rfl) rfl ?_; clear h ac wo; intro ac wo h
  have s1 := Calls_pr ((rl_Rational_ct t (k + 10) (by omega) zt) w0)
  refine clp h Tryz.call98 (vs := [(vR t)]) rfl (rl_Rational_ct t (k + 10) (by omega) zt) rfl ?_; clear h ac wo; intro ac wo h
  refine rd0 h (r_move rfl) rfl ?_; clear h ac wo; intro ac wo h
  refine rd0 h (r_extract (vs := [(vQ ((rl_Rational t).1)), (.bool ((rl_Rational t).2))]) rfl rfl) rfl ?_; clear h ac wo; intro ac wo h
  refine rd0 h (r_extract (vs := [(vQ ((rl_Rational t).1)), (.bool ((rl_Rational t).2))]) rfl rfl) rfl ?_; clear h ac wo; intro ac wo h
  refine al h (cQ (⟨(⟨false, 0⟩ : GI), (⟨false, 0⟩ : GI)⟩ : GQ)) Tryz.zeroValue40 rfl rfl ?_; clear h ac wo; intro b4 ac wo h
  refine st h 0 (cQ ((rl_Rational t).1)) rfl Tryz.sizeOf40 rfl rfl rfl rfl rfl rfl rfl ?_; clear h ac wo; intro ac wo h
  refine rd0 h (r_assign rfl) rfl ?_; clear h ac wo; intro ac wo h
  refine w_nil ?_
  refine hK3 _ _ ?_
  refine c_rs fun K4 hK4 => ?_
  refine rd0 h (r_move rfl) rfl ?_; clear h ac wo; intro ac wo h
  refine w_nil ?_
  refine hK4 _ _ ?_
  refine c_if (b := (rl_Rational t).2) h rfl (fun hc1 => ?_) (fun hc1 => ?_)
  · skip
    refine c_rs fun K5 hK5 => ?_
    refine rd1 h 3 rfl (r_ld Tryz.isAgg69 Tryz.sizeOf69 rfl rfl rfl (v := (vD q)) rfl) rfl ?_; clear h ac wo; intro ac wo h
    refine rd1 h 0 rfl (r_ld Tryz.isAgg40 Tryz.sizeOf40 rfl rfl rfl (v := (vQ ((rl_Rational t).1))) rfl) rfl ?_; clear h ac wo; intro ac wo h
    have s2 := Calls_pr ((qu_Eval_ct q ((rl_Rational t).1) k (by omega) zq s1) w0)
    refine clp h Tryz.call99 (vs := [(vD q), (vQ ((rl_Rational t).1))]) rfl (qu_Eval_ct q ((rl_Rational t).1) k (by omega) zq s1) rfl ?_; clear h ac wo; intro ac wo h
    have s3 := Calls_pr ((qu_Constant_ct (qu_Eval q ((rl_Rational t).1)) k (by omega) s2) w0)
    refine clp h Tryz.call79 (vs := [(vQ (qu_Eval q ((rl_Rational t).1)))]) rfl (qu_Constant_ct (qu_Eval q ((rl_Rational t).1)) k (by omega) s2) rfl ?_; clear h ac wo; intro ac wo h
    refine st h 1 (cD (qu_Constant (qu_Eval q ((rl_Rational t).1)))) rfl Tryz.sizeOf69 rfl rfl rfl rfl rfl rfl rfl ?_; clear h ac wo; intro ac wo h
    refine w_nil ?_
    refine hK5 _ _ ?_
    refine c_ret ?_
    have hd : qu_Reduce q t = (qu_Constant (qu_Eval q ((rl_Rational t).1))) := (cT hc1)
    exact ret (rs := [.cell 4 69]) h rfl (.cell (v := (vD (qu_Constant (qu_Eval q ((rl_Rational t).1))))) rfl (i := 1) rfl Tryz.isAgg69 Tryz.sizeOf69 rfl rfl rfl .nil) rfl (h.retP (by rw [hd] <;> rfl) (by rw [hd]; exact s3))
  · skip
    refine c_skip ?_
    refine hK2 _ _ ?_
    refine c_seq fun K6 hK6 => ?_
    have s4 := Calls_pr ((ra_Mul_ct t.p t.p (k + 8) (by omega) zt.1 zt.1) w0)
    have s5 := Calls_pr ((ra_Sub_ct t.r (ra_Mul t.p t.p) (k + 5) (by omega) (SzR_le zt (by omega)).2 s4) w0)
    replace h := h.emps 1
    refine draws mixed [⟨.det (ptr b2 4), []⟩, ⟨.det (vQ t.r), [2]⟩, ⟨.det (ptr b2 0), []⟩, ⟨.det (vQ t.p), [2]⟩, ⟨.det (ptr b2 0), []⟩, ⟨.det (vQ t.p), [2]⟩, ⟨.det (vQ (ra_Mul t.p t.p)), []⟩, ⟨.det (vQ (ra_Sub t.r (ra_Mul t.p t.p))), []⟩, ⟨.nd (.one 8 fun v => ∃ b, v = ptr b 0), [4]⟩, ⟨.det undef, [4]⟩] [⟨.blk b4 (cQ ((rl_Rational t).1)) 40, []⟩, ⟨.blk b3 (cD (⟨(⟨(⟨false, 0⟩ : GI), (⟨false, 0⟩ : GI)⟩ : GQ), (⟨(⟨false, 0⟩ : GI), (⟨false, 0⟩ : GI)⟩ : GQ), (⟨(⟨false, 0⟩ : GI), (⟨false, 0⟩ : GI)⟩ : GQ)⟩ : Qd)) 69, []⟩, ⟨.blk b2 (cR t) 53, []⟩, ⟨.blk b1 (cD q) 69, []⟩, ⟨.emp, [(8, .one 8 fun v => .blk (blkOf v) (cQ (⟨(⟨false, 0⟩ : GI), (⟨false, 0⟩ : GI)⟩ : GQ)) 40), (9, .one 8 fun v => .blk (blkOf v) (cQ (ra_Sub t.r (ra_Mul t.p t.p))) 40)]⟩] h rfl (by kernel_rfl) ⟨?_, ?_, ?_, ?_, ?_, ?_, ?_, ?_, ?_, ?_, trivial⟩ ?_
    · intro ξ hφ; exact ob_r0 (r_fa Tryz.runUnderlying53 rfl Tryz.sizeOf40 (by decide) rfl rfl (k' := 4))
    · intro ξ hφ; exact ob_r [.blk b2 (cR t) 53] rfl rfl (r_ld Tryz.isAgg40 Tryz.sizeOf40 rfl rfl rfl (v := (vQ t.r)) rfl)
    · intro ξ hφ; exact ob_r0 (r_fa Tryz.runUnderlying53 rfl Tryz.sizeOf40 (by decide) rfl rfl (k' := 0))
    · intro ξ hφ; exact ob_r [.blk b2 (cR t) 53] rfl rfl (r_ld Tryz.isAgg40 Tryz.sizeOf40 rfl rfl rfl (v := (vQ t.p)) rfl)
    · intro ξ hφ; exact ob_r0 (r_fa Tryz.runUnderlying53 rfl Tryz.sizeOf40 (by decide) rfl rfl (k' := 0))
    · intro ξ hφ; exact ob_r [.blk b2 (cR t) 53] rfl rfl (r_ld Tryz.isAgg40 Tryz.sizeOf40 rfl rfl rfl (v := (vQ t.p)) rfl)
    · intro ξ hφ; exact ob_s (s_clp Tryz.call101 (vs := [(vQ t.p), (vQ t.p)]) rfl (ra_Mul_ct t.p t.p (k + 8) (by omega) zt.1 zt.1))
    · intro ξ hφ; exact ob_s (s_clp Tryz.call100 (vs := [(vQ t.r), (vQ (ra_Mul t.p t.p))]) rfl (ra_Sub_ct t.r (ra_Mul t.p t.p) (k + 5) (by omega) (SzR_le zt (by omega)).2 s4))
    · intro ξ hφ; exact ob_x (ψ := fun v => ∃ b, v = ptr b 0) (B := fun v => [.blk (blkOf v) (cQ (⟨(⟨false, 0⟩ : GI), (⟨false, 0⟩ : GI)⟩ : GQ)) 40]) [.emp] rfl (fun v _ => by simp only [picks, upd_same] <;> rfl) (fun v hv => by simpa [DF.one, upd_same] using hv) (s_emp (s_alloc Tryz.zeroValue40 rfl))
    · intro ξ hφ; obtain ⟨b5, hb8⟩ := hφ 8 rfl; exact ob_u [.blk b5 (cQ (⟨(⟨false, 0⟩ : GI), (⟨false, 0⟩ : GI)⟩ : GQ)) 40] [.blk b5 (cQ (ra_Sub t.r (ra_Mul t.p t.p))) 40] (congrArg (fun v => [Asn.blk (blkOf v) (cQ (⟨(⟨false, 0⟩ : GI), (⟨false, 0⟩ : GI)⟩ : GQ)) 40]) hb8) (congrArg (fun v => [Asn.blk (blkOf v) (cQ (ra_Sub t.r (ra_Mul t.p t.p))) 40]) hb8) (s_st Tryz.sizeOf40 (Eq.trans rfl (congrArg some hb8)) rfl rfl rfl rfl rfl rfl)
    clear h ac wo; intro ξ ac wo hφ h
    replace h : St w0 38 [(2, (ptr b1 0)), (3, (ptr b2 0)), (4, (ptr b3 0)), (7, ξ 8)] [.blk b4 (cQ ((rl_Rational t).1)) 40, .blk b3 (cD (⟨(⟨(⟨false, 0⟩ : GI), (⟨false, 0⟩ : GI)⟩ : GQ), (⟨(⟨false, 0⟩ : GI), (⟨false, 0⟩ : GI)⟩ : GQ), (⟨(⟨false, 0⟩ : GI), (⟨false, 0⟩ : GI)⟩ : GQ)⟩ : Qd)) 69, .blk b2 (cR t) 53, .blk b1 (cD q) 69, .blk (blkOf (ξ 8)) (cQ (ra_Sub t.r (ra_Mul t.p t.p))) 40] ac wo := h.sub ⟨rfl, rfl, rfl, rfl, trivial⟩
    revert h
    obtain ⟨b5, hb8⟩ : ∃ b, ξ 8 = ptr b 0 := hφ 8
    rw [hb8]; intro h
    clear hb8 hφ ξ
    refine hK6 _ _ ?_
    refine c_seq fun K7 hK7 => ?_
    have s6 := Calls_pr ((ra_Mul_ct q.c2 (ra_Sub t.r (ra_Mul t.p t.p)) (k + 3) (by omega) (SzD_le zq (by omega)).2.2 s5) w0)
    have s7 := Calls_pr ((ra_Add_ct q.c0 (ra_Mul q.c2 (ra_Sub t.r (ra_Mul t.p t.p))) k (by omega) (SzD_le zq (by omega)).1 s6) w0)
    have s8 := Calls_pr ((qu_slope_ct q t.p (k + 2) (by omega) zq zt.1) w0)
    have s9 := Calls_pr ((qu_Linear_ct (ra_Add q.c0 (ra_Mul q.c2 (ra_Sub t.r (ra_Mul t.p t.p)))) (qu_slope q t.p) k (by omega) s7 (SzQ_le s8 (by omega))) w0)
    refine draws mixed [⟨.det (ptr b1 0), []⟩, ⟨.det (vQ q.c0), [3]⟩, ⟨.det (ptr b1 8), []⟩, ⟨.det (vQ q.c2), [3]⟩, ⟨.det (vQ (ra_Sub t.r (ra_Mul t.p t.p))), [4]⟩, ⟨.det (vQ (ra_Mul q.c2 (ra_Sub t.r (ra_Mul t.p t.p)))), []⟩, ⟨.det (vQ (ra_Add q.c0 (ra_Mul q.c2 (ra_Sub t.r (ra_Mul t.p t.p))))), []⟩, ⟨.det (vD q), [3]⟩, ⟨.det (ptr b2 0), []⟩, ⟨.det (vQ t.p), [2]⟩, ⟨.det (vQ (qu_slope q t.p)), []⟩, ⟨.det (vD (qu_Linear (ra_Add q.c0 (ra_Mul q.c2 (ra_Sub t.r (ra_Mul t.p t.p)))) (qu_slope q t.p))), []⟩, ⟨.det undef, [1]⟩] [⟨.blk b4 (cQ ((rl_Rational t).1)) 40, []⟩, ⟨.blk b3 (cD (⟨(⟨(⟨false, 0⟩ : GI), (⟨false, 0⟩ : GI)⟩ : GQ), (⟨(⟨false, 0⟩ : GI), (⟨false, 0⟩ : GI)⟩ : GQ), (⟨(⟨false, 0⟩ : GI), (⟨false, 0⟩ : GI)⟩ : GQ)⟩ : Qd)) 69, [(12, .con (.blk b3 (cD (qu_Linear (ra_Add q.c0 (ra_Mul q.c2 (ra_Sub t.r (ra_Mul t.p t.p)))) (qu_slope q t.p))) 69))]⟩, ⟨.blk b2 (cR t) 53, []⟩, ⟨.blk b1 (cD q) 69, []⟩, ⟨.blk b5 (cQ (ra_Sub t.r (ra_Mul t.p t.p))) 40, []⟩] h rfl (by kernel_rfl) ⟨?_, ?_, ?_, ?_, ?_, ?_, ?_, ?_, ?_, ?_, ?_, ?_, ?_, trivial⟩ ?_
    · intro ξ hφ; exact ob_r0 (r_fa Tryz.runUnderlying69 rfl Tryz.sizeOf40 (by decide) rfl rfl (k' := 0))
    · intro ξ hφ; exact ob_r [.blk b1 (cD q) 69] rfl rfl (r_ld Tryz.isAgg40 Tryz.sizeOf40 rfl rfl rfl (v := (vQ q.c0)) rfl)
    · intro ξ hφ; exact ob_r0 (r_fa Tryz.runUnderlying69 rfl Tryz.sizeOf40 (by decide) rfl rfl (k' := 8))
    · intro ξ hφ; exact ob_r [.blk b1 (cD q) 69] rfl rfl (r_ld Tryz.isAgg40 Tryz.sizeOf40 rfl rfl rfl (v := (vQ q.c2)) rfl)
    · intro ξ hφ; exact ob_r [.blk b5 (cQ (ra_Sub t.r (ra_Mul t.p t.p))) 40] rfl rfl (r_ld Tryz.isAgg40 Tryz.sizeOf40 rfl rfl rfl (v := (vQ (ra_Sub t.r (ra_Mul t.p t.p)))) rfl)
    · intro ξ hφ; exact ob_s (s_clp Tryz.call101 (vs := [(vQ q.c2), (vQ (ra_Sub t.r (ra_Mul t.p t.p)))]) rfl (ra_Mul_ct q.c2 (ra_Sub t.r (ra_Mul t.p t.p)) (k + 3) (by omega) (SzD_le zq (by omega)).2.2 s5))
    · intro ξ hφ; exact ob_s (s_clp Tryz.call102 (vs := [(vQ q.c0), (vQ (ra_Mul q.c2 (ra_Sub t.r (ra_Mul t.p t.p))))]) rfl (ra_Add_ct q.c0 (ra_Mul q.c2 (ra_Sub t.r (ra_Mul t.p t.p))) k (by omega) (SzD_le zq (by omega)).1 s6))
    · intro ξ hφ; exact ob_r [.blk b1 (cD q) 69] rfl rfl (r_ld Tryz.isAgg69 Tryz.sizeOf69 rfl rfl rfl (v := (vD q)) rfl)
    · intro ξ hφ; exact ob_r0 (r_fa Tryz.runUnderlying53 rfl Tryz.sizeOf40 (by decide) rfl rfl (k' := 0))
    · intro ξ hφ; exact ob_r [.blk b2 (cR t) 53] rfl rfl (r_ld Tryz.isAgg40 Tryz.sizeOf40 rfl rfl rfl (v := (vQ t.p)) rfl)
    · intro ξ hφ; exact ob_s (s_clp Tryz.call103 (vs := [(vD q), (vQ t.p)]) rfl (qu_slope_ct q t.p (k + 2) (by omega) zq zt.1))
    · intro ξ hφ; exact ob_s (s_clp Tryz.call31 (vs := [(vQ (ra_Add q.c0 (ra_Mul q.c2 (ra_Sub t.r (ra_Mul t.p t.p))))), (vQ (qu_slope q t.p))]) rfl (qu_Linear_ct (ra_Add q.c0 (ra_Mul q.c2 (ra_Sub t.r (ra_Mul t.p t.p)))) (qu_slope q t.p) k (by omega) s7 (SzQ_le s8 (by omega))))
    · intro ξ hφ; exact ob_u [.blk b3 (cD (⟨(⟨(⟨false, 0⟩ : GI), (⟨false, 0⟩ : GI)⟩ : GQ), (⟨(⟨false, 0⟩ : GI), (⟨false, 0⟩ : GI)⟩ : GQ), (⟨(⟨false, 0⟩ : GI), (⟨false, 0⟩ : GI)⟩ : GQ)⟩ : Qd)) 69] [.blk b3 (cD (qu_Linear (ra_Add q.c0 (ra_Mul q.c2 (ra_Sub t.r (ra_Mul t.p t.p)))) (qu_slope q t.p))) 69] rfl rfl (s_st Tryz.sizeOf69 rfl rfl rfl rfl rfl rfl rfl)
    clear h ac wo; intro ξ ac wo hφ h
    replace h : St w0 38 [(4, (ptr b3 0))] [.blk b4 (cQ ((rl_Rational t).1)) 40, .blk b3 (cD (qu_Linear (ra_Add q.c0 (ra_Mul q.c2 (ra_Sub t.r (ra_Mul t.p t.p)))) (qu_slope q t.p))) 69, .blk b2 (cR t) 53, .blk b1 (cD q) 69, .blk b5 (cQ (ra_Sub t.r (ra_Mul t.p t.p))) 40] ac wo := h.sub ⟨rfl, trivial⟩
    clear hφ ξ
    refine hK7 _ _ ?_
    refine c_ret ?_
    have hd : qu_Reduce q t = (qu_Linear (ra_Add q.c0 (ra_Mul q.c2 (ra_Sub t.r (ra_Mul t.p t.p)))) (qu_slope q t.p)) := (cF hc1)
    exact ret (rs := [.cell 4 69]) h rfl (.cell (v := (vD (qu_Linear (ra_Add q.c0 (ra_Mul q.c2 (ra_Sub t.r (ra_Mul t.p t.p)))) (qu_slope q t.p)))) rfl (i := 1) rfl Tryz.isAgg69 Tryz.sizeOf69 rfl rfl rfl .nil) rfl (h.retP (by rw [hd] <;> rfl) (by rw [hd]; exact s9))
def qu_Same (p : Qd) (q : Qd) (t : GR) : Bool :=
  (decide ((qu_Reduce (qu_Sub p q) t) = (⟨(⟨(⟨false, 0⟩ : GI), (⟨false, 0⟩ : GI)⟩ : GQ), (⟨(⟨false, 0⟩ : GI), (⟨false, 0⟩ : GI)⟩ : GQ), (⟨(⟨false, 0⟩ : GI), (⟨false, 0⟩ : GI)⟩ : GQ)⟩ : Qd)))
theorem qu_Same_ct (p : Qd) (q : Qd) (t : GR) (k : Nat) (hk : (k + 14) ≤ 40) (zp : SzD (k + 14) p) (zq : SzD (k + 14) q) (zt : SzR (k + 14) t) (w0 : World) : Calls Tryz.prog 30 #[(vD p), (vD q), (vR t)] w0 (RetP w0 (.bool (qu_Same p q t)) (True)) := by
  refine enter (N := 14) (args := [(vD p), (vD q), (vR t)]) Tryz.func30 rfl rfl ?_; intro ac h
  refine c_rs fun K1 hK1 => ?_
  refine bx h (cD p) rfl rfl rfl ?_; clear h ac; intro b1 ac wo h
  refine bx h (cD q) rfl rfl rfl ?_; clear h ac wo; intro b2 ac wo h
  refine bx h (cR t) rfl rfl rfl ?_; clear h ac wo; intro b3 ac wo h
  refine rd0 h (r_assign rfl (v := (.bool false))) rfl ?_; clear h ac wo; intro ac wo h
  refine w_nil ?_
  refine hK1 _ _ ?_
  refine c_seq fun K2 hK2 => ?_
  have s1 := Calls_pr ((qu_Sub_ct p q (k + 11) (by omega) zp zq) w0)
  have s2 := Calls_pr ((qu_Reduce_ct (qu_Sub p q) t (k + 1) (by omega) s1 (SzR_le zt (by omega))) w0)
  refine draws mixed [⟨.det (vD p), [2]⟩, ⟨.det (vD q), [1]⟩, ⟨.det (vD (qu_Sub p q)), []⟩, ⟨.det (vR t), [0]⟩, ⟨.det (vD (qu_Reduce (qu_Sub p q) t)), []⟩, ⟨.det (vD (⟨(⟨(⟨false, 0⟩ : GI), (⟨false, 0⟩ : GI)⟩ : GQ), (⟨(⟨false, 0⟩ : GI), (⟨false, 0⟩ : GI)⟩ : GQ), (⟨(⟨false, 0⟩ : GI), (⟨false, 0⟩ : GI)⟩ : GQ)⟩ : Qd)), []⟩, ⟨.det (.bool (decide ((qu_Reduce (qu_Sub p q) t) = (⟨(⟨(⟨false, 0⟩ : GI), (⟨false, 0⟩ : GI)⟩ : GQ), (⟨(⟨false, 0⟩ : GI), (⟨false, 0⟩ : GI)⟩ : GQ), (⟨(⟨false, 0⟩ : GI), (⟨false, 0⟩ : GI)⟩ : GQ)⟩ : Qd)))), []⟩, ⟨.det (.bool (decide ((qu_Reduce (qu_Sub p q) t) = (⟨(⟨(⟨false, 0⟩ : GI), (⟨false, 0⟩ : GI)⟩ : GQ), (⟨(⟨false, 0⟩ : GI), (⟨false, 0⟩ : GI)⟩ : GQ), (⟨(⟨false, 0⟩ : GI), (⟨false, 0⟩ : GI)⟩ : GQ)⟩ : Qd)))), []⟩] [⟨.blk b3 (cR t) 53, []⟩, ⟨.blk b2 (cD q) 69, []⟩, ⟨.blk b1 (cD p) 69, []⟩] h rfl (by kernel_rfl) ⟨?_, ?_, ?_, ?_, ?_, ?_, ?_, ?_, trivial⟩ ?_
  · intro ξ hφ; exact ob_r [.blk b1 (cD p) 69] rfl rfl (r_ld Tryz.isAgg69 Tryz.sizeOf69 rfl rfl rfl (v := (vD p)) rfl)
  · intro ξ hφ; exact ob_r [.blk b2 (cD q) 69] rfl rfl (r_ld Tryz.isAgg69 Tryz.sizeOf69 rfl rfl rfl (v := (vD q)) rfl)
  · intro ξ hφ; exact ob_s (s_clp Tryz.call96 (vs := [(vD p), (vD q)]) rfl (qu_Sub_ct p q (k + 11) (by omega) zp zq))
  · intro ξ hφ; exact ob_r [.blk b3 (cR t) 53] rfl rfl (r_ld Tryz.isAgg53 Tryz.sizeOf53 rfl rfl rfl (v := (vR t)) rfl)
  · intro ξ hφ; exact ob_s (s_clp Tryz.call37 (vs := [(vD (qu_Sub p q)), (vR t)]) rfl (qu_Reduce_ct (qu_Sub p q) t (k + 1) (by omega) s1 (SzR_le zt (by omega))))
  · intro ξ hφ; exact ob_r0 (r_build (parts := []) (vs := []) bld69 rfl rfl (v := (vD (⟨(⟨(⟨false, 0⟩ : GI), (⟨false, 0⟩ : GI)⟩ : GQ), (⟨(⟨false, 0⟩ : GI), (⟨false, 0⟩ : GI)⟩ : GQ), (⟨(⟨false, 0⟩ : GI), (⟨false, 0⟩ : GI)⟩ : GQ)⟩ : Qd))) rfl)
  · intro ξ hφ; exact ob_r0 (r_eqlT eqp69 rfl rfl (b := (qu_Reduce (qu_Sub p q) t)) (c := (⟨(⟨(⟨false, 0⟩ : GI), (⟨false, 0⟩ : GI)⟩ : GQ), (⟨(⟨false, 0⟩ : GI), (⟨false, 0⟩ : GI)⟩ : GQ), (⟨(⟨false, 0⟩ : GI), (⟨false, 0⟩ : GI)⟩ : GQ)⟩ : Qd)))
  · intro ξ hφ; exact ob_r0 (r_assign rfl)
  clear h ac wo; intro ξ ac wo hφ h
  replace h : St w0 14 [(6, (.bool (decide ((qu_Reduce (qu_Sub p q) t) = (⟨(⟨(⟨false, 0⟩ : GI), (⟨false, 0⟩ : GI)⟩ : GQ), (⟨(⟨false, 0⟩ : GI), (⟨false, 0⟩ : GI)⟩ : GQ), (⟨(⟨false, 0⟩ : GI), (⟨false, 0⟩ : GI)⟩ : GQ)⟩ : Qd)))))] [.blk b3 (cR t) 53, .blk b2 (cD q) 69, .blk b1 (cD p) 69] ac wo := h.sub ⟨rfl, trivial⟩
  clear hφ ξ
  refine hK2 _ _ ?_
  refine c_ret ?_
  have hd : qu_Same p q t = (decide ((qu_Reduce (qu_Sub p q) t) = (⟨(⟨(⟨false, 0⟩ : GI), (⟨false, 0⟩ : GI)⟩ : GQ), (⟨(⟨false, 0⟩ : GI), (⟨false, 0⟩ : GI)⟩ : GQ), (⟨(⟨false, 0⟩ : GI), (⟨false, 0⟩ : GI)⟩ : GQ)⟩ : Qd))) := rfl
  exact ret (rs := [.tmp 6]) h rfl (.tmp rfl .nil) rfl (h.retP (by rw [hd] <;> rfl) trivial)
def rl_factor (x : GR) : GQ :=
  bif x.neg then
    (ra_FromInt (-1))
  else
    (ra_FromInt 1)
theorem rl_factor_ct (x : GR) (k : Nat) (hk : k ≤ 40) (zx : SzR k x) (w0 : World) : Calls Tryz.prog 174 #[(vR x)] w0 (RetP w0 (vQ (rl_factor x)) (SzQ k (rl_factor x))) := by
  refine enter (N := 7) (args := [(vR x)]) Tryz.func174 rfl rfl ?_; intro ac h
  refine c_rs fun K1 hK1 => ?_
  refine bx h (cR x) rfl rfl rfl ?_; clear h ac; intro b1 ac wo h
  refine al h (cQ (⟨(⟨false, 0⟩ : GI), (⟨false, 0⟩ : GI)⟩ : GQ)) Tryz.zeroValue40 rfl rfl ?_; clear h ac wo; intro b2 ac wo h
  refine w_nil ?_
  refine hK1 _ _ ?_
  refine c_seq fun K2 hK2 => ?_
  refine c_rs fun K3 hK3 => ?_
  refine rd0 h (r_fa Tryz.runUnderlying53 rfl Tryz.sizeOf4 (by decide) rfl rfl (k' := 8)) rfl ?_; clear h ac wo; intro ac wo h
  refine rd1 h 1 rfl (r_ld Tryz.isAgg4 Tryz.sizeOf4 rfl rfl rfl (v := (.bool x.neg)) rfl) rfl ?_; clear h ac wo; intro ac wo h
  refine w_nil ?_
  refine hK3 _ _ ?_
  refine c_if (b := x.neg) h rfl (fun hc1 => ?_) (fun hc1 => ?_)
  · skip
    refine c_rs fun K4 hK4 => ?_
    have s1 := Calls_pr ((ra_FromInt_ct (-1) k (by omega)  (by omega)) w0)
    refine clp h Tryz.call45 (vs := [(.int .i64 (-1))]) rfl (ra_FromInt_ct (-1) k (by omega)  (by omega)) rfl ?_; clear h ac wo; intro ac wo h
    refine st h 0 (cQ (ra_FromInt (-1))) rfl Tryz.sizeOf40 rfl rfl rfl rfl rfl rfl rfl ?_; clear h ac wo; intro ac wo h
    refine w_nil ?_
    refine hK4 _ _ ?_
    refine c_ret ?_
    have hd : rl_factor x = (ra_FromInt (-1)) := (cT hc1)
    exact ret (rs := [.cell 2 40]) h rfl (.cell (v := (vQ (ra_FromInt (-1)))) rfl (i := 0) rfl Tryz.isAgg40 Tryz.sizeOf40 rfl rfl rfl .nil) rfl (h.retP (by rw [hd] <;> rfl) (by rw [hd]; exact s1))
  · skip
    refine c_skip ?_
    refine hK2 _ _ ?_
    refine c_rs fun K5 hK5 => ?_
    have s2 := Calls_pr ((ra_FromInt_ct 1 k (by omega)  (by omega)) w0)
    refine clp h Tryz.call45 (vs := [(.int .i64 1)]) rfl (ra_FromInt_ct 1 k (by omega)  (by omega)) rfl ?_; clear h ac wo; intro ac wo h
    refine st h 0 (cQ (ra_FromInt 1)) rfl Tryz.sizeOf40 rfl rfl rfl rfl rfl rfl rfl ?_; clear h ac wo; intro ac wo h
    refine w_nil ?_
    refine hK5 _ _ ?_
    refine c_ret ?_
    have hd : rl_factor x = (ra_FromInt 1) := (cF hc1)
    exact ret (rs := [.cell 2 40]) h rfl (.cell (v := (vQ (ra_FromInt 1))) rfl (i := 0) rfl Tryz.isAgg40 Tryz.sizeOf40 rfl rfl rfl .nil) rfl (h.retP (by rw [hd] <;> rfl) (by rw [hd]; exact s2))
def rl_sign (a : GQ) (b : GQ) (r : GQ) : Int :=
  bif ((((ra_Sign b) * (ra_Sign r)) == 0) || ((ra_Sign a) == ((ra_Sign b) * (ra_Sign r)))) then
    (ra_Sign a)
  else
    bif ((ra_Sign a) == 0) then
      ((ra_Sign b) * (ra_Sign r))
    else
      ((ra_Sign a) * (ra_Compare (ra_Mul a a) (ra_Mul (ra_Mul b b) r)))
theorem rl_sign_ct (a : GQ) (b : GQ) (r : GQ) (k : Nat) (hk : (k + 8) ≤ 40) (za : SzQ (k + 8) a) (zb : SzQ (k + 8) b) (zr : SzQ (k + 8) r) (w0 : World) : Calls Tryz.prog 175 #[(vQ a), (vQ b), (vQ r)] w0 (RetP w0 (.int .i64 (rl_sign a b r)) ((-1 ≤ (rl_sign a b r) ∧ (rl_sign a b r) ≤ 1))) := by
  refine enter (N := 40) (args := [(vQ a), (vQ b), (vQ r)]) Tryz.func175 rfl rfl ?_; intro ac h
  refine c_rs fun K1 hK1 => ?_
  refine bx h (cQ a) rfl rfl rfl ?_; clear h ac; intro b1 ac wo h
  refine bx h (cQ b) rfl rfl rfl ?_; clear h ac wo; intro b2 ac wo h
  refine bx h (cQ r) rfl rfl rfl ?_; clear h ac wo; intro b3 ac wo h
  refine rd0 h (r_assign rfl (v := (.int .i64 0))) rfl ?_; clear h ac wo; intro ac wo h
  refine w_nil ?_
  refine hK1 _ _ ?_
  refine c_seq fun K2 hK2 => ?_
  have p2 := Calls_pr ((ra_Sign_ct a) w0)
  have p4 := Calls_pr ((ra_Sign_ct b) w0)
  have p6 := Calls_pr ((ra_Sign_ct r) w0)
  refine draws mixed [⟨.det (vQ a), [2]⟩, ⟨.det (.int .i64 (ra_Sign a)), []⟩, ⟨.det (vQ b), [1]⟩, ⟨.det (.int .i64 (ra_Sign b)), []⟩, ⟨.det (vQ r), [0]⟩, ⟨.det (.int .i64 (ra_Sign r)), []⟩, ⟨.det (.int .i64 ((ra_Sign b) * (ra_Sign r))), []⟩, ⟨.det (.int .i64 (ra_Sign a)), []⟩, ⟨.det (.int .i64 ((ra_Sign b) * (ra_Sign r))), []⟩] [⟨.blk b3 (cQ r) 40, []⟩, ⟨.blk b2 (cQ b) 40, []⟩, ⟨.blk b1 (cQ a) 40, []⟩] h rfl (by kernel_rfl) ⟨?_, ?_, ?_, ?_, ?_, ?_, ?_, ?_, ?_, trivial⟩ ?_
  · intro ξ hφ; exact ob_r [.blk b1 (cQ a) 40] rfl rfl (r_ld Tryz.isAgg40 Tryz.sizeOf40 rfl rfl rfl (v := (vQ a)) rfl)
  · intro ξ hφ; exact ob_s (s_clp Tryz.call58 (vs := [(vQ a)]) rfl (ra_Sign_ct a))
  · intro ξ hφ; exact ob_r [.blk b2 (cQ b) 40] rfl rfl (r_ld Tryz.isAgg40 Tryz.sizeOf40 rfl rfl rfl (v := (vQ b)) rfl)
  · intro ξ hφ; exact ob_s (s_clp Tryz.call58 (vs := [(vQ b)]) rfl (ra_Sign_ct b))
  · intro ξ hφ; exact ob_r [.blk b3 (cQ r) 40] rfl rfl (r_ld Tryz.isAgg40 Tryz.sizeOf40 rfl rfl rfl (v := (vQ r)) rfl)
  · intro ξ hφ; exact ob_s (s_clp Tryz.call58 (vs := [(vQ r)]) rfl (ra_Sign_ct r))
  · intro ξ hφ; exact ob_r0 (r_mul rfl rfl (r := ((ra_Sign b) * (ra_Sign r))) (by first | (rw [IntKind.wrap_i64]; omega) | exact wrap_sgn (by omega) (by omega)))
  · intro ξ hφ; exact ob_r0 (r_assign rfl)
  · intro ξ hφ; exact ob_r0 (r_assign rfl)
  clear h ac wo; intro ξ ac wo hφ h
  replace h : St w0 40 [(3, (ptr b1 0)), (4, (ptr b2 0)), (5, (ptr b3 0)), (7, (.int .i64 (ra_Sign a))), (8, (.int .i64 ((ra_Sign b) * (ra_Sign r))))] [.blk b3 (cQ r) 40, .blk b2 (cQ b) 40, .blk b1 (cQ a) 40] ac wo := h.sub ⟨rfl, rfl, rfl, rfl, rfl, trivial⟩
  clear hφ ξ
  refine hK2 _ _ ?_
  refine c_seq fun K3 hK3 => ?_
  refine c_block ?_
  refine c_rs fun K4 hK4 => ?_
  refine rd0 h (r_move rfl) rfl ?_; clear h ac wo; intro ac wo h
  refine rd0 h (r_eql rfl rfl) rfl ?_; clear h ac wo; intro ac wo h
  refine rd0 h (r_move rfl) rfl ?_; clear h ac wo; intro ac wo h
  refine gd (j := 2) (c := true) (b := (((ra_Sign b) * (ra_Sign r)) == 0)) (g := (!(((ra_Sign b) * (ra_Sign r)) == 0))) h rfl rfl g_f (fun hg => (Rd.of_nil (r_move rfl)).step) rfl ?_; clear h ac wo; intro ac wo h
  refine gd (j := 2) (c := true) (b := (((ra_Sign b) * (ra_Sign r)) == 0)) (g := (!(((ra_Sign b) * (ra_Sign r)) == 0))) h rfl rfl g_f (fun hg => (Rd.of_nil (r_move rfl)).step) rfl ?_; clear h ac wo; intro ac wo h
  refine gd (j := 2) (c := true) (b := (((ra_Sign b) * (ra_Sign r)) == 0)) (g := (!(((ra_Sign b) * (ra_Sign r)) == 0))) h rfl rfl g_f (fun hg => (Rd.of_nil (r_eql (gv_ev rfl hg) (gv_ev rfl hg))).step) rfl ?_; clear h ac wo; intro ac wo h
  refine rd0 h (r_or rfl (fun e => (gv_ev rfl (notI e)))) rfl ?_; clear h ac wo; intro ac wo h
  refine rd0 h (r_assign rfl) rfl ?_; clear h ac wo; intro ac wo h
  refine w_nil ?_
  refine hK4 _ _ ?_
  refine c_if (b := ((((ra_Sign b) * (ra_Sign r)) == 0) || ((ra_Sign a) == ((ra_Sign b) * (ra_Sign r))))) h rfl (fun hc1 => ?_) (fun hc1 => ?_)
  · skip
    refine c_rs fun K5 hK5 => ?_
    refine rd0 h (r_move rfl) rfl ?_; clear h ac wo; intro ac wo h
    refine rd0 h (r_assign rfl) rfl ?_; clear h ac wo; intro ac wo h
    refine w_nil ?_
    refine hK5 _ _ ?_
    refine c_ret ?_
    have hd : rl_sign a b r = (ra_Sign a) := (cT hc1)
    exact ret (rs := [.tmp 6]) h rfl (.tmp rfl .nil) rfl (h.retP (by rw [hd] <;> rfl) (by rw [hd]; exact by first | omega | exact sgn_mul (by omega) (by omega)))
  · skip
    refine c_rs fun K6 hK6 => ?_
    refine rd0 h (r_move rfl) rfl ?_; clear h ac wo; intro ac wo h
    refine rd0 h (r_eql rfl rfl) rfl ?_; clear h ac wo; intro ac wo h
    refine rd0 h (r_assign rfl) rfl ?_; clear h ac wo; intro ac wo h
    refine w_nil ?_
    refine hK6 _ _ ?_
    refine c_if (b := ((ra_Sign a) == 0)) h rfl (fun hc2 => ?_) (fun hc2 => ?_)
    · skip
      have hd2 := eq_of_beq hc2
      refine c_rs fun K7 hK7 => ?_
      refine rd0 h (r_move rfl) rfl ?_; clear h ac wo; intro ac wo h
      refine rd0 h (r_assign rfl) rfl ?_; clear h ac wo; intro ac wo h
      refine w_nil ?_
      refine hK7 _ _ ?_
      refine c_ret ?_
      have hd : rl_sign a b r = ((ra_Sign b) * (ra_Sign r)) := (Eq.trans (cF hc1) (cT hc2))
      exact ret (rs := [.tmp 6]) h rfl (.tmp rfl .nil) rfl (h.retP (by rw [hd] <;> rfl) (by rw [hd]; exact by first | omega | exact sgn_mul (by omega) (by omega)))
    · skip
      have hd2 := ne_of_beq_false hc2
      refine c_skip ?_
      refine b_norm ?_
      refine hK3 _ _ ?_
      refine c_seq fun K8 hK8 => ?_
      have s7 := Calls_pr ((ra_Mul_ct a a (k + 6) (by omega) za za) w0)
      have s8 := Calls_pr ((ra_Mul_ct b b (k + 6) (by omega) zb zb) w0)
      have s9 := Calls_pr ((ra_Mul_ct (ra_Mul b b) r (k + 4) (by omega) s8 (SzQ_le zr (by omega))) w0)
      have p11 := Calls_pr ((ra_Compare_ct (ra_Mul a a) (ra_Mul (ra_Mul b b) r) (k + 3) (by omega) (SzQ_le s7 (by omega)) s9) w0)
      refine draws mixed [⟨.det (.int .i64 (ra_Sign a)), []⟩, ⟨.det (vQ a), [2]⟩, ⟨.det (vQ a), [2]⟩, ⟨.det (vQ (ra_Mul a a)), []⟩, ⟨.det (vQ b), [1]⟩, ⟨.det (vQ b), [1]⟩, ⟨.det (vQ (ra_Mul b b)), []⟩, ⟨.det (vQ r), [0]⟩, ⟨.det (vQ (ra_Mul (ra_Mul b b) r)), []⟩, ⟨.det (.int .i64 (ra_Compare (ra_Mul a a) (ra_Mul (ra_Mul b b) r))), []⟩, ⟨.det (.int .i64 ((ra_Sign a) * (ra_Compare (ra_Mul a a) (ra_Mul (ra_Mul b b) r)))), []⟩, ⟨.det (.int .i64 ((ra_Sign a) * (ra_Compare (ra_Mul a a) (ra_Mul (ra_Mul b b) r)))), []⟩] [⟨.blk b3 (cQ r) 40, []⟩, ⟨.blk b2 (cQ b) 40, []⟩, ⟨.blk b1 (cQ a) 40, []⟩] h rfl (by kernel_rfl) ⟨?_, ?_, ?_, ?_, ?_, ?_, ?_, ?_, ?_, ?_, ?_, ?_, trivial⟩ ?_
      · intro ξ hφ; exact ob_r0 (r_move rfl)
      · intro ξ hφ; exact ob_r [.blk b1 (cQ a) 40] rfl rfl (r_ld Tryz.isAgg40 Tryz.sizeOf40 rfl rfl rfl (v := (vQ a)) rfl)
      · intro ξ hφ; exact ob_r [.blk b1 (cQ a) 40] rfl rfl (r_ld Tryz.isAgg40 Tryz.sizeOf40 rfl rfl rfl (v := (vQ a)) rfl)
      · intro ξ hφ; exact ob_s (s_clp Tryz.call101 (vs := [(vQ a), (vQ a)]) rfl (ra_Mul_ct a a (k + 6) (by omega) za za))
      · intro ξ hφ; exact ob_r [.blk b2 (cQ b) 40] rfl rfl (r_ld Tryz.isAgg40 Tryz.sizeOf40 rfl rfl rfl (v := (vQ b)) rfl)
      · intro ξ hφ; exact ob_r [.blk b2 (cQ b) 40] rfl rfl (r_ld Tryz.isAgg40 Tryz.sizeOf40 rfl rfl rfl (v := (vQ b)) rfl)
      · intro ξ hφ; exact ob_s (s_clp Tryz.call101 (vs := [(vQ b), (vQ b)]) rfl (ra_Mul_ct b b (k + 6) (by omega) zb zb))
      · intro ξ hφ; exact ob_r [.blk b3 (cQ r) 40] rfl rfl (r_ld Tryz.isAgg40 Tryz.sizeOf40 rfl rfl rfl (v := (vQ r)) rfl)
      · intro ξ hφ; exact ob_s (s_clp Tryz.call101 (vs := [(vQ (ra_Mul b b)), (vQ r)]) rfl (ra_Mul_ct (ra_Mul b b) r (k + 4) (by omega) s8 (SzQ_le zr (by omega))))
      · intro ξ hφ; exact ob_s (s_clp Tryz.call198 (vs := [(vQ (ra_Mul a a)), (vQ (ra_Mul (ra_Mul b b) r))]) rfl (ra_Compare_ct (ra_Mul a a) (ra_Mul (ra_Mul b b) r) (k + 3) (by omega) (SzQ_le s7 (by omega)) s9))
      · intro ξ hφ; exact ob_r0 (r_mul rfl rfl (r := ((ra_Sign a) * (ra_Compare (ra_Mul a a) (ra_Mul (ra_Mul b b) r)))) (by first | (rw [IntKind.wrap_i64]; omega) | exact wrap_sgn (by omega) (by omega)))
      · intro ξ hφ; exact ob_r0 (r_assign rfl)
      clear h ac wo; intro ξ ac wo hφ h
      replace h : St w0 40 [(6, (.int .i64 ((ra_Sign a) * (ra_Compare (ra_Mul a a) (ra_Mul (ra_Mul b b) r)))))] [.blk b3 (cQ r) 40, .blk b2 (cQ b) 40, .blk b1 (cQ a) 40] ac wo := h.sub ⟨rfl, trivial⟩
      clear hφ ξ
      refine hK8 _ _ ?_
      refine c_ret ?_
      have hd : rl_sign a b r = ((ra_Sign a) * (ra_Compare (ra_Mul a a) (ra_Mul (ra_Mul b b) r))) := (Eq.trans (cF hc1) (cF hc2))
      exact ret (rs := [.tmp 6]) h rfl (.tmp rfl .nil) rfl (h.retP (by rw [hd] <;> rfl) (by rw [hd]; exact by first | omega | exact sgn_mul (by omega) (by omega)))
def rl_Compare (x : GR) (y : GR) : Int :=
  bif ((((ra_Sign (ra_Neg (rl_factor y))) * (ra_Sign y.r)) == 0) || ((rl_sign (ra_Sub x.p y.p) (rl_factor x) x.r) == ((ra_Sign (ra_Neg (rl_factor y))) * (ra_Sign y.r)))) then
    (rl_sign (ra_Sub x.p y.p) (rl_factor x) x.r)
  else
    bif ((rl_sign (ra_Sub x.p y.p) (rl_factor x) x.r) == 0) then
      ((ra_Sign (ra_Neg (rl_factor y))) * (ra_Sign y.r))
    else
      ((rl_sign (ra_Sub x.p y.p) (rl_factor x) x.r) * (rl_sign (ra_Sub (ra_Add (ra_Mul (ra_Sub x.p y.p) (ra_Sub x.p y.p)) x.r) y.r) (ra_Mul (ra_FromInt 2) (ra_Mul (ra_Sub x.p y.p) (rl_factor x))) x.r))
theorem rl_Compare_ct (x : GR) (y : GR) (k : Nat) (hk : (k + 20) ≤ 40) (zx : SzR (k + 20) x) (zy : SzR (k + 20) y) (w0 : World) : Calls Tryz.prog 115 #[(vR x), (vR y)] w0 (RetP w0 (.int .i64 (rl_Compare x y)) ((-1 ≤ (rl_Compare x y) ∧ (rl_Compare x y) ≤ 1))) := by
  refine enter (N := 65) (args := [(vR x), (vR y)]) Tryz.func115 rfl rfl ?_; intro ac h
  refine c_rs fun K1 hK1 => ?_
  refine bx h (cR x) rfl rfl rfl ?_; clear h ac; intro b1 ac wo h
  refine bx h (cR y) rfl rfl rfl ?_; clear h ac wo; intro b2 ac wo h
  refine rd0 h (r_assign rfl (v := (.int .i64 0))) rfl ?_; clear h ac wo; intro ac wo h
  refine w_nil ?_
  refine hK1 _ _ ?_
  refine c_seq fun K2 hK2 => ?_
  have s1 := Calls_pr ((ra_Sub_ct x.p y.p (k + 17) (by omega) zx.1 zy.1) w0)
  have s2 := Calls_pr ((rl_factor_ct x (k + 20) (by omega) zx) w0)
  have s3 := Calls_pr ((rl_factor_ct y (k + 20) (by omega) zy) w0)
  have s4 := Calls_pr ((ra_Neg_ct (rl_factor y) (k + 20) (by omega) s3) w0)
  replace h := h.emps 3
  refine draws mixed [⟨.det (ptr b1 0), []⟩, ⟨.det (vQ x.p), [1]⟩, ⟨.det (ptr b2 0), []⟩, ⟨.det (vQ y.p), [0]⟩, ⟨.det (vQ (ra_Sub x.p y.p)), []⟩, ⟨.det (vR x), [1]⟩, ⟨.det (vQ (rl_factor x)), []⟩, ⟨.det (vR y), [0]⟩, ⟨.det (vQ (rl_factor y)), []⟩, ⟨.det (vQ (ra_Neg (rl_factor y))), []⟩, ⟨.nd (.one 10 fun v => ∃ b, v = ptr b 0), [2]⟩, ⟨.nd (.one 11 fun v => ∃ b, v = ptr b 0), [3]⟩, ⟨.nd (.one 12 fun v => ∃ b, v = ptr b 0), [4]⟩, ⟨.det undef, [2]⟩, ⟨.det undef, [3]⟩, ⟨.det undef, [4]⟩] [⟨.blk b2 (cR y) 53, []⟩, ⟨.blk b1 (cR x) 53, []⟩, ⟨.emp, [(10, .one 10 fun v => .blk (blkOf v) (cQ (⟨(⟨false, 0⟩ : GI), (⟨false, 0⟩ : GI)⟩ : GQ)) 40), (13, .one 10 fun v => .blk (blkOf v) (cQ (ra_Sub x.p y.p)) 40)]⟩, ⟨.emp, [(11, .one 11 fun v => .blk (blkOf v) (cQ (⟨(⟨false, 0⟩ : GI), (⟨false, 0⟩ : GI)⟩ : GQ)) 40), (14, .one 11 fun v => .blk (blkOf v) (cQ (rl_factor x)) 40)]⟩, ⟨.emp, [(12, .one 12 fun v => .blk (blkOf v) (cQ (⟨(⟨false, 0⟩ : GI), (⟨false, 0⟩ : GI)⟩ : GQ)) 40), (15, .one 12 fun v => .blk (blkOf v) (cQ (ra_Neg (rl_factor y))) 40)]⟩] h rfl (by kernel_rfl) ⟨?_, ?_, ?_, ?_, ?_, ?_, ?_, ?_, ?_, ?_, ?_, ?_, ?_, ?_, ?_, ?_, trivial⟩ ?_
  · intro ξ hφ; exact ob_r0 (r_fa Tryz.runUnderlying53 rfl Tryz.sizeOf40 (by decide) rfl rfl (k' := 0))
  · intro ξ hφ; exact ob_r [.blk b1 (cR x) 53] rfl rfl (r_ld Tryz.isAgg40 Tryz.sizeOf40 rfl rfl rfl (v := (vQ x.p)) rfl)
  · intro ξ hφ; exact ob_r0 (r_fa Tryz.runUnderlying53 rfl Tryz.sizeOf40 (by decide) rfl rfl (k' := 0))
  · intro ξ hφ; exact ob_r [.blk b2 (cR y) 53] rfl rfl (r_ld Tryz.isAgg40 Tryz.sizeOf40 rfl rfl rfl (v := (vQ y.p)) rfl)
  · intro ξ hφ; exact ob_s (s_clp Tryz.call100 (vs := [(vQ x.p), (vQ y.p)]) rfl (ra_Sub_ct x.p y.p (k + 17) (by omega) zx.1 zy.1))
  · intro ξ hφ; exact ob_r [.blk b1 (cR x) 53] rfl rfl (r_ld Tryz.isAgg53 Tryz.sizeOf53 rfl rfl rfl (v := (vR x)) rfl)
  · intro ξ hφ; exact ob_s (s_clp Tryz.call174 (vs := [(vR x)]) rfl (rl_factor_ct x (k + 20) (by omega) zx))
  · intro ξ hφ; exact ob_r [.blk b2 (cR y) 53] rfl rfl (r_ld Tryz.isAgg53 Tryz.sizeOf53 rfl rfl rfl (v := (vR y)) rfl)
  · intro ξ hφ; exact ob_s (s_clp Tryz.call174 (vs := [(vR y)]) rfl (rl_factor_ct y (k + 20) (by omega) zy))
  · intro ξ hφ; exact ob_s (s_clp Tryz.call52 (vs := [(vQ (rl_factor y))]) rfl (ra_Neg_ct (rl_factor y) (k + 20) (by omega) s3))
  · intro ξ hφ; exact ob_x (ψ := fun v => ∃ b, v = ptr b 0) (B := fun v => [.blk (blkOf v) (cQ (⟨(⟨false, 0⟩ : GI), (⟨false, 0⟩ : GI)⟩ : GQ)) 40]) [.emp] rfl (fun v _ => by simp only [picks, upd_same] <;> rfl) (fun v hv => by simpa [DF.one, upd_same] using hv) (s_emp (s_alloc Tryz.zeroValue40 rfl))
  · intro ξ hφ; exact ob_x (ψ := fun v => ∃ b, v = ptr b 0) (B := fun v => [.blk (blkOf v) (cQ (⟨(⟨false, 0⟩ : GI), (⟨false, 0⟩ : GI)⟩ : GQ)) 40]) [.emp] rfl (fun v _ => by simp only [picks, upd_same] <;> rfl) (fun v hv => by simpa [DF.one, upd_same] using hv) (s_emp (s_alloc Tryz.zeroValue40 rfl))
  · intro ξ hφ; exact ob_x (ψ := fun v => ∃ b, v = ptr b 0) (B := fun v => [.blk (blkOf v) (cQ (⟨(⟨false, 0⟩ : GI), (⟨false, 0⟩ : GI)⟩ : GQ)) 40]) [.emp] rfl (fun v _ => by simp only [picks, upd_same] <;> rfl) (fun v hv => by simpa [DF.one, upd_same] using hv) (s_emp (s_alloc Tryz.zeroValue40 rfl))
  · intro ξ hφ; obtain ⟨b3, hb10⟩ := hφ 10 rfl; exact ob_u [.blk b3 (cQ (⟨(⟨false, 0⟩ : GI), (⟨false, 0⟩ : GI)⟩ : GQ)) 40] [.blk b3 (cQ (ra_Sub x.p y.p)) 40] (congrArg (fun v => [Asn.blk (blkOf v) (cQ (⟨(⟨false, 0⟩ : GI), (⟨false, 0⟩ : GI)⟩ : GQ)) 40]) hb10) (congrArg (fun v => [Asn.blk (blkOf v) (cQ (ra_Sub x.p y.p)) 40]) hb10) (s_st Tryz.sizeOf40 (Eq.trans rfl (congrArg some hb10)) rfl rfl rfl rfl rfl rfl)
  · intro ξ hφ; obtain ⟨b4, hb11⟩ := hφ 11 rfl; exact ob_u [.blk b4 (cQ (⟨(⟨false, 0⟩ : GI), (⟨false, 0⟩ : GI)⟩ : GQ)) 40] [.blk b4 (cQ (rl_factor x)) 40] (congrArg (fun v => [Asn.blk (blkOf v) (cQ (⟨(⟨false, 0⟩ : GI), (⟨false, 0⟩ : GI)⟩ : GQ)) 40]) hb11) (congrArg (fun v => [Asn.blk (blkOf v) (cQ (rl_factor x)) 40]) hb11) (s_st Tryz.sizeOf40 (Eq.trans rfl (congrArg some hb11)) rfl rfl rfl rfl rfl rfl)
  · intro ξ hφ; obtain ⟨b5, hb12⟩ := hφ 12 rfl; exact ob_u [.blk b5 (cQ (⟨(⟨false, 0⟩ : GI), (⟨false, 0⟩ : GI)⟩ : GQ)) 40] [.blk b5 (cQ (ra_Neg (rl_factor y))) 40] (congrArg (fun v => [Asn.blk (blkOf v) (cQ (⟨(⟨false, 0⟩ : GI), (⟨false, 0⟩ : GI)⟩ : GQ)) 40]) hb12) (congrArg (fun v => [Asn.blk (blkOf v) (cQ (ra_Neg (rl_factor y))) 40]) hb12) (s_st Tryz.sizeOf40 (Eq.trans rfl (congrArg some hb12)) rfl rfl rfl rfl rfl rfl)
  clear h ac wo; intro ξ ac wo hφ h
  replace h : St w0 65 [(2, (ptr b1 0)), (3, (ptr b2 0)), (5, ξ 10), (6, ξ 11), (7, ξ 12)] [.blk b2 (cR y) 53, .blk b1 (cR x) 53, .blk (blkOf (ξ 10)) (cQ (ra_Sub x.p y.p)) 40, .blk (blkOf (ξ 11)) (cQ (rl_factor x)) 40, .blk (blkOf (ξ 12)) (cQ (ra_Neg (rl_factor y))) 40] ac wo := h.sub ⟨rfl, rfl, rfl, rfl, rfl, trivial⟩
  revert h
  obtain ⟨b3, hb10⟩ : ∃ b, ξ 10 = ptr b 0 := hφ 10
  obtain ⟨b4, hb11⟩ : ∃ b, ξ 11 = ptr b 0 := hφ 11
  obtain ⟨b5, hb12⟩ : ∃ b, ξ 12 = ptr b 0 := hφ 12
  rw [hb10, hb11, hb12]; intro h
  clear hb10 hb11 hb12 hφ ξ
  refine hK2 _ _ ?_
  refine c_seq fun K3 hK3 => ?_
  have p6 := Calls_pr ((rl_sign_ct (ra_Sub x.p y.p) (rl_factor x) x.r (k + 9) (by omega) s1 (SzQ_le s2 (by omega)) (SzR_le zx (by omega)).2) w0)
  have p8 := Calls_pr ((ra_Sign_ct (ra_Neg (rl_factor y))) w0)
  have p10 := Calls_pr ((ra_Sign_ct y.r) w0)
  refine draws mixed [⟨.det (vQ (ra_Sub x.p y.p)), [2]⟩, ⟨.det (vQ (rl_factor x)), [3]⟩, ⟨.det (ptr b1 4), []⟩, ⟨.det (vQ x.r), [1]⟩, ⟨.det (.int .i64 (rl_sign (ra_Sub x.p y.p) (rl_factor x) x.r)), []⟩, ⟨.det (vQ (ra_Neg (rl_factor y))), [4]⟩, ⟨.det (.int .i64 (ra_Sign (ra_Neg (rl_factor y)))), []⟩, ⟨.det (ptr b2 4), []⟩, ⟨.det (vQ y.r), [0]⟩, ⟨.det (.int .i64 (ra_Sign y.r)), []⟩, ⟨.det (.int .i64 ((ra_Sign (ra_Neg (rl_factor y))) * (ra_Sign y.r))), []⟩, ⟨.det (.int .i64 (rl_sign (ra_Sub x.p y.p) (rl_factor x) x.r)), []⟩, ⟨.det (.int .i64 ((ra_Sign (ra_Neg (rl_factor y))) * (ra_Sign y.r))), []⟩] [⟨.blk b2 (cR y) 53, []⟩, ⟨.blk b1 (cR x) 53, []⟩, ⟨.blk b3 (cQ (ra_Sub x.p y.p)) 40, []⟩, ⟨.blk b4 (cQ (rl_factor x)) 40, []⟩, ⟨.blk b5 (cQ (ra_Neg (rl_factor y))) 40, []⟩] h rfl (by kernel_rfl) ⟨?_, ?_, ?_, ?_, ?_, ?_, ?_, ?_, ?_, ?_, ?_, ?_, ?_, trivial⟩ ?_
  · intro ξ hφ; exact ob_r [.blk b3 (cQ (ra_Sub x.p y.p)) 40] rfl rfl (r_ld Tryz.isAgg40 Tryz.sizeOf40 rfl rfl rfl (v := (vQ (ra_Sub x.p y.p))) rfl)
  · intro ξ hφ; exact ob_r [.blk b4 (cQ (rl_factor x)) 40] rfl rfl (r_ld Tryz.isAgg40 Tryz.sizeOf40 rfl rfl rfl (v := (vQ (rl_factor x))) rfl)
  · intro ξ hφ; exact ob_r0 (r_fa Tryz.runUnderlying53 rfl Tryz.sizeOf40 (by decide) rfl rfl (k' := 4))
  · intro ξ hφ; exact ob_r [.blk b1 (cR x) 53] rfl rfl (r_ld Tryz.isAgg40 Tryz.sizeOf40 rfl rfl rfl (v := (vQ x.r)) rfl)
  · intro ξ hφ; exact ob_s (s_clp Tryz.call175 (vs := [(vQ (ra_Sub x.p y.p)), (vQ (rl_factor x)), (vQ x.r)]) rfl (rl_sign_ct (ra_Sub x.p y.p) (rl_factor x) x.r (k + 9) (by omega) s1 (SzQ_le s2 (by omega)) (SzR_le zx (by omega)).2))
  · intro ξ hφ; exact ob_r [.blk b5 (cQ (ra_Neg (rl_factor y))) 40] rfl rfl (r_ld Tryz.isAgg40 Tryz.sizeOf40 rfl rfl rfl (v := (vQ (ra_Neg (rl_factor y)))) rfl)
  · intro ξ hφ; exact ob_s (s_clp Tryz.call58 (vs := [(vQ (ra_Neg (rl_factor y)))]) rfl (ra_Sign_ct (ra_Neg (rl_factor y))))
  · intro ξ hφ; exact ob_r0 (r_fa Tryz.runUnderlying53 rfl Tryz.sizeOf40 (by decide) rfl rfl (k' := 4))
  · intro ξ hφ; exact ob_r [.blk b2 (cR y) 53] rfl rfl (r_ld Tryz.isAgg40 Tryz.sizeOf40 rfl rfl rfl (v := (vQ y.r)) rfl)
  · intro ξ hφ; exact ob_s (s_clp Tryz.call58 (vs := [(vQ y.r)]) rfl (ra_Sign_ct y.r))
  · intro ξ hφ; exact ob_r0 (r_mul rfl rfl (r := ((ra_Sign (ra_Neg (rl_factor y))) * (ra_Sign y.r))) (by first | (rw [IntKind.wrap_i64]; omega) | exact wrap_sgn (by omega) (by omega)))
  · intro ξ hφ; exact ob_r0 (r_assign rfl)
  · intro ξ hφ; exact ob_r0 (r_assign rfl)
  clear h ac wo; intro ξ ac wo hφ h
  replace h : St w0 65 [(2, (ptr b1 0)), (3, (ptr b2 0)), (5, (ptr b3 0)), (6, (ptr b4 0)), (8, (.int .i64 (rl_sign (ra_Sub x.p y.p) (rl_factor x) x.r))), (9, (.int .i64 ((ra_Sign (ra_Neg (rl_factor y))) * (ra_Sign y.r))))] [.blk b2 (cR y) 53, .blk b1 (cR x) 53, .blk b3 (cQ (ra_Sub x.p y.p)) 40, .blk b4 (cQ (rl_factor x)) 40, .blk b5 (cQ (ra_Neg (rl_factor y))) 40] ac wo := h.sub ⟨rfl, rfl, rfl, rfl, rfl, rfl, trivial⟩
  clear hφ ξ
  refine hK3 _ _ ?_
  refine c_seq fun K4 hK4 => ?_
  refine c_block ?_
  refine c_rs fun K5 hK5 => ?_
  refine rd0 h (r_move rfl) rfl ?_; clear h ac wo; intro ac wo h
  refine rd0 h (r_eql rfl rfl) rfl ?_; clear h ac wo; intro ac wo h
  refine rd0 h (r_move rfl) rfl ?_; clear h ac wo; intro ac wo h
  refine gd (j := 2) (c := true) (b := (((ra_Sign (ra_Neg (rl_factor y))) * (ra_Sign y.r)) == 0)) (g := (!(((ra_Sign (ra_Neg (rl_factor y))) * (ra_Sign y.r)) == 0))) h rfl rfl g_f (fun hg => (Rd.of_nil (r_move rfl)).step) rfl ?_; clear h ac wo; intro ac wo h
  refine gd (j := 2) (c := true) (b := (((ra_Sign (ra_Neg (rl_factor y))) * (ra_Sign y.r)) == 0)) (g := (!(((ra_Sign (ra_Neg (rl_factor y))) * (ra_Sign y.r)) == 0))) h rfl rfl g_f (fun hg => (Rd.of_nil (r_move rfl)).step) rfl ?_; clear h ac wo; intro ac wo h
  refine gd (j := 2) (c := true) (b := (((ra_Sign (ra_Neg (rl_factor y))) * (ra_Sign y.r)) == 0)) (g := (!(((ra_Sign (ra_Neg (rl_factor y))) * (ra_Sign y.r)) == 0))) h rfl rfl g_f (fun hg => (Rd.of_nil (r_eql (gv_ev rfl hg) (gv_ev rfl hg))).step) rfl ?_; clear h ac wo; intro ac wo h
  refine rd0 h (r_or rfl (fun e => (gv_ev rfl (notI e)))) rfl ?_; clear h ac wo; intro ac wo h
  refine rd0 h (r_assign rfl) rfl ?_; clear h ac wo; intro ac wo h
  refine w_nil ?_
  refine hK5 _ _ ?_
  refine c_if (b := ((((ra_Sign (ra_Neg (rl_factor y))) * (ra_Sign y.r)) == 0) || ((rl_sign (ra_Sub x.p y.p) (rl_factor x) x.r) == ((ra_Sign (ra_Neg (rl_factor y))) * (ra_Sign y.r))))) h rfl (fun hc1 => ?_) (fun hc1 => ?_)
  · skip
    refine c_rs fun K6 hK6 => ?_
    refine rd0 h (r_move rfl) rfl ?_; clear h ac wo; intro ac wo h
    refine rd0 h (r_assign rfl) rfl ?_; clear h ac wo; intro ac wo h
    refine w_nil ?_
    refine hK6 _ _ ?_
    refine c_ret ?_
    have hd : rl_Compare x y = (rl_sign (ra_Sub x.p y.p) (rl_factor x) x.r) := (cT hc1)
    exact ret (rs := [.tmp 4]) h rfl (.tmp rfl .nil) rfl (h.retP (by rw [hd] <;> rfl) (by rw [hd]; exact by first | omega | exact sgn_mul (by omega) (by omega)))
  · skip
    refine c_rs fun K7 hK7 => ?_
    refine rd0 h (r_move rfl) rfl ?_; clear h ac wo; intro ac wo h
    refine rd0 h (r_eql rfl rfl) rfl ?_; clear h ac wo; intro ac wo h
    refine rd0 h (r_assign rfl) rfl ?_; clear h ac wo; intro ac wo h
    refine w_nil ?_
    refine hK7 _ _ ?_
    refine c_if (b := ((rl_sign (ra_Sub x.p y.p) (rl_factor x) x.r) == 0)) h rfl (fun hc2 => ?_) (fun hc2 => ?_)
    · skip
      have hd2 := eq_of_beq hc2
      refine c_rs fun K8 hK8 => ?_
      refine rd0 h (r_move rfl) rfl ?_; clear h ac wo; intro ac wo h
      refine rd0 h (r_assign rfl) rfl ?_; clear h ac wo; intro ac wo h
      refine w_nil ?_
      refine hK8 _ _ ?_
      refine c_ret ?_
      have hd : rl_Compare x y = ((ra_Sign (ra_Neg (rl_factor y))) * (ra_Sign y.r)) := (Eq.trans (cF hc1) (cT hc2))
      exact ret (rs := [.tmp 4]) h rfl (.tmp rfl .nil) rfl (h.retP (by rw [hd] <;> rfl) (by rw [hd]; exact by first | omega | exact sgn_mul (by omega) (by omega)))
    · skip
      have hd2 := ne_of_beq_false hc2
      refine c_skip ?_
      refine b_norm ?_
      refine hK4 _ _ ?_
      refine c_seq fun K9 hK9 => ?_
      have s11 := Calls_pr ((ra_Mul_ct (ra_Sub x.p y.p) (ra_Sub x.p y.p) (k + 15) (by omega) s1 s1) w0)
      have s12 := Calls_pr ((ra_Add_ct (ra_Mul (ra_Sub x.p y.p) (ra_Sub x.p y.p)) x.r (k + 12) (by omega) s11 (SzR_le zx (by omega)).2) w0)
      have s13 := Calls_pr ((ra_Sub_ct (ra_Add (ra_Mul (ra_Sub x.p y.p) (ra_Sub x.p y.p)) x.r) y.r (k + 9) (by omega) s12 (SzR_le zy (by omega)).2) w0)
      replace h := h.emps 1
      refine draws mixed [⟨.det (vQ (ra_Sub x.p y.p)), [2]⟩, ⟨.det (vQ (ra_Sub x.p y.p)), [2]⟩, ⟨.det (vQ (ra_Mul (ra_Sub x.p y.p) (ra_Sub x.p y.p))), []⟩, ⟨.det (ptr b1 4), []⟩, ⟨.det (vQ x.r), [1]⟩, ⟨.det (vQ (ra_Add (ra_Mul (ra_Sub x.p y.p) (ra_Sub x.p y.p)) x.r)), []⟩, ⟨.det (ptr b2 4), []⟩, ⟨.det (vQ y.r), [0]⟩, ⟨.det (vQ (ra_Sub (ra_Add (ra_Mul (ra_Sub x.p y.p) (ra_Sub x.p y.p)) x.r) y.r)), []⟩, ⟨.nd (.one 9 fun v => ∃ b, v = ptr b 0), [5]⟩, ⟨.det undef, [5]⟩] [⟨.blk b2 (cR y) 53, []⟩, ⟨.blk b1 (cR x) 53, []⟩, ⟨.blk b3 (cQ (ra_Sub x.p y.p)) 40, []⟩, ⟨.blk b4 (cQ (rl_factor x)) 40, []⟩, ⟨.blk b5 (cQ (ra_Neg (rl_factor y))) 40, []⟩, ⟨.emp, [(9, .one 9 fun v => .blk (blkOf v) (cQ (⟨(⟨false, 0⟩ : GI), (⟨false, 0⟩ : GI)⟩ : GQ)) 40), (10, .one 9 fun v => .blk (blkOf v) (cQ (ra_Sub (ra_Add (ra_Mul (ra_Sub x.p y.p) (ra_Sub x.p y.p)) x.r) y.r)) 40)]⟩] h rfl (by kernel_rfl) ⟨?_, ?_, ?_, ?_, ?_, ?_, ?_, ?_, ?_, ?_, ?_, trivial⟩ ?_
      · intro ξ hφ; exact ob_r [.blk b3 (cQ (ra_Sub x.p y.p)) 40] rfl rfl (r_ld Tryz.isAgg40 Tryz.sizeOf40 rfl rfl rfl (v := (vQ (ra_Sub x.p y.p))) rfl)
      · intro ξ hφ; exact ob_r [.blk b3 (cQ (ra_Sub x.p y.p)) 40] rfl rfl (r_ld Tryz.isAgg40 Tryz.sizeOf40 rfl rfl rfl (v := (vQ (ra_Sub x.p y.p))) rfl)
      · intro ξ hφ; exact ob_s (s_clp Tryz.call101 (vs := [(vQ (ra_Sub x.p y.p)), (vQ (ra_Sub x.p y.p))]) rfl (ra_Mul_ct (ra_Sub x.p y.p) (ra_Sub x.p y.p) (k + 15) (by omega) s1 s1))
      · intro ξ hφ; exact ob_r0 (r_fa Tryz.runUnderlying53 rfl Tryz.sizeOf40 (by decide) rfl rfl (k' := 4))
      · intro ξ hφ; exact ob_r [.blk b1 (cR x) 53] rfl rfl (r_ld Tryz.isAgg40 Tryz.sizeOf40 rfl rfl rfl (v := (vQ x.r)) rfl)
      · intro ξ hφ; exact ob_s (s_clp Tryz.call102 (vs := [(vQ (ra_Mul (ra_Sub x.p y.p) (ra_Sub x.p y.p))), (vQ x.r)]) rfl (ra_Add_ct (ra_Mul (ra_Sub x.p y.p) (ra_Sub x.p y.p)) x.r (k + 12) (by omega) s11 (SzR_le zx (by omega)).2))
      · intro ξ hφ; exact ob_r0 (r_fa Tryz.runUnderlying53 rfl Tryz.sizeOf40 (by decide) rfl rfl (k' := 4))
      · intro ξ hφ; exact ob_r [.blk b2 (cR y) 53] rfl rfl (r_ld Tryz.isAgg40 Tryz.sizeOf40 rfl rfl rfl (v := (vQ y.r)) rfl)
      · intro ξ hφ; exact ob_s (s_clp Tryz.call100 (vs := [(vQ (ra_Add (ra_Mul (ra_Sub x.p y.p) (ra_Sub x.p y.p)) x.r)), (vQ y.r)]) rfl (ra_Sub_ct (ra_Add (ra_Mul (ra_Sub x.p y.p) (ra_Sub x.p y.p)) x.r) y.r (k + 9) (by omega) s12 (SzR_le zy (by omega)).2))
      · intro ξ hφ; exact ob_x (ψ := fun v => ∃ b, v = ptr b 0) (B := fun v => [.blk (blkOf v) (cQ (⟨(⟨false, 0⟩ : GI), (⟨false, 0⟩ : GI)⟩ : GQ)) 40]) [.emp] rfl (fun v _ => by simp only [picks, upd_same] <;> rfl) (fun v hv => by simpa [DF.one, upd_same] using hv) (s_emp (s_alloc Tryz.zeroValue40 rfl))
      · intro ξ hφ; obtain ⟨b6, hb9⟩ := hφ 9 rfl; exact ob_u [.blk b6 (cQ (⟨(⟨false, 0⟩ : GI), (⟨false, 0⟩ : GI)⟩ : GQ)) 40] [.blk b6 (cQ (ra_Sub (ra_Add (ra_Mul (ra_Sub x.p y.p) (ra_Sub x.p y.p)) x.r) y.r)) 40] (congrArg (fun v => [Asn.blk (blkOf v) (cQ (⟨(⟨false, 0⟩ : GI), (⟨false, 0⟩ : GI)⟩ : GQ)) 40]) hb9) (congrArg (fun v => [Asn.blk (blkOf v) (cQ (ra_Sub (ra_Add (ra_Mul (ra_Sub x.p y.p) (ra_Sub x.p y.p)) x.r) y.r)) 40]) hb9) (s_st Tryz.sizeOf40 (Eq.trans rfl (congrArg some hb9)) rfl rfl rfl rfl rfl rfl)
      clear h ac wo; intro ξ ac wo hφ h
      replace h : St w0 65 [(2, (ptr b1 0)), (5, (ptr b3 0)), (6, (ptr b4 0)), (8, (.int .i64 (rl_sign (ra_Sub x.p y.p) (rl_factor x) x.r))), (10, ξ 9)] [.blk b2 (cR y) 53, .blk b1 (cR x) 53, .blk b3 (cQ (ra_Sub x.p y.p)) 40, .blk b4 (cQ (rl_factor x)) 40, .blk b5 (cQ (ra_Neg (rl_factor y))) 40, .blk (blkOf (ξ 9)) (cQ (ra_Sub (ra_Add (ra_Mul (ra_Sub x.p y.p) (ra_Sub x.p y.p)) x.r) y.r)) 40] ac wo := h.sub ⟨rfl, rfl, rfl, rfl, rfl, trivial⟩
      revert h
      obtain ⟨b6, hb9⟩ : ∃ b, ξ 9 = ptr b 0 := hφ 9
      rw [hb9]; intro h
      clear hb9 hφ ξ
      refine hK9 _ _ ?_
      refine c_seq fun K10 hK10 => ?_
      have s14 := Calls_pr ((ra_FromInt_ct 2 (k + 20) (by omega)  (by omega)) w0)
      have s15 := Calls_pr ((ra_Mul_ct (ra_Sub x.p y.p) (rl_factor x) (k + 15) (by omega) s1 (SzQ_le s2 (by omega))) w0)
      have s16 := Calls_pr ((ra_Mul_ct (ra_FromInt 2) (ra_Mul (ra_Sub x.p y.p) (rl_factor x)) (k + 13) (by omega) (SzQ_le s14 (by omega)) s15) w0)
      have p18 := Calls_pr ((rl_sign_ct (ra_Sub (ra_Add (ra_Mul (ra_Sub x.p y.p) (ra_Sub x.p y.p)) x.r) y.r) (ra_Mul (ra_FromInt 2) (ra_Mul (ra_Sub x.p y.p) (rl_factor x))) x.r (k + 1) (by omega) s13 (SzQ_le s16 (by omega)) (SzR_le zx (by omega)).2) w0)
      refine draws mixed [⟨.det (.int .i64 (rl_sign (ra_Sub x.p y.p) (rl_factor x) x.r)), []⟩, ⟨.det (vQ (ra_Sub (ra_Add (ra_Mul (ra_Sub x.p y.p) (ra_Sub x.p y.p)) x.r) y.r)), [5]⟩, ⟨.det (vQ (ra_FromInt 2)), []⟩, ⟨.det (vQ (ra_Sub x.p y.p)), [2]⟩, ⟨.det (vQ (rl_factor x)), [3]⟩, ⟨.det (vQ (ra_Mul (ra_Sub x.p y.p) (rl_factor x))), []⟩, ⟨.det (vQ (ra_Mul (ra_FromInt 2) (ra_Mul (ra_Sub x.p y.p) (rl_factor x)))), []⟩, ⟨.det (ptr b1 4), []⟩, ⟨.det (vQ x.r), [1]⟩, ⟨.det (.int .i64 (rl_sign (ra_Sub (ra_Add (ra_Mul (ra_Sub x.p y.p) (ra_Sub x.p y.p)) x.r) y.r) (ra_Mul (ra_FromInt 2) (ra_Mul (ra_Sub x.p y.p) (rl_factor x))) x.r)), []⟩, ⟨.det (.int .i64 ((rl_sign (ra_Sub x.p y.p) (rl_factor x) x.r) * (rl_sign (ra_Sub (ra_Add (ra_Mul (ra_Sub x.p y.p) (ra_Sub x.p y.p)) x.r) y.r) (ra_Mul (ra_FromInt 2) (ra_Mul (ra_Sub x.p y.p) (rl_factor x))) x.r))), []⟩, ⟨.det (.int .i64 ((rl_sign (ra_Sub x.p y.p) (rl_factor x) x.r) * (rl_sign (ra_Sub (ra_Add (ra_Mul (ra_Sub x.p y.p) (ra_Sub x.p y.p)) x.r) y.r) (ra_Mul (ra_FromInt 2) (ra_Mul (ra_Sub x.p y.p) (rl_factor x))) x.r))), []⟩] [⟨.blk b2 (cR y) 53, []⟩, ⟨.blk b1 (cR x) 53, []⟩, ⟨.blk b3 (cQ (ra_Sub x.p y.p)) 40, []⟩, ⟨.blk b4 (cQ (rl_factor x)) 40, []⟩, ⟨.blk b5 (cQ (ra_Neg (rl_factor y))) 40, []⟩, ⟨.blk b6 (cQ (ra_Sub (ra_Add (ra_Mul (ra_Sub x.p y.p) (ra_Sub x.p y.p)) x.r) y.r)) 40, []⟩] h rfl (by kernel_rfl) ⟨?_, ?_, ?_, ?_, ?_, ?_, ?_, ?_, ?_, ?_, ?_, ?_, trivial⟩ ?_
      · intro ξ hφ; exact ob_r0 (r_move rfl)
      · intro ξ hφ; exact ob_r [.blk b6 (cQ (ra_Sub (ra_Add (ra_Mul (ra_Sub x.p y.p) (ra_Sub x.p y.p)) x.r) y.r)) 40] rfl rfl (r_ld Tryz.isAgg40 Tryz.sizeOf40 rfl rfl rfl (v := (vQ (ra_Sub (ra_Add (ra_Mul (ra_Sub x.p y.p) (ra_Sub x.p y.p)) x.r) y.r))) rfl)
      · intro ξ hφ; exact ob_s (s_clp Tryz.call45 (vs := [(.int .i64 2)]) rfl (ra_FromInt_ct 2 (k + 20) (by omega)  (by omega)))
      · intro ξ hφ; exact ob_r [.blk b3 (cQ (ra_Sub x.p y.p)) 40] rfl rfl (r_ld Tryz.isAgg40 Tryz.sizeOf40 rfl rfl rfl (v := (vQ (ra_Sub x.p y.p))) rfl)
      · intro ξ hφ; exact ob_r [.blk b4 (cQ (rl_factor x)) 40] rfl rfl (r_ld Tryz.isAgg40 Tryz.sizeOf40 rfl rfl rfl (v := (vQ (rl_factor x))) rfl)
      · intro ξ hφ; exact ob_s (s_clp Tryz.call101 (vs := [(vQ (ra_Sub x.p y.p)), (vQ (rl_factor x))]) rfl (ra_Mul_ct (ra_Sub x.p y.p) (rl_factor x) (k + 15) (by omega) s1 (SzQ_le s2 (by omega))))
      · intro ξ hφ; exact ob_s (s_clp Tryz.call101 (vs := [(vQ (ra_FromInt 2)), (vQ (ra_Mul (ra_Sub x.p y.p) (rl_factor x)))]) rfl (ra_Mul_ct (ra_FromInt 2) (ra_Mul (ra_Sub x.p y.p) (rl_factor x)) (k + 13) (by omega) (SzQ_le s14 (by omega)) s15))
      · intro ξ hφ; exact ob_r0 (r_fa Tryz.runUnderlying53 rfl Tryz.sizeOf40 (by decide) rfl rfl (k' := 4))
      · intro ξ hφ; exact ob_r [.blk b1 (cR x) 53] rfl rfl (r_ld Tryz.isAgg40 Tryz.sizeOf40 rfl rfl rfl (v := (vQ x.r)) rfl)
      · intro ξ hφ; exact ob_s (s_clp Tryz.call175 (vs := [(vQ (ra_Sub (ra_Add (ra_Mul (ra_Sub x.p y.p) (ra_Sub x.p y.p)) x.r) y.r)), (vQ (ra_Mul (ra_FromInt 2) (ra_Mul (ra_Sub x.p y.p) (rl_factor x)))), (vQ x.r)]) rfl (rl_sign_ct (ra_Sub (ra_Add (ra_Mul (ra_Sub x.p y.p) (ra_Sub x.p y.p)) x.r) y.r) (ra_Mul (ra_FromInt 2) (ra_Mul (ra_Sub x.p y.p) (rl_factor x))) x.r (k + 1) (by omega) s13 (SzQ_le s16 (by omega)) (SzR_le zx (by omega)).2))
      · intro ξ hφ; exact ob_r0 (r_mul rfl rfl (r := ((rl_sign (ra_Sub x.p y.p) (rl_factor x) x.r) * (rl_sign (ra_Sub (ra_Add (ra_Mul (ra_Sub x.p y.p) (ra_Sub x.p y.p)) x.r) y.r) (ra_Mul (ra_FromInt 2) (ra_Mul (ra_Sub x.p y.p) (rl_factor x))) x.r))) (by first | (rw [IntKind.wrap_i64]; omega) | exact wrap_sgn (by omega) (by omega)))
      · intro ξ hφ; exact ob_r0 (r_assign rfl)
      clear h ac wo; intro ξ ac wo hφ h
      replace h : St w0 65 [(4, (.int .i64 ((rl_sign (ra_Sub x.p y.p) (rl_factor x) x.r) * (rl_sign (ra_Sub (ra_Add (ra_Mul (ra_Sub x.p y.p) (ra_Sub x.p y.p)) x.r) y.r) (ra_Mul (ra_FromInt 2) (ra_Mul (ra_Sub x.p y.p) (rl_factor x))) x.r))))] [.blk b2 (cR y) 53, .blk b1 (cR x) 53, .blk b3 (cQ (ra_Sub x.p y.p)) 40, .blk b4 (cQ (rl_factor x)) 40, .blk b5 (cQ (ra_Neg (rl_factor y))) 40, .blk b6 (cQ (ra_Sub (ra_Add (ra_Mul (ra_Sub x.p y.p) (ra_Sub x.p y.p)) x.r) y.r)) 40] ac wo := h.sub ⟨rfl, trivial⟩
      clear hφ ξ
      refine hK10 _ _ ?_
      refine c_ret ?_
      have hd : rl_Compare x y = ((rl_sign (ra_Sub x.p y.p) (rl_factor x) x.r) * (rl_sign (ra_Sub (ra_Add (ra_Mul (ra_Sub x.p y.p) (ra_Sub x.p y.p)) x.r) y.r) (ra_Mul (ra_FromInt 2) (ra_Mul (ra_Sub x.p y.p) (rl_factor x))) x.r)) := (Eq.trans (cF hc1) (cF hc2))
      exact ret (rs := [.tmp 4]) h rfl (.tmp rfl .nil) rfl (h.retP (by rw [hd] <;> rfl) (by rw [hd]; exact by first | omega | exact sgn_mul (by omega) (by omega)))
def rl_FromInt (n : Int) : GR :=
  (⟨(ra_FromInt n), (⟨(⟨false, 0⟩ : GI), (⟨false, 0⟩ : GI)⟩ : GQ), false⟩ : GR)
theorem rl_FromInt_ct (n : Int) (k : Nat) (hk : k ≤ 40) (hn : -9223372036854775808 ≤ n ∧ n ≤ 9223372036854775807) (w0 : World) : Calls Tryz.prog 156 #[(.int .i64 n)] w0 (RetP w0 (vR (rl_FromInt n)) (SzR k (rl_FromInt n))) := by
  refine enter (N := 6) (args := [(.int .i64 n)]) Tryz.func156 rfl rfl ?_; intro ac h
  refine c_rs fun K1 hK1 => ?_
  refine al h (cR (⟨(⟨(⟨false, 0⟩ : GI), (⟨false, 0⟩ : GI)⟩ : GQ), (⟨(⟨false, 0⟩ : GI), (⟨false, 0⟩ : GI)⟩ : GQ), false⟩ : GR)) Tryz.zeroValue53 rfl rfl ?_; clear h ac; intro b1 ac wo h
  refine w_nil ?_
  refine hK1 _ _ ?_
  refine c_rs fun K2 hK2 => ?_
  refine rd0 h (r_move rfl) rfl ?_; clear h ac wo; intro ac wo h
  have s1 := Calls_pr ((ra_FromInt_ct n k (by omega)  (by omega)) w0)
  refine clp h Tryz.call45 (vs := [(.int .i64 n)]) rfl (ra_FromInt_ct n k (by omega)  (by omega)) rfl ?_; clear h ac wo; intro ac wo h
  refine rd0 h (r_build (parts := [(0, .tmp 4)]) (vs := [(vQ (ra_FromInt n))]) bld53 rfl rfl (v := (vR (⟨(ra_FromInt n), (⟨(⟨false, 0⟩ : GI), (⟨false, 0⟩ : GI)⟩ : GQ), false⟩ : GR))) rfl) rfl ?_; clear h ac wo; intro ac wo h
  refine st h 0 (cR (⟨(ra_FromInt n), (⟨(⟨false, 0⟩ : GI), (⟨false, 0⟩ : GI)⟩ : GQ), false⟩ : GR)) rfl Tryz.sizeOf53 rfl rfl rfl rfl rfl rfl rfl ?_; clear h ac wo; intro ac wo h
  refine w_nil ?_
  refine hK2 _ _ ?_
  refine c_ret ?_
  have hd : rl_FromInt n = (⟨(ra_FromInt n), (⟨(⟨false, 0⟩ : GI), (⟨false, 0⟩ : GI)⟩ : GQ), false⟩ : GR) := rfl
  exact ret (rs := [.cell 2 53]) h rfl (.cell (v := (vR (⟨(ra_FromInt n), (⟨(⟨false, 0⟩ : GI), (⟨false, 0⟩ : GI)⟩ : GQ), false⟩ : GR))) rfl (i := 0) rfl Tryz.isAgg53 Tryz.sizeOf53 rfl rfl rfl .nil) rfl (h.retP (by rw [hd] <;> rfl) (by rw [hd]; exact ⟨s1, ⟨(SzB_lit 0 (by decide) (by omega)), (SzB_lit 0 (by decide) (by omega))⟩⟩))
def pc_instant (i : Iv) : Bool :=
  (decide (i.lo = i.hi))
theorem pc_instant_ct (i : Iv) (w0 : World) : Calls Tryz.prog 83 #[(vV i)] w0 (RetP w0 (.bool (pc_instant i)) (True)) := by
  refine enter (N := 8) (args := [(vV i)]) Tryz.func83 rfl rfl ?_; intro ac h
  refine c_rs fun K1 hK1 => ?_
  refine bx h (cV i) rfl rfl rfl ?_; clear h ac; intro b1 ac wo h
  refine rd0 h (r_assign rfl (v := (.bool false))) rfl ?_; clear h ac wo; intro ac wo h
  refine w_nil ?_
  refine hK1 _ _ ?_
  refine c_rs fun K2 hK2 => ?_
  refine rd0 h (r_fa Tryz.runUnderlying55 rfl Tryz.sizeOf53 (by decide) rfl rfl (k' := 0)) rfl ?_; clear h ac wo; intro ac wo h
  refine rd1 h 0 rfl (r_ld Tryz.isAgg53 Tryz.sizeOf53 rfl rfl rfl (v := (vR i.lo)) rfl) rfl ?_; clear h ac wo; intro ac wo h
  refine rd0 h (r_fa Tryz.runUnderlying55 rfl Tryz.sizeOf53 (by decide) rfl rfl (k' := 9)) rfl ?_; clear h ac wo; intro ac wo h
  refine rd1 h 0 rfl (r_ld Tryz.isAgg53 Tryz.sizeOf53 rfl rfl rfl (v := (vR i.hi)) rfl) rfl ?_; clear h ac wo; intro ac wo h
  refine rd0 h (r_eqlT eqp53 rfl rfl (b := i.lo) (c := i.hi)) rfl ?_; clear h ac wo; intro ac wo h
  refine rd0 h (r_assign rfl) rfl ?_; clear h ac wo; intro ac wo h
  refine w_nil ?_
  refine hK2 _ _ ?_
  refine c_ret ?_
  have hd : pc_instant i = (decide (i.lo = i.hi)) := rfl
  exact ret (rs := [.tmp 2]) h rfl (.tmp rfl .nil) rfl (h.retP (by rw [hd] <;> rfl) trivial)
def pc_apart (a : Iv) (b : Iv) : Bool :=
  ((decide ((rl_Compare a.hi b.lo) < 0)) || (((rl_Compare a.hi b.lo) == 0) && (a.openHi || b.openLo)))
theorem pc_apart_ct (a : Iv) (b : Iv) (k : Nat) (hk : (k + 20) ≤ 40) (za : SzV (k + 20) a) (zb : SzV (k + 20) b) (w0 : World) : Calls Tryz.prog 81 #[(vV a), (vV b)] w0 (RetP w0 (.bool (pc_apart a b)) (True)) := by
  refine enter (N := 25) (args := [(vV a), (vV b)]) Tryz.func81 rfl rfl ?_; intro ac h
  refine c_rs fun K1 hK1 => ?_
  refine bx h (cV a) rfl rfl rfl ?_; clear h ac; intro b1 ac wo h
  refine bx h (cV b) rfl rfl rfl ?_; clear h ac wo; intro b2 ac wo h
  refine rd0 h (r_assign rfl (v := (.bool false))) rfl ?_; clear h ac wo; intro ac wo h
  refine w_nil ?_
  refine hK1 _ _ ?_
  refine c_rs fun K2 hK2 => ?_
  refine rd0 h (r_fa Tryz.runUnderlying55 rfl Tryz.sizeOf53 (by decide) rfl rfl (k' := 9)) rfl ?_; clear h ac wo; intro ac wo h
  refine rd1 h 1 rfl (r_ld Tryz.isAgg53 Tryz.sizeOf53 rfl rfl rfl (v := (vR a.hi)) rfl) rfl ?_; clear h ac wo; intro ac wo h
  refine rd0 h (r_fa Tryz.runUnderlying55 rfl Tryz.sizeOf53 (by decide) rfl rfl (k' := 0)) rfl ?_; clear h ac wo; intro ac wo h
  refine rd1 h 0 rfl (r_ld Tryz.isAgg53 Tryz.sizeOf53 rfl rfl rfl (v := (vR b.lo)) rfl) rfl ?_; clear h ac wo; intro ac wo h
  have p2 := Calls_pr ((rl_Compare_ct a.hi b.lo k (by omega) za.2 zb.1) w0)
  refine clp h Tryz.call115 (vs := [(vR a.hi), (vR b.lo)]) rfl (rl_Compare_ct a.hi b.lo k (by omega) za.2 zb.1) rfl ?_; clear h ac wo; intro ac wo h
  refine rd0 h (r_assign rfl) rfl ?_; clear h ac wo; intro ac wo h
  refine w_nil ?_
  refine hK2 _ _ ?_
  refine c_rs fun K3 hK3 => ?_
  refine rd0 h (r_move rfl) rfl ?_; clear h ac wo; intro ac wo h
  refine rd0 h (r_lss rfl rfl) rfl ?_; clear h ac wo; intro ac wo h
  refine rd0 h (r_move rfl) rfl ?_; clear h ac wo; intro ac wo h
  refine gd (j := 2) (c := true) (b := (decide ((rl_Compare a.hi b.lo) < 0))) (g := (!(decide ((rl_Compare a.hi b.lo) < 0)))) h rfl rfl g_f (fun hg => (Rd.of_nil (r_move rfl)).step) rfl ?_; clear h ac wo; intro ac wo h
  refine gd (j := 2) (c := true) (b := (decide ((rl_Compare a.hi b.lo) < 0))) (g := (!(decide ((rl_Compare a.hi b.lo) < 0)))) h rfl rfl g_f (fun hg => (Rd.of_nil (r_eql (gv_ev rfl hg) rfl)).step) rfl ?_; clear h ac wo; intro ac wo h
  refine gd (j := 2) (c := true) (b := (decide ((rl_Compare a.hi b.lo) < 0))) (g := (!(decide ((rl_Compare a.hi b.lo) < 0)))) h rfl rfl g_f (fun hg => (Rd.of_nil (r_move (gv_ev rfl hg))).step) rfl ?_; clear h ac wo; intro ac wo h
  refine gd (j := 5) (c := (!(decide ((rl_Compare a.hi b.lo) < 0)))) (b := ((rl_Compare a.hi b.lo) == 0)) (g := ((!(decide ((rl_Compare a.hi b.lo) < 0))) && ((rl_Compare a.hi b.lo) == 0))) h rfl rfl g_ct (fun hg => (Rd.of_nil (r_fa Tryz.runUnderlying55 rfl Tryz.sizeOf4 (by decide) rfl rfl (k' := 19))).step) rfl ?_; clear h ac wo; intro ac wo h
  refine gd (j := 5) (c := (!(decide ((rl_Compare a.hi b.lo) < 0)))) (b := ((rl_Compare a.hi b.lo) == 0)) (g := ((!(decide ((rl_Compare a.hi b.lo) < 0))) && ((rl_Compare a.hi b.lo) == 0))) h rfl rfl g_ct (fun hg => (Rd.of_mem (i := 1) (r_ld Tryz.isAgg4 Tryz.sizeOf4 (gv_ev rfl hg) rfl rfl (v := (.bool a.openHi)) rfl) rfl).step) rfl ?_; clear h ac wo; intro ac wo h
  refine gd (j := 5) (c := (!(decide ((rl_Compare a.hi b.lo) < 0)))) (b := ((rl_Compare a.hi b.lo) == 0)) (g := ((!(decide ((rl_Compare a.hi b.lo) < 0))) && ((rl_Compare a.hi b.lo) == 0))) h rfl rfl g_ct (fun hg => (Rd.of_nil (r_move (gv_ev rfl hg))).step) rfl ?_; clear h ac wo; intro ac wo h
  refine gd (j := 8) (c := ((!(decide ((rl_Compare a.hi b.lo) < 0))) && ((rl_Compare a.hi b.lo) == 0))) (b := a.openHi) (g := (((!(decide ((rl_Compare a.hi b.lo) < 0))) && ((rl_Compare a.hi b.lo) == 0)) && (!a.openHi))) h rfl rfl g_cf (fun hg => (Rd.of_nil (r_fa Tryz.runUnderlying55 rfl Tryz.sizeOf4 (by decide) rfl rfl (k' := 18))).step) rfl ?_; clear h ac wo; intro ac wo h
  refine gd (j := 8) (c := ((!(decide ((rl_Compare a.hi b.lo) < 0))) && ((rl_Compare a.hi b.lo) == 0))) (b := a.openHi) (g := (((!(decide ((rl_Compare a.hi b.lo) < 0))) && ((rl_Compare a.hi b.lo) == 0)) && (!a.openHi))) h rfl rfl g_cf (fun hg => (Rd.of_mem (i := 0) (r_ld Tryz.isAgg4 Tryz.sizeOf4 (gv_ev rfl hg) rfl rfl (v := (.bool b.openLo)) rfl) rfl).step) rfl ?_; clear h ac wo; intro ac wo h
  refine gd (j := 5) (c := (!(decide ((rl_Compare a.hi b.lo) < 0)))) (b := ((rl_Compare a.hi b.lo) == 0)) (g := ((!(decide ((rl_Compare a.hi b.lo) < 0))) && ((rl_Compare a.hi b.lo) == 0))) h rfl rfl g_ct (fun hg => (Rd.of_nil (r_or (gv_ev rfl hg) (fun e => (gv_ev rfl (andI hg (notI e)))))).step) rfl ?_; clear h ac wo; intro ac wo h
  refine gd (j := 2) (c := true) (b := (decide ((rl_Compare a.hi b.lo) < 0))) (g := (!(decide ((rl_Compare a.hi b.lo) < 0)))) h rfl rfl g_f (fun hg => (Rd.of_nil (r_and (gv_ev rfl hg) (fun e => (gv_ev rfl (andI hg e))))).step) rfl ?_; clear h ac wo; intro ac wo h
  refine rd0 h (r_or rfl (fun e => (gv_ev rfl (notI e)))) rfl ?_; clear h ac wo; intro ac wo h
  refine rd0 h (r_assign rfl) rfl ?_; clear h ac wo; intro ac wo h
  refine w_nil ?_
  refine hK3 _ _ ?_
  refine c_ret ?_
  have hd : pc_apart a b = ((decide ((rl_Compare a.hi b.lo) < 0)) || (((rl_Compare a.hi b.lo) == 0) && (a.openHi || b.openLo))) := rfl
  exact ret (rs := [.tmp 4]) h rfl (.tmp rfl .nil) rfl (h.retP (by rw [hd] <;> rfl) trivial)
end Go.Sx
