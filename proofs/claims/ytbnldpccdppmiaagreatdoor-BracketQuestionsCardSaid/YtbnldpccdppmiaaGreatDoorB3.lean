/- A part of the proof that the law BracketQuestions/Checks answers true at every input and leaves its arguments as they were. -/
import Derived.Test.YtbnldpccdppmiaaGreatDoorB2
set_option linter.unusedVariables false
set_option linter.unusedSimpArgs false
open Go.Proofs.Tryz renaming isAgg42 → aa42, sizeOf42 → zz42, sizeOf26 → zz26, isAgg26 → aa26, runUnderlying26 → uu26, runUnderlying28 → uu28, call42 → cc42, zeroValue28 → vv28, sizeOf28 → zz28, isAgg28 → aa28, sizeOf4 → zz4
namespace Go.Sx
open Go Go.RowKit Go.Proofs
theorem mj (p : List Iv) (pv : Value) (length : GQ) (cp : Cn p) (zlength : SzQ 30 length) (w0 : World) (hpv : View w0 pv p) : Calls Tryz.prog 56 #[pv, (vQ length)] w0 (RetR w0 66 (dL p length) True) :=
  RetR.top (j3 p pv length (l200 cp) cp.sz zlength w0 hpv)
theorem iU (a b : Int) (hna : -1000 ≤ a ∧ a ≤ 1000) (hnb : -1000 ≤ b ∧ b ≤ 1000) (w0 : World) : Calls Tryz.prog 42 #[.int .i64 a, .int .i64 b] w0 (RetR w0 66 (ap a b) True) :=
  RetR.top (iF a b hna hnb w0)
def cl2 (a b : Nat) : List Iv := [⟨ae (a : Int) false, ae (b : Int) false, false, false⟩]
theorem cl2_c {a b : Nat} (h : a < b) (hb : b < 45) : Cn (cl2 a b) := by
  refine ⟨fun i hi => ?_, List.pairwise_singleton _ _⟩
  rw [cl2, List.mem_singleton] at hi
  subst hi
  refine wv_of ⟨tm_at a false (by omega), tm_at b false hb⟩ ?_
  rw [pf, pl]
  have h1 := lq a false (by omega)
  have h2 := lq b false hb
  show 2 * tk (ae (a : Int) false) + _ < 2 * tk (ae (b : Int) false) + _
  rw [h1, h2]
  simp only [cond_false, Bool.not_false, cond_true]
  omega
theorem kM : ap 0 10 = cl2 0 10 ∧ ap 2 4 = cl2 2 4 ∧ ap 1 5 = cl2 1 5 := by decide +kernel
theorem eL (a b : Int) (h : (a, b) ∈ [((0 : Int), (10 : Int)), (2, 4), (1, 5)]) : Cn (ap a b) := by
  simp only [List.mem_cons, List.mem_nil_iff, Prod.mk.injEq, or_false] at h
  rcases h with ⟨rfl, rfl⟩ | ⟨rfl, rfl⟩ | ⟨rfl, rfl⟩
  · rw [kM.1]; exact cl2_c (by decide) (by decide)
  · rw [kM.2.1]; exact cl2_c (by decide) (by decide)
  · rw [kM.2.2]; exact cl2_c (by decide) (by decide)
def ba (p : List Iv) (q : GQ) : Bool := bif (decide ((aI q) ≤ 0)) then decide (((p.length : Nat) : Int) > 0) else decide ((((dL p q).length : Nat) : Int) > 0)
end Go.Sx
namespace Go.Sx
open Go Go.RowKit Go.Proofs
set_option maxRecDepth 100000
set_option maxHeartbeats 40000000
theorem ef (b_0 : List Iv) (b_0v : Value) (b_1 : List Iv) (b_1v : Value) (length : GQ) (cb_0 : Cn b_0) (cb_1 : Cn b_1) (zlength : SzQ 30 length) (w0 : World) (hb_0v : View w0 b_0v b_0) (hb_1v : View w0 b_1v b_1) : Calls Tryz.prog 23 #[(.agg #[b_0v, b_1v]), (vQ length)] w0 (RetP w0 (.bool (ba b_1 length)) True) := by
  refine enter (N := 16) (args := [(.agg #[b_0v, b_1v]), (vQ length)]) Tryz.func23 rfl rfl ?_; intro ac h
  have is_b_0 := SL.is hb_0v.sl
  have is_b_1 := SL.is hb_1v.sl
  refine bB fun K1 hK1 => ?_
  refine bx h [b_0v, b_1v] rfl rfl rfl ?_; clear h ac; intro b1 ac wo h
  refine bx h (cQ length) rfl rfl rfl ?_; clear h ac wo; intro b2 ac wo h
  refine rd0 h (ah rfl (v := (.bool false))) rfl ?_; clear h ac wo; intro ac wo h
  refine aE ?_
  refine hK1 _ _ ?_
  refine bP fun K2 hK2 => ?_
  refine bB fun K3 hK3 => ?_
  refine rd1 h 0 rfl (aZ aa42 zz42 rfl rfl rfl (v := (vQ length)) rfl) rfl ?_; clear h ac wo; intro ac wo h
  have p2 := aJ ((ck length) w0)
  refine dQ (vs := [(vQ length)]) h (bh Tryz.call55 rfl) (fun w_ hB_ hS_ => (ck length) w_) rfl ?_; clear h ac wo; intro ac wo h
  refine rd0 h (r_leq rfl rfl) rfl ?_; clear h ac wo; intro ac wo h
  refine aE ?_
  refine hK3 _ _ ?_
  refine c8 (b := (decide ((aI length) ≤ 0))) h rfl (fun hc1 => ?_) (fun hc1 => ?_)
  · skip
    have hd1 := of_decide_eq_true hc1
    refine bB fun K4 hK4 => ?_
    refine rd1 h 1 rfl (aZ Tryz.isAgg33 Tryz.sizeOf33 rfl rfl rfl (v := (.agg #[b_0v, b_1v])) rfl) rfl ?_; clear h ac wo; intro ac wo h
    refine dQ (vs := [(.agg #[b_0v, b_1v])]) h (bh Tryz.call21 rfl) (fun w_ hB_ hS_ => d9 b_0 b_0v b_1 b_1v cb_0 cb_1 w_ (hb_0v.below hB_) (hb_1v.below hB_)) rfl ?_; clear h ac wo; intro ac wo h
    refine rd0 h (ah rfl) rfl ?_; clear h ac wo; intro ac wo h
    refine aE ?_
    refine hK4 _ _ ?_
    refine cr ?_
    exact ret (rs := [.tmp 4]) h rfl (.tmp rfl .nil) rfl (h.retP (by unfold ba; rw [hc1]; rfl) trivial)
  · skip
    have hd1 := of_decide_eq_false hc1
    refine bR ?_
    refine hK2 _ _ ?_
    refine bB fun K5 hK5 => ?_
    refine rd0 h (eN Tryz.runUnderlying33 rfl zz26 (by decide) rfl rfl (k' := 1)) rfl ?_; clear h ac wo; intro ac wo h
    refine rd1 h 1 rfl (aZ aa26 zz26 rfl rfl rfl (v := b_1v) rfl) rfl ?_; clear h ac wo; intro ac wo h
    refine rd1 h 0 rfl (aZ aa42 zz42 rfl rfl rfl (v := (vQ length)) rfl) rfl ?_; clear h ac wo; intro ac wo h
    refine io (vs := [b_1v, (vQ length)]) (xs := (dL b_1 length)) h (bh Tryz.call56 rfl) (fun w_ hB_ hS_ => mj b_1 b_1v length cb_1 zlength w_ (hb_1v.below hB_)) rfl ?_; clear h ac wo; intro sv3 ac wo _ h
    have is_sv3 := SL.is (h.row_sl 0 rfl)
    refine rd0 h (dx uu26 rfl (h.row_sl 0 rfl)) rfl ?_; clear h ac wo; intro ac wo h
    refine rd0 h (iB rfl rfl) rfl ?_; clear h ac wo; intro ac wo h
    refine rd0 h (ah rfl) rfl ?_; clear h ac wo; intro ac wo h
    refine aE ?_
    refine hK5 _ _ ?_
    refine cr ?_
    exact ret (rs := [.tmp 4]) h rfl (.tmp rfl .nil) rfl (h.retP (by unfold ba; rw [hc1]; rfl) trivial)
theorem gg (w : List Iv) (wv : Value) (cpt_0 : List Iv) (cpt_0v : Value) (cpt_1 : List Iv) (cpt_1v : Value) (cpt_2 : List Iv) (cpt_2v : Value) (cpt : Nat) (cplx : GQ) (cpl : Nat) (cw : Cn w) (ccpt_0 : Cn cpt_0) (ccpt_1 : Cn cpt_1) (ccpt_2 : Cn cpt_2) (zcplx : SzQ 30 cplx) (w0 : World) (hwv : View w0 wv w) (hcpt_0v : View w0 cpt_0v cpt_0) (hcpt_1v : View w0 cpt_1v cpt_1) (hcpt_2v : View w0 cpt_2v cpt_2) (hcptp : PV w0 cpt [cpt_0v, cpt_1v, cpt_2v]) (hcplp : PV w0 cpl (cQ cplx)) : Calls Tryz.prog 53 #[wv, (ptr cpt 0), (ptr cpl 0)] w0 (RetP w0 (.bool (ba w cplx)) True) := by
  refine enter (N := 11) (args := [wv, (ptr cpt 0), (ptr cpl 0)]) Tryz.func53 rfl rfl ?_; intro ac h
  have is_w := SL.is hwv.sl
  have is_cpt_0 := SL.is hcpt_0v.sl
  have is_cpt_1 := SL.is hcpt_1v.sl
  have is_cpt_2 := SL.is hcpt_2v.sl
  refine bB fun K1 hK1 => ?_
  refine rd0 h (ah rfl (v := (.bool false))) rfl ?_; clear h ac; intro ac wo h
  refine aE ?_
  refine hK1 _ _ ?_
  refine bB fun K2 hK2 => ?_
  refine rd0 h (eN uu28 rfl zz26 (by decide) rfl rfl (k' := 0)) rfl ?_; clear h ac wo; intro ac wo h
  refine rd0 h (r_ldP (k := 0) hcptp aa26 zz26 rfl rfl rfl (v := cpt_0v) rfl) rfl ?_; clear h ac wo; intro ac wo h
  refine rd0 h (aj rfl) rfl ?_; clear h ac wo; intro ac wo h
  refine rd0 h (kd bld33 rfl is_cpt_0 is_w) rfl ?_; clear h ac wo; intro ac wo h
  refine rd0 h (r_ldP hcplp aa42 zz42 rfl rfl rfl (v := (vQ cplx)) rfl) rfl ?_; clear h ac wo; intro ac wo h
  refine dQ (vs := [(.agg #[cpt_0v, wv]), (vQ cplx)]) h (bh Tryz.call23 rfl) (fun w_ hB_ hS_ => ef cpt_0 cpt_0v w wv cplx ccpt_0 cw zcplx w_ (hcpt_0v.below hB_) (hwv.below hB_)) rfl ?_; clear h ac wo; intro ac wo h
  refine rd0 h (ah rfl) rfl ?_; clear h ac wo; intro ac wo h
  refine aE ?_
  refine hK2 _ _ ?_
  refine cr ?_
  exact ret (rs := [.tmp 4]) h rfl (.tmp rfl .nil) rfl (h.retP rfl trivial)
theorem gO (t_0 : List Iv) (t_0v : Value) (t_1 : List Iv) (t_1v : Value) (t_2 : List Iv) (t_2v : Value) (length : GQ) (ct_0 : Cn t_0) (ct_1 : Cn t_1) (ct_2 : Cn t_2) (zlength : SzQ 30 length) (w0 : World) (ht_0v : View w0 t_0v t_0) (ht_1v : View w0 t_1v t_1) (ht_2v : View w0 t_2v t_2) : Calls Tryz.prog 19 #[(.agg #[t_0v, t_1v, t_2v]), (vQ length)] w0 (RetP w0 (.int .i64 (aF (ba t_1 length) (!(ba t_2 length)))) True) := by
  refine enter (N := 17) (args := [(.agg #[t_0v, t_1v, t_2v]), (vQ length)]) Tryz.func19 rfl rfl ?_; intro ac h
  have is_t_0 := SL.is ht_0v.sl
  have is_t_1 := SL.is ht_1v.sl
  have is_t_2 := SL.is ht_2v.sl
  refine bB fun K1 hK1 => ?_
  refine bx h [t_0v, t_1v, t_2v] rfl rfl rfl ?_; clear h ac; intro b1 ac wo h
  refine bx h (cQ length) rfl rfl rfl ?_; clear h ac wo; intro b2 ac wo h
  refine rd0 h (ah rfl (v := (.int .i64 0))) rfl ?_; clear h ac wo; intro ac wo h
  refine aE ?_
  refine hK1 _ _ ?_
  refine bB fun K2 hK2 => ?_
  refine rd0 h (n8 (vs := [(ptr b1 0), (ptr b2 0)]) rfl) rfl ?_; clear h ac wo; intro ac wo h
  refine rd0 h (ah rfl) rfl ?_; clear h ac wo; intro ac wo h
  refine aE ?_
  refine hK2 _ _ ?_
  refine bP fun K3 hK3 => ?_
  refine hO [0, 0, 2, 7, 0, 0, 32, 127, 255, 511, 1023] (by kernel_rfl) mixed [⟨.det (.func (.func 53) #[] #[(ptr b1 0), (ptr b2 0)]), []⟩, ⟨.det (ptr b1 1), []⟩, ⟨.det t_1v, [1]⟩, ⟨.det (.bool (ba t_1 length)), [1, 0]⟩, ⟨.det (.func (.func 53) #[] #[(ptr b1 0), (ptr b2 0)]), []⟩, ⟨.det (ptr b1 2), []⟩, ⟨.det t_2v, [1]⟩, ⟨.det (.bool (ba t_2 length)), [1, 0]⟩, ⟨.det (.bool (!(ba t_2 length))), []⟩, ⟨.det (.int .i64 (aF (ba t_1 length) (!(ba t_2 length)))), []⟩, ⟨.det (.int .i64 (aF (ba t_1 length) (!(ba t_2 length)))), []⟩] [⟨.blk b2 (cQ length) 42, []⟩, ⟨.blk b1 [t_0v, t_1v, t_2v] 28, []⟩] h rfl (by kernel_rfl) ⟨?_, ?_, ?_, ?_, ?_, ?_, ?_, ?_, ?_, ?_, ?_, trivial⟩ ?_
  · intro ξ hφ; exact obI (ay (aj rfl))
  · intro ξ hφ; exact obI (ay (eN uu28 rfl zz26 (by decide) rfl rfl (k' := 1)))
  · intro ξ hφ; exact obI (bT [.blk b1 [t_0v, t_1v, t_2v] 28] rfl rfl (aZ aa26 zz26 rfl rfl rfl (v := t_1v) rfl))
  · intro ξ hφ; exact obI (es [.blk b1 [t_0v, t_1v, t_2v] 28, .blk b2 (cQ length) 42] [.blk b1 [t_0v, t_1v, t_2v] 28, .blk b2 (cQ length) 42] rfl rfl (df (vs := [t_1v, (ptr b1 0), (ptr b2 0)]) (ow (vs := [t_1v]) (cap := [(ptr b1 0), (ptr b2 0)]) Tryz.call53 rfl rfl) (fun w_ hB_ hS_ => gg t_1 t_1v t_0 t_0v t_1 t_1v t_2 t_2v b1 length b2 ct_1 ct_0 ct_1 ct_2 zlength w_ (ht_1v.below hB_) (ht_0v.below hB_) (ht_1v.below hB_) (ht_2v.below hB_) (nK hS_ 0 rfl) (nK hS_ 1 rfl))))
  · intro ξ hφ; exact obI (ay (aj rfl))
  · intro ξ hφ; exact obI (ay (eN uu28 rfl zz26 (by decide) rfl rfl (k' := 2)))
  · intro ξ hφ; exact obI (bT [.blk b1 [t_0v, t_1v, t_2v] 28] rfl rfl (aZ aa26 zz26 rfl rfl rfl (v := t_2v) rfl))
  · intro ξ hφ; exact obI (es [.blk b1 [t_0v, t_1v, t_2v] 28, .blk b2 (cQ length) 42] [.blk b1 [t_0v, t_1v, t_2v] 28, .blk b2 (cQ length) 42] rfl rfl (df (vs := [t_2v, (ptr b1 0), (ptr b2 0)]) (ow (vs := [t_2v]) (cap := [(ptr b1 0), (ptr b2 0)]) Tryz.call53 rfl rfl) (fun w_ hB_ hS_ => gg t_2 t_2v t_0 t_0v t_1 t_1v t_2 t_2v b1 length b2 ct_2 ct_0 ct_1 ct_2 zlength w_ (ht_2v.below hB_) (ht_0v.below hB_) (ht_1v.below hB_) (ht_2v.below hB_) (nK hS_ 0 rfl) (nK hS_ 1 rfl))))
  · intro ξ hφ; exact obI (ay (eU rfl))
  · intro ξ hφ; exact obI (dY (df (vs := [(.bool (ba t_1 length)), (.bool (!(ba t_2 length)))]) (bh Tryz.call52 rfl) (fun w_ hB_ hS_ => fp (ba t_1 length) (!(ba t_2 length)) w_ )))
  · intro ξ hφ; exact obI (ay (ah rfl))
  clear h ac wo; intro ξ ac wo hφ h
  replace h : St w0 17 [(4, (.int .i64 (aF (ba t_1 length) (!(ba t_2 length)))))] [.blk b2 (cQ length) 42, .blk b1 [t_0v, t_1v, t_2v] 28] ac wo := (h.pick [0, 1] (by decide)).sub ⟨rfl, trivial⟩
  refine hK3 _ _ ?_
  refine cr ?_
  exact ret (rs := [.tmp 4]) h rfl (.tmp rfl .nil) rfl (h.retP rfl trivial)
theorem f5  (w0 : World)  : Calls Tryz.prog 8 #[] w0 (RetP w0 (.bool true) True) := by
  refine enter (N := 49) (args := []) Tryz.func8 rfl rfl ?_; intro ac h
  refine bB fun K1 hK1 => ?_
  refine rd0 h (ah rfl (v := (.bool false))) rfl ?_; clear h ac; intro ac wo h
  refine aE ?_
  refine hK1 _ _ ?_
  refine bB fun K2 hK2 => ?_
  refine io (vs := [(.int .i64 0), (.int .i64 10)]) (xs := (ap 0 10)) h (bh cc42 rfl) (fun w_ hB_ hS_ => iU 0 10 (by first | assumption | omega | (simp only [aq, Bool.cond_decide, Bool.cond_eq_ite, List.length_append, List.length_set, List.length_cons, List.length_nil, List.length_take, List.length_drop, List.length_replicate] at *; done) | (simp only [aq, Bool.cond_decide, Bool.cond_eq_ite, List.length_append, List.length_set, List.length_cons, List.length_nil, List.length_take, List.length_drop, List.length_replicate] at *; omega) | (simp only [aq, Bool.cond_decide, Bool.cond_eq_ite, List.length_append, List.length_set, List.length_cons, List.length_nil, List.length_take, List.length_drop, List.length_replicate]; omega)) (by first | assumption | omega | (simp only [aq, Bool.cond_decide, Bool.cond_eq_ite, List.length_append, List.length_set, List.length_cons, List.length_nil, List.length_take, List.length_drop, List.length_replicate] at *; done) | (simp only [aq, Bool.cond_decide, Bool.cond_eq_ite, List.length_append, List.length_set, List.length_cons, List.length_nil, List.length_take, List.length_drop, List.length_replicate] at *; omega) | (simp only [aq, Bool.cond_decide, Bool.cond_eq_ite, List.length_append, List.length_set, List.length_cons, List.length_nil, List.length_take, List.length_drop, List.length_replicate]; omega)) w_ ) rfl ?_; clear h ac wo; intro sv1 ac wo _ h
  have is_sv1 := SL.is (h.row_sl 0 rfl)
  refine io (vs := [(.int .i64 2), (.int .i64 4)]) (xs := (ap 2 4)) h (bh cc42 rfl) (fun w_ hB_ hS_ => iU 2 4 (by first | assumption | omega | (simp only [aq, Bool.cond_decide, Bool.cond_eq_ite, List.length_append, List.length_set, List.length_cons, List.length_nil, List.length_take, List.length_drop, List.length_replicate] at *; done) | (simp only [aq, Bool.cond_decide, Bool.cond_eq_ite, List.length_append, List.length_set, List.length_cons, List.length_nil, List.length_take, List.length_drop, List.length_replicate] at *; omega) | (simp only [aq, Bool.cond_decide, Bool.cond_eq_ite, List.length_append, List.length_set, List.length_cons, List.length_nil, List.length_take, List.length_drop, List.length_replicate]; omega)) (by first | assumption | omega | (simp only [aq, Bool.cond_decide, Bool.cond_eq_ite, List.length_append, List.length_set, List.length_cons, List.length_nil, List.length_take, List.length_drop, List.length_replicate] at *; done) | (simp only [aq, Bool.cond_decide, Bool.cond_eq_ite, List.length_append, List.length_set, List.length_cons, List.length_nil, List.length_take, List.length_drop, List.length_replicate] at *; omega) | (simp only [aq, Bool.cond_decide, Bool.cond_eq_ite, List.length_append, List.length_set, List.length_cons, List.length_nil, List.length_take, List.length_drop, List.length_replicate]; omega)) w_ ) rfl ?_; clear h ac wo; intro sv2 ac wo _ h
  have is_sv2 := SL.is (h.row_sl 0 rfl)
  refine io (vs := [(.int .i64 1), (.int .i64 5)]) (xs := (ap 1 5)) h (bh cc42 rfl) (fun w_ hB_ hS_ => iU 1 5 (by first | assumption | omega | (simp only [aq, Bool.cond_decide, Bool.cond_eq_ite, List.length_append, List.length_set, List.length_cons, List.length_nil, List.length_take, List.length_drop, List.length_replicate] at *; done) | (simp only [aq, Bool.cond_decide, Bool.cond_eq_ite, List.length_append, List.length_set, List.length_cons, List.length_nil, List.length_take, List.length_drop, List.length_replicate] at *; omega) | (simp only [aq, Bool.cond_decide, Bool.cond_eq_ite, List.length_append, List.length_set, List.length_cons, List.length_nil, List.length_take, List.length_drop, List.length_replicate]; omega)) (by first | assumption | omega | (simp only [aq, Bool.cond_decide, Bool.cond_eq_ite, List.length_append, List.length_set, List.length_cons, List.length_nil, List.length_take, List.length_drop, List.length_replicate] at *; done) | (simp only [aq, Bool.cond_decide, Bool.cond_eq_ite, List.length_append, List.length_set, List.length_cons, List.length_nil, List.length_take, List.length_drop, List.length_replicate] at *; omega) | (simp only [aq, Bool.cond_decide, Bool.cond_eq_ite, List.length_append, List.length_set, List.length_cons, List.length_nil, List.length_take, List.length_drop, List.length_replicate]; omega)) w_ ) rfl ?_; clear h ac wo; intro sv3 ac wo _ h
  have is_sv3 := SL.is (h.row_sl 0 rfl)
  refine rd0 h (kb bld28 rfl is_sv1 is_sv2 is_sv3) rfl ?_; clear h ac wo; intro ac wo h
  refine al h [(.slice none 0 0), (.slice none 0 0), (.slice none 0 0)] vv28 rfl rfl ?_; clear h ac wo; intro b1 ac wo h
  refine st h 0 [sv1, sv2, sv3] rfl zz28 rfl rfl rfl rfl (one3 is_sv1 is_sv2 is_sv3) rfl rfl ?_; clear h ac wo; intro ac wo h
  refine aE ?_
  refine hK2 _ _ ?_
  refine bB fun K3 hK3 => ?_
  refine rd1 h 0 rfl (aZ aa28 zz28 rfl rfl rfl (v := (.agg #[sv1, sv2, sv3])) rfl) rfl ?_; clear h ac wo; intro ac wo h
  refine c_ag (vs := [(.agg #[sv1, sv2, sv3])]) h (bh Tryz.call25 rfl) (fun w_ hB_ hS_ => kW (ap 0 10) sv1 (ap 2 4) sv2 (ap 1 5) sv3 (eL 0 10 (by decide)) (eL 2 4 (by decide)) (eL 1 5 (by decide)) w_ (row_view hS_ 3 rfl) (row_view hS_ 2 rfl) (row_view hS_ 1 rfl)) rfl ?_; clear h ac wo; intro va ac wo ha h
  obtain ⟨ha, hi⟩ := ha
  generalize agc va 0 = sv4 at h ha hi
  generalize agc va 1 = sv5 at h ha hi
  generalize agc va 2 = sv6 at h ha hi
  obtain ⟨is_sv4, is_sv5, is_sv6⟩ := sl3 hi
  subst ha
  refine al h [(.slice none 0 0), (.slice none 0 0), (.slice none 0 0)] vv28 rfl rfl ?_; clear h ac wo; intro b2 ac wo h
  refine st h 0 [sv4, sv5, sv6] rfl zz28 rfl rfl rfl rfl (one3 is_sv4 is_sv5 is_sv6) rfl rfl ?_; clear h ac wo; intro ac wo h
  refine aE ?_
  refine hK3 _ _ ?_
  refine bP fun K4 hK4 => ?_
  have hml : (aU (ap 0 10) (ap 1 5)).length = 2 := by decide +kernel
  have s7 := Calls.pr ((fun w_ hB_ hS_ => dM 5 (by first | assumption | omega | (simp only [aq, Bool.cond_decide, Bool.cond_eq_ite, List.length_append, List.length_set, List.length_cons, List.length_nil, List.length_take, List.length_drop, List.length_replicate] at *; done) | (simp only [aq, Bool.cond_decide, Bool.cond_eq_ite, List.length_append, List.length_set, List.length_cons, List.length_nil, List.length_take, List.length_drop, List.length_replicate] at *; omega) | (simp only [aq, Bool.cond_decide, Bool.cond_eq_ite, List.length_append, List.length_set, List.length_cons, List.length_nil, List.length_take, List.length_drop, List.length_replicate]; omega)) w_ ) _ h.bel h.sep)
  refine hO [0, 1, 3, 7, 15, 31, 63, 127, 255, 511, 1023, 2047, 4095, 8191, 16383, 32767, 65535, 131071, 262143, 524287, 262143, 1310719, 4194303, 8388607, 16777215, 33554431, 67108863, 134217727, 268435455, 536870911, 1073741823, 2147483647, 4294967295, 8589934591, 17179869183, 34359738367, 34359738367, 137438953471, 274877906943, 549755813887, 1099511627775] (by kernel_rfl) mixed [⟨.det (ptr b2 1), []⟩, ⟨.det sv5, [0]⟩, ⟨.det (.int .i64 (((aU (ap 0 10) (ap 1 5)).length : Nat) : Int)), []⟩, ⟨.det (.bool true), []⟩, ⟨.det (.bool true), []⟩, ⟨.det (ptr b2 1), []⟩, ⟨.det sv5, [0]⟩, ⟨.det (sel sv5 (0 * 20)), []⟩, ⟨.det (sel sv5 (0 * 20 + 19)), []⟩, ⟨.det (.bool true), [2]⟩, ⟨.det (.bool true), []⟩, ⟨.det (.bool true), []⟩, ⟨.det (ptr b2 2), []⟩, ⟨.det sv6, [0]⟩, ⟨.det (.int .i64 (((aU (ap 0 10) (ap 2 4)).length : Nat) : Int)), []⟩, ⟨.det (.bool true), []⟩, ⟨.det (.bool true), []⟩, ⟨.det (.bool true), []⟩, ⟨.det (ptr b2 0), []⟩, ⟨.det sv4, [0]⟩, ⟨.det (ptr b1 0), []⟩, ⟨.det sv1, [4]⟩, ⟨.det (.bool true), [1, 7]⟩, ⟨.det (.bool true), []⟩, ⟨.det (.bool true), []⟩, ⟨.det (.agg #[sv1, sv2, sv3]), [4]⟩, ⟨.det (.int .i64 (aF (decide ((((ap 2 4).length : Nat) : Int) > 0)) (((((ap 1 5).length : Nat) : Int)) == (((0 : Nat) : Int))))), [7, 6, 5]⟩, ⟨.det (.bool true), []⟩, ⟨.det (.bool true), []⟩, ⟨.det (.bool true), []⟩, ⟨.det (.agg #[sv1, sv2, sv3]), [4]⟩, ⟨.det (.int .i64 (aF (aX (ap 2 4) (ap 0 10)) (!(aX (ap 1 5) (ap 0 10))))), [7, 6, 5]⟩, ⟨.det (.bool true), []⟩, ⟨.det (.bool true), []⟩, ⟨.det (.bool true), []⟩, ⟨.det (.agg #[sv1, sv2, sv3]), [4]⟩, ⟨.det (vQ (bp 5)), []⟩, ⟨.det (.int .i64 (aF (ba (ap 2 4) (bp 5)) (!(ba (ap 1 5) (bp 5))))), [7, 6, 5]⟩, ⟨.det (.bool true), []⟩, ⟨.det (.bool true), []⟩, ⟨.det (.bool true), []⟩] [⟨.blk b2 [sv4, sv5, sv6] 28, []⟩, ⟨.row (α := Iv) 66 sv4 (ap 0 10), []⟩, ⟨.row (α := Iv) 66 sv5 (aU (ap 0 10) (ap 1 5)), []⟩, ⟨.row (α := Iv) 66 sv6 (aU (ap 0 10) (ap 2 4)), []⟩, ⟨.blk b1 [sv1, sv2, sv3] 28, []⟩, ⟨.row (α := Iv) 66 sv3 (ap 1 5), []⟩, ⟨.row (α := Iv) 66 sv2 (ap 2 4), []⟩, ⟨.row (α := Iv) 66 sv1 (ap 0 10), []⟩] h rfl (by kernel_rfl) ⟨?_, ?_, ?_, ?_, ?_, ?_, ?_, ?_, ?_, ?_, ?_, ?_, ?_, ?_, ?_, ?_, ?_, ?_, ?_, ?_, ?_, ?_, ?_, ?_, ?_, ?_, ?_, ?_, ?_, ?_, ?_, ?_, ?_, ?_, ?_, ?_, ?_, ?_, ?_, ?_, ?_, trivial⟩ ?_
  · intro ξ hφ; exact obI (ay (eN uu28 rfl zz26 (by decide) rfl rfl (k' := 1)))
  · intro ξ hφ; exact obI (bT [.blk b2 [sv4, sv5, sv6] 28] rfl rfl (aZ aa26 zz26 rfl rfl rfl (v := sv5) rfl))
  · intro ξ hφ; exact obI (ay (dx uu26 rfl (h.row_sl 2 rfl)))
  · intro ξ hφ; exact obI (ay (Rd.cast (dV rfl rfl (m := (((aU (ap 0 10) (ap 1 5)).length : Nat) : Int)) (n := ((2 : Nat) : Int))) (congrArg Value.bool (by decide +kernel))))
  · intro ξ hφ; exact obI (ay (aj rfl))
  · intro ξ hφ; exact obK rfl rfl (ay (eN uu28 rfl zz26 (by decide) rfl rfl (k' := 1)))
  · intro ξ hφ; exact obK rfl rfl (bT [.blk b2 [sv4, sv5, sv6] 28] rfl rfl (aZ aa26 zz26 rfl rfl rfl (v := sv5) rfl))
  · intro ξ hφ; exact obK rfl rfl (ay (ep (i := 0) uu26 Tryz.sizeOf66 rfl rfl (h.row_nn 2 rfl (by first | assumption | omega | (simp only [aq, Bool.cond_decide, Bool.cond_eq_ite, List.length_append, List.length_set, List.length_cons, List.length_nil, List.length_take, List.length_drop, List.length_replicate] at *; done) | (simp only [aq, Bool.cond_decide, Bool.cond_eq_ite, List.length_append, List.length_set, List.length_cons, List.length_nil, List.length_take, List.length_drop, List.length_replicate] at *; omega) | (simp only [aq, Bool.cond_decide, Bool.cond_eq_ite, List.length_append, List.length_set, List.length_cons, List.length_nil, List.length_take, List.length_drop, List.length_replicate]; omega))) (by rw [hml]; decide)))
  · intro ξ hφ; exact obK rfl rfl (ay (r_faS Tryz.runUnderlying66 rfl zz4 (by decide) (h.row_nn 2 rfl (by first | assumption | omega | (simp only [aq, Bool.cond_decide, Bool.cond_eq_ite, List.length_append, List.length_set, List.length_cons, List.length_nil, List.length_take, List.length_drop, List.length_replicate] at *; done) | (simp only [aq, Bool.cond_decide, Bool.cond_eq_ite, List.length_append, List.length_set, List.length_cons, List.length_nil, List.length_take, List.length_drop, List.length_replicate] at *; omega) | (simp only [aq, Bool.cond_decide, Bool.cond_eq_ite, List.length_append, List.length_set, List.length_cons, List.length_nil, List.length_take, List.length_drop, List.length_replicate]; omega))) rfl rfl (k' := 0 * 20 + 19)))
  · intro ξ hφ; exact obK rfl rfl (bT [.row (α := Iv) 66 sv5 (aU (ap 0 10) (ap 1 5))] rfl rfl (Rd.cast (er (k := 19) Tryz.isAgg4 zz4 (ec (by first | assumption | omega | (simp only [aq, Bool.cond_decide, Bool.cond_eq_ite, List.length_append, List.length_set, List.length_cons, List.length_nil, List.length_take, List.length_drop, List.length_replicate] at *; done) | (simp only [aq, Bool.cond_decide, Bool.cond_eq_ite, List.length_append, List.length_set, List.length_cons, List.length_nil, List.length_take, List.length_drop, List.length_replicate] at *; omega) | (simp only [aq, Bool.cond_decide, Bool.cond_eq_ite, List.length_append, List.length_set, List.length_cons, List.length_nil, List.length_take, List.length_drop, List.length_replicate]; omega))) rfl rfl rfl rfl (v := (.bool ((gt (aU (ap 0 10) (ap 1 5)) 0).openHi))) rfl) (congrArg Value.bool (by decide +kernel))))
  · intro ξ hφ; exact obI (ay (fv (b := true) rfl (fun e => rfl) (fun e => absurd e (by decide)) (v := (.bool true))))
  · intro ξ hφ; exact obI (ay (aj rfl))
  · intro ξ hφ; exact obK rfl rfl (ay (eN uu28 rfl zz26 (by decide) rfl rfl (k' := 2)))
  · intro ξ hφ; exact obK rfl rfl (bT [.blk b2 [sv4, sv5, sv6] 28] rfl rfl (aZ aa26 zz26 rfl rfl rfl (v := sv6) rfl))
  · intro ξ hφ; exact obK rfl rfl (ay (dx uu26 rfl (h.row_sl 3 rfl)))
  · intro ξ hφ; exact obK rfl rfl (ay (Rd.cast (dV rfl rfl (m := (((aU (ap 0 10) (ap 2 4)).length : Nat) : Int)) (n := ((2 : Nat) : Int))) (congrArg Value.bool (by decide +kernel))))
  · intro ξ hφ; exact obI (ay (fv (b := true) rfl (fun e => rfl) (fun e => absurd e (by decide)) (v := (.bool true))))
  · intro ξ hφ; exact obI (ay (aj rfl))
  · intro ξ hφ; exact obK rfl rfl (ay (eN uu28 rfl zz26 (by decide) rfl rfl (k' := 0)))
  · intro ξ hφ; exact obK rfl rfl (bT [.blk b2 [sv4, sv5, sv6] 28] rfl rfl (aZ aa26 zz26 rfl rfl rfl (v := sv4) rfl))
  · intro ξ hφ; exact obK rfl rfl (ay (eN uu28 rfl zz26 (by decide) rfl rfl (k' := 0)))
  · intro ξ hφ; exact obK rfl rfl (bT [.blk b1 [sv1, sv2, sv3] 28] rfl rfl (aZ aa26 zz26 rfl rfl rfl (v := sv1) rfl))
  · intro ξ hφ; exact obK rfl rfl (es [.row (α := Iv) 66 sv4 (ap 0 10), .row (α := Iv) 66 sv1 (ap 0 10)] [.row (α := Iv) 66 sv4 (ap 0 10), .row (α := Iv) 66 sv1 (ap 0 10)] rfl rfl (df (vs := [sv4, sv1]) (bh Tryz.call32 rfl) (fun w_ hB_ hS_ => RetP.cast (jl (ap 0 10) sv4 (ap 0 10) sv1 (eL 0 10 (by decide)) (eL 0 10 (by decide)) w_ (row_view hS_ 0 rfl) (row_view hS_ 1 rfl)) (congrArg Value.bool (by decide +kernel)))))
  · intro ξ hφ; exact obI (ay (fv (b := true) rfl (fun e => rfl) (fun e => absurd e (by decide)) (v := (.bool true))))
  · intro ξ hφ; exact obI (ay (aj rfl))
  · intro ξ hφ; exact obK rfl rfl (bT [.blk b1 [sv1, sv2, sv3] 28] rfl rfl (aZ aa28 zz28 rfl rfl rfl (v := (.agg #[sv1, sv2, sv3])) rfl))
  · intro ξ hφ; exact obK rfl rfl (es [.row (α := Iv) 66 sv1 (ap 0 10), .row (α := Iv) 66 sv2 (ap 2 4), .row (α := Iv) 66 sv3 (ap 1 5)] [.row (α := Iv) 66 sv1 (ap 0 10), .row (α := Iv) 66 sv2 (ap 2 4), .row (α := Iv) 66 sv3 (ap 1 5)] rfl rfl (df (vs := [(.agg #[sv1, sv2, sv3])]) (bh Tryz.call17 rfl) (fun w_ hB_ hS_ => gD (ap 0 10) sv1 (ap 2 4) sv2 (ap 1 5) sv3 (eL 0 10 (by decide)) (eL 2 4 (by decide)) (eL 1 5 (by decide)) w_ (row_view hS_ 0 rfl) (row_view hS_ 1 rfl) (row_view hS_ 2 rfl))))
  · intro ξ hφ; exact obK rfl rfl (ay (Rd.cast (dV rfl rfl) (congrArg Value.bool (by decide +kernel))))
  · intro ξ hφ; exact obI (ay (fv (b := true) rfl (fun e => rfl) (fun e => absurd e (by decide)) (v := (.bool true))))
  · intro ξ hφ; exact obI (ay (aj rfl))
  · intro ξ hφ; exact obK rfl rfl (bT [.blk b1 [sv1, sv2, sv3] 28] rfl rfl (aZ aa28 zz28 rfl rfl rfl (v := (.agg #[sv1, sv2, sv3])) rfl))
  · intro ξ hφ; exact obK rfl rfl (es [.row (α := Iv) 66 sv1 (ap 0 10), .row (α := Iv) 66 sv2 (ap 2 4), .row (α := Iv) 66 sv3 (ap 1 5)] [.row (α := Iv) 66 sv1 (ap 0 10), .row (α := Iv) 66 sv2 (ap 2 4), .row (α := Iv) 66 sv3 (ap 1 5)] rfl rfl (df (vs := [(.agg #[sv1, sv2, sv3])]) (bh Tryz.call18 rfl) (fun w_ hB_ hS_ => ia (ap 0 10) sv1 (ap 2 4) sv2 (ap 1 5) sv3 (eL 0 10 (by decide)) (eL 2 4 (by decide)) (eL 1 5 (by decide)) w_ (row_view hS_ 0 rfl) (row_view hS_ 1 rfl) (row_view hS_ 2 rfl))))
  · intro ξ hφ; exact obK rfl rfl (ay (Rd.cast (dV rfl rfl) (congrArg Value.bool (by decide +kernel))))
  · intro ξ hφ; exact obI (ay (fv (b := true) rfl (fun e => rfl) (fun e => absurd e (by decide)) (v := (.bool true))))
  · intro ξ hφ; exact obI (ay (aj rfl))
  · intro ξ hφ; exact obK rfl rfl (bT [.blk b1 [sv1, sv2, sv3] 28] rfl rfl (aZ aa28 zz28 rfl rfl rfl (v := (.agg #[sv1, sv2, sv3])) rfl))
  · intro ξ hφ; exact obK rfl rfl (dY (df (vs := [(.int .i64 5)]) (bh Tryz.call43 rfl) (fun w_ hB_ hS_ => dM 5 (by first | assumption | omega | (simp only [aq, Bool.cond_decide, Bool.cond_eq_ite, List.length_append, List.length_set, List.length_cons, List.length_nil, List.length_take, List.length_drop, List.length_replicate] at *; done) | (simp only [aq, Bool.cond_decide, Bool.cond_eq_ite, List.length_append, List.length_set, List.length_cons, List.length_nil, List.length_take, List.length_drop, List.length_replicate] at *; omega) | (simp only [aq, Bool.cond_decide, Bool.cond_eq_ite, List.length_append, List.length_set, List.length_cons, List.length_nil, List.length_take, List.length_drop, List.length_replicate]; omega)) w_ )))
  · intro ξ hφ; exact obK rfl rfl (es [.row (α := Iv) 66 sv1 (ap 0 10), .row (α := Iv) 66 sv2 (ap 2 4), .row (α := Iv) 66 sv3 (ap 1 5)] [.row (α := Iv) 66 sv1 (ap 0 10), .row (α := Iv) 66 sv2 (ap 2 4), .row (α := Iv) 66 sv3 (ap 1 5)] rfl rfl (df (vs := [(.agg #[sv1, sv2, sv3]), (vQ (bp 5))]) (bh Tryz.call19 rfl) (fun w_ hB_ hS_ => gO (ap 0 10) sv1 (ap 2 4) sv2 (ap 1 5) sv3 (bp 5) (eL 0 10 (by decide)) (eL 2 4 (by decide)) (eL 1 5 (by decide)) (ed s7 (by omega)) w_ (row_view hS_ 0 rfl) (row_view hS_ 1 rfl) (row_view hS_ 2 rfl))))
  · intro ξ hφ; exact obK rfl rfl (ay (Rd.cast (dV rfl rfl) (congrArg Value.bool (by decide +kernel))))
  · intro ξ hφ; exact obI (ay (fv (b := true) rfl (fun e => rfl) (fun e => absurd e (by decide)) (v := (.bool true))))
  · intro ξ hφ; exact obI (ay (ah rfl))
  clear h ac wo; intro ξ ac wo hφ h
  replace h : St w0 49 [(0, (.bool true))] [.blk b2 [sv4, sv5, sv6] 28, .row (α := Iv) 66 sv4 (ap 0 10), .row (α := Iv) 66 sv5 (aU (ap 0 10) (ap 1 5)), .row (α := Iv) 66 sv6 (aU (ap 0 10) (ap 2 4)), .blk b1 [sv1, sv2, sv3] 28, .row (α := Iv) 66 sv3 (ap 1 5), .row (α := Iv) 66 sv2 (ap 2 4), .row (α := Iv) 66 sv1 (ap 0 10)] ac wo := (h.pick [0, 1, 2, 3, 4, 5, 6, 7] (by decide)).sub ⟨rfl, trivial⟩
  refine hK4 _ _ ?_
  refine cr ?_
  exact ret (rs := [.tmp 0]) h rfl (.tmp rfl .nil) rfl (h.retP rfl trivial)
end Go.Sx
