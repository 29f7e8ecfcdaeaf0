/- A part of the proof that the law BracketQuestions/Checks answers true at every input and leaves its arguments as they were. -/
import Derived.Test.YtbnldpccdppmiaaGreatDoorKn5
set_option linter.unusedVariables false
set_option linter.unusedSimpArgs false
open Go.Proofs.Tryz renaming sizeOf28 → zz28, isAgg28 → aa28, zeroValue33 → vv33, sizeOf33 → zz33, sizeOf42 → zz42, isAgg42 → aa42, runUnderlying28 → uu28, sizeOf26 → zz26, isAgg26 → aa26, isAgg33 → aa33, call21 → cc21, call20 → cc20, call22 → cc22, call23 → cc23, underlying4 → nn4
namespace Go.Sx
open Go Go.RowKit Go.Proofs
set_option maxRecDepth 100000
set_option maxHeartbeats 40000000
theorem fz (p_0 : List Stp) (p_0v : Value) (p_1 : List Stp) (p_1v : Value) (p_2 : List Stp) (p_2v : Value) (l : List Stp) (lv : Value) (halves : Int) (hb_ : -128 ≤ halves ∧ halves ≤ 127) (w0 : World) (hp_0v : View w0 p_0v p_0) (hp_1v : View w0 p_1v p_1) (hp_2v : View w0 p_2v p_2) (hlv : View w0 lv l) : Calls Tryz.prog 4 #[(.agg #[p_0v, p_1v, p_2v]), lv, (.int .i8 halves)] w0 (RetP w0 (.bool true) True) := by
  refine enter (N := 96) (args := [(.agg #[p_0v, p_1v, p_2v]), lv, (.int .i8 halves)]) Tryz.func4 rfl rfl ?_; intro ac h
  have is_p_0 := SL.is hp_0v.sl
  have is_p_1 := SL.is hp_1v.sl
  have is_p_2 := SL.is hp_2v.sl
  have is_l := SL.is hlv.sl
  refine bB fun K1 hK1 => ?_
  refine bx h [p_0v, p_1v, p_2v] rfl rfl rfl ?_; clear h ac; intro b1 ac wo h
  refine rd0 h (ah rfl (v := (.bool false))) rfl ?_; clear h ac wo; intro ac wo h
  refine aE ?_
  refine hK1 _ _ ?_
  refine bP fun K2 hK2 => ?_
  refine bB fun K3 hK3 => ?_
  refine dQ (vs := []) h (bh Tryz.call8 rfl) (fun w_ hB_ hS_ => f5  w_ ) rfl ?_; clear h ac wo; intro ac wo h
  refine rd0 h (Rd.cast (eU rfl) (v := .bool false) rfl) rfl ?_; clear h ac wo; intro ac wo h
  refine aE ?_
  refine hK3 _ _ ?_
  refine kP (b := false) h rfl ?_
  refine bR ?_
  refine hK2 _ _ ?_
  refine bB fun K4 hK4 => ?_
  refine rd1 h 0 rfl (aZ Tryz.isAgg24 Tryz.sizeOf24 rfl rfl rfl (v := (.agg #[p_0v, p_1v, p_2v])) rfl) rfl ?_; clear h ac wo; intro ac wo h
  refine c_ag (vs := [(.agg #[p_0v, p_1v, p_2v])]) h (bh Tryz.call9 rfl) (fun w_ hB_ hS_ => ey p_0 p_0v p_1 p_1v p_2 p_2v w_ (hp_0v.below hB_) (hp_1v.below hB_) (hp_2v.below hB_)) rfl ?_; clear h ac wo; intro va ac wo ha h
  obtain ⟨ha, hi⟩ := ha
  generalize agc va 0 = sv1 at h ha hi
  generalize agc va 1 = sv2 at h ha hi
  generalize agc va 2 = sv3 at h ha hi
  obtain ⟨is_sv1, is_sv2, is_sv3⟩ := sl3 hi
  subst ha
  refine al h [(.slice none 0 0), (.slice none 0 0), (.slice none 0 0)] Tryz.zeroValue28 rfl rfl ?_; clear h ac wo; intro b2 ac wo h
  refine st h 0 [sv1, sv2, sv3] rfl zz28 rfl rfl rfl rfl (one3 is_sv1 is_sv2 is_sv3) rfl rfl ?_; clear h ac wo; intro ac wo h
  refine aE ?_
  refine hK4 _ _ ?_
  refine bB fun K5 hK5 => ?_
  refine rd1 h 0 rfl (aZ aa28 zz28 rfl rfl rfl (v := (.agg #[sv1, sv2, sv3])) rfl) rfl ?_; clear h ac wo; intro ac wo h
  refine rd0 h (aj rfl) rfl ?_; clear h ac wo; intro ac wo h
  refine c_ag (vs := [(.agg #[sv1, sv2, sv3]), lv]) h (bh Tryz.call14 rfl) (fun w_ hB_ hS_ => i6 (aa p_0) sv1 (af (af (aa p_0) (aa p_2)) (aa p_1)) sv2 (af (aa p_0) (aa p_2)) sv3 l lv (aD p_0) (Cn.inter (Cn.inter (aD p_0) (aD p_2)) (aD p_1)) (Cn.inter (aD p_0) (aD p_2)) w_ (row_view hS_ 1 rfl) (row_view hS_ 2 rfl) (row_view hS_ 3 rfl) (hlv.below hB_)) rfl ?_; clear h ac wo; intro va ac wo ha h
  obtain ⟨ha, hi⟩ := ha
  generalize agc va 1 = sv4 at h ha hi
  obtain ⟨_, is_sv4⟩ := sl2 hi
  subst ha
  refine al h [(.slice none 0 0), (.slice none 0 0)] vv33 rfl rfl ?_; clear h ac wo; intro b3 ac wo h
  refine st h 0 [sv1, sv4] rfl zz33 rfl rfl rfl rfl (one2 is_sv1 is_sv4) rfl rfl ?_; clear h ac wo; intro ac wo h
  refine aE ?_
  refine hK5 _ _ ?_
  refine bB fun K6 hK6 => ?_
  refine rd0 h (aj rfl) rfl ?_; clear h ac wo; intro ac wo h
  refine rd0 h (be Tryz.runUnderlying38 Tryz.runUnderlying3 rfl (r := halves) (by rw [IntKind.wrap_i64]; first | omega | (simp only [aq, Bool.cond_decide, Bool.cond_eq_ite, List.length_append, List.length_set, List.length_cons, List.length_nil, List.length_take, List.length_drop, List.length_replicate] at *; omega))) rfl ?_; clear h ac wo; intro ac wo h
  have s5 := Calls.pr ((fun w_ hB_ hS_ => f9 halves 2 (by omega) (by omega) w_ ) _ h.bel h.sep)
  refine dQ (vs := [(.int .i64 halves), (.int .i64 2)]) h (bh Tryz.call16 rfl) (fun w_ hB_ hS_ => f9 halves 2 (by omega) (by omega) w_ ) rfl ?_; clear h ac wo; intro ac wo h
  refine rd0 h (aj rfl) rfl ?_; clear h ac wo; intro ac wo h
  refine rd0 h (bq (vs := [(vQ ((au halves 2).1)), (.int .i64 ((au halves 2).2))]) rfl rfl) rfl ?_; clear h ac wo; intro ac wo h
  refine rd0 h (bq (vs := [(vQ ((au halves 2).1)), (.int .i64 ((au halves 2).2))]) rfl rfl) rfl ?_; clear h ac wo; intro ac wo h
  refine al h (cQ (⟨(⟨false, 0⟩ : GI), (⟨false, 0⟩ : GI)⟩ : GQ)) Tryz.zeroValue42 rfl rfl ?_; clear h ac wo; intro b4 ac wo h
  refine st h 0 (cQ ((au halves 2).1)) rfl zz42 rfl rfl rfl rfl rfl rfl rfl ?_; clear h ac wo; intro ac wo h
  refine rd0 h (ah rfl) rfl ?_; clear h ac wo; intro ac wo h
  refine aE ?_
  refine hK6 _ _ ?_
  replace h := h.sub (F' := [(7, (ptr b2 0)), (8, (ptr b3 0)), (9, (ptr b4 0))]) ⟨rfl, rfl, rfl, trivial⟩
  refine bP fun K7 hK7 => ?_
  refine hO [0, 1, 0, 7, 0, 0, 63, 127, 255, 511] (by kernel_rfl) mixed [⟨.det (.agg #[sv1, sv2, sv3]), [3]⟩, ⟨.det (.int .i64 (aF (decide ((((af (af (aa p_0) (aa p_2)) (aa p_1)).length : Nat) : Int) > 0)) (((((af (aa p_0) (aa p_2)).length : Nat) : Int)) == (((0 : Nat) : Int))))), [4, 5, 6]⟩, ⟨.det (.agg #[sv1, sv2, sv3]), [3]⟩, ⟨.det (.int .i64 (aF (aX (af (af (aa p_0) (aa p_2)) (aa p_1)) (aa p_0)) (!(aX (af (aa p_0) (aa p_2)) (aa p_0))))), [4, 5, 6]⟩, ⟨.det (.agg #[sv1, sv2, sv3]), [3]⟩, ⟨.det (vQ ((au halves 2).1)), [0]⟩, ⟨.det (.int .i64 (aF (ba (af (af (aa p_0) (aa p_2)) (aa p_1)) ((au halves 2).1)) (!(ba (af (aa p_0) (aa p_2)) ((au halves 2).1))))), [4, 5, 6]⟩, ⟨.det (.int .i64 (aF (decide ((((af (af (aa p_0) (aa p_2)) (aa p_1)).length : Nat) : Int) > 0)) (((((af (aa p_0) (aa p_2)).length : Nat) : Int)) == (((0 : Nat) : Int))))), []⟩, ⟨.det (.int .i64 (aF (aX (af (af (aa p_0) (aa p_2)) (aa p_1)) (aa p_0)) (!(aX (af (aa p_0) (aa p_2)) (aa p_0))))), []⟩, ⟨.det (.int .i64 (aF (ba (af (af (aa p_0) (aa p_2)) (aa p_1)) ((au halves 2).1)) (!(ba (af (aa p_0) (aa p_2)) ((au halves 2).1))))), []⟩] [⟨.blk b4 (cQ ((au halves 2).1)) 42, []⟩, ⟨.blk b3 [sv1, sv4] 33, []⟩, ⟨.row (α := Iv) 66 sv4 (bm (af (af (aa p_0) (aa p_2)) (aa p_1)) (af (af (aa p_0) (aa p_2)) (aa l))), []⟩, ⟨.blk b2 [sv1, sv2, sv3] 28, []⟩, ⟨.row (α := Iv) 66 sv1 (aa p_0), []⟩, ⟨.row (α := Iv) 66 sv2 (af (af (aa p_0) (aa p_2)) (aa p_1)), []⟩, ⟨.row (α := Iv) 66 sv3 (af (aa p_0) (aa p_2)), []⟩, ⟨.blk b1 [p_0v, p_1v, p_2v] 24, []⟩] h rfl (by kernel_rfl) ⟨?_, ?_, ?_, ?_, ?_, ?_, ?_, ?_, ?_, ?_, trivial⟩ ?_
  · intro ξ hφ; exact obI (bT [.blk b2 [sv1, sv2, sv3] 28] rfl rfl (aZ aa28 zz28 rfl rfl rfl (v := (.agg #[sv1, sv2, sv3])) rfl))
  · intro ξ hφ; exact obI (es [.row (α := Iv) 66 sv1 (aa p_0), .row (α := Iv) 66 sv2 (af (af (aa p_0) (aa p_2)) (aa p_1)), .row (α := Iv) 66 sv3 (af (aa p_0) (aa p_2))] [.row (α := Iv) 66 sv1 (aa p_0), .row (α := Iv) 66 sv2 (af (af (aa p_0) (aa p_2)) (aa p_1)), .row (α := Iv) 66 sv3 (af (aa p_0) (aa p_2))] rfl rfl (df (vs := [(.agg #[sv1, sv2, sv3])]) (bh Tryz.call17 rfl) (fun w_ hB_ hS_ => gD (aa p_0) sv1 (af (af (aa p_0) (aa p_2)) (aa p_1)) sv2 (af (aa p_0) (aa p_2)) sv3 (aD p_0) (Cn.inter (Cn.inter (aD p_0) (aD p_2)) (aD p_1)) (Cn.inter (aD p_0) (aD p_2)) w_ (row_view hS_ 0 rfl) (row_view hS_ 1 rfl) (row_view hS_ 2 rfl))))
  · intro ξ hφ; exact obI (bT [.blk b2 [sv1, sv2, sv3] 28] rfl rfl (aZ aa28 zz28 rfl rfl rfl (v := (.agg #[sv1, sv2, sv3])) rfl))
  · intro ξ hφ; exact obI (es [.row (α := Iv) 66 sv1 (aa p_0), .row (α := Iv) 66 sv2 (af (af (aa p_0) (aa p_2)) (aa p_1)), .row (α := Iv) 66 sv3 (af (aa p_0) (aa p_2))] [.row (α := Iv) 66 sv1 (aa p_0), .row (α := Iv) 66 sv2 (af (af (aa p_0) (aa p_2)) (aa p_1)), .row (α := Iv) 66 sv3 (af (aa p_0) (aa p_2))] rfl rfl (df (vs := [(.agg #[sv1, sv2, sv3])]) (bh Tryz.call18 rfl) (fun w_ hB_ hS_ => ia (aa p_0) sv1 (af (af (aa p_0) (aa p_2)) (aa p_1)) sv2 (af (aa p_0) (aa p_2)) sv3 (aD p_0) (Cn.inter (Cn.inter (aD p_0) (aD p_2)) (aD p_1)) (Cn.inter (aD p_0) (aD p_2)) w_ (row_view hS_ 0 rfl) (row_view hS_ 1 rfl) (row_view hS_ 2 rfl))))
  · intro ξ hφ; exact obI (bT [.blk b2 [sv1, sv2, sv3] 28] rfl rfl (aZ aa28 zz28 rfl rfl rfl (v := (.agg #[sv1, sv2, sv3])) rfl))
  · intro ξ hφ; exact obI (bT [.blk b4 (cQ ((au halves 2).1)) 42] rfl rfl (aZ aa42 zz42 rfl rfl rfl (v := (vQ ((au halves 2).1))) rfl))
  · intro ξ hφ; exact obI (es [.row (α := Iv) 66 sv1 (aa p_0), .row (α := Iv) 66 sv2 (af (af (aa p_0) (aa p_2)) (aa p_1)), .row (α := Iv) 66 sv3 (af (aa p_0) (aa p_2))] [.row (α := Iv) 66 sv1 (aa p_0), .row (α := Iv) 66 sv2 (af (af (aa p_0) (aa p_2)) (aa p_1)), .row (α := Iv) 66 sv3 (af (aa p_0) (aa p_2))] rfl rfl (df (vs := [(.agg #[sv1, sv2, sv3]), (vQ ((au halves 2).1))]) (bh Tryz.call19 rfl) (fun w_ hB_ hS_ => gO (aa p_0) sv1 (af (af (aa p_0) (aa p_2)) (aa p_1)) sv2 (af (aa p_0) (aa p_2)) sv3 ((au halves 2).1) (aD p_0) (Cn.inter (Cn.inter (aD p_0) (aD p_2)) (aD p_1)) (Cn.inter (aD p_0) (aD p_2)) (ed s5 (by omega)) w_ (row_view hS_ 0 rfl) (row_view hS_ 1 rfl) (row_view hS_ 2 rfl))))
  · intro ξ hφ; exact obI (ay (ah rfl))
  · intro ξ hφ; exact obI (ay (ah rfl))
  · intro ξ hφ; exact obI (ay (ah rfl))
  clear h ac wo; intro ξ ac wo hφ h
  replace h : St w0 96 [(7, (ptr b2 0)), (8, (ptr b3 0)), (9, (ptr b4 0)), (11, (.int .i64 (aF (decide ((((af (af (aa p_0) (aa p_2)) (aa p_1)).length : Nat) : Int) > 0)) (((((af (aa p_0) (aa p_2)).length : Nat) : Int)) == (((0 : Nat) : Int)))))), (12, (.int .i64 (aF (aX (af (af (aa p_0) (aa p_2)) (aa p_1)) (aa p_0)) (!(aX (af (aa p_0) (aa p_2)) (aa p_0)))))), (13, (.int .i64 (aF (ba (af (af (aa p_0) (aa p_2)) (aa p_1)) ((au halves 2).1)) (!(ba (af (aa p_0) (aa p_2)) ((au halves 2).1))))))] [.blk b4 (cQ ((au halves 2).1)) 42, .blk b3 [sv1, sv4] 33, .row (α := Iv) 66 sv4 (bm (af (af (aa p_0) (aa p_2)) (aa p_1)) (af (af (aa p_0) (aa p_2)) (aa l))), .blk b2 [sv1, sv2, sv3] 28, .row (α := Iv) 66 sv1 (aa p_0), .row (α := Iv) 66 sv2 (af (af (aa p_0) (aa p_2)) (aa p_1)), .row (α := Iv) 66 sv3 (af (aa p_0) (aa p_2)), .blk b1 [p_0v, p_1v, p_2v] 24] ac wo := (h.pick [0, 1, 2, 3, 4, 5, 6, 7] (by decide)).sub ⟨rfl, rfl, rfl, rfl, rfl, rfl, trivial⟩
  refine hK7 _ _ ?_
  refine bP fun K8 hK8 => ?_
  replace h := h.emps 2
  refine hO [0, 1, 0, 4, 15, 0, 32, 0, 128, 480, 0, 0, 3103, 8191] (by kernel_rfl) mixed [⟨.det (ptr b2 0), []⟩, ⟨.det sv1, [3]⟩, ⟨.det (ptr b2 1), []⟩, ⟨.det sv2, [3]⟩, ⟨.det (.agg #[sv1, sv2]), []⟩, ⟨.det (ptr b2 0), []⟩, ⟨.det sv1, [3]⟩, ⟨.det (ptr b2 2), []⟩, ⟨.det sv3, [3]⟩, ⟨.det (.agg #[sv1, sv3]), []⟩, ⟨.nd (.one 10 fun v => ∃ b, v = ptr b 0), [8]⟩, ⟨.nd (.one 11 fun v => ∃ b, v = ptr b 0), [9]⟩, ⟨.det undef, [8]⟩, ⟨.det undef, [9]⟩] [⟨.blk b4 (cQ ((au halves 2).1)) 42, []⟩, ⟨.blk b3 [sv1, sv4] 33, []⟩, ⟨.row (α := Iv) 66 sv4 (bm (af (af (aa p_0) (aa p_2)) (aa p_1)) (af (af (aa p_0) (aa p_2)) (aa l))), []⟩, ⟨.blk b2 [sv1, sv2, sv3] 28, []⟩, ⟨.row (α := Iv) 66 sv1 (aa p_0), []⟩, ⟨.row (α := Iv) 66 sv2 (af (af (aa p_0) (aa p_2)) (aa p_1)), []⟩, ⟨.row (α := Iv) 66 sv3 (af (aa p_0) (aa p_2)), []⟩, ⟨.blk b1 [p_0v, p_1v, p_2v] 24, []⟩, ⟨.emp, [(10, .one 10 fun v => .blk (bI (v)) [(.slice none 0 0), (.slice none 0 0)] 33), (12, .one 10 fun v => .blk (bI (v)) [sv1, sv2] 33)]⟩, ⟨.emp, [(11, .one 11 fun v => .blk (bI (v)) [(.slice none 0 0), (.slice none 0 0)] 33), (13, .one 11 fun v => .blk (bI (v)) [sv1, sv3] 33)]⟩] h rfl (by kernel_rfl) ⟨?_, ?_, ?_, ?_, ?_, ?_, ?_, ?_, ?_, ?_, ?_, ?_, ?_, ?_, trivial⟩ ?_
  · intro ξ hφ; exact obI (ay (eN uu28 rfl zz26 (by decide) rfl rfl (k' := 0)))
  · intro ξ hφ; exact obI (bT [.blk b2 [sv1, sv2, sv3] 28] rfl rfl (aZ aa26 zz26 rfl rfl rfl (v := sv1) rfl))
  · intro ξ hφ; exact obI (ay (eN uu28 rfl zz26 (by decide) rfl rfl (k' := 1)))
  · intro ξ hφ; exact obI (bT [.blk b2 [sv1, sv2, sv3] 28] rfl rfl (aZ aa26 zz26 rfl rfl rfl (v := sv2) rfl))
  · intro ξ hφ; exact obI (ay (kd bld33 rfl is_sv1 is_sv2))
  · intro ξ hφ; exact obI (ay (eN uu28 rfl zz26 (by decide) rfl rfl (k' := 0)))
  · intro ξ hφ; exact obI (bT [.blk b2 [sv1, sv2, sv3] 28] rfl rfl (aZ aa26 zz26 rfl rfl rfl (v := sv1) rfl))
  · intro ξ hφ; exact obI (ay (eN uu28 rfl zz26 (by decide) rfl rfl (k' := 2)))
  · intro ξ hφ; exact obI (bT [.blk b2 [sv1, sv2, sv3] 28] rfl rfl (aZ aa26 zz26 rfl rfl rfl (v := sv3) rfl))
  · intro ξ hφ; exact obI (ay (kd bld33 rfl is_sv1 is_sv3))
  · intro ξ hφ; exact obI (ij (ψ := fun v => ∃ b, v = ptr b 0) (B := fun v => [.blk (bI v) [(.slice none 0 0), (.slice none 0 0)] 33]) [.emp] rfl (fun v _ => by simp only [dO, aS] <;> rfl) (fun v hv => by simpa [DF.one, aS] using hv) (fU (eo vv33 rfl)))
  · intro ξ hφ; exact obI (ij (ψ := fun v => ∃ b, v = ptr b 0) (B := fun v => [.blk (bI v) [(.slice none 0 0), (.slice none 0 0)] 33]) [.emp] rfl (fun v _ => by simp only [dO, aS] <;> rfl) (fun v hv => by simpa [DF.one, aS] using hv) (fU (eo vv33 rfl)))
  · intro ξ hφ; refine Exists.elim (show ∃ b, ξ 10 = ptr b 0 from hφ 10 rfl) fun b5 hb10 => ?_; exact obI (es [.blk b5 [(.slice none 0 0), (.slice none 0 0)] 33] [.blk b5 [sv1, sv2] 33] (congrArg (fun v => [Asn.blk (bI v) [(.slice none 0 0), (.slice none 0 0)] 33]) hb10) (congrArg (fun v => [Asn.blk (bI v) [sv1, sv2] 33]) hb10) (eW zz33 (Eq.trans rfl (congrArg some hb10)) rfl rfl rfl (one2 is_sv1 is_sv2) rfl rfl))
  · intro ξ hφ; refine Exists.elim (show ∃ b, ξ 11 = ptr b 0 from hφ 11 rfl) fun b6 hb11 => ?_; exact obI (es [.blk b6 [(.slice none 0 0), (.slice none 0 0)] 33] [.blk b6 [sv1, sv3] 33] (congrArg (fun v => [Asn.blk (bI v) [(.slice none 0 0), (.slice none 0 0)] 33]) hb11) (congrArg (fun v => [Asn.blk (bI v) [sv1, sv3] 33]) hb11) (eW zz33 (Eq.trans rfl (congrArg some hb11)) rfl rfl rfl (one2 is_sv1 is_sv3) rfl rfl))
  clear h ac wo; intro ξ ac wo hφ h
  refine Exists.elim (show ∃ b, ξ 10 = ptr b 0 from hφ 10) fun b5 hb10 => ?_
  refine Exists.elim (show ∃ b, ξ 11 = ptr b 0 from hφ 11) fun b6 hb11 => ?_
  replace h : St w0 96 [(8, (ptr b3 0)), (9, (ptr b4 0)), (11, (.int .i64 (aF (decide ((((af (af (aa p_0) (aa p_2)) (aa p_1)).length : Nat) : Int) > 0)) (((((af (aa p_0) (aa p_2)).length : Nat) : Int)) == (((0 : Nat) : Int)))))), (12, (.int .i64 (aF (aX (af (af (aa p_0) (aa p_2)) (aa p_1)) (aa p_0)) (!(aX (af (aa p_0) (aa p_2)) (aa p_0)))))), (13, (.int .i64 (aF (ba (af (af (aa p_0) (aa p_2)) (aa p_1)) ((au halves 2).1)) (!(ba (af (aa p_0) (aa p_2)) ((au halves 2).1)))))), (14, (ptr b5 0)), (15, (ptr b6 0))] [.blk b4 (cQ ((au halves 2).1)) 42, .blk b3 [sv1, sv4] 33, .row (α := Iv) 66 sv4 (bm (af (af (aa p_0) (aa p_2)) (aa p_1)) (af (af (aa p_0) (aa p_2)) (aa l))), .blk b2 [sv1, sv2, sv3] 28, .row (α := Iv) 66 sv1 (aa p_0), .row (α := Iv) 66 sv2 (af (af (aa p_0) (aa p_2)) (aa p_1)), .row (α := Iv) 66 sv3 (af (aa p_0) (aa p_2)), .blk b1 [p_0v, p_1v, p_2v] 24, .blk (bI (ξ 10)) [sv1, sv2] 33, .blk (bI (ξ 11)) [sv1, sv3] 33] ac wo := (h.pick [0, 1, 2, 3, 4, 5, 6, 7, 8, 9] (by decide)).sub ⟨rfl, rfl, rfl, rfl, rfl, (Eq.trans rfl (congrArg some hb10)), (Eq.trans rfl (congrArg some hb11)), trivial⟩
  rw [hb10] at h
  rw [hb11] at h
  refine hK8 _ _ ?_
  refine bP fun K9 hK9 => ?_
  refine bB fun K10 hK10 => ?_
  refine rd0 h (aj rfl) rfl ?_; clear h ac wo; intro ac wo h
  refine rd1 h 1 rfl (aZ aa33 zz33 rfl rfl rfl (v := (.agg #[sv1, sv4])) rfl) rfl ?_; clear h ac wo; intro ac wo h
  refine dQ (vs := [(.agg #[sv1, sv4])]) h (bh cc21 rfl) (fun w_ hB_ hS_ => d9 (aa p_0) sv1 (bm (af (af (aa p_0) (aa p_2)) (aa p_1)) (af (af (aa p_0) (aa p_2)) (aa l))) sv4 (aD p_0) (Cn.union (Cn.inter (Cn.inter (aD p_0) (aD p_2)) (aD p_1)) (Cn.inter (Cn.inter (aD p_0) (aD p_2)) (aD l))) w_ (row_view hS_ 4 rfl) (row_view hS_ 2 rfl)) rfl ?_; clear h ac wo; intro ac wo h
  refine dQ (vs := [(.int .i64 (aF (decide ((((af (af (aa p_0) (aa p_2)) (aa p_1)).length : Nat) : Int) > 0)) (((((af (aa p_0) (aa p_2)).length : Nat) : Int)) == (((0 : Nat) : Int))))), (.bool (decide ((((bm (af (af (aa p_0) (aa p_2)) (aa p_1)) (af (af (aa p_0) (aa p_2)) (aa l))).length : Nat) : Int) > 0)))]) h (bh cc20 rfl) (fun w_ hB_ hS_ => RetP.cast (eT (aF (decide ((((af (af (aa p_0) (aa p_2)) (aa p_1)).length : Nat) : Int) > 0)) (((((af (aa p_0) (aa p_2)).length : Nat) : Int)) == (((0 : Nat) : Int)))) (decide ((((bm (af (af (aa p_0) (aa p_2)) (aa p_1)) (af (af (aa p_0) (aa p_2)) (aa l))).length : Nat) : Int) > 0)) w_ ) (congrArg Value.bool (qs_right (by repeat (first | assumption | exact aD _ | apply Cn.inter | apply Cn.union | apply Cn.minus)) (by repeat (first | assumption | exact aD _ | apply Cn.inter | apply Cn.union | apply Cn.minus)) (by repeat (first | assumption | exact aD _ | apply Cn.inter | apply Cn.union | apply Cn.minus)) (ln (by repeat (first | assumption | exact aD _ | apply Cn.inter | apply Cn.union | apply Cn.minus)) (by repeat (first | assumption | exact aD _ | apply Cn.inter | apply Cn.union | apply Cn.minus)) (by repeat (first | assumption | exact aD _ | apply Cn.inter | apply Cn.union | apply Cn.minus))) (lp (by repeat (first | assumption | exact aD _ | apply Cn.inter | apply Cn.union | apply Cn.minus)) (by repeat (first | assumption | exact aD _ | apply Cn.inter | apply Cn.union | apply Cn.minus)) (by repeat (first | assumption | exact aD _ | apply Cn.inter | apply Cn.union | apply Cn.minus)) (inL (by repeat (first | assumption | exact aD _ | apply Cn.inter | apply Cn.union | apply Cn.minus)) (by repeat (first | assumption | exact aD _ | apply Cn.inter | apply Cn.union | apply Cn.minus))))))) rfl ?_; clear h ac wo; intro ac wo h
  refine rd0 h (Rd.cast (eU rfl) (v := .bool false) rfl) rfl ?_; clear h ac wo; intro ac wo h
  refine rd0 h (aj rfl) rfl ?_; clear h ac wo; intro ac wo h
  refine gK (j := 5) (c := true) (b := false) (g := true) h rfl rfl g_f rfl ?_
  refine rd0 h (aj rfl) rfl ?_; clear h ac wo; intro ac wo h
  refine gK (j := 5) (c := true) (b := false) (g := true) h rfl rfl g_f rfl ?_
  refine rd1 h 1 rfl (aZ aa33 zz33 rfl rfl rfl (v := (.agg #[sv1, sv4])) rfl) rfl ?_; clear h ac wo; intro ac wo h
  refine gK (j := 5) (c := true) (b := false) (g := true) h rfl rfl g_f rfl ?_
  refine dQ (vs := [(.agg #[sv1, sv4])]) h (bh cc22 rfl) (fun w_ hB_ hS_ => eV (aa p_0) sv1 (bm (af (af (aa p_0) (aa p_2)) (aa p_1)) (af (af (aa p_0) (aa p_2)) (aa l))) sv4 (aD p_0) (Cn.union (Cn.inter (Cn.inter (aD p_0) (aD p_2)) (aD p_1)) (Cn.inter (Cn.inter (aD p_0) (aD p_2)) (aD l))) w_ (row_view hS_ 4 rfl) (row_view hS_ 2 rfl)) rfl ?_; clear h ac wo; intro ac wo h
  refine gK (j := 5) (c := true) (b := false) (g := true) h rfl rfl g_f rfl ?_
  refine dQ (vs := [(.int .i64 (aF (aX (af (af (aa p_0) (aa p_2)) (aa p_1)) (aa p_0)) (!(aX (af (aa p_0) (aa p_2)) (aa p_0))))), (.bool (((((aU (aa p_0) (bm (af (af (aa p_0) (aa p_2)) (aa p_1)) (af (af (aa p_0) (aa p_2)) (aa l)))).length : Nat) : Int)) == (((0 : Nat) : Int))))]) h (bh cc20 rfl) (fun w_ hB_ hS_ => RetP.cast (eT (aF (aX (af (af (aa p_0) (aa p_2)) (aa p_1)) (aa p_0)) (!(aX (af (aa p_0) (aa p_2)) (aa p_0)))) (((((aU (aa p_0) (bm (af (af (aa p_0) (aa p_2)) (aa p_1)) (af (af (aa p_0) (aa p_2)) (aa l)))).length : Nat) : Int)) == (((0 : Nat) : Int))) w_ ) (congrArg Value.bool (qa_right (by repeat (first | assumption | exact aD _ | apply Cn.inter | apply Cn.union | apply Cn.minus)) (by repeat (first | assumption | exact aD _ | apply Cn.inter | apply Cn.union | apply Cn.minus)) (by repeat (first | assumption | exact aD _ | apply Cn.inter | apply Cn.union | apply Cn.minus)) (by repeat (first | assumption | exact aD _ | apply Cn.inter | apply Cn.union | apply Cn.minus)) (ln (by repeat (first | assumption | exact aD _ | apply Cn.inter | apply Cn.union | apply Cn.minus)) (by repeat (first | assumption | exact aD _ | apply Cn.inter | apply Cn.union | apply Cn.minus)) (by repeat (first | assumption | exact aD _ | apply Cn.inter | apply Cn.union | apply Cn.minus))) (lp (by repeat (first | assumption | exact aD _ | apply Cn.inter | apply Cn.union | apply Cn.minus)) (by repeat (first | assumption | exact aD _ | apply Cn.inter | apply Cn.union | apply Cn.minus)) (by repeat (first | assumption | exact aD _ | apply Cn.inter | apply Cn.union | apply Cn.minus)) (inL (by repeat (first | assumption | exact aD _ | apply Cn.inter | apply Cn.union | apply Cn.minus)) (by repeat (first | assumption | exact aD _ | apply Cn.inter | apply Cn.union | apply Cn.minus)))) (inL (by repeat (first | assumption | exact aD _ | apply Cn.inter | apply Cn.union | apply Cn.minus)) (by repeat (first | assumption | exact aD _ | apply Cn.inter | apply Cn.union | apply Cn.minus)))))) rfl ?_; clear h ac wo; intro ac wo h
  refine gK (j := 5) (c := true) (b := false) (g := true) h rfl rfl g_f rfl ?_
  refine rd0 h (Rd.cast (eU rfl) (v := .bool false) rfl) rfl ?_; clear h ac wo; intro ac wo h
  refine rd0 h (fv (b := false) rfl (fun e => absurd e (by decide)) (fun e => rfl) (v := (.bool false))) rfl ?_; clear h ac wo; intro ac wo h
  refine rd0 h (aj rfl) rfl ?_; clear h ac wo; intro ac wo h
  refine gK (j := 12) (c := true) (b := false) (g := true) h rfl rfl g_f rfl ?_
  refine rd0 h (aj rfl) rfl ?_; clear h ac wo; intro ac wo h
  refine gK (j := 12) (c := true) (b := false) (g := true) h rfl rfl g_f rfl ?_
  refine rd1 h 1 rfl (aZ aa33 zz33 rfl rfl rfl (v := (.agg #[sv1, sv4])) rfl) rfl ?_; clear h ac wo; intro ac wo h
  refine gK (j := 12) (c := true) (b := false) (g := true) h rfl rfl g_f rfl ?_
  refine rd1 h 0 rfl (aZ aa42 zz42 rfl rfl rfl (v := (vQ ((au halves 2).1))) rfl) rfl ?_; clear h ac wo; intro ac wo h
  refine gK (j := 12) (c := true) (b := false) (g := true) h rfl rfl g_f rfl ?_
  refine dQ (vs := [(.agg #[sv1, sv4]), (vQ ((au halves 2).1))]) h (bh cc23 rfl) (fun w_ hB_ hS_ => ef (aa p_0) sv1 (bm (af (af (aa p_0) (aa p_2)) (aa p_1)) (af (af (aa p_0) (aa p_2)) (aa l))) sv4 ((au halves 2).1) (aD p_0) (Cn.union (Cn.inter (Cn.inter (aD p_0) (aD p_2)) (aD p_1)) (Cn.inter (Cn.inter (aD p_0) (aD p_2)) (aD l))) (ed s5 (by omega)) w_ (row_view hS_ 4 rfl) (row_view hS_ 2 rfl)) rfl ?_; clear h ac wo; intro ac wo h
  refine gK (j := 12) (c := true) (b := false) (g := true) h rfl rfl g_f rfl ?_
  refine dQ (vs := [(.int .i64 (aF (ba (af (af (aa p_0) (aa p_2)) (aa p_1)) ((au halves 2).1)) (!(ba (af (aa p_0) (aa p_2)) ((au halves 2).1))))), (.bool (ba (bm (af (af (aa p_0) (aa p_2)) (aa p_1)) (af (af (aa p_0) (aa p_2)) (aa l))) ((au halves 2).1)))]) h (bh cc20 rfl) (fun w_ hB_ hS_ => RetP.cast (eT (aF (ba (af (af (aa p_0) (aa p_2)) (aa p_1)) ((au halves 2).1)) (!(ba (af (aa p_0) (aa p_2)) ((au halves 2).1)))) (ba (bm (af (af (aa p_0) (aa p_2)) (aa p_1)) (af (af (aa p_0) (aa p_2)) (aa l))) ((au halves 2).1)) w_ ) (congrArg Value.bool (ql_right (by repeat (first | assumption | exact aD _ | apply Cn.inter | apply Cn.union | apply Cn.minus)) (by repeat (first | assumption | exact aD _ | apply Cn.inter | apply Cn.union | apply Cn.minus)) (by repeat (first | assumption | exact aD _ | apply Cn.inter | apply Cn.union | apply Cn.minus)) (ln (by repeat (first | assumption | exact aD _ | apply Cn.inter | apply Cn.union | apply Cn.minus)) (by repeat (first | assumption | exact aD _ | apply Cn.inter | apply Cn.union | apply Cn.minus)) (by repeat (first | assumption | exact aD _ | apply Cn.inter | apply Cn.union | apply Cn.minus))) (lp (by repeat (first | assumption | exact aD _ | apply Cn.inter | apply Cn.union | apply Cn.minus)) (by repeat (first | assumption | exact aD _ | apply Cn.inter | apply Cn.union | apply Cn.minus)) (by repeat (first | assumption | exact aD _ | apply Cn.inter | apply Cn.union | apply Cn.minus)) (inL (by repeat (first | assumption | exact aD _ | apply Cn.inter | apply Cn.union | apply Cn.minus)) (by repeat (first | assumption | exact aD _ | apply Cn.inter | apply Cn.union | apply Cn.minus)))) hb_))) rfl ?_; clear h ac wo; intro ac wo h
  refine gK (j := 12) (c := true) (b := false) (g := true) h rfl rfl g_f rfl ?_
  refine rd0 h (Rd.cast (eU rfl) (v := .bool false) rfl) rfl ?_; clear h ac wo; intro ac wo h
  refine rd0 h (fv (b := false) rfl (fun e => absurd e (by decide)) (fun e => rfl) (v := (.bool false))) rfl ?_; clear h ac wo; intro ac wo h
  refine aE ?_
  refine hK10 _ _ ?_
  replace h := h.sub (F' := [(9, (ptr b4 0)), (11, (.int .i64 (aF (decide ((((af (af (aa p_0) (aa p_2)) (aa p_1)).length : Nat) : Int) > 0)) (((((af (aa p_0) (aa p_2)).length : Nat) : Int)) == (((0 : Nat) : Int)))))), (12, (.int .i64 (aF (aX (af (af (aa p_0) (aa p_2)) (aa p_1)) (aa p_0)) (!(aX (af (aa p_0) (aa p_2)) (aa p_0)))))), (13, (.int .i64 (aF (ba (af (af (aa p_0) (aa p_2)) (aa p_1)) ((au halves 2).1)) (!(ba (af (aa p_0) (aa p_2)) ((au halves 2).1)))))), (14, (ptr b5 0)), (15, (ptr b6 0)), (65, (.bool false))]) ⟨rfl, rfl, rfl, rfl, rfl, rfl, rfl, trivial⟩
  refine kP (b := false) h rfl ?_
  refine bR ?_
  refine hK9 _ _ ?_
  refine bP fun K11 hK11 => ?_
  refine hO [0, 1, 0, 4, 0, 28, 60, 127, 255, 511, 1023, 511, 2559, 511, 14847, 31231, 65535, 131071, 262143, 524287, 1048575, 524287, 524287, 6815743, 524287, 524287, 65535999, 132644863, 268435455, 536870911, 1073741823] (by kernel_rfl) mixed [⟨.det (.int .i64 (aF (decide ((((af (af (aa p_0) (aa p_2)) (aa p_1)).length : Nat) : Int) > 0)) (((((af (aa p_0) (aa p_2)).length : Nat) : Int)) == (((0 : Nat) : Int))))), []⟩, ⟨.det (.bool ((aF (decide ((((af (af (aa p_0) (aa p_2)) (aa p_1)).length : Nat) : Int) > 0)) (((((af (aa p_0) (aa p_2)).length : Nat) : Int)) == (((0 : Nat) : Int)))) == 0)), []⟩, ⟨.det (.agg #[sv1, sv2]), [8]⟩, ⟨.det (.bool (decide ((((af (af (aa p_0) (aa p_2)) (aa p_1)).length : Nat) : Int) > 0))), [4, 5]⟩, ⟨.det (.agg #[sv1, sv3]), [9]⟩, ⟨.det (.bool (decide ((((af (aa p_0) (aa p_2)).length : Nat) : Int) > 0))), [4, 6]⟩, ⟨.det (.bool ((decide ((((af (af (aa p_0) (aa p_2)) (aa p_1)).length : Nat) : Int) > 0)) != (decide ((((af (aa p_0) (aa p_2)).length : Nat) : Int) > 0)))), []⟩, ⟨.det (.bool true), []⟩, ⟨.det (.bool true), []⟩, ⟨.det (.int .i64 (aF (aX (af (af (aa p_0) (aa p_2)) (aa p_1)) (aa p_0)) (!(aX (af (aa p_0) (aa p_2)) (aa p_0))))), []⟩, ⟨.det (.bool ((aF (aX (af (af (aa p_0) (aa p_2)) (aa p_1)) (aa p_0)) (!(aX (af (aa p_0) (aa p_2)) (aa p_0)))) == 0)), []⟩, ⟨.det (.agg #[sv1, sv2]), [8]⟩, ⟨.det (.bool (((((aU (aa p_0) (af (af (aa p_0) (aa p_2)) (aa p_1))).length : Nat) : Int)) == (((0 : Nat) : Int)))), [4, 5]⟩, ⟨.det (.agg #[sv1, sv3]), [9]⟩, ⟨.det (.bool (((((aU (aa p_0) (af (aa p_0) (aa p_2))).length : Nat) : Int)) == (((0 : Nat) : Int)))), [4, 6]⟩, ⟨.det (.bool ((((((aU (aa p_0) (af (af (aa p_0) (aa p_2)) (aa p_1))).length : Nat) : Int)) == (((0 : Nat) : Int))) != (((((aU (aa p_0) (af (aa p_0) (aa p_2))).length : Nat) : Int)) == (((0 : Nat) : Int))))), []⟩, ⟨.det (.bool true), []⟩, ⟨.det (.bool true), []⟩, ⟨.det (.bool true), []⟩, ⟨.det (.int .i64 (aF (ba (af (af (aa p_0) (aa p_2)) (aa p_1)) ((au halves 2).1)) (!(ba (af (aa p_0) (aa p_2)) ((au halves 2).1))))), []⟩, ⟨.det (.bool ((aF (ba (af (af (aa p_0) (aa p_2)) (aa p_1)) ((au halves 2).1)) (!(ba (af (aa p_0) (aa p_2)) ((au halves 2).1)))) == 0)), []⟩, ⟨.det (.agg #[sv1, sv2]), [8]⟩, ⟨.det (vQ ((au halves 2).1)), [0]⟩, ⟨.det (.bool (ba (af (af (aa p_0) (aa p_2)) (aa p_1)) ((au halves 2).1))), [4, 5]⟩, ⟨.det (.agg #[sv1, sv3]), [9]⟩, ⟨.det (vQ ((au halves 2).1)), [0]⟩, ⟨.det (.bool (ba (af (aa p_0) (aa p_2)) ((au halves 2).1))), [4, 6]⟩, ⟨.det (.bool ((ba (af (af (aa p_0) (aa p_2)) (aa p_1)) ((au halves 2).1)) != (ba (af (aa p_0) (aa p_2)) ((au halves 2).1)))), []⟩, ⟨.det (.bool true), []⟩, ⟨.det (.bool true), []⟩, ⟨.det (.bool true), []⟩] [⟨.blk b4 (cQ ((au halves 2).1)) 42, []⟩, ⟨.blk b3 [sv1, sv4] 33, []⟩, ⟨.row (α := Iv) 66 sv4 (bm (af (af (aa p_0) (aa p_2)) (aa p_1)) (af (af (aa p_0) (aa p_2)) (aa l))), []⟩, ⟨.blk b2 [sv1, sv2, sv3] 28, []⟩, ⟨.row (α := Iv) 66 sv1 (aa p_0), []⟩, ⟨.row (α := Iv) 66 sv2 (af (af (aa p_0) (aa p_2)) (aa p_1)), []⟩, ⟨.row (α := Iv) 66 sv3 (af (aa p_0) (aa p_2)), []⟩, ⟨.blk b1 [p_0v, p_1v, p_2v] 24, []⟩, ⟨.blk b5 [sv1, sv2] 33, []⟩, ⟨.blk b6 [sv1, sv3] 33, []⟩] h rfl (by kernel_rfl) ⟨?_, ?_, ?_, ?_, ?_, ?_, ?_, ?_, ?_, ?_, ?_, ?_, ?_, ?_, ?_, ?_, ?_, ?_, ?_, ?_, ?_, ?_, ?_, ?_, ?_, ?_, ?_, ?_, ?_, ?_, ?_, trivial⟩ ?_
  · intro ξ hφ; exact obI (ay (aj rfl))
  · intro ξ hφ; exact obI (ay (dV rfl rfl))
  · intro ξ hφ; exact obI (bT [.blk b5 [sv1, sv2] 33] rfl rfl (aZ aa33 zz33 rfl rfl rfl (v := (.agg #[sv1, sv2])) rfl))
  · intro ξ hφ; exact obI (es [.row (α := Iv) 66 sv1 (aa p_0), .row (α := Iv) 66 sv2 (af (af (aa p_0) (aa p_2)) (aa p_1))] [.row (α := Iv) 66 sv1 (aa p_0), .row (α := Iv) 66 sv2 (af (af (aa p_0) (aa p_2)) (aa p_1))] rfl rfl (df (vs := [(.agg #[sv1, sv2])]) (bh cc21 rfl) (fun w_ hB_ hS_ => d9 (aa p_0) sv1 (af (af (aa p_0) (aa p_2)) (aa p_1)) sv2 (aD p_0) (Cn.inter (Cn.inter (aD p_0) (aD p_2)) (aD p_1)) w_ (row_view hS_ 0 rfl) (row_view hS_ 1 rfl))))
  · intro ξ hφ; exact obI (bT [.blk b6 [sv1, sv3] 33] rfl rfl (aZ aa33 zz33 rfl rfl rfl (v := (.agg #[sv1, sv3])) rfl))
  · intro ξ hφ; exact obI (es [.row (α := Iv) 66 sv1 (aa p_0), .row (α := Iv) 66 sv3 (af (aa p_0) (aa p_2))] [.row (α := Iv) 66 sv1 (aa p_0), .row (α := Iv) 66 sv3 (af (aa p_0) (aa p_2))] rfl rfl (df (vs := [(.agg #[sv1, sv3])]) (bh cc21 rfl) (fun w_ hB_ hS_ => d9 (aa p_0) sv1 (af (aa p_0) (aa p_2)) sv3 (aD p_0) (Cn.inter (aD p_0) (aD p_2)) w_ (row_view hS_ 0 rfl) (row_view hS_ 1 rfl))))
  · intro ξ hφ; exact obI (ay (ks nn4 rfl rfl))
  · intro ξ hφ; exact obI (ay (Rd.cast (mf nn4 rfl rfl) (congrArg Value.bool (qs_un (by repeat (first | assumption | exact aD _ | apply Cn.inter | apply Cn.union | apply Cn.minus)) (by repeat (first | assumption | exact aD _ | apply Cn.inter | apply Cn.union | apply Cn.minus)) (by repeat (first | assumption | exact aD _ | apply Cn.inter | apply Cn.union | apply Cn.minus)) (fun _ h_ => h_) (inL (by repeat (first | assumption | exact aD _ | apply Cn.inter | apply Cn.union | apply Cn.minus)) (by repeat (first | assumption | exact aD _ | apply Cn.inter | apply Cn.union | apply Cn.minus)))))))
  · intro ξ hφ; exact obI (ay (aj rfl))
  · intro ξ hφ; exact obK rfl rfl (ay (aj rfl))
  · intro ξ hφ; exact obK rfl rfl (ay (dV rfl rfl))
  · intro ξ hφ; exact obK rfl rfl (bT [.blk b5 [sv1, sv2] 33] rfl rfl (aZ aa33 zz33 rfl rfl rfl (v := (.agg #[sv1, sv2])) rfl))
  · intro ξ hφ; exact obK rfl rfl (es [.row (α := Iv) 66 sv1 (aa p_0), .row (α := Iv) 66 sv2 (af (af (aa p_0) (aa p_2)) (aa p_1))] [.row (α := Iv) 66 sv1 (aa p_0), .row (α := Iv) 66 sv2 (af (af (aa p_0) (aa p_2)) (aa p_1))] rfl rfl (df (vs := [(.agg #[sv1, sv2])]) (bh cc22 rfl) (fun w_ hB_ hS_ => eV (aa p_0) sv1 (af (af (aa p_0) (aa p_2)) (aa p_1)) sv2 (aD p_0) (Cn.inter (Cn.inter (aD p_0) (aD p_2)) (aD p_1)) w_ (row_view hS_ 0 rfl) (row_view hS_ 1 rfl))))
  · intro ξ hφ; exact obK rfl rfl (bT [.blk b6 [sv1, sv3] 33] rfl rfl (aZ aa33 zz33 rfl rfl rfl (v := (.agg #[sv1, sv3])) rfl))
  · intro ξ hφ; exact obK rfl rfl (es [.row (α := Iv) 66 sv1 (aa p_0), .row (α := Iv) 66 sv3 (af (aa p_0) (aa p_2))] [.row (α := Iv) 66 sv1 (aa p_0), .row (α := Iv) 66 sv3 (af (aa p_0) (aa p_2))] rfl rfl (df (vs := [(.agg #[sv1, sv3])]) (bh cc22 rfl) (fun w_ hB_ hS_ => eV (aa p_0) sv1 (af (aa p_0) (aa p_2)) sv3 (aD p_0) (Cn.inter (aD p_0) (aD p_2)) w_ (row_view hS_ 0 rfl) (row_view hS_ 1 rfl))))
  · intro ξ hφ; exact obK rfl rfl (ay (ks nn4 rfl rfl))
  · intro ξ hφ; exact obK rfl rfl (ay (Rd.cast (mf nn4 rfl rfl) (congrArg Value.bool (qa_un (by repeat (first | assumption | exact aD _ | apply Cn.inter | apply Cn.union | apply Cn.minus)) (by repeat (first | assumption | exact aD _ | apply Cn.inter | apply Cn.union | apply Cn.minus)) (by repeat (first | assumption | exact aD _ | apply Cn.inter | apply Cn.union | apply Cn.minus)) (by repeat (first | assumption | exact aD _ | apply Cn.inter | apply Cn.union | apply Cn.minus)) (fun _ h_ => h_) (inL (by repeat (first | assumption | exact aD _ | apply Cn.inter | apply Cn.union | apply Cn.minus)) (by repeat (first | assumption | exact aD _ | apply Cn.inter | apply Cn.union | apply Cn.minus))) (inL (by repeat (first | assumption | exact aD _ | apply Cn.inter | apply Cn.union | apply Cn.minus)) (by repeat (first | assumption | exact aD _ | apply Cn.inter | apply Cn.union | apply Cn.minus)))))))
  · intro ξ hφ; exact obI (ay (fv (b := true) rfl (fun e => rfl) (fun e => absurd e (by decide)) (v := (.bool true))))
  · intro ξ hφ; exact obI (ay (aj rfl))
  · intro ξ hφ; exact obK rfl rfl (ay (aj rfl))
  · intro ξ hφ; exact obK rfl rfl (ay (dV rfl rfl))
  · intro ξ hφ; exact obK rfl rfl (bT [.blk b5 [sv1, sv2] 33] rfl rfl (aZ aa33 zz33 rfl rfl rfl (v := (.agg #[sv1, sv2])) rfl))
  · intro ξ hφ; exact obK rfl rfl (bT [.blk b4 (cQ ((au halves 2).1)) 42] rfl rfl (aZ aa42 zz42 rfl rfl rfl (v := (vQ ((au halves 2).1))) rfl))
  · intro ξ hφ; exact obK rfl rfl (es [.row (α := Iv) 66 sv1 (aa p_0), .row (α := Iv) 66 sv2 (af (af (aa p_0) (aa p_2)) (aa p_1))] [.row (α := Iv) 66 sv1 (aa p_0), .row (α := Iv) 66 sv2 (af (af (aa p_0) (aa p_2)) (aa p_1))] rfl rfl (df (vs := [(.agg #[sv1, sv2]), (vQ ((au halves 2).1))]) (bh cc23 rfl) (fun w_ hB_ hS_ => ef (aa p_0) sv1 (af (af (aa p_0) (aa p_2)) (aa p_1)) sv2 ((au halves 2).1) (aD p_0) (Cn.inter (Cn.inter (aD p_0) (aD p_2)) (aD p_1)) (ed s5 (by omega)) w_ (row_view hS_ 0 rfl) (row_view hS_ 1 rfl))))
  · intro ξ hφ; exact obK rfl rfl (bT [.blk b6 [sv1, sv3] 33] rfl rfl (aZ aa33 zz33 rfl rfl rfl (v := (.agg #[sv1, sv3])) rfl))
  · intro ξ hφ; exact obK rfl rfl (bT [.blk b4 (cQ ((au halves 2).1)) 42] rfl rfl (aZ aa42 zz42 rfl rfl rfl (v := (vQ ((au halves 2).1))) rfl))
  · intro ξ hφ; exact obK rfl rfl (es [.row (α := Iv) 66 sv1 (aa p_0), .row (α := Iv) 66 sv3 (af (aa p_0) (aa p_2))] [.row (α := Iv) 66 sv1 (aa p_0), .row (α := Iv) 66 sv3 (af (aa p_0) (aa p_2))] rfl rfl (df (vs := [(.agg #[sv1, sv3]), (vQ ((au halves 2).1))]) (bh cc23 rfl) (fun w_ hB_ hS_ => ef (aa p_0) sv1 (af (aa p_0) (aa p_2)) sv3 ((au halves 2).1) (aD p_0) (Cn.inter (aD p_0) (aD p_2)) (ed s5 (by omega)) w_ (row_view hS_ 0 rfl) (row_view hS_ 1 rfl))))
  · intro ξ hφ; exact obK rfl rfl (ay (ks nn4 rfl rfl))
  · intro ξ hφ; exact obK rfl rfl (ay (Rd.cast (mf nn4 rfl rfl) (congrArg Value.bool (ql_un (by repeat (first | assumption | exact aD _ | apply Cn.inter | apply Cn.union | apply Cn.minus)) (by repeat (first | assumption | exact aD _ | apply Cn.inter | apply Cn.union | apply Cn.minus)) (by repeat (first | assumption | exact aD _ | apply Cn.inter | apply Cn.union | apply Cn.minus)) (fun _ h_ => h_) (inL (by repeat (first | assumption | exact aD _ | apply Cn.inter | apply Cn.union | apply Cn.minus)) (by repeat (first | assumption | exact aD _ | apply Cn.inter | apply Cn.union | apply Cn.minus))) hb_))))
  · intro ξ hφ; exact obI (ay (fv (b := true) rfl (fun e => rfl) (fun e => absurd e (by decide)) (v := (.bool true))))
  · intro ξ hφ; exact obI (ay (ah rfl))
  clear h ac wo; intro ξ ac wo hφ h
  replace h : St w0 96 [(6, (.bool true))] [.blk b4 (cQ ((au halves 2).1)) 42, .blk b3 [sv1, sv4] 33, .row (α := Iv) 66 sv4 (bm (af (af (aa p_0) (aa p_2)) (aa p_1)) (af (af (aa p_0) (aa p_2)) (aa l))), .blk b2 [sv1, sv2, sv3] 28, .row (α := Iv) 66 sv1 (aa p_0), .row (α := Iv) 66 sv2 (af (af (aa p_0) (aa p_2)) (aa p_1)), .row (α := Iv) 66 sv3 (af (aa p_0) (aa p_2)), .blk b1 [p_0v, p_1v, p_2v] 24, .blk b5 [sv1, sv2] 33, .blk b6 [sv1, sv3] 33] ac wo := (h.pick [0, 1, 2, 3, 4, 5, 6, 7, 8, 9] (by decide)).sub ⟨rfl, trivial⟩
  refine hK11 _ _ ?_
  refine cr ?_
  exact ret (rs := [.tmp 6]) h rfl (.tmp rfl .nil) rfl (h.retP rfl trivial)
end Go.Sx
