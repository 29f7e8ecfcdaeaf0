/- A part of the proof that the law BracketOperates/Brackets/Logic answers true at every input and leaves its arguments as they were. -/
import Derived.Test.YtbnldpccdppmiaaGreatDoorKn3
set_option linter.unusedVariables false
set_option linter.unusedSimpArgs false
open Go.Proofs.Tryz renaming sizeOf28 → zz28, call10 → cc10, zeroValue33 → vv33, sizeOf33 → zz33, runUnderlying28 → uu28, sizeOf26 → zz26, isAgg28 → aa28, isAgg33 → aa33, call12 → cc12, underlying4 → nn4
namespace Go.Sx
open Go Go.RowKit Go.Proofs
set_option maxRecDepth 100000
set_option maxHeartbeats 40000000
theorem fw (p_0 : List Stp) (p_0v : Value) (p_1 : List Stp) (p_1v : Value) (p_2 : List Stp) (p_2v : Value) (l : List Stp) (lv : Value) (m : List Stp) (mv : Value) (w0 : World) (hp_0v : View w0 p_0v p_0) (hp_1v : View w0 p_1v p_1) (hp_2v : View w0 p_2v p_2) (hlv : View w0 lv l) (hmv : View w0 mv m) : Calls Tryz.prog 3 #[(.agg #[p_0v, p_1v, p_2v]), lv, mv] w0 (RetP w0 (.bool true) True) := by
  refine enter (N := 59) (args := [(.agg #[p_0v, p_1v, p_2v]), lv, mv]) Tryz.func3 rfl rfl ?_; intro ac h
  have is_p_0 := SL.is hp_0v.sl
  have is_p_1 := SL.is hp_1v.sl
  have is_p_2 := SL.is hp_2v.sl
  have is_l := SL.is hlv.sl
  have is_m := SL.is hmv.sl
  refine cz fun K1 hK1 => ?_
  refine bx h [p_0v, p_1v, p_2v] rfl rfl rfl ?_; clear h ac; intro b1 ac wo h
  refine rd0 h (aj rfl (v := (.bool false))) rfl ?_; clear h ac wo; intro ac wo h
  refine aW ?_
  refine hK1 _ _ ?_
  refine da fun K2 hK2 => ?_
  refine cz fun K3 hK3 => ?_
  refine jZ (vs := []) h (aS Tryz.call8 rfl) (fun w_ hB_ hS_ => eB  w_ ) rfl ?_; clear h ac wo; intro ac wo h
  refine rd0 h (fL rfl) rfl ?_; clear h ac wo; intro ac wo h
  refine aW ?_
  refine hK3 _ _ ?_
  refine lV (b := (!true)) h rfl ?_
  refine d7 ?_
  refine hK2 _ _ ?_
  refine cz fun K4 hK4 => ?_
  refine rd1 h 0 rfl (aN Tryz.isAgg24 Tryz.sizeOf24 rfl rfl rfl (v := (.agg #[p_0v, p_1v, p_2v])) rfl) rfl ?_; clear h ac wo; intro ac wo h
  refine c_ag (vs := [(.agg #[p_0v, p_1v, p_2v])]) h (aS Tryz.call9 rfl) (fun w_ hB_ hS_ => df p_0 p_0v p_1 p_1v p_2 p_2v w_ (hp_0v.below hB_) (hp_1v.below hB_) (hp_2v.below hB_)) rfl ?_; clear h ac wo; intro va ac wo ha h
  obtain ⟨ha, hi⟩ := ha
  generalize agc va 0 = sv1 at h ha hi
  generalize agc va 1 = sv2 at h ha hi
  generalize agc va 2 = sv3 at h ha hi
  obtain ⟨is_sv1, is_sv2, is_sv3⟩ := sl3 hi
  subst ha
  refine al h [(.slice none 0 0), (.slice none 0 0), (.slice none 0 0)] Tryz.zeroValue28 rfl rfl ?_; clear h ac wo; intro b2 ac wo h
  refine st h 0 [sv1, sv2, sv3] rfl zz28 rfl rfl rfl rfl (kZ is_sv1 is_sv2 is_sv3) rfl rfl ?_; clear h ac wo; intro ac wo h
  refine aW ?_
  refine hK4 _ _ ?_
  refine cz fun K5 hK5 => ?_
  refine rd0 h (ak rfl) rfl ?_; clear h ac wo; intro ac wo h
  refine eU (vs := [lv]) (xs := (aa l)) h (aS cc10 rfl) (fun w_ hB_ hS_ => dW l lv w_ (hlv.below hB_)) rfl ?_; clear h ac wo; intro sv4 ac wo _ h
  have is_sv4 := SL.is (h.row_sl 0 rfl)
  refine rd0 h (ak rfl) rfl ?_; clear h ac wo; intro ac wo h
  refine eU (vs := [lv]) (xs := (aa l)) h (aS cc10 rfl) (fun w_ hB_ hS_ => dW l lv w_ (hlv.below hB_)) rfl ?_; clear h ac wo; intro sv5 ac wo _ h
  have is_sv5 := SL.is (h.row_sl 0 rfl)
  refine rd0 h (ak rfl) rfl ?_; clear h ac wo; intro ac wo h
  refine eU (vs := [mv]) (xs := (aa m)) h (aS cc10 rfl) (fun w_ hB_ hS_ => dW m mv w_ (hmv.below hB_)) rfl ?_; clear h ac wo; intro sv6 ac wo _ h
  have is_sv6 := SL.is (h.row_sl 0 rfl)
  refine eU (vs := [sv5, sv6]) (xs := (ab (aa l) (aa m))) h (aS Tryz.call11 rfl) (fun w_ hB_ hS_ => bH (aa l) sv5 (aa m) sv6 (ah l) (ah m) w_ (row_view hS_ 1 rfl) (row_view hS_ 0 rfl)) rfl ?_; clear h ac wo; intro sv7 ac wo _ h
  have is_sv7 := SL.is (h.row_sl 0 rfl)
  refine rd0 h (f7 lX rfl is_sv4 is_sv7) rfl ?_; clear h ac wo; intro ac wo h
  refine al h [(.slice none 0 0), (.slice none 0 0)] vv33 rfl rfl ?_; clear h ac wo; intro b3 ac wo h
  refine st h 0 [sv4, sv7] rfl zz33 rfl rfl rfl rfl (one2 is_sv4 is_sv7) rfl rfl ?_; clear h ac wo; intro ac wo h
  refine aW ?_
  refine hK5 _ _ ?_
  replace h := h.sub (F' := [(1, lv), (2, mv), (7, (ptr b2 0)), (8, (ptr b3 0))]) ⟨rfl, rfl, rfl, rfl, trivial⟩
  refine da fun K6 hK6 => ?_
  replace h := h.emps 3
  refine en [0, 1, 0, 4, 0, 16, 60, 127, 0, 511] (by kernel_rfl) mixed [⟨.det (ptr b2 0), []⟩, ⟨.det sv1, [5]⟩, ⟨.det (ptr b2 0), []⟩, ⟨.det sv1, [5]⟩, ⟨.det mv, []⟩, ⟨.nd (.one 5 fun v => aX v), [10]⟩, ⟨.nd (.one 6 fun v => aX v), [11, 6, 10]⟩, ⟨.nd ⟨[7, 6], fun ξ => ξ 7 = (.agg #[sv1, (ξ 6)]), fun ξ ξ_2 h_ => by simp only [h_ 7 (by simp), h_ 6 (by simp)]⟩, []⟩, ⟨.nd (.one 8 fun v => ∃ b, v = ptr b 0), [12]⟩, ⟨.det undef, [12]⟩] [⟨.blk b3 [sv4, sv7] 33, []⟩, ⟨.row (α := Iv) 66 sv7 (ab (aa l) (aa m)), []⟩, ⟨.row (α := Iv) 66 sv6 (aa m), []⟩, ⟨.row (α := Iv) 66 sv5 (aa l), []⟩, ⟨.row (α := Iv) 66 sv4 (aa l), []⟩, ⟨.blk b2 [sv1, sv2, sv3] 28, []⟩, ⟨.row (α := Iv) 66 sv1 (aa p_0), []⟩, ⟨.row (α := Iv) 66 sv2 (ab (ab (aa p_0) (aa p_2)) (aa p_1)), []⟩, ⟨.row (α := Iv) 66 sv3 (ab (aa p_0) (aa p_2)), []⟩, ⟨.blk b1 [p_0v, p_1v, p_2v] 24, []⟩, ⟨.emp, [(5, .one 5 fun v => .row (α := Iv) 66 (v) (aa m))]⟩, ⟨.emp, [(6, .one 6 fun v => .row (α := Iv) 66 (v) (ab (aa p_0) (aa m)))]⟩, ⟨.emp, [(8, .one 8 fun v => .blk (a8 (v)) [(.slice none 0 0), (.slice none 0 0)] 33), (9, ⟨[6, 8], fun ξ => .blk (a8 (ξ 8)) [sv1, (ξ 6)] 33, fun ξ ξ_2 h_ => by simp only [h_ 6 (by simp), h_ 8 (by simp)]⟩)]⟩] h rfl (by kernel_rfl) ⟨?_, ?_, ?_, ?_, ?_, ?_, ?_, ?_, ?_, ?_, trivial⟩ ?_
  · intro ξ hφ; exact obI (az (dC uu28 rfl zz26 (by decide) rfl rfl (k' := 0)))
  · intro ξ hφ; exact obI (be [.blk b2 [sv1, sv2, sv3] 28] rfl rfl (aN Tryz.isAgg26 zz26 rfl rfl rfl (v := sv1) rfl))
  · intro ξ hφ; exact obI (az (dC uu28 rfl zz26 (by decide) rfl rfl (k' := 0)))
  · intro ξ hφ; exact obI (be [.blk b2 [sv1, sv2, sv3] 28] rfl rfl (aN Tryz.isAgg26 zz26 rfl rfl rfl (v := sv1) rfl))
  · intro ξ hφ; exact obI (az (ak rfl))
  · intro ξ hφ; exact obI (dJ (ψ := fun v => SL v (aa m).length ∧ True) (B := fun v => [.row (α := Iv) 66 v (aa m)]) [.emp] rfl (fun v _ => by simp only [bC, aw] <;> rfl) (fun v hv => by show aX (upd ξ 5 v 5); rw [aw]; exact hv.1.is) (aZ (d5 (vs := [mv]) (aS cc10 rfl) (fun w_ hB_ hS_ => dW m mv w_ (hmv.below hB_)))))
  · intro ξ hφ; have is5 : aX (ξ 5) := hφ 5 rfl; exact obI (dJ (ψ := fun v => SL v (ab (aa p_0) (aa m)).length ∧ True) (B := fun v => [.row (α := Iv) 66 v (ab (aa p_0) (aa m)), .row (α := Iv) 66 sv1 (aa p_0), .row (α := Iv) 66 (ξ 5) (aa m)]) [.emp, .row (α := Iv) 66 sv1 (aa p_0), .row (α := Iv) 66 (ξ 5) (aa m)] rfl (fun v _ => by simp only [bC, aw] <;> rfl) (fun v hv => by show aX (upd ξ 6 v 6); rw [aw]; exact hv.1.is) (aZ (d5 (vs := [sv1, (ξ 5)]) (aS Tryz.call11 rfl) (fun w_ hB_ hS_ => bH (aa p_0) sv1 (aa m) (ξ 5) (ah p_0) (ah m) w_ (row_view hS_ 0 rfl) (row_view hS_ 1 rfl)))))
  · intro ξ hφ; have is6 : aX (ξ 6) := hφ 6 rfl; exact obI (md (v := (.agg #[sv1, (ξ 6)])) [] rfl rfl (by show upd ξ 7 _ 7 = _; rw [aw]; rfl) (f7 lX rfl is_sv1 is6))
  · intro ξ hφ; exact obI (dJ (ψ := fun v => ∃ b, v = ptr b 0) (B := fun v => [.blk (a8 v) [(.slice none 0 0), (.slice none 0 0)] 33]) [.emp] rfl (fun v _ => by simp only [bC, aw] <;> rfl) (fun v hv => by simpa [DF.one, aw] using hv) (fc (dq vv33 rfl)))
  · intro ξ hφ; refine Exists.elim (show ∃ b, ξ 8 = ptr b 0 from hφ 8 rfl) fun b4 hb8 => ?_; have g7 : ξ 7 = (.agg #[sv1, (ξ 6)]) := hφ 7 rfl; have is6 : aX (ξ 6) := hφ 6 rfl; exact obI (dD [.blk b4 [(.slice none 0 0), (.slice none 0 0)] 33] [.blk b4 [sv1, (ξ 6)] 33] (congrArg (fun v => [Asn.blk (a8 v) [(.slice none 0 0), (.slice none 0 0)] 33]) hb8) (congrArg (fun v => [Asn.blk (a8 v) [sv1, (ξ 6)] 33]) hb8) (d8 zz33 (Eq.trans rfl (congrArg some hb8)) (Eq.trans rfl (congrArg some g7)) rfl rfl (one2 is_sv1 is6) rfl rfl))
  clear h ac wo; intro ξ ac wo hφ h
  have is5 : aX (ξ 5) := hφ 5
  have is6 : aX (ξ 6) := hφ 6
  have g7 : ξ 7 = (.agg #[sv1, (ξ 6)]) := hφ 7
  refine Exists.elim (show ∃ b, ξ 8 = ptr b 0 from hφ 8) fun b4 hb8 => ?_
  replace h : St w0 59 [(1, lv), (7, (ptr b2 0)), (8, (ptr b3 0)), (9, (ptr b4 0))] [.blk b3 [sv4, sv7] 33, .row (α := Iv) 66 sv7 (ab (aa l) (aa m)), .row (α := Iv) 66 sv6 (aa m), .row (α := Iv) 66 sv5 (aa l), .row (α := Iv) 66 sv4 (aa l), .blk b2 [sv1, sv2, sv3] 28, .row (α := Iv) 66 sv1 (aa p_0), .row (α := Iv) 66 sv2 (ab (ab (aa p_0) (aa p_2)) (aa p_1)), .row (α := Iv) 66 sv3 (ab (aa p_0) (aa p_2)), .blk b1 [p_0v, p_1v, p_2v] 24, .row (α := Iv) 66 (ξ 6) (ab (aa p_0) (aa m)), .blk (a8 (ξ 8)) [sv1, (ξ 6)] 33] ac wo := (h.pick [0, 1, 2, 3, 4, 5, 6, 7, 8, 9, 11, 12] (by decide)).sub ⟨rfl, rfl, rfl, (Eq.trans rfl (congrArg some hb8)), trivial⟩
  rw [hb8] at h
  try clear g7
  generalize ξ 6 = sv8 at h is6; have is_sv8 := is6; clear is6
  refine hK6 _ _ ?_
  refine da fun K7 hK7 => ?_
  replace h := h.emps 4
  refine en [0, 0, 3, 0, 0, 31, 63, 127, 255, 255, 1023, 255, 255, 8191, 16383, 32767, 65535, 131071, 131071, 131071, 917503, 2097151, 4194303, 8388607, 16777215, 33554431, 16777215, 134217727, 268435455, 536870911] (by kernel_rfl) mixed [⟨.det (.agg #[sv1, sv2, sv3]), [5]⟩, ⟨.det (.agg #[sv4, sv7]), [0]⟩, ⟨.det (.bool (((ax (aa p_0) (aa l)) && (aE (ab (aa l) (aa m)) (ab (ab (aa p_0) (aa p_2)) (aa p_1)))) && (aE (ab (aa p_0) (aa p_2)) (ab (aa l) (aa m))))), [6, 7, 8, 4, 1]⟩, ⟨.det (.agg #[sv1, sv2, sv3]), [5]⟩, ⟨.det (.agg #[sv4, sv7]), [0]⟩, ⟨.det (.bool (((ax (aa p_0) (aa l)) && (aE (ab (aa l) (aa m)) (ab (ab (aa p_0) (aa p_2)) (aa p_1)))) && (aE (ab (aa p_0) (aa p_2)) (ab (aa l) (aa m))))), [6, 7, 8, 4, 1]⟩, ⟨.det (.bool true), []⟩, ⟨.det (.bool true), []⟩, ⟨.det (.agg #[sv1, sv2, sv3]), [5]⟩, ⟨.det (.agg #[sv1, sv8]), [11]⟩, ⟨.det (.bool (((ax (aa p_0) (aa p_0)) && (aE (ab (aa p_0) (aa m)) (ab (ab (aa p_0) (aa p_2)) (aa p_1)))) && (aE (ab (aa p_0) (aa p_2)) (ab (aa p_0) (aa m))))), [6, 7, 8, 10]⟩, ⟨.det (.agg #[sv1, sv2, sv3]), [5]⟩, ⟨.det (.agg #[sv1, sv8]), [11]⟩, ⟨.det (.bool (((ax (aa p_0) (aa p_0)) && (aE (ab (aa p_0) (aa m)) (ab (ab (aa p_0) (aa p_2)) (aa p_1)))) && (aE (ab (aa p_0) (aa p_2)) (ab (aa p_0) (aa m))))), [6, 7, 8, 10]⟩, ⟨.det (.bool true), []⟩, ⟨.det (.bool true), []⟩, ⟨.det (.bool true), []⟩, ⟨.det (.agg #[sv1, sv2, sv3]), [5]⟩, ⟨.det (.agg #[sv1, sv2, sv3]), [5]⟩, ⟨.det lv, []⟩, ⟨.nd (.one 20 fun v => v = .agg #[sv1, agc v 1] ∧ ∀ x ∈ [sv1, agc v 1], aX x), [12, 6, 7, 8]⟩, ⟨.det (.bool true), [6, 7, 8, 12]⟩, ⟨.det (.bool true), []⟩, ⟨.det (.bool true), []⟩, ⟨.det (.agg #[sv4, sv7]), [0]⟩, ⟨.nd (.one 25 fun v => v = .agg #[agc v 0, agc v 1, agc v 2] ∧ ∀ x ∈ [agc v 0, agc v 1, agc v 2], aX x), [13, 14, 15, 4, 1]⟩, ⟨.det (.agg #[sv4, sv7]), [0]⟩, ⟨.det (.bool true), [13, 14, 15, 4, 1]⟩, ⟨.det (.bool true), []⟩, ⟨.det (.bool true), []⟩] [⟨.blk b3 [sv4, sv7] 33, []⟩, ⟨.row (α := Iv) 66 sv7 (ab (aa l) (aa m)), []⟩, ⟨.row (α := Iv) 66 sv6 (aa m), []⟩, ⟨.row (α := Iv) 66 sv5 (aa l), []⟩, ⟨.row (α := Iv) 66 sv4 (aa l), []⟩, ⟨.blk b2 [sv1, sv2, sv3] 28, []⟩, ⟨.row (α := Iv) 66 sv1 (aa p_0), []⟩, ⟨.row (α := Iv) 66 sv2 (ab (ab (aa p_0) (aa p_2)) (aa p_1)), []⟩, ⟨.row (α := Iv) 66 sv3 (ab (aa p_0) (aa p_2)), []⟩, ⟨.blk b1 [p_0v, p_1v, p_2v] 24, []⟩, ⟨.row (α := Iv) 66 sv8 (ab (aa p_0) (aa m)), []⟩, ⟨.blk b4 [sv1, sv8] 33, []⟩, ⟨.emp, [(20, .one 20 fun v => .row (α := Iv) 66 (agc (v) 1) (am (ab (ab (aa p_0) (aa p_2)) (aa p_1)) (ab (ab (aa p_0) (aa p_2)) (aa l))))]⟩, ⟨.emp, [(25, .one 25 fun v => .row (α := Iv) 66 (agc (v) 0) (aa l))]⟩, ⟨.emp, [(25, .one 25 fun v => .row (α := Iv) 66 (agc (v) 1) (ab (aa l) (aa m)))]⟩, ⟨.emp, [(25, .one 25 fun v => .row (α := Iv) 66 (agc (v) 2) (ab (aa l) (aa m)))]⟩] h rfl (by kernel_rfl) ⟨?_, ?_, ?_, ?_, ?_, ?_, ?_, ?_, ?_, ?_, ?_, ?_, ?_, ?_, ?_, ?_, ?_, ?_, ?_, ?_, ?_, ?_, ?_, ?_, ?_, ?_, ?_, ?_, ?_, ?_, trivial⟩ ?_
  · intro ξ hφ; exact obI (be [.blk b2 [sv1, sv2, sv3] 28] rfl rfl (aN aa28 zz28 rfl rfl rfl (v := (.agg #[sv1, sv2, sv3])) rfl))
  · intro ξ hφ; exact obI (be [.blk b3 [sv4, sv7] 33] rfl rfl (aN aa33 zz33 rfl rfl rfl (v := (.agg #[sv4, sv7])) rfl))
  · intro ξ hφ; exact obI (dD [.row (α := Iv) 66 sv1 (aa p_0), .row (α := Iv) 66 sv2 (ab (ab (aa p_0) (aa p_2)) (aa p_1)), .row (α := Iv) 66 sv3 (ab (aa p_0) (aa p_2)), .row (α := Iv) 66 sv4 (aa l), .row (α := Iv) 66 sv7 (ab (aa l) (aa m))] [.row (α := Iv) 66 sv1 (aa p_0), .row (α := Iv) 66 sv2 (ab (ab (aa p_0) (aa p_2)) (aa p_1)), .row (α := Iv) 66 sv3 (ab (aa p_0) (aa p_2)), .row (α := Iv) 66 sv4 (aa l), .row (α := Iv) 66 sv7 (ab (aa l) (aa m))] rfl rfl (cP (vs := [(.agg #[sv1, sv2, sv3]), (.agg #[sv4, sv7])]) (aS cc12 rfl) (fun w_ hB_ hS_ => ef (aa p_0) sv1 (ab (ab (aa p_0) (aa p_2)) (aa p_1)) sv2 (ab (aa p_0) (aa p_2)) sv3 (aa l) sv4 (ab (aa l) (aa m)) sv7 (ah p_0) (Cn.inter (Cn.inter (ah p_0) (ah p_2)) (ah p_1)) (Cn.inter (ah p_0) (ah p_2)) (ah l) (Cn.inter (ah l) (ah m)) w_ (row_view hS_ 0 rfl) (row_view hS_ 1 rfl) (row_view hS_ 2 rfl) (row_view hS_ 3 rfl) (row_view hS_ 4 rfl))))
  · intro ξ hφ; exact obI (be [.blk b2 [sv1, sv2, sv3] 28] rfl rfl (aN aa28 zz28 rfl rfl rfl (v := (.agg #[sv1, sv2, sv3])) rfl))
  · intro ξ hφ; exact obI (be [.blk b3 [sv4, sv7] 33] rfl rfl (aN aa33 zz33 rfl rfl rfl (v := (.agg #[sv4, sv7])) rfl))
  · intro ξ hφ; exact obI (dD [.row (α := Iv) 66 sv1 (aa p_0), .row (α := Iv) 66 sv2 (ab (ab (aa p_0) (aa p_2)) (aa p_1)), .row (α := Iv) 66 sv3 (ab (aa p_0) (aa p_2)), .row (α := Iv) 66 sv4 (aa l), .row (α := Iv) 66 sv7 (ab (aa l) (aa m))] [.row (α := Iv) 66 sv1 (aa p_0), .row (α := Iv) 66 sv2 (ab (ab (aa p_0) (aa p_2)) (aa p_1)), .row (α := Iv) 66 sv3 (ab (aa p_0) (aa p_2)), .row (α := Iv) 66 sv4 (aa l), .row (α := Iv) 66 sv7 (ab (aa l) (aa m))] rfl rfl (cP (vs := [(.agg #[sv1, sv2, sv3]), (.agg #[sv4, sv7])]) (aS Tryz.call13 rfl) (fun w_ hB_ hS_ => cj (aa p_0) sv1 (ab (ab (aa p_0) (aa p_2)) (aa p_1)) sv2 (ab (aa p_0) (aa p_2)) sv3 (aa l) sv4 (ab (aa l) (aa m)) sv7 (ah p_0) (Cn.inter (Cn.inter (ah p_0) (ah p_2)) (ah p_1)) (Cn.inter (ah p_0) (ah p_2)) (ah l) (Cn.inter (ah l) (ah m)) w_ (row_view hS_ 0 rfl) (row_view hS_ 1 rfl) (row_view hS_ 2 rfl) (row_view hS_ 3 rfl) (row_view hS_ 4 rfl))))
  · intro ξ hφ; exact obI (az (Rd.cast (mB nn4 rfl rfl) (congrArg Value.bool (beq_self_eq_true _))))
  · intro ξ hφ; exact obI (az (ak rfl))
  · intro ξ hφ; exact obK rfl rfl (be [.blk b2 [sv1, sv2, sv3] 28] rfl rfl (aN aa28 zz28 rfl rfl rfl (v := (.agg #[sv1, sv2, sv3])) rfl))
  · intro ξ hφ; exact obK rfl rfl (be [.blk b4 [sv1, sv8] 33] rfl rfl (aN aa33 zz33 rfl rfl rfl (v := (.agg #[sv1, sv8])) rfl))
  · intro ξ hφ; exact obK rfl rfl (dD [.row (α := Iv) 66 sv1 (aa p_0), .row (α := Iv) 66 sv2 (ab (ab (aa p_0) (aa p_2)) (aa p_1)), .row (α := Iv) 66 sv3 (ab (aa p_0) (aa p_2)), .row (α := Iv) 66 sv8 (ab (aa p_0) (aa m))] [.row (α := Iv) 66 sv1 (aa p_0), .row (α := Iv) 66 sv2 (ab (ab (aa p_0) (aa p_2)) (aa p_1)), .row (α := Iv) 66 sv3 (ab (aa p_0) (aa p_2)), .row (α := Iv) 66 sv8 (ab (aa p_0) (aa m))] rfl rfl (cP (vs := [(.agg #[sv1, sv2, sv3]), (.agg #[sv1, sv8])]) (aS cc12 rfl) (fun w_ hB_ hS_ => ef (aa p_0) sv1 (ab (ab (aa p_0) (aa p_2)) (aa p_1)) sv2 (ab (aa p_0) (aa p_2)) sv3 (aa p_0) sv1 (ab (aa p_0) (aa m)) sv8 (ah p_0) (Cn.inter (Cn.inter (ah p_0) (ah p_2)) (ah p_1)) (Cn.inter (ah p_0) (ah p_2)) (ah p_0) (Cn.inter (ah p_0) (ah m)) w_ (row_view hS_ 0 rfl) (row_view hS_ 1 rfl) (row_view hS_ 2 rfl) (row_view hS_ 0 rfl) (row_view hS_ 3 rfl))))
  · intro ξ hφ; exact obK rfl rfl (be [.blk b2 [sv1, sv2, sv3] 28] rfl rfl (aN aa28 zz28 rfl rfl rfl (v := (.agg #[sv1, sv2, sv3])) rfl))
  · intro ξ hφ; exact obK rfl rfl (be [.blk b4 [sv1, sv8] 33] rfl rfl (aN aa33 zz33 rfl rfl rfl (v := (.agg #[sv1, sv8])) rfl))
  · intro ξ hφ; exact obK rfl rfl (dD [.row (α := Iv) 66 sv1 (aa p_0), .row (α := Iv) 66 sv2 (ab (ab (aa p_0) (aa p_2)) (aa p_1)), .row (α := Iv) 66 sv3 (ab (aa p_0) (aa p_2)), .row (α := Iv) 66 sv8 (ab (aa p_0) (aa m))] [.row (α := Iv) 66 sv1 (aa p_0), .row (α := Iv) 66 sv2 (ab (ab (aa p_0) (aa p_2)) (aa p_1)), .row (α := Iv) 66 sv3 (ab (aa p_0) (aa p_2)), .row (α := Iv) 66 sv8 (ab (aa p_0) (aa m))] rfl rfl (cP (vs := [(.agg #[sv1, sv2, sv3]), (.agg #[sv1, sv8])]) (aS Tryz.call13 rfl) (fun w_ hB_ hS_ => cj (aa p_0) sv1 (ab (ab (aa p_0) (aa p_2)) (aa p_1)) sv2 (ab (aa p_0) (aa p_2)) sv3 (aa p_0) sv1 (ab (aa p_0) (aa m)) sv8 (ah p_0) (Cn.inter (Cn.inter (ah p_0) (ah p_2)) (ah p_1)) (Cn.inter (ah p_0) (ah p_2)) (ah p_0) (Cn.inter (ah p_0) (ah m)) w_ (row_view hS_ 0 rfl) (row_view hS_ 1 rfl) (row_view hS_ 2 rfl) (row_view hS_ 0 rfl) (row_view hS_ 3 rfl))))
  · intro ξ hφ; exact obK rfl rfl (az (Rd.cast (mB nn4 rfl rfl) (congrArg Value.bool (beq_self_eq_true _))))
  · intro ξ hφ; exact obI (az (eF (b := true) rfl (fun e => rfl) (fun e => absurd e (by decide)) (v := (.bool true))))
  · intro ξ hφ; exact obI (az (ak rfl))
  · intro ξ hφ; exact obK rfl rfl (be [.blk b2 [sv1, sv2, sv3] 28] rfl rfl (aN aa28 zz28 rfl rfl rfl (v := (.agg #[sv1, sv2, sv3])) rfl))
  · intro ξ hφ; exact obK rfl rfl (be [.blk b2 [sv1, sv2, sv3] 28] rfl rfl (aN aa28 zz28 rfl rfl rfl (v := (.agg #[sv1, sv2, sv3])) rfl))
  · intro ξ hφ; exact obK rfl rfl (az (ak rfl))
  · intro ξ hφ; exact obK rfl rfl (dJ (ψ := fun v => v = .agg #[sv1, agc v 1] ∧ ∀ x ∈ [sv1, agc v 1], aX x) (B := fun v => [.row (α := Iv) 66 (agc v 1) (am (ab (ab (aa p_0) (aa p_2)) (aa p_1)) (ab (ab (aa p_0) (aa p_2)) (aa l))), .row (α := Iv) 66 sv1 (aa p_0), .row (α := Iv) 66 sv2 (ab (ab (aa p_0) (aa p_2)) (aa p_1)), .row (α := Iv) 66 sv3 (ab (aa p_0) (aa p_2))]) [.emp, .row (α := Iv) 66 sv1 (aa p_0), .row (α := Iv) 66 sv2 (ab (ab (aa p_0) (aa p_2)) (aa p_1)), .row (α := Iv) 66 sv3 (ab (aa p_0) (aa p_2))] rfl (fun v _ => by simp only [bC, aw] <;> rfl) (fun v hv => by show upd ξ 20 v 20 = _ ∧ _; rw [aw]; exact hv) (aZ (js (vs := [(.agg #[sv1, sv2, sv3]), lv]) (g := fun v => [sv1, agc v 1]) (A := fun v => [.row (α := Iv) 66 (agc v 1) (am (ab (ab (aa p_0) (aa p_2)) (aa p_1)) (ab (ab (aa p_0) (aa p_2)) (aa l)))]) (aS Tryz.call14 rfl) (fun w_ hB_ hS_ => ez (aa p_0) sv1 (ab (ab (aa p_0) (aa p_2)) (aa p_1)) sv2 (ab (aa p_0) (aa p_2)) sv3 l lv (ah p_0) (Cn.inter (Cn.inter (ah p_0) (ah p_2)) (ah p_1)) (Cn.inter (ah p_0) (ah p_2)) w_ (row_view hS_ 0 rfl) (row_view hS_ 1 rfl) (row_view hS_ 2 rfl) (hlv.below hB_)))))
  · intro ξ hφ; have G20 : ξ 20 = .agg #[sv1, agc (ξ 20) 1] ∧ ∀ x ∈ [sv1, agc (ξ 20) 1], aX x := hφ 20 rfl; have g20 := G20.1; have is20_0 := (sl2 G20.2).1; have is20_1 := (sl2 G20.2).2; exact obK rfl rfl (dD [.row (α := Iv) 66 sv1 (aa p_0), .row (α := Iv) 66 sv2 (ab (ab (aa p_0) (aa p_2)) (aa p_1)), .row (α := Iv) 66 sv3 (ab (aa p_0) (aa p_2)), .row (α := Iv) 66 (agc (ξ 20) 1) (am (ab (ab (aa p_0) (aa p_2)) (aa p_1)) (ab (ab (aa p_0) (aa p_2)) (aa l)))] [.row (α := Iv) 66 sv1 (aa p_0), .row (α := Iv) 66 sv2 (ab (ab (aa p_0) (aa p_2)) (aa p_1)), .row (α := Iv) 66 sv3 (ab (aa p_0) (aa p_2)), .row (α := Iv) 66 (agc (ξ 20) 1) (am (ab (ab (aa p_0) (aa p_2)) (aa p_1)) (ab (ab (aa p_0) (aa p_2)) (aa l)))] rfl rfl (cP (vs := [(.agg #[sv1, sv2, sv3]), (.agg #[sv1, (agc (ξ 20) 1)])]) (aS cc12 (bG rfl (bG (Eq.trans rfl (congrArg some g20)) rfl))) (fun w_ hB_ hS_ => RetP.cast (ef (aa p_0) sv1 (ab (ab (aa p_0) (aa p_2)) (aa p_1)) sv2 (ab (aa p_0) (aa p_2)) sv3 (aa p_0) sv1 (am (ab (ab (aa p_0) (aa p_2)) (aa p_1)) (ab (ab (aa p_0) (aa p_2)) (aa l))) (agc (ξ 20) 1) (ah p_0) (Cn.inter (Cn.inter (ah p_0) (ah p_2)) (ah p_1)) (Cn.inter (ah p_0) (ah p_2)) (ah p_0) (Cn.union (Cn.inter (Cn.inter (ah p_0) (ah p_2)) (ah p_1)) (Cn.inter (Cn.inter (ah p_0) (ah p_2)) (ah l))) w_ (row_view hS_ 0 rfl) (row_view hS_ 1 rfl) (row_view hS_ 2 rfl) (row_view hS_ 0 rfl) (row_view hS_ 3 rfl)) (congrArg Value.bool (lg0 (by repeat (first | assumption | exact ah _ | apply Cn.inter | apply Cn.union | apply Cn.minus)) (by repeat (first | assumption | exact ah _ | apply Cn.inter | apply Cn.union | apply Cn.minus)) (by repeat (first | assumption | exact ah _ | apply Cn.inter | apply Cn.union | apply Cn.minus)) (inL (by repeat (first | assumption | exact ah _ | apply Cn.inter | apply Cn.union | apply Cn.minus)) (by repeat (first | assumption | exact ah _ | apply Cn.inter | apply Cn.union | apply Cn.minus))))))))
  · intro ξ hφ; exact obI (az (eF (b := true) rfl (fun e => rfl) (fun e => absurd e (by decide)) (v := (.bool true))))
  · intro ξ hφ; exact obI (az (ak rfl))
  · intro ξ hφ; exact obK rfl rfl (be [.blk b3 [sv4, sv7] 33] rfl rfl (aN aa33 zz33 rfl rfl rfl (v := (.agg #[sv4, sv7])) rfl))
  · intro ξ hφ; exact obK rfl rfl (dJ (ψ := fun v => v = .agg #[agc v 0, agc v 1, agc v 2] ∧ ∀ x ∈ [agc v 0, agc v 1, agc v 2], aX x) (B := fun v => [.row (α := Iv) 66 (agc v 0) (aa l), .row (α := Iv) 66 (agc v 1) (ab (aa l) (aa m)), .row (α := Iv) 66 (agc v 2) (ab (aa l) (aa m)), .row (α := Iv) 66 sv4 (aa l), .row (α := Iv) 66 sv7 (ab (aa l) (aa m))]) [.emp, .emp, .emp, .row (α := Iv) 66 sv4 (aa l), .row (α := Iv) 66 sv7 (ab (aa l) (aa m))] rfl (fun v _ => by simp only [bC, aw] <;> rfl) (fun v hv => by show upd ξ 25 v 25 = _ ∧ _; rw [aw]; exact hv) (aZ (aZ (aZ (js (vs := [(.agg #[sv4, sv7])]) (g := fun v => [agc v 0, agc v 1, agc v 2]) (A := fun v => [.row (α := Iv) 66 (agc v 0) (aa l), .row (α := Iv) 66 (agc v 1) (ab (aa l) (aa m)), .row (α := Iv) 66 (agc v 2) (ab (aa l) (aa m))]) (aS Tryz.call15 rfl) (fun w_ hB_ hS_ => gi (aa l) sv4 (ab (aa l) (aa m)) sv7 (ah l) (Cn.inter (ah l) (ah m)) w_ (row_view hS_ 0 rfl) (row_view hS_ 1 rfl)))))))
  · intro ξ hφ; exact obK rfl rfl (be [.blk b3 [sv4, sv7] 33] rfl rfl (aN aa33 zz33 rfl rfl rfl (v := (.agg #[sv4, sv7])) rfl))
  · intro ξ hφ; have G25 : ξ 25 = .agg #[agc (ξ 25) 0, agc (ξ 25) 1, agc (ξ 25) 2] ∧ ∀ x ∈ [agc (ξ 25) 0, agc (ξ 25) 1, agc (ξ 25) 2], aX x := hφ 25 rfl; have g25 := G25.1; have is25_0 := (sl3 G25.2).1; have is25_1 := (sl3 G25.2).2.1; have is25_2 := (sl3 G25.2).2.2; exact obK rfl rfl (dD [.row (α := Iv) 66 (agc (ξ 25) 0) (aa l), .row (α := Iv) 66 (agc (ξ 25) 1) (ab (aa l) (aa m)), .row (α := Iv) 66 (agc (ξ 25) 2) (ab (aa l) (aa m)), .row (α := Iv) 66 sv4 (aa l), .row (α := Iv) 66 sv7 (ab (aa l) (aa m))] [.row (α := Iv) 66 (agc (ξ 25) 0) (aa l), .row (α := Iv) 66 (agc (ξ 25) 1) (ab (aa l) (aa m)), .row (α := Iv) 66 (agc (ξ 25) 2) (ab (aa l) (aa m)), .row (α := Iv) 66 sv4 (aa l), .row (α := Iv) 66 sv7 (ab (aa l) (aa m))] rfl rfl (cP (vs := [(.agg #[(agc (ξ 25) 0), (agc (ξ 25) 1), (agc (ξ 25) 2)]), (.agg #[sv4, sv7])]) (aS cc12 (bG (Eq.trans rfl (congrArg some g25)) (bG rfl rfl))) (fun w_ hB_ hS_ => RetP.cast (ef (aa l) (agc (ξ 25) 0) (ab (aa l) (aa m)) (agc (ξ 25) 1) (ab (aa l) (aa m)) (agc (ξ 25) 2) (aa l) sv4 (ab (aa l) (aa m)) sv7 (ah l) (Cn.inter (ah l) (ah m)) (Cn.inter (ah l) (ah m)) (ah l) (Cn.inter (ah l) (ah m)) w_ (row_view hS_ 0 rfl) (row_view hS_ 1 rfl) (row_view hS_ 2 rfl) (row_view hS_ 3 rfl) (row_view hS_ 4 rfl)) (congrArg Value.bool (lgx (by repeat (first | assumption | exact ah _ | apply Cn.inter | apply Cn.union | apply Cn.minus)))))))
  · intro ξ hφ; exact obI (az (eF (b := true) rfl (fun e => rfl) (fun e => absurd e (by decide)) (v := (.bool true))))
  · intro ξ hφ; exact obI (az (aj rfl))
  clear h ac wo; intro ξ ac wo hφ h
  have G20 : ξ 20 = .agg #[sv1, agc (ξ 20) 1] ∧ ∀ x ∈ [sv1, agc (ξ 20) 1], aX x := hφ 20; have g20 := G20.1; have is20_0 := (sl2 G20.2).1; have is20_1 := (sl2 G20.2).2
  have G25 : ξ 25 = .agg #[agc (ξ 25) 0, agc (ξ 25) 1, agc (ξ 25) 2] ∧ ∀ x ∈ [agc (ξ 25) 0, agc (ξ 25) 1, agc (ξ 25) 2], aX x := hφ 25; have g25 := G25.1; have is25_0 := (sl3 G25.2).1; have is25_1 := (sl3 G25.2).2.1; have is25_2 := (sl3 G25.2).2.2
  replace h : St w0 59 [(6, (.bool true))] [.blk b3 [sv4, sv7] 33, .row (α := Iv) 66 sv7 (ab (aa l) (aa m)), .row (α := Iv) 66 sv6 (aa m), .row (α := Iv) 66 sv5 (aa l), .row (α := Iv) 66 sv4 (aa l), .blk b2 [sv1, sv2, sv3] 28, .row (α := Iv) 66 sv1 (aa p_0), .row (α := Iv) 66 sv2 (ab (ab (aa p_0) (aa p_2)) (aa p_1)), .row (α := Iv) 66 sv3 (ab (aa p_0) (aa p_2)), .blk b1 [p_0v, p_1v, p_2v] 24, .row (α := Iv) 66 sv8 (ab (aa p_0) (aa m)), .blk b4 [sv1, sv8] 33] ac wo := (h.pick [0, 1, 2, 3, 4, 5, 6, 7, 8, 9, 10, 11] (by decide)).sub ⟨rfl, trivial⟩
  refine hK7 _ _ ?_
  refine dH ?_
  exact ret (rs := [.tmp 6]) h rfl (.tmp rfl .nil) rfl (h.retP rfl trivial)
end Go.Sx
