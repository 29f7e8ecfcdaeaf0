/- A part of the proof that the law BracketQuestions/Checks answers true at every input and leaves its arguments as they were. -/
import Derived.Test.YtbnldpccdppmiaaGreatDoorB1
set_option linter.unusedVariables false
set_option linter.unusedSimpArgs false
open Go.Proofs.Tryz renaming zeroValue28 → vv28, runUnderlying28 → uu28, sizeOf26 → zz26, zeroValue33 → vv33, runUnderlying33 → uu33, isAgg26 → aa26, sizeOf28 → zz28, runUnderlying26 → uu26, sizeOf33 → zz33, runUnderlying24 → uu24, sizeOf22 → zz22, isAgg22 → aa22, call10 → cc10, call11 → cc11
namespace Go.Sx
open Go Go.RowKit Go.Proofs
set_option maxRecDepth 100000
set_option maxHeartbeats 40000000
theorem bld28 : BuildF Tryz.prog 28 [.slice none 0 0, .slice none 0 0, .slice none 0 0] [(0, 1), (1, 1), (2, 1)] := BuildF.of vv28 rfl uu28 (by intro w; simp [zz26])
theorem bld33 : BuildF Tryz.prog 33 [.slice none 0 0, .slice none 0 0] [(0, 1), (1, 1)] := BuildF.of vv33 rfl uu33 (by intro w; simp [zz26])
theorem kW (t_0 : List Iv) (t_0v : Value) (t_1 : List Iv) (t_1v : Value) (t_2 : List Iv) (t_2v : Value) (ct_0 : Cn t_0) (ct_1 : Cn t_1) (ct_2 : Cn t_2) (w0 : World) (ht_0v : View w0 t_0v t_0) (ht_1v : View w0 t_1v t_1) (ht_2v : View w0 t_2v t_2) : Calls Tryz.prog 25 #[(.agg #[t_0v, t_1v, t_2v])] w0 (RetA w0 (fun v => [agc v 0, agc v 1, agc v 2]) (fun v => [.row (α := Iv) 66 (agc v 0) t_0, .row (α := Iv) 66 (agc v 1) (aU t_0 t_2), .row (α := Iv) 66 (agc v 2) (aU t_0 t_1)])) := by
  refine enter (N := 17) (args := [(.agg #[t_0v, t_1v, t_2v])]) Tryz.func25 rfl rfl ?_; intro ac h
  have is_t_0 := SL.is ht_0v.sl
  have is_t_1 := SL.is ht_1v.sl
  have is_t_2 := SL.is ht_2v.sl
  refine bB fun K1 hK1 => ?_
  refine bx h [t_0v, t_1v, t_2v] rfl rfl rfl ?_; clear h ac; intro b1 ac wo h
  refine al h [(.slice none 0 0), (.slice none 0 0), (.slice none 0 0)] vv28 rfl rfl ?_; clear h ac wo; intro b2 ac wo h
  refine aE ?_
  refine hK1 _ _ ?_
  refine bP fun K2 hK2 => ?_
  replace h := h.emps 3
  refine hO [0, 1, 3, 0, 8, 0, 32, 127, 0, 256, 0, 1024, 4095, 8191, 16383] (by kernel_rfl) mixed [⟨.det (ptr b1 0), []⟩, ⟨.det t_0v, [1]⟩, ⟨.nd (.one 2 fun v => d4 v), [2]⟩, ⟨.det (ptr b1 0), []⟩, ⟨.det t_0v, [1]⟩, ⟨.det (ptr b1 2), []⟩, ⟨.det t_2v, [1]⟩, ⟨.nd (.one 7 fun v => d4 v), [3]⟩, ⟨.det (ptr b1 0), []⟩, ⟨.det t_0v, [1]⟩, ⟨.det (ptr b1 1), []⟩, ⟨.det t_1v, [1]⟩, ⟨.nd (.one 12 fun v => d4 v), [4]⟩, ⟨.nd ⟨[13, 2, 7, 12], fun ξ => ξ 13 = (.agg #[(ξ 2), (ξ 7), (ξ 12)]), fun ξ ξ_2 h_ => by simp only [h_ 13 (by simp), h_ 2 (by simp), h_ 7 (by simp), h_ 12 (by simp)]⟩, []⟩, ⟨.det undef, [0]⟩] [⟨.blk b2 [(.slice none 0 0), (.slice none 0 0), (.slice none 0 0)] 28, [(14, ⟨[2, 7, 12], fun ξ => .blk b2 [(ξ 2), (ξ 7), (ξ 12)] 28, fun ξ ξ_2 h_ => by simp only [h_ 2 (by simp), h_ 7 (by simp), h_ 12 (by simp)]⟩)]⟩, ⟨.blk b1 [t_0v, t_1v, t_2v] 28, []⟩, ⟨.emp, [(2, .one 2 fun v => .row (α := Iv) 66 (v) t_0)]⟩, ⟨.emp, [(7, .one 7 fun v => .row (α := Iv) 66 (v) (aU t_0 t_2))]⟩, ⟨.emp, [(12, .one 12 fun v => .row (α := Iv) 66 (v) (aU t_0 t_1))]⟩] h rfl (by kernel_rfl) ⟨?_, ?_, ?_, ?_, ?_, ?_, ?_, ?_, ?_, ?_, ?_, ?_, ?_, ?_, ?_, trivial⟩ ?_
  · intro ξ hφ; exact obI (ay (eN uu28 rfl zz26 (by decide) rfl rfl (k' := 0)))
  · intro ξ hφ; exact obI (bT [.blk b1 [t_0v, t_1v, t_2v] 28] rfl rfl (aZ aa26 zz26 rfl rfl rfl (v := t_0v) rfl))
  · intro ξ hφ; exact obI (ij (ψ := fun v => SL v t_0.length ∧ True) (B := fun v => [.row (α := Iv) 66 v t_0]) [.emp] rfl (fun v _ => by simp only [dO, aS] <;> rfl) (fun v hv => by show d4 (upd ξ 2 v 2); rw [aS]; exact hv.1.is) (jq (lw (vs := [t_0v]) (bh Tryz.call49 rfl) (fun w_ hB_ hS_ => m4 t_0 t_0v ct_0 w_ (ht_0v.below hB_)))))
  · intro ξ hφ; exact obI (ay (eN uu28 rfl zz26 (by decide) rfl rfl (k' := 0)))
  · intro ξ hφ; exact obI (bT [.blk b1 [t_0v, t_1v, t_2v] 28] rfl rfl (aZ aa26 zz26 rfl rfl rfl (v := t_0v) rfl))
  · intro ξ hφ; exact obI (ay (eN uu28 rfl zz26 (by decide) rfl rfl (k' := 2)))
  · intro ξ hφ; exact obI (bT [.blk b1 [t_0v, t_1v, t_2v] 28] rfl rfl (aZ aa26 zz26 rfl rfl rfl (v := t_2v) rfl))
  · intro ξ hφ; exact obI (ij (ψ := fun v => SL v (aU t_0 t_2).length ∧ True) (B := fun v => [.row (α := Iv) 66 v (aU t_0 t_2)]) [.emp] rfl (fun v _ => by simp only [dO, aS] <;> rfl) (fun v hv => by show d4 (upd ξ 7 v 7); rw [aS]; exact hv.1.is) (jq (lw (vs := [t_0v, t_2v]) (bh Tryz.call34 rfl) (fun w_ hB_ hS_ => jh t_0 t_0v t_2 t_2v ct_0 ct_2 w_ (ht_0v.below hB_) (ht_2v.below hB_)))))
  · intro ξ hφ; exact obI (ay (eN uu28 rfl zz26 (by decide) rfl rfl (k' := 0)))
  · intro ξ hφ; exact obI (bT [.blk b1 [t_0v, t_1v, t_2v] 28] rfl rfl (aZ aa26 zz26 rfl rfl rfl (v := t_0v) rfl))
  · intro ξ hφ; exact obI (ay (eN uu28 rfl zz26 (by decide) rfl rfl (k' := 1)))
  · intro ξ hφ; exact obI (bT [.blk b1 [t_0v, t_1v, t_2v] 28] rfl rfl (aZ aa26 zz26 rfl rfl rfl (v := t_1v) rfl))
  · intro ξ hφ; exact obI (ij (ψ := fun v => SL v (aU t_0 t_1).length ∧ True) (B := fun v => [.row (α := Iv) 66 v (aU t_0 t_1)]) [.emp] rfl (fun v _ => by simp only [dO, aS] <;> rfl) (fun v hv => by show d4 (upd ξ 12 v 12); rw [aS]; exact hv.1.is) (jq (lw (vs := [t_0v, t_1v]) (bh Tryz.call34 rfl) (fun w_ hB_ hS_ => jh t_0 t_0v t_1 t_1v ct_0 ct_1 w_ (ht_0v.below hB_) (ht_1v.below hB_)))))
  · intro ξ hφ; have is2 : d4 (ξ 2) := hφ 2 rfl; have is7 : d4 (ξ 7) := hφ 7 rfl; have is12 : d4 (ξ 12) := hφ 12 rfl; exact obI (ob_n (v := (.agg #[(ξ 2), (ξ 7), (ξ 12)])) [] rfl rfl (by show upd ξ 13 _ 13 = _; rw [aS]; rfl) (kb bld28 rfl is2 is7 is12))
  · intro ξ hφ; have g13 : ξ 13 = (.agg #[(ξ 2), (ξ 7), (ξ 12)]) := hφ 13 rfl; have is2 : d4 (ξ 2) := hφ 2 rfl; have is7 : d4 (ξ 7) := hφ 7 rfl; have is12 : d4 (ξ 12) := hφ 12 rfl; exact obI (es [.blk b2 [(.slice none 0 0), (.slice none 0 0), (.slice none 0 0)] 28] [.blk b2 [(ξ 2), (ξ 7), (ξ 12)] 28] rfl rfl (eW zz28 rfl (Eq.trans rfl (congrArg some g13)) rfl rfl (one3 is2 is7 is12) rfl rfl))
  clear h ac wo; intro ξ ac wo hφ h
  have is2 : d4 (ξ 2) := hφ 2
  have is7 : d4 (ξ 7) := hφ 7
  have is12 : d4 (ξ 12) := hφ 12
  have g13 : ξ 13 = (.agg #[(ξ 2), (ξ 7), (ξ 12)]) := hφ 13
  replace h : St w0 17 [(2, (ptr b2 0))] [.blk b2 [(ξ 2), (ξ 7), (ξ 12)] 28, .blk b1 [t_0v, t_1v, t_2v] 28, .row (α := Iv) 66 (ξ 2) t_0, .row (α := Iv) 66 (ξ 7) (aU t_0 t_2), .row (α := Iv) 66 (ξ 12) (aU t_0 t_1)] ac wo := (h.pick [0, 1, 2, 3, 4] (by decide)).sub ⟨rfl, trivial⟩
  try clear g13
  generalize ξ 2 = sv1 at h is2; have is_sv1 := is2; clear is2
  try clear g13
  generalize ξ 7 = sv2 at h is7; have is_sv2 := is7; clear is7
  try clear g13
  generalize ξ 12 = sv3 at h is12; have is_sv3 := is12; clear is12
  refine hK2 _ _ ?_
  refine cr ?_
  exact ret (rs := [.cell 2 28]) h rfl (.cell (v := (.agg #[sv1, sv2, sv3])) rfl (i := 0) rfl Tryz.isAgg28 zz28 rfl rfl rfl .nil) rfl (h.retA ⟨rfl, allSl3 is_sv1 is_sv2 is_sv3⟩ (h.pick [2, 3, 4] (by decide)))
theorem ia (t_0 : List Iv) (t_0v : Value) (t_1 : List Iv) (t_1v : Value) (t_2 : List Iv) (t_2v : Value) (ct_0 : Cn t_0) (ct_1 : Cn t_1) (ct_2 : Cn t_2) (w0 : World) (ht_0v : View w0 t_0v t_0) (ht_1v : View w0 t_1v t_1) (ht_2v : View w0 t_2v t_2) : Calls Tryz.prog 18 #[(.agg #[t_0v, t_1v, t_2v])] w0 (RetP w0 (.int .i64 (aF (aX t_1 t_0) (!(aX t_2 t_0)))) True) := by
  refine enter (N := 15) (args := [(.agg #[t_0v, t_1v, t_2v])]) Tryz.func18 rfl rfl ?_; intro ac h
  have is_t_0 := SL.is ht_0v.sl
  have is_t_1 := SL.is ht_1v.sl
  have is_t_2 := SL.is ht_2v.sl
  refine bB fun K1 hK1 => ?_
  refine bx h [t_0v, t_1v, t_2v] rfl rfl rfl ?_; clear h ac; intro b1 ac wo h
  refine rd0 h (ah rfl (v := (.int .i64 0))) rfl ?_; clear h ac wo; intro ac wo h
  refine aE ?_
  refine hK1 _ _ ?_
  refine bP fun K2 hK2 => ?_
  refine hO [0, 1, 0, 4, 15, 0, 32, 0, 128, 511, 1023, 2047, 4095] (by kernel_rfl) mixed [⟨.det (ptr b1 1), []⟩, ⟨.det t_1v, [0]⟩, ⟨.det (ptr b1 0), []⟩, ⟨.det t_0v, [0]⟩, ⟨.det (.bool (aX t_1 t_0)), []⟩, ⟨.det (ptr b1 2), []⟩, ⟨.det t_2v, [0]⟩, ⟨.det (ptr b1 0), []⟩, ⟨.det t_0v, [0]⟩, ⟨.det (.bool (aX t_2 t_0)), []⟩, ⟨.det (.bool (!(aX t_2 t_0))), []⟩, ⟨.det (.int .i64 (aF (aX t_1 t_0) (!(aX t_2 t_0)))), []⟩, ⟨.det (.int .i64 (aF (aX t_1 t_0) (!(aX t_2 t_0)))), []⟩] [⟨.blk b1 [t_0v, t_1v, t_2v] 28, []⟩] h rfl (by kernel_rfl) ⟨?_, ?_, ?_, ?_, ?_, ?_, ?_, ?_, ?_, ?_, ?_, ?_, ?_, trivial⟩ ?_
  · intro ξ hφ; exact obI (ay (eN uu28 rfl zz26 (by decide) rfl rfl (k' := 1)))
  · intro ξ hφ; exact obI (bT [.blk b1 [t_0v, t_1v, t_2v] 28] rfl rfl (aZ aa26 zz26 rfl rfl rfl (v := t_1v) rfl))
  · intro ξ hφ; exact obI (ay (eN uu28 rfl zz26 (by decide) rfl rfl (k' := 0)))
  · intro ξ hφ; exact obI (bT [.blk b1 [t_0v, t_1v, t_2v] 28] rfl rfl (aZ aa26 zz26 rfl rfl rfl (v := t_0v) rfl))
  · intro ξ hφ; exact obI (dY (df (vs := [t_1v, t_0v]) (bh Tryz.call32 rfl) (fun w_ hB_ hS_ => jl t_1 t_1v t_0 t_0v ct_1 ct_0 w_ (ht_1v.below hB_) (ht_0v.below hB_))))
  · intro ξ hφ; exact obI (ay (eN uu28 rfl zz26 (by decide) rfl rfl (k' := 2)))
  · intro ξ hφ; exact obI (bT [.blk b1 [t_0v, t_1v, t_2v] 28] rfl rfl (aZ aa26 zz26 rfl rfl rfl (v := t_2v) rfl))
  · intro ξ hφ; exact obI (ay (eN uu28 rfl zz26 (by decide) rfl rfl (k' := 0)))
  · intro ξ hφ; exact obI (bT [.blk b1 [t_0v, t_1v, t_2v] 28] rfl rfl (aZ aa26 zz26 rfl rfl rfl (v := t_0v) rfl))
  · intro ξ hφ; exact obI (dY (df (vs := [t_2v, t_0v]) (bh Tryz.call32 rfl) (fun w_ hB_ hS_ => jl t_2 t_2v t_0 t_0v ct_2 ct_0 w_ (ht_2v.below hB_) (ht_0v.below hB_))))
  · intro ξ hφ; exact obI (ay (eU rfl))
  · intro ξ hφ; exact obI (dY (df (vs := [(.bool (aX t_1 t_0)), (.bool (!(aX t_2 t_0)))]) (bh Tryz.call52 rfl) (fun w_ hB_ hS_ => fp (aX t_1 t_0) (!(aX t_2 t_0)) w_ )))
  · intro ξ hφ; exact obI (ay (ah rfl))
  clear h ac wo; intro ξ ac wo hφ h
  replace h : St w0 15 [(2, (.int .i64 (aF (aX t_1 t_0) (!(aX t_2 t_0)))))] [.blk b1 [t_0v, t_1v, t_2v] 28] ac wo := (h.pick [0] (by decide)).sub ⟨rfl, trivial⟩
  refine hK2 _ _ ?_
  refine cr ?_
  exact ret (rs := [.tmp 2]) h rfl (.tmp rfl .nil) rfl (h.retP rfl trivial)
theorem gD (t_0 : List Iv) (t_0v : Value) (t_1 : List Iv) (t_1v : Value) (t_2 : List Iv) (t_2v : Value) (ct_0 : Cn t_0) (ct_1 : Cn t_1) (ct_2 : Cn t_2) (w0 : World) (ht_0v : View w0 t_0v t_0) (ht_1v : View w0 t_1v t_1) (ht_2v : View w0 t_2v t_2) : Calls Tryz.prog 17 #[(.agg #[t_0v, t_1v, t_2v])] w0 (RetP w0 (.int .i64 (aF (decide (((t_1.length : Nat) : Int) > 0)) ((((t_2.length : Nat) : Int)) == (((0 : Nat) : Int))))) True) := by
  refine enter (N := 12) (args := [(.agg #[t_0v, t_1v, t_2v])]) Tryz.func17 rfl rfl ?_; intro ac h
  have is_t_0 := SL.is ht_0v.sl
  have is_t_1 := SL.is ht_1v.sl
  have is_t_2 := SL.is ht_2v.sl
  refine bB fun K1 hK1 => ?_
  refine bx h [t_0v, t_1v, t_2v] rfl rfl rfl ?_; clear h ac; intro b1 ac wo h
  refine rd0 h (ah rfl (v := (.int .i64 0))) rfl ?_; clear h ac wo; intro ac wo h
  refine aE ?_
  refine hK1 _ _ ?_
  refine bB fun K2 hK2 => ?_
  refine rd0 h (eN uu28 rfl zz26 (by decide) rfl rfl (k' := 1)) rfl ?_; clear h ac wo; intro ac wo h
  refine rd1 h 0 rfl (aZ aa26 zz26 rfl rfl rfl (v := t_1v) rfl) rfl ?_; clear h ac wo; intro ac wo h
  refine rd0 h (dx uu26 rfl ht_1v.sl) rfl ?_; clear h ac wo; intro ac wo h
  refine rd0 h (iB rfl rfl) rfl ?_; clear h ac wo; intro ac wo h
  refine rd0 h (eN uu28 rfl zz26 (by decide) rfl rfl (k' := 2)) rfl ?_; clear h ac wo; intro ac wo h
  refine rd1 h 0 rfl (aZ aa26 zz26 rfl rfl rfl (v := t_2v) rfl) rfl ?_; clear h ac wo; intro ac wo h
  refine rd0 h (dx uu26 rfl ht_2v.sl) rfl ?_; clear h ac wo; intro ac wo h
  refine rd0 h (dV rfl rfl (m := ((t_2.length : Nat) : Int)) (n := ((0 : Nat) : Int))) rfl ?_; clear h ac wo; intro ac wo h
  refine dQ (vs := [(.bool (decide (((t_1.length : Nat) : Int) > 0))), (.bool ((((t_2.length : Nat) : Int)) == (((0 : Nat) : Int))))]) h (bh Tryz.call52 rfl) (fun w_ hB_ hS_ => fp (decide (((t_1.length : Nat) : Int) > 0)) ((((t_2.length : Nat) : Int)) == (((0 : Nat) : Int))) w_ ) rfl ?_; clear h ac wo; intro ac wo h
  refine rd0 h (ah rfl) rfl ?_; clear h ac wo; intro ac wo h
  refine aE ?_
  refine hK2 _ _ ?_
  refine cr ?_
  exact ret (rs := [.tmp 2]) h rfl (.tmp rfl .nil) rfl (h.retP rfl trivial)
theorem d9 (b_0 : List Iv) (b_0v : Value) (b_1 : List Iv) (b_1v : Value) (cb_0 : Cn b_0) (cb_1 : Cn b_1) (w0 : World) (hb_0v : View w0 b_0v b_0) (hb_1v : View w0 b_1v b_1) : Calls Tryz.prog 21 #[(.agg #[b_0v, b_1v])] w0 (RetP w0 (.bool (decide (((b_1.length : Nat) : Int) > 0))) True) := by
  refine enter (N := 7) (args := [(.agg #[b_0v, b_1v])]) Tryz.func21 rfl rfl ?_; intro ac h
  have is_b_0 := SL.is hb_0v.sl
  have is_b_1 := SL.is hb_1v.sl
  refine bB fun K1 hK1 => ?_
  refine bx h [b_0v, b_1v] rfl rfl rfl ?_; clear h ac; intro b1 ac wo h
  refine rd0 h (ah rfl (v := (.bool false))) rfl ?_; clear h ac wo; intro ac wo h
  refine aE ?_
  refine hK1 _ _ ?_
  refine bB fun K2 hK2 => ?_
  refine rd0 h (eN uu33 rfl zz26 (by decide) rfl rfl (k' := 1)) rfl ?_; clear h ac wo; intro ac wo h
  refine rd1 h 0 rfl (aZ aa26 zz26 rfl rfl rfl (v := b_1v) rfl) rfl ?_; clear h ac wo; intro ac wo h
  refine rd0 h (dx uu26 rfl hb_1v.sl) rfl ?_; clear h ac wo; intro ac wo h
  refine rd0 h (iB rfl rfl) rfl ?_; clear h ac wo; intro ac wo h
  refine rd0 h (ah rfl) rfl ?_; clear h ac wo; intro ac wo h
  refine aE ?_
  refine hK2 _ _ ?_
  refine cr ?_
  exact ret (rs := [.tmp 2]) h rfl (.tmp rfl .nil) rfl (h.retP rfl trivial)
theorem eV (b_0 : List Iv) (b_0v : Value) (b_1 : List Iv) (b_1v : Value) (cb_0 : Cn b_0) (cb_1 : Cn b_1) (w0 : World) (hb_0v : View w0 b_0v b_0) (hb_1v : View w0 b_1v b_1) : Calls Tryz.prog 22 #[(.agg #[b_0v, b_1v])] w0 (RetP w0 (.bool (((((aU b_0 b_1).length : Nat) : Int)) == (((0 : Nat) : Int)))) True) := by
  refine enter (N := 7) (args := [(.agg #[b_0v, b_1v])]) Tryz.func22 rfl rfl ?_; intro ac h
  have is_b_0 := SL.is hb_0v.sl
  have is_b_1 := SL.is hb_1v.sl
  refine bB fun K1 hK1 => ?_
  refine bx h [b_0v, b_1v] rfl rfl rfl ?_; clear h ac; intro b1 ac wo h
  refine rd0 h (ah rfl (v := (.bool false))) rfl ?_; clear h ac wo; intro ac wo h
  refine aE ?_
  refine hK1 _ _ ?_
  refine bB fun K2 hK2 => ?_
  refine rd1 h 0 rfl (aZ Tryz.isAgg33 zz33 rfl rfl rfl (v := (.agg #[b_0v, b_1v])) rfl) rfl ?_; clear h ac wo; intro ac wo h
  refine io (vs := [(.agg #[b_0v, b_1v])]) (xs := (aU b_0 b_1)) h (bh Tryz.call54 rfl) (fun w_ hB_ hS_ => jg b_0 b_0v b_1 b_1v cb_0 cb_1 w_ (hb_0v.below hB_) (hb_1v.below hB_)) rfl ?_; clear h ac wo; intro sv1 ac wo _ h
  have is_sv1 := SL.is (h.row_sl 0 rfl)
  refine rd0 h (dx uu26 rfl (h.row_sl 0 rfl)) rfl ?_; clear h ac wo; intro ac wo h
  refine rd0 h (dV rfl rfl (m := (((aU b_0 b_1).length : Nat) : Int)) (n := ((0 : Nat) : Int))) rfl ?_; clear h ac wo; intro ac wo h
  refine rd0 h (ah rfl) rfl ?_; clear h ac wo; intro ac wo h
  refine aE ?_
  refine hK2 _ _ ?_
  refine cr ?_
  exact ret (rs := [.tmp 2]) h rfl (.tmp rfl .nil) rfl (h.retP rfl trivial)
theorem ey (p_0 : List Stp) (p_0v : Value) (p_1 : List Stp) (p_1v : Value) (p_2 : List Stp) (p_2v : Value) (w0 : World) (hp_0v : View w0 p_0v p_0) (hp_1v : View w0 p_1v p_1) (hp_2v : View w0 p_2v p_2) : Calls Tryz.prog 9 #[(.agg #[p_0v, p_1v, p_2v])] w0 (RetA w0 (fun v => [agc v 0, agc v 1, agc v 2]) (fun v => [.row (α := Iv) 66 (agc v 0) (aa p_0), .row (α := Iv) 66 (agc v 1) (af (af (aa p_0) (aa p_2)) (aa p_1)), .row (α := Iv) 66 (agc v 2) (af (aa p_0) (aa p_2))])) := by
  refine enter (N := 21) (args := [(.agg #[p_0v, p_1v, p_2v])]) Tryz.func9 rfl rfl ?_; intro ac h
  have is_p_0 := SL.is hp_0v.sl
  have is_p_1 := SL.is hp_1v.sl
  have is_p_2 := SL.is hp_2v.sl
  refine bB fun K1 hK1 => ?_
  refine bx h [p_0v, p_1v, p_2v] rfl rfl rfl ?_; clear h ac; intro b1 ac wo h
  refine al h [(.slice none 0 0), (.slice none 0 0), (.slice none 0 0)] vv28 rfl rfl ?_; clear h ac wo; intro b2 ac wo h
  refine aE ?_
  refine hK1 _ _ ?_
  refine bB fun K2 hK2 => ?_
  refine rd0 h (eN uu24 rfl zz22 (by decide) rfl rfl (k' := 0)) rfl ?_; clear h ac wo; intro ac wo h
  refine rd1 h 1 rfl (aZ aa22 zz22 rfl rfl rfl (v := p_0v) rfl) rfl ?_; clear h ac wo; intro ac wo h
  refine io (vs := [p_0v]) (xs := (aa p_0)) h (bh cc10 rfl) (fun w_ hB_ hS_ => fb p_0 p_0v w_ (hp_0v.below hB_)) rfl ?_; clear h ac wo; intro sv1 ac wo _ h
  have is_sv1 := SL.is (h.row_sl 0 rfl)
  refine rd0 h (ah rfl) rfl ?_; clear h ac wo; intro ac wo h
  refine aE ?_
  refine hK2 _ _ ?_
  refine bB fun K3 hK3 => ?_
  refine rd0 h (aj rfl) rfl ?_; clear h ac wo; intro ac wo h
  refine rd0 h (eN uu24 rfl zz22 (by decide) rfl rfl (k' := 2)) rfl ?_; clear h ac wo; intro ac wo h
  refine rd1 h 2 rfl (aZ aa22 zz22 rfl rfl rfl (v := p_2v) rfl) rfl ?_; clear h ac wo; intro ac wo h
  refine io (vs := [p_2v]) (xs := (aa p_2)) h (bh cc10 rfl) (fun w_ hB_ hS_ => fb p_2 p_2v w_ (hp_2v.below hB_)) rfl ?_; clear h ac wo; intro sv2 ac wo _ h
  have is_sv2 := SL.is (h.row_sl 0 rfl)
  refine io (vs := [sv1, sv2]) (xs := (af (aa p_0) (aa p_2))) h (bh cc11 rfl) (fun w_ hB_ hS_ => ji (aa p_0) sv1 (aa p_2) sv2 (aD p_0) (aD p_2) w_ (row_view hS_ 1 rfl) (row_view hS_ 0 rfl)) rfl ?_; clear h ac wo; intro sv3 ac wo _ h
  have is_sv3 := SL.is (h.row_sl 0 rfl)
  refine rd0 h (ah rfl) rfl ?_; clear h ac wo; intro ac wo h
  refine aE ?_
  refine hK3 _ _ ?_
  refine bB fun K4 hK4 => ?_
  refine rd0 h (aj rfl) rfl ?_; clear h ac wo; intro ac wo h
  refine rd0 h (aj rfl) rfl ?_; clear h ac wo; intro ac wo h
  refine rd0 h (eN uu24 rfl zz22 (by decide) rfl rfl (k' := 1)) rfl ?_; clear h ac wo; intro ac wo h
  refine rd1 h 4 rfl (aZ aa22 zz22 rfl rfl rfl (v := p_1v) rfl) rfl ?_; clear h ac wo; intro ac wo h
  refine io (vs := [p_1v]) (xs := (aa p_1)) h (bh cc10 rfl) (fun w_ hB_ hS_ => fb p_1 p_1v w_ (hp_1v.below hB_)) rfl ?_; clear h ac wo; intro sv4 ac wo _ h
  have is_sv4 := SL.is (h.row_sl 0 rfl)
  refine io (vs := [sv3, sv4]) (xs := (af (af (aa p_0) (aa p_2)) (aa p_1))) h (bh cc11 rfl) (fun w_ hB_ hS_ => ji (af (aa p_0) (aa p_2)) sv3 (aa p_1) sv4 (Cn.inter (aD p_0) (aD p_2)) (aD p_1) w_ (row_view hS_ 1 rfl) (row_view hS_ 0 rfl)) rfl ?_; clear h ac wo; intro sv5 ac wo _ h
  have is_sv5 := SL.is (h.row_sl 0 rfl)
  refine rd0 h (aj rfl) rfl ?_; clear h ac wo; intro ac wo h
  refine rd0 h (kb bld28 rfl is_sv1 is_sv5 is_sv3) rfl ?_; clear h ac wo; intro ac wo h
  refine st h 5 [sv1, sv5, sv3] rfl zz28 rfl rfl rfl rfl (one3 is_sv1 is_sv5 is_sv3) rfl rfl ?_; clear h ac wo; intro ac wo h
  refine aE ?_
  refine hK4 _ _ ?_
  replace h := h.sub (F' := [(2, (ptr b2 0))]) ⟨rfl, trivial⟩
  refine cr ?_
  exact ret (rs := [.cell 2 28]) h rfl (.cell (v := (.agg #[sv1, sv5, sv3])) rfl (i := 5) rfl Tryz.isAgg28 zz28 rfl rfl rfl .nil) rfl (h.retA ⟨rfl, allSl3 is_sv1 is_sv5 is_sv3⟩ (h.pick [4, 0, 2] (by decide)))
theorem i6 (t_0 : List Iv) (t_0v : Value) (t_1 : List Iv) (t_1v : Value) (t_2 : List Iv) (t_2v : Value) (l : List Stp) (lv : Value) (ct_0 : Cn t_0) (ct_1 : Cn t_1) (ct_2 : Cn t_2) (w0 : World) (ht_0v : View w0 t_0v t_0) (ht_1v : View w0 t_1v t_1) (ht_2v : View w0 t_2v t_2) (hlv : View w0 lv l) : Calls Tryz.prog 14 #[(.agg #[t_0v, t_1v, t_2v]), lv] w0 (RetA w0 (fun v => [t_0v, agc v 1]) (fun v => [.row (α := Iv) 66 (agc v 1) (bm t_1 (af t_2 (aa l)))])) := by
  refine enter (N := 16) (args := [(.agg #[t_0v, t_1v, t_2v]), lv]) Tryz.func14 rfl rfl ?_; intro ac h
  have is_t_0 := SL.is ht_0v.sl
  have is_t_1 := SL.is ht_1v.sl
  have is_t_2 := SL.is ht_2v.sl
  have is_l := SL.is hlv.sl
  refine bB fun K1 hK1 => ?_
  refine bx h [t_0v, t_1v, t_2v] rfl rfl rfl ?_; clear h ac; intro b1 ac wo h
  refine al h [(.slice none 0 0), (.slice none 0 0)] vv33 rfl rfl ?_; clear h ac wo; intro b2 ac wo h
  refine aE ?_
  refine hK1 _ _ ?_
  refine bP fun K2 hK2 => ?_
  replace h := h.emps 3
  refine hO [0, 1, 0, 4, 0, 16, 0, 64, 240, 508, 1023, 2047] (by kernel_rfl) mixed [⟨.det (ptr b1 0), []⟩, ⟨.det t_0v, [1]⟩, ⟨.det (ptr b1 1), []⟩, ⟨.det t_1v, [1]⟩, ⟨.det (ptr b1 2), []⟩, ⟨.det t_2v, [1]⟩, ⟨.det lv, []⟩, ⟨.nd (.one 7 fun v => d4 v), [2]⟩, ⟨.nd (.one 8 fun v => d4 v), [3, 2]⟩, ⟨.nd (.one 9 fun v => d4 v), [4, 3]⟩, ⟨.nd ⟨[10, 9], fun ξ => ξ 10 = (.agg #[t_0v, (ξ 9)]), fun ξ ξ_2 h_ => by simp only [h_ 10 (by simp), h_ 9 (by simp)]⟩, []⟩, ⟨.det undef, [0]⟩] [⟨.blk b2 [(.slice none 0 0), (.slice none 0 0)] 33, [(11, .one 9 fun v => .blk b2 [t_0v, (v)] 33)]⟩, ⟨.blk b1 [t_0v, t_1v, t_2v] 28, []⟩, ⟨.emp, [(7, .one 7 fun v => .row (α := Iv) 66 (v) (aa l))]⟩, ⟨.emp, [(8, .one 8 fun v => .row (α := Iv) 66 (v) (af t_2 (aa l)))]⟩, ⟨.emp, [(9, .one 9 fun v => .row (α := Iv) 66 (v) (bm t_1 (af t_2 (aa l))))]⟩] h rfl (by kernel_rfl) ⟨?_, ?_, ?_, ?_, ?_, ?_, ?_, ?_, ?_, ?_, ?_, ?_, trivial⟩ ?_
  · intro ξ hφ; exact obI (ay (eN uu28 rfl zz26 (by decide) rfl rfl (k' := 0)))
  · intro ξ hφ; exact obI (bT [.blk b1 [t_0v, t_1v, t_2v] 28] rfl rfl (aZ aa26 zz26 rfl rfl rfl (v := t_0v) rfl))
  · intro ξ hφ; exact obI (ay (eN uu28 rfl zz26 (by decide) rfl rfl (k' := 1)))
  · intro ξ hφ; exact obI (bT [.blk b1 [t_0v, t_1v, t_2v] 28] rfl rfl (aZ aa26 zz26 rfl rfl rfl (v := t_1v) rfl))
  · intro ξ hφ; exact obI (ay (eN uu28 rfl zz26 (by decide) rfl rfl (k' := 2)))
  · intro ξ hφ; exact obI (bT [.blk b1 [t_0v, t_1v, t_2v] 28] rfl rfl (aZ aa26 zz26 rfl rfl rfl (v := t_2v) rfl))
  · intro ξ hφ; exact obI (ay (aj rfl))
  · intro ξ hφ; exact obI (ij (ψ := fun v => SL v (aa l).length ∧ True) (B := fun v => [.row (α := Iv) 66 v (aa l)]) [.emp] rfl (fun v _ => by simp only [dO, aS] <;> rfl) (fun v hv => by show d4 (upd ξ 7 v 7); rw [aS]; exact hv.1.is) (jq (lw (vs := [lv]) (bh cc10 rfl) (fun w_ hB_ hS_ => fb l lv w_ (hlv.below hB_)))))
  · intro ξ hφ; have is7 : d4 (ξ 7) := hφ 7 rfl; exact obI (ij (ψ := fun v => SL v (af t_2 (aa l)).length ∧ True) (B := fun v => [.row (α := Iv) 66 v (af t_2 (aa l)), .row (α := Iv) 66 (ξ 7) (aa l)]) [.emp, .row (α := Iv) 66 (ξ 7) (aa l)] rfl (fun v _ => by simp only [dO, aS] <;> rfl) (fun v hv => by show d4 (upd ξ 8 v 8); rw [aS]; exact hv.1.is) (jq (lw (vs := [t_2v, (ξ 7)]) (bh cc11 rfl) (fun w_ hB_ hS_ => ji t_2 t_2v (aa l) (ξ 7) ct_2 (aD l) w_ (ht_2v.below hB_) (row_view hS_ 0 rfl)))))
  · intro ξ hφ; have is8 : d4 (ξ 8) := hφ 8 rfl; exact obI (ij (ψ := fun v => SL v (bm t_1 (af t_2 (aa l))).length ∧ True) (B := fun v => [.row (α := Iv) 66 v (bm t_1 (af t_2 (aa l))), .row (α := Iv) 66 (ξ 8) (af t_2 (aa l))]) [.emp, .row (α := Iv) 66 (ξ 8) (af t_2 (aa l))] rfl (fun v _ => by simp only [dO, aS] <;> rfl) (fun v hv => by show d4 (upd ξ 9 v 9); rw [aS]; exact hv.1.is) (jq (lw (vs := [t_1v, (ξ 8)]) (bh Tryz.call48 rfl) (fun w_ hB_ hS_ => mH t_1 t_1v (af t_2 (aa l)) (ξ 8) ct_1 (Cn.inter ct_2 (aD l)) w_ (ht_1v.below hB_) (row_view hS_ 0 rfl)))))
  · intro ξ hφ; have is9 : d4 (ξ 9) := hφ 9 rfl; exact obI (ob_n (v := (.agg #[t_0v, (ξ 9)])) [] rfl rfl (by show upd ξ 10 _ 10 = _; rw [aS]; rfl) (kd bld33 rfl is_t_0 is9))
  · intro ξ hφ; have g10 : ξ 10 = (.agg #[t_0v, (ξ 9)]) := hφ 10 rfl; have is9 : d4 (ξ 9) := hφ 9 rfl; exact obI (es [.blk b2 [(.slice none 0 0), (.slice none 0 0)] 33] [.blk b2 [t_0v, (ξ 9)] 33] rfl rfl (eW zz33 rfl (Eq.trans rfl (congrArg some g10)) rfl rfl (one2 is_t_0 is9) rfl rfl))
  clear h ac wo; intro ξ ac wo hφ h
  have is7 : d4 (ξ 7) := hφ 7
  have is8 : d4 (ξ 8) := hφ 8
  have is9 : d4 (ξ 9) := hφ 9
  have g10 : ξ 10 = (.agg #[t_0v, (ξ 9)]) := hφ 10
  replace h : St w0 16 [(4, (ptr b2 0))] [.blk b2 [t_0v, (ξ 9)] 33, .blk b1 [t_0v, t_1v, t_2v] 28, .row (α := Iv) 66 (ξ 9) (bm t_1 (af t_2 (aa l)))] ac wo := (h.pick [0, 1, 4] (by decide)).sub ⟨rfl, trivial⟩
  try clear g10
  generalize ξ 9 = sv1 at h is9; have is_sv1 := is9; clear is9
  refine hK2 _ _ ?_
  refine cr ?_
  exact ret (rs := [.cell 4 33]) h rfl (.cell (v := (.agg #[t_0v, sv1])) rfl (i := 0) rfl Tryz.isAgg33 zz33 rfl rfl rfl .nil) rfl (h.retA ⟨rfl, allSl2 is_t_0 is_sv1⟩ (h.pick [2] (by decide)))
end Go.Sx
