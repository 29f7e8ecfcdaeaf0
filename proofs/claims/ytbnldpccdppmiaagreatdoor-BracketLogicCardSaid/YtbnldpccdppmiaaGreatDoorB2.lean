/- A part of the proof that the law BracketOperates/Brackets/Logic answers true at every input and leaves its arguments as they were. -/
import Derived.Test.YtbnldpccdppmiaaGreatDoorB1
set_option linter.unusedVariables false
set_option linter.unusedSimpArgs false
open Go.Proofs.Tryz renaming zeroValue28 → vv28, runUnderlying28 → uu28, sizeOf26 → zz26, zeroValue33 → vv33, runUnderlying33 → uu33, isAgg26 → aa26, call49 → cc49, sizeOf28 → zz28, isAgg28 → aa28, call11 → cc11, call48 → cc48, isAgg33 → aa33, sizeOf33 → zz33, runUnderlying26 → uu26, runUnderlying24 → uu24, sizeOf22 → zz22, isAgg22 → aa22, call10 → cc10
namespace Go.Sx
open Go Go.RowKit Go.Proofs
set_option maxRecDepth 100000
set_option maxHeartbeats 40000000
theorem j0 : BuildF Tryz.prog 28 [.slice none 0 0, .slice none 0 0, .slice none 0 0] [(0, 1), (1, 1), (2, 1)] := BuildF.of vv28 rfl uu28 (by intro w; simp [zz26])
theorem lX : BuildF Tryz.prog 33 [.slice none 0 0, .slice none 0 0] [(0, 1), (1, 1)] := BuildF.of vv33 rfl uu33 (by intro w; simp [zz26])
theorem eH (t_0 : List Iv) (t_0v : Value) (t_1 : List Iv) (t_1v : Value) (t_2 : List Iv) (t_2v : Value) (ct_0 : Cn t_0) (ct_1 : Cn t_1) (ct_2 : Cn t_2) (w0 : World) (ht_0v : View w0 t_0v t_0) (ht_1v : View w0 t_1v t_1) (ht_2v : View w0 t_2v t_2) : Calls Tryz.prog 25 #[(.agg #[t_0v, t_1v, t_2v])] w0 (l3 w0 (fun v => [agc v 0, agc v 1, agc v 2]) (fun v => [.row (α := Iv) 66 (agc v 0) t_0, .row (α := Iv) 66 (agc v 1) (an t_0 t_2), .row (α := Iv) 66 (agc v 2) (an t_0 t_1)])) := by
  refine enter (N := 17) (args := [(.agg #[t_0v, t_1v, t_2v])]) Tryz.func25 rfl rfl ?_; intro ac h
  have is_t_0 := SL.is ht_0v.sl
  have is_t_1 := SL.is ht_1v.sl
  have is_t_2 := SL.is ht_2v.sl
  refine cz fun K1 hK1 => ?_
  refine bx h [t_0v, t_1v, t_2v] rfl rfl rfl ?_; clear h ac; intro b1 ac wo h
  refine al h [(.slice none 0 0), (.slice none 0 0), (.slice none 0 0)] vv28 rfl rfl ?_; clear h ac wo; intro b2 ac wo h
  refine aW ?_
  refine hK1 _ _ ?_
  refine da fun K2 hK2 => ?_
  replace h := h.emps 3
  refine en [0, 1, 3, 0, 8, 0, 32, 127, 0, 256, 0, 1024, 4095, 8191, 16383] (by kernel_rfl) mixed [⟨.det (ptr b1 0), []⟩, ⟨.det t_0v, [1]⟩, ⟨.nd (.one 2 fun v => aX v), [2]⟩, ⟨.det (ptr b1 0), []⟩, ⟨.det t_0v, [1]⟩, ⟨.det (ptr b1 2), []⟩, ⟨.det t_2v, [1]⟩, ⟨.nd (.one 7 fun v => aX v), [3]⟩, ⟨.det (ptr b1 0), []⟩, ⟨.det t_0v, [1]⟩, ⟨.det (ptr b1 1), []⟩, ⟨.det t_1v, [1]⟩, ⟨.nd (.one 12 fun v => aX v), [4]⟩, ⟨.nd ⟨[13, 2, 7, 12], fun ξ => ξ 13 = (.agg #[(ξ 2), (ξ 7), (ξ 12)]), fun ξ ξ_2 h_ => by simp only [h_ 13 (by simp), h_ 2 (by simp), h_ 7 (by simp), h_ 12 (by simp)]⟩, []⟩, ⟨.det undef, [0]⟩] [⟨.blk b2 [(.slice none 0 0), (.slice none 0 0), (.slice none 0 0)] 28, [(14, ⟨[2, 7, 12], fun ξ => .blk b2 [(ξ 2), (ξ 7), (ξ 12)] 28, fun ξ ξ_2 h_ => by simp only [h_ 2 (by simp), h_ 7 (by simp), h_ 12 (by simp)]⟩)]⟩, ⟨.blk b1 [t_0v, t_1v, t_2v] 28, []⟩, ⟨.emp, [(2, .one 2 fun v => .row (α := Iv) 66 (v) t_0)]⟩, ⟨.emp, [(7, .one 7 fun v => .row (α := Iv) 66 (v) (an t_0 t_2))]⟩, ⟨.emp, [(12, .one 12 fun v => .row (α := Iv) 66 (v) (an t_0 t_1))]⟩] h rfl (by kernel_rfl) ⟨?_, ?_, ?_, ?_, ?_, ?_, ?_, ?_, ?_, ?_, ?_, ?_, ?_, ?_, ?_, trivial⟩ ?_
  · intro ξ hφ; exact obI (az (dC uu28 rfl zz26 (by decide) rfl rfl (k' := 0)))
  · intro ξ hφ; exact obI (be [.blk b1 [t_0v, t_1v, t_2v] 28] rfl rfl (aN aa26 zz26 rfl rfl rfl (v := t_0v) rfl))
  · intro ξ hφ; exact obI (dJ (ψ := fun v => SL v t_0.length ∧ True) (B := fun v => [.row (α := Iv) 66 v t_0]) [.emp] rfl (fun v _ => by simp only [bC, aw] <;> rfl) (fun v hv => by show aX (upd ξ 2 v 2); rw [aw]; exact hv.1.is) (aZ (d5 (vs := [t_0v]) (aS cc49 rfl) (fun w_ hB_ hS_ => fU t_0 t_0v ct_0 w_ (ht_0v.below hB_)))))
  · intro ξ hφ; exact obI (az (dC uu28 rfl zz26 (by decide) rfl rfl (k' := 0)))
  · intro ξ hφ; exact obI (be [.blk b1 [t_0v, t_1v, t_2v] 28] rfl rfl (aN aa26 zz26 rfl rfl rfl (v := t_0v) rfl))
  · intro ξ hφ; exact obI (az (dC uu28 rfl zz26 (by decide) rfl rfl (k' := 2)))
  · intro ξ hφ; exact obI (be [.blk b1 [t_0v, t_1v, t_2v] 28] rfl rfl (aN aa26 zz26 rfl rfl rfl (v := t_2v) rfl))
  · intro ξ hφ; exact obI (dJ (ψ := fun v => SL v (an t_0 t_2).length ∧ True) (B := fun v => [.row (α := Iv) 66 v (an t_0 t_2)]) [.emp] rfl (fun v _ => by simp only [bC, aw] <;> rfl) (fun v hv => by show aX (upd ξ 7 v 7); rw [aw]; exact hv.1.is) (aZ (d5 (vs := [t_0v, t_2v]) (aS Tryz.call34 rfl) (fun w_ hB_ hS_ => fT t_0 t_0v t_2 t_2v ct_0 ct_2 w_ (ht_0v.below hB_) (ht_2v.below hB_)))))
  · intro ξ hφ; exact obI (az (dC uu28 rfl zz26 (by decide) rfl rfl (k' := 0)))
  · intro ξ hφ; exact obI (be [.blk b1 [t_0v, t_1v, t_2v] 28] rfl rfl (aN aa26 zz26 rfl rfl rfl (v := t_0v) rfl))
  · intro ξ hφ; exact obI (az (dC uu28 rfl zz26 (by decide) rfl rfl (k' := 1)))
  · intro ξ hφ; exact obI (be [.blk b1 [t_0v, t_1v, t_2v] 28] rfl rfl (aN aa26 zz26 rfl rfl rfl (v := t_1v) rfl))
  · intro ξ hφ; exact obI (dJ (ψ := fun v => SL v (an t_0 t_1).length ∧ True) (B := fun v => [.row (α := Iv) 66 v (an t_0 t_1)]) [.emp] rfl (fun v _ => by simp only [bC, aw] <;> rfl) (fun v hv => by show aX (upd ξ 12 v 12); rw [aw]; exact hv.1.is) (aZ (d5 (vs := [t_0v, t_1v]) (aS Tryz.call34 rfl) (fun w_ hB_ hS_ => fT t_0 t_0v t_1 t_1v ct_0 ct_1 w_ (ht_0v.below hB_) (ht_1v.below hB_)))))
  · intro ξ hφ; have is2 : aX (ξ 2) := hφ 2 rfl; have is7 : aX (ξ 7) := hφ 7 rfl; have is12 : aX (ξ 12) := hφ 12 rfl; exact obI (md (v := (.agg #[(ξ 2), (ξ 7), (ξ 12)])) [] rfl rfl (by show upd ξ 13 _ 13 = _; rw [aw]; rfl) (eI j0 rfl is2 is7 is12))
  · intro ξ hφ; have g13 : ξ 13 = (.agg #[(ξ 2), (ξ 7), (ξ 12)]) := hφ 13 rfl; have is2 : aX (ξ 2) := hφ 2 rfl; have is7 : aX (ξ 7) := hφ 7 rfl; have is12 : aX (ξ 12) := hφ 12 rfl; exact obI (dD [.blk b2 [(.slice none 0 0), (.slice none 0 0), (.slice none 0 0)] 28] [.blk b2 [(ξ 2), (ξ 7), (ξ 12)] 28] rfl rfl (d8 zz28 rfl (Eq.trans rfl (congrArg some g13)) rfl rfl (kZ is2 is7 is12) rfl rfl))
  clear h ac wo; intro ξ ac wo hφ h
  have is2 : aX (ξ 2) := hφ 2
  have is7 : aX (ξ 7) := hφ 7
  have is12 : aX (ξ 12) := hφ 12
  have g13 : ξ 13 = (.agg #[(ξ 2), (ξ 7), (ξ 12)]) := hφ 13
  replace h : St w0 17 [(2, (ptr b2 0))] [.blk b2 [(ξ 2), (ξ 7), (ξ 12)] 28, .blk b1 [t_0v, t_1v, t_2v] 28, .row (α := Iv) 66 (ξ 2) t_0, .row (α := Iv) 66 (ξ 7) (an t_0 t_2), .row (α := Iv) 66 (ξ 12) (an t_0 t_1)] ac wo := (h.pick [0, 1, 2, 3, 4] (by decide)).sub ⟨rfl, trivial⟩
  try clear g13
  generalize ξ 2 = sv1 at h is2; have is_sv1 := is2; clear is2
  try clear g13
  generalize ξ 7 = sv2 at h is7; have is_sv2 := is7; clear is7
  try clear g13
  generalize ξ 12 = sv3 at h is12; have is_sv3 := is12; clear is12
  refine hK2 _ _ ?_
  refine dH ?_
  exact ret (rs := [.cell 2 28]) h rfl (.cell (v := (.agg #[sv1, sv2, sv3])) rfl (i := 0) rfl aa28 zz28 rfl rfl rfl .nil) rfl (h.retA ⟨rfl, jp is_sv1 is_sv2 is_sv3⟩ (h.pick [2, 3, 4] (by decide)))
theorem iZ (t_0 : List Iv) (t_0v : Value) (t_1 : List Iv) (t_1v : Value) (t_2 : List Iv) (t_2v : Value) (ct_0 : Cn t_0) (ct_1 : Cn t_1) (ct_2 : Cn t_2) (w0 : World) (ht_0v : View w0 t_0v t_0) (ht_1v : View w0 t_1v t_1) (ht_2v : View w0 t_2v t_2) : Calls Tryz.prog 26 #[(.agg #[t_0v, t_1v, t_2v])] w0 (l3 w0 (fun v => [t_0v, agc v 1, agc v 2]) (fun v => [.row (α := Iv) 66 (agc v 1) (an t_0 t_2), .row (α := Iv) 66 (agc v 2) (an t_0 t_1)])) := by
  refine enter (N := 16) (args := [(.agg #[t_0v, t_1v, t_2v])]) Tryz.func26 rfl rfl ?_; intro ac h
  have is_t_0 := SL.is ht_0v.sl
  have is_t_1 := SL.is ht_1v.sl
  have is_t_2 := SL.is ht_2v.sl
  refine cz fun K1 hK1 => ?_
  refine bx h [t_0v, t_1v, t_2v] rfl rfl rfl ?_; clear h ac; intro b1 ac wo h
  refine al h [(.slice none 0 0), (.slice none 0 0), (.slice none 0 0)] vv28 rfl rfl ?_; clear h ac wo; intro b2 ac wo h
  refine aW ?_
  refine hK1 _ _ ?_
  refine da fun K2 hK2 => ?_
  replace h := h.emps 2
  refine en [0, 1, 0, 4, 0, 16, 60, 0, 128, 0, 512, 2044, 4095, 8191] (by kernel_rfl) mixed [⟨.det (ptr b1 0), []⟩, ⟨.det t_0v, [1]⟩, ⟨.det (ptr b1 0), []⟩, ⟨.det t_0v, [1]⟩, ⟨.det (ptr b1 2), []⟩, ⟨.det t_2v, [1]⟩, ⟨.nd (.one 6 fun v => aX v), [2]⟩, ⟨.det (ptr b1 0), []⟩, ⟨.det t_0v, [1]⟩, ⟨.det (ptr b1 1), []⟩, ⟨.det t_1v, [1]⟩, ⟨.nd (.one 11 fun v => aX v), [3]⟩, ⟨.nd ⟨[12, 6, 11], fun ξ => ξ 12 = (.agg #[t_0v, (ξ 6), (ξ 11)]), fun ξ ξ_2 h_ => by simp only [h_ 12 (by simp), h_ 6 (by simp), h_ 11 (by simp)]⟩, []⟩, ⟨.det undef, [0]⟩] [⟨.blk b2 [(.slice none 0 0), (.slice none 0 0), (.slice none 0 0)] 28, [(13, ⟨[6, 11], fun ξ => .blk b2 [t_0v, (ξ 6), (ξ 11)] 28, fun ξ ξ_2 h_ => by simp only [h_ 6 (by simp), h_ 11 (by simp)]⟩)]⟩, ⟨.blk b1 [t_0v, t_1v, t_2v] 28, []⟩, ⟨.emp, [(6, .one 6 fun v => .row (α := Iv) 66 (v) (an t_0 t_2))]⟩, ⟨.emp, [(11, .one 11 fun v => .row (α := Iv) 66 (v) (an t_0 t_1))]⟩] h rfl (by kernel_rfl) ⟨?_, ?_, ?_, ?_, ?_, ?_, ?_, ?_, ?_, ?_, ?_, ?_, ?_, ?_, trivial⟩ ?_
  · intro ξ hφ; exact obI (az (dC uu28 rfl zz26 (by decide) rfl rfl (k' := 0)))
  · intro ξ hφ; exact obI (be [.blk b1 [t_0v, t_1v, t_2v] 28] rfl rfl (aN aa26 zz26 rfl rfl rfl (v := t_0v) rfl))
  · intro ξ hφ; exact obI (az (dC uu28 rfl zz26 (by decide) rfl rfl (k' := 0)))
  · intro ξ hφ; exact obI (be [.blk b1 [t_0v, t_1v, t_2v] 28] rfl rfl (aN aa26 zz26 rfl rfl rfl (v := t_0v) rfl))
  · intro ξ hφ; exact obI (az (dC uu28 rfl zz26 (by decide) rfl rfl (k' := 2)))
  · intro ξ hφ; exact obI (be [.blk b1 [t_0v, t_1v, t_2v] 28] rfl rfl (aN aa26 zz26 rfl rfl rfl (v := t_2v) rfl))
  · intro ξ hφ; exact obI (dJ (ψ := fun v => SL v (an t_0 t_2).length ∧ True) (B := fun v => [.row (α := Iv) 66 v (an t_0 t_2)]) [.emp] rfl (fun v _ => by simp only [bC, aw] <;> rfl) (fun v hv => by show aX (upd ξ 6 v 6); rw [aw]; exact hv.1.is) (aZ (d5 (vs := [t_0v, t_2v]) (aS Tryz.call57 rfl) (fun w_ hB_ hS_ => kH t_0 t_0v t_2 t_2v ct_0 ct_2 w_ (ht_0v.below hB_) (ht_2v.below hB_)))))
  · intro ξ hφ; exact obI (az (dC uu28 rfl zz26 (by decide) rfl rfl (k' := 0)))
  · intro ξ hφ; exact obI (be [.blk b1 [t_0v, t_1v, t_2v] 28] rfl rfl (aN aa26 zz26 rfl rfl rfl (v := t_0v) rfl))
  · intro ξ hφ; exact obI (az (dC uu28 rfl zz26 (by decide) rfl rfl (k' := 1)))
  · intro ξ hφ; exact obI (be [.blk b1 [t_0v, t_1v, t_2v] 28] rfl rfl (aN aa26 zz26 rfl rfl rfl (v := t_1v) rfl))
  · intro ξ hφ; exact obI (dJ (ψ := fun v => SL v (an t_0 t_1).length ∧ True) (B := fun v => [.row (α := Iv) 66 v (an t_0 t_1)]) [.emp] rfl (fun v _ => by simp only [bC, aw] <;> rfl) (fun v hv => by show aX (upd ξ 11 v 11); rw [aw]; exact hv.1.is) (aZ (d5 (vs := [t_0v, t_1v]) (aS Tryz.call57 rfl) (fun w_ hB_ hS_ => kH t_0 t_0v t_1 t_1v ct_0 ct_1 w_ (ht_0v.below hB_) (ht_1v.below hB_)))))
  · intro ξ hφ; have is6 : aX (ξ 6) := hφ 6 rfl; have is11 : aX (ξ 11) := hφ 11 rfl; exact obI (md (v := (.agg #[t_0v, (ξ 6), (ξ 11)])) [] rfl rfl (by show upd ξ 12 _ 12 = _; rw [aw]; rfl) (eI j0 rfl is_t_0 is6 is11))
  · intro ξ hφ; have g12 : ξ 12 = (.agg #[t_0v, (ξ 6), (ξ 11)]) := hφ 12 rfl; have is6 : aX (ξ 6) := hφ 6 rfl; have is11 : aX (ξ 11) := hφ 11 rfl; exact obI (dD [.blk b2 [(.slice none 0 0), (.slice none 0 0), (.slice none 0 0)] 28] [.blk b2 [t_0v, (ξ 6), (ξ 11)] 28] rfl rfl (d8 zz28 rfl (Eq.trans rfl (congrArg some g12)) rfl rfl (kZ is_t_0 is6 is11) rfl rfl))
  clear h ac wo; intro ξ ac wo hφ h
  have is6 : aX (ξ 6) := hφ 6
  have is11 : aX (ξ 11) := hφ 11
  have g12 : ξ 12 = (.agg #[t_0v, (ξ 6), (ξ 11)]) := hφ 12
  replace h : St w0 16 [(2, (ptr b2 0))] [.blk b2 [t_0v, (ξ 6), (ξ 11)] 28, .blk b1 [t_0v, t_1v, t_2v] 28, .row (α := Iv) 66 (ξ 6) (an t_0 t_2), .row (α := Iv) 66 (ξ 11) (an t_0 t_1)] ac wo := (h.pick [0, 1, 2, 3] (by decide)).sub ⟨rfl, trivial⟩
  try clear g12
  generalize ξ 6 = sv1 at h is6; have is_sv1 := is6; clear is6
  try clear g12
  generalize ξ 11 = sv2 at h is11; have is_sv2 := is11; clear is11
  refine hK2 _ _ ?_
  refine dH ?_
  exact ret (rs := [.cell 2 28]) h rfl (.cell (v := (.agg #[t_0v, sv1, sv2])) rfl (i := 0) rfl aa28 zz28 rfl rfl rfl .nil) rfl (h.retA ⟨rfl, jp is_t_0 is_sv1 is_sv2⟩ (h.pick [2, 3] (by decide)))
theorem iO (a_0 : List Iv) (a_0v : Value) (a_1 : List Iv) (a_1v : Value) (a_2 : List Iv) (a_2v : Value) (b_0 : List Iv) (b_0v : Value) (b_1 : List Iv) (b_1v : Value) (b_2 : List Iv) (b_2v : Value) (ca_0 : Cn a_0) (ca_1 : Cn a_1) (ca_2 : Cn a_2) (cb_0 : Cn b_0) (cb_1 : Cn b_1) (cb_2 : Cn b_2) (w0 : World) (ha_0v : View w0 a_0v a_0) (ha_1v : View w0 a_1v a_1) (ha_2v : View w0 a_2v a_2) (hb_0v : View w0 b_0v b_0) (hb_1v : View w0 b_1v b_1) (hb_2v : View w0 b_2v b_2) : Calls Tryz.prog 27 #[(.agg #[a_0v, a_1v, a_2v]), (.agg #[b_0v, b_1v, b_2v])] w0 (l3 w0 (fun v => [agc v 0, agc v 1, agc v 2]) (fun v => [.row (α := Iv) 66 (agc v 0) (ab a_0 b_0), .row (α := Iv) 66 (agc v 1) (ab a_1 b_1), .row (α := Iv) 66 (agc v 2) (ab a_2 b_2)])) := by
  refine enter (N := 21) (args := [(.agg #[a_0v, a_1v, a_2v]), (.agg #[b_0v, b_1v, b_2v])]) Tryz.func27 rfl rfl ?_; intro ac h
  have is_a_0 := SL.is ha_0v.sl
  have is_a_1 := SL.is ha_1v.sl
  have is_a_2 := SL.is ha_2v.sl
  have is_b_0 := SL.is hb_0v.sl
  have is_b_1 := SL.is hb_1v.sl
  have is_b_2 := SL.is hb_2v.sl
  refine cz fun K1 hK1 => ?_
  refine bx h [a_0v, a_1v, a_2v] rfl rfl rfl ?_; clear h ac; intro b1 ac wo h
  refine bx h [b_0v, b_1v, b_2v] rfl rfl rfl ?_; clear h ac wo; intro b2 ac wo h
  refine al h [(.slice none 0 0), (.slice none 0 0), (.slice none 0 0)] vv28 rfl rfl ?_; clear h ac wo; intro b3 ac wo h
  refine aW ?_
  refine hK1 _ _ ?_
  refine da fun K2 hK2 => ?_
  replace h := h.emps 3
  refine en [0, 1, 0, 4, 15, 0, 32, 0, 128, 511, 0, 1024, 0, 4096, 16383, 32767, 65535] (by kernel_rfl) mixed [⟨.det (ptr b1 0), []⟩, ⟨.det a_0v, [2]⟩, ⟨.det (ptr b2 0), []⟩, ⟨.det b_0v, [1]⟩, ⟨.nd (.one 4 fun v => aX v), [3]⟩, ⟨.det (ptr b1 1), []⟩, ⟨.det a_1v, [2]⟩, ⟨.det (ptr b2 1), []⟩, ⟨.det b_1v, [1]⟩, ⟨.nd (.one 9 fun v => aX v), [4]⟩, ⟨.det (ptr b1 2), []⟩, ⟨.det a_2v, [2]⟩, ⟨.det (ptr b2 2), []⟩, ⟨.det b_2v, [1]⟩, ⟨.nd (.one 14 fun v => aX v), [5]⟩, ⟨.nd ⟨[15, 4, 9, 14], fun ξ => ξ 15 = (.agg #[(ξ 4), (ξ 9), (ξ 14)]), fun ξ ξ_2 h_ => by simp only [h_ 15 (by simp), h_ 4 (by simp), h_ 9 (by simp), h_ 14 (by simp)]⟩, []⟩, ⟨.det undef, [0]⟩] [⟨.blk b3 [(.slice none 0 0), (.slice none 0 0), (.slice none 0 0)] 28, [(16, ⟨[4, 9, 14], fun ξ => .blk b3 [(ξ 4), (ξ 9), (ξ 14)] 28, fun ξ ξ_2 h_ => by simp only [h_ 4 (by simp), h_ 9 (by simp), h_ 14 (by simp)]⟩)]⟩, ⟨.blk b2 [b_0v, b_1v, b_2v] 28, []⟩, ⟨.blk b1 [a_0v, a_1v, a_2v] 28, []⟩, ⟨.emp, [(4, .one 4 fun v => .row (α := Iv) 66 (v) (ab a_0 b_0))]⟩, ⟨.emp, [(9, .one 9 fun v => .row (α := Iv) 66 (v) (ab a_1 b_1))]⟩, ⟨.emp, [(14, .one 14 fun v => .row (α := Iv) 66 (v) (ab a_2 b_2))]⟩] h rfl (by kernel_rfl) ⟨?_, ?_, ?_, ?_, ?_, ?_, ?_, ?_, ?_, ?_, ?_, ?_, ?_, ?_, ?_, ?_, ?_, trivial⟩ ?_
  · intro ξ hφ; exact obI (az (dC uu28 rfl zz26 (by decide) rfl rfl (k' := 0)))
  · intro ξ hφ; exact obI (be [.blk b1 [a_0v, a_1v, a_2v] 28] rfl rfl (aN aa26 zz26 rfl rfl rfl (v := a_0v) rfl))
  · intro ξ hφ; exact obI (az (dC uu28 rfl zz26 (by decide) rfl rfl (k' := 0)))
  · intro ξ hφ; exact obI (be [.blk b2 [b_0v, b_1v, b_2v] 28] rfl rfl (aN aa26 zz26 rfl rfl rfl (v := b_0v) rfl))
  · intro ξ hφ; exact obI (dJ (ψ := fun v => SL v (ab a_0 b_0).length ∧ True) (B := fun v => [.row (α := Iv) 66 v (ab a_0 b_0)]) [.emp] rfl (fun v _ => by simp only [bC, aw] <;> rfl) (fun v hv => by show aX (upd ξ 4 v 4); rw [aw]; exact hv.1.is) (aZ (d5 (vs := [a_0v, b_0v]) (aS cc11 rfl) (fun w_ hB_ hS_ => bH a_0 a_0v b_0 b_0v ca_0 cb_0 w_ (ha_0v.below hB_) (hb_0v.below hB_)))))
  · intro ξ hφ; exact obI (az (dC uu28 rfl zz26 (by decide) rfl rfl (k' := 1)))
  · intro ξ hφ; exact obI (be [.blk b1 [a_0v, a_1v, a_2v] 28] rfl rfl (aN aa26 zz26 rfl rfl rfl (v := a_1v) rfl))
  · intro ξ hφ; exact obI (az (dC uu28 rfl zz26 (by decide) rfl rfl (k' := 1)))
  · intro ξ hφ; exact obI (be [.blk b2 [b_0v, b_1v, b_2v] 28] rfl rfl (aN aa26 zz26 rfl rfl rfl (v := b_1v) rfl))
  · intro ξ hφ; exact obI (dJ (ψ := fun v => SL v (ab a_1 b_1).length ∧ True) (B := fun v => [.row (α := Iv) 66 v (ab a_1 b_1)]) [.emp] rfl (fun v _ => by simp only [bC, aw] <;> rfl) (fun v hv => by show aX (upd ξ 9 v 9); rw [aw]; exact hv.1.is) (aZ (d5 (vs := [a_1v, b_1v]) (aS cc11 rfl) (fun w_ hB_ hS_ => bH a_1 a_1v b_1 b_1v ca_1 cb_1 w_ (ha_1v.below hB_) (hb_1v.below hB_)))))
  · intro ξ hφ; exact obI (az (dC uu28 rfl zz26 (by decide) rfl rfl (k' := 2)))
  · intro ξ hφ; exact obI (be [.blk b1 [a_0v, a_1v, a_2v] 28] rfl rfl (aN aa26 zz26 rfl rfl rfl (v := a_2v) rfl))
  · intro ξ hφ; exact obI (az (dC uu28 rfl zz26 (by decide) rfl rfl (k' := 2)))
  · intro ξ hφ; exact obI (be [.blk b2 [b_0v, b_1v, b_2v] 28] rfl rfl (aN aa26 zz26 rfl rfl rfl (v := b_2v) rfl))
  · intro ξ hφ; exact obI (dJ (ψ := fun v => SL v (ab a_2 b_2).length ∧ True) (B := fun v => [.row (α := Iv) 66 v (ab a_2 b_2)]) [.emp] rfl (fun v _ => by simp only [bC, aw] <;> rfl) (fun v hv => by show aX (upd ξ 14 v 14); rw [aw]; exact hv.1.is) (aZ (d5 (vs := [a_2v, b_2v]) (aS cc11 rfl) (fun w_ hB_ hS_ => bH a_2 a_2v b_2 b_2v ca_2 cb_2 w_ (ha_2v.below hB_) (hb_2v.below hB_)))))
  · intro ξ hφ; have is4 : aX (ξ 4) := hφ 4 rfl; have is9 : aX (ξ 9) := hφ 9 rfl; have is14 : aX (ξ 14) := hφ 14 rfl; exact obI (md (v := (.agg #[(ξ 4), (ξ 9), (ξ 14)])) [] rfl rfl (by show upd ξ 15 _ 15 = _; rw [aw]; rfl) (eI j0 rfl is4 is9 is14))
  · intro ξ hφ; have g15 : ξ 15 = (.agg #[(ξ 4), (ξ 9), (ξ 14)]) := hφ 15 rfl; have is4 : aX (ξ 4) := hφ 4 rfl; have is9 : aX (ξ 9) := hφ 9 rfl; have is14 : aX (ξ 14) := hφ 14 rfl; exact obI (dD [.blk b3 [(.slice none 0 0), (.slice none 0 0), (.slice none 0 0)] 28] [.blk b3 [(ξ 4), (ξ 9), (ξ 14)] 28] rfl rfl (d8 zz28 rfl (Eq.trans rfl (congrArg some g15)) rfl rfl (kZ is4 is9 is14) rfl rfl))
  clear h ac wo; intro ξ ac wo hφ h
  have is4 : aX (ξ 4) := hφ 4
  have is9 : aX (ξ 9) := hφ 9
  have is14 : aX (ξ 14) := hφ 14
  have g15 : ξ 15 = (.agg #[(ξ 4), (ξ 9), (ξ 14)]) := hφ 15
  replace h : St w0 21 [(4, (ptr b3 0))] [.blk b3 [(ξ 4), (ξ 9), (ξ 14)] 28, .blk b2 [b_0v, b_1v, b_2v] 28, .blk b1 [a_0v, a_1v, a_2v] 28, .row (α := Iv) 66 (ξ 4) (ab a_0 b_0), .row (α := Iv) 66 (ξ 9) (ab a_1 b_1), .row (α := Iv) 66 (ξ 14) (ab a_2 b_2)] ac wo := (h.pick [0, 1, 2, 3, 4, 5] (by decide)).sub ⟨rfl, trivial⟩
  try clear g15
  generalize ξ 4 = sv1 at h is4; have is_sv1 := is4; clear is4
  try clear g15
  generalize ξ 9 = sv2 at h is9; have is_sv2 := is9; clear is9
  try clear g15
  generalize ξ 14 = sv3 at h is14; have is_sv3 := is14; clear is14
  refine hK2 _ _ ?_
  refine dH ?_
  exact ret (rs := [.cell 4 28]) h rfl (.cell (v := (.agg #[sv1, sv2, sv3])) rfl (i := 0) rfl aa28 zz28 rfl rfl rfl .nil) rfl (h.retA ⟨rfl, jp is_sv1 is_sv2 is_sv3⟩ (h.pick [3, 4, 5] (by decide)))
theorem i0 (a_0 : List Iv) (a_0v : Value) (a_1 : List Iv) (a_1v : Value) (a_2 : List Iv) (a_2v : Value) (b_0 : List Iv) (b_0v : Value) (b_1 : List Iv) (b_1v : Value) (b_2 : List Iv) (b_2v : Value) (ca_0 : Cn a_0) (ca_1 : Cn a_1) (ca_2 : Cn a_2) (cb_0 : Cn b_0) (cb_1 : Cn b_1) (cb_2 : Cn b_2) (w0 : World) (ha_0v : View w0 a_0v a_0) (ha_1v : View w0 a_1v a_1) (ha_2v : View w0 a_2v a_2) (hb_0v : View w0 b_0v b_0) (hb_1v : View w0 b_1v b_1) (hb_2v : View w0 b_2v b_2) : Calls Tryz.prog 28 #[(.agg #[a_0v, a_1v, a_2v]), (.agg #[b_0v, b_1v, b_2v])] w0 (l3 w0 (fun v => [agc v 0, agc v 1, agc v 2]) (fun v => [.row (α := Iv) 66 (agc v 0) (ab a_0 b_0), .row (α := Iv) 66 (agc v 1) (ab a_1 b_1), .row (α := Iv) 66 (agc v 2) (ab a_2 b_2)])) := by
  refine enter (N := 21) (args := [(.agg #[a_0v, a_1v, a_2v]), (.agg #[b_0v, b_1v, b_2v])]) Tryz.func28 rfl rfl ?_; intro ac h
  have is_a_0 := SL.is ha_0v.sl
  have is_a_1 := SL.is ha_1v.sl
  have is_a_2 := SL.is ha_2v.sl
  have is_b_0 := SL.is hb_0v.sl
  have is_b_1 := SL.is hb_1v.sl
  have is_b_2 := SL.is hb_2v.sl
  refine cz fun K1 hK1 => ?_
  refine bx h [a_0v, a_1v, a_2v] rfl rfl rfl ?_; clear h ac; intro b1 ac wo h
  refine bx h [b_0v, b_1v, b_2v] rfl rfl rfl ?_; clear h ac wo; intro b2 ac wo h
  refine al h [(.slice none 0 0), (.slice none 0 0), (.slice none 0 0)] vv28 rfl rfl ?_; clear h ac wo; intro b3 ac wo h
  refine aW ?_
  refine hK1 _ _ ?_
  refine da fun K2 hK2 => ?_
  replace h := h.emps 3
  refine en [0, 1, 0, 4, 15, 0, 32, 0, 128, 511, 0, 1024, 0, 4096, 16383, 32767, 65535] (by kernel_rfl) mixed [⟨.det (ptr b1 0), []⟩, ⟨.det a_0v, [2]⟩, ⟨.det (ptr b2 0), []⟩, ⟨.det b_0v, [1]⟩, ⟨.nd (.one 4 fun v => aX v), [3]⟩, ⟨.det (ptr b1 1), []⟩, ⟨.det a_1v, [2]⟩, ⟨.det (ptr b2 1), []⟩, ⟨.det b_1v, [1]⟩, ⟨.nd (.one 9 fun v => aX v), [4]⟩, ⟨.det (ptr b1 2), []⟩, ⟨.det a_2v, [2]⟩, ⟨.det (ptr b2 2), []⟩, ⟨.det b_2v, [1]⟩, ⟨.nd (.one 14 fun v => aX v), [5]⟩, ⟨.nd ⟨[15, 4, 9, 14], fun ξ => ξ 15 = (.agg #[(ξ 4), (ξ 9), (ξ 14)]), fun ξ ξ_2 h_ => by simp only [h_ 15 (by simp), h_ 4 (by simp), h_ 9 (by simp), h_ 14 (by simp)]⟩, []⟩, ⟨.det undef, [0]⟩] [⟨.blk b3 [(.slice none 0 0), (.slice none 0 0), (.slice none 0 0)] 28, [(16, ⟨[4, 9, 14], fun ξ => .blk b3 [(ξ 4), (ξ 9), (ξ 14)] 28, fun ξ ξ_2 h_ => by simp only [h_ 4 (by simp), h_ 9 (by simp), h_ 14 (by simp)]⟩)]⟩, ⟨.blk b2 [b_0v, b_1v, b_2v] 28, []⟩, ⟨.blk b1 [a_0v, a_1v, a_2v] 28, []⟩, ⟨.emp, [(4, .one 4 fun v => .row (α := Iv) 66 (v) (ab a_0 b_0))]⟩, ⟨.emp, [(9, .one 9 fun v => .row (α := Iv) 66 (v) (ab a_1 b_1))]⟩, ⟨.emp, [(14, .one 14 fun v => .row (α := Iv) 66 (v) (ab a_2 b_2))]⟩] h rfl (by kernel_rfl) ⟨?_, ?_, ?_, ?_, ?_, ?_, ?_, ?_, ?_, ?_, ?_, ?_, ?_, ?_, ?_, ?_, ?_, trivial⟩ ?_
  · intro ξ hφ; exact obI (az (dC uu28 rfl zz26 (by decide) rfl rfl (k' := 0)))
  · intro ξ hφ; exact obI (be [.blk b1 [a_0v, a_1v, a_2v] 28] rfl rfl (aN aa26 zz26 rfl rfl rfl (v := a_0v) rfl))
  · intro ξ hφ; exact obI (az (dC uu28 rfl zz26 (by decide) rfl rfl (k' := 0)))
  · intro ξ hφ; exact obI (be [.blk b2 [b_0v, b_1v, b_2v] 28] rfl rfl (aN aa26 zz26 rfl rfl rfl (v := b_0v) rfl))
  · intro ξ hφ; exact obI (dJ (ψ := fun v => SL v (ab a_0 b_0).length ∧ True) (B := fun v => [.row (α := Iv) 66 v (ab a_0 b_0)]) [.emp] rfl (fun v _ => by simp only [bC, aw] <;> rfl) (fun v hv => by show aX (upd ξ 4 v 4); rw [aw]; exact hv.1.is) (aZ (d5 (vs := [a_0v, b_0v]) (aS cc11 rfl) (fun w_ hB_ hS_ => bH a_0 a_0v b_0 b_0v ca_0 cb_0 w_ (ha_0v.below hB_) (hb_0v.below hB_)))))
  · intro ξ hφ; exact obI (az (dC uu28 rfl zz26 (by decide) rfl rfl (k' := 1)))
  · intro ξ hφ; exact obI (be [.blk b1 [a_0v, a_1v, a_2v] 28] rfl rfl (aN aa26 zz26 rfl rfl rfl (v := a_1v) rfl))
  · intro ξ hφ; exact obI (az (dC uu28 rfl zz26 (by decide) rfl rfl (k' := 1)))
  · intro ξ hφ; exact obI (be [.blk b2 [b_0v, b_1v, b_2v] 28] rfl rfl (aN aa26 zz26 rfl rfl rfl (v := b_1v) rfl))
  · intro ξ hφ; exact obI (dJ (ψ := fun v => SL v (ab a_1 b_1).length ∧ True) (B := fun v => [.row (α := Iv) 66 v (ab a_1 b_1)]) [.emp] rfl (fun v _ => by simp only [bC, aw] <;> rfl) (fun v hv => by show aX (upd ξ 9 v 9); rw [aw]; exact hv.1.is) (aZ (d5 (vs := [a_1v, b_1v]) (aS cc11 rfl) (fun w_ hB_ hS_ => bH a_1 a_1v b_1 b_1v ca_1 cb_1 w_ (ha_1v.below hB_) (hb_1v.below hB_)))))
  · intro ξ hφ; exact obI (az (dC uu28 rfl zz26 (by decide) rfl rfl (k' := 2)))
  · intro ξ hφ; exact obI (be [.blk b1 [a_0v, a_1v, a_2v] 28] rfl rfl (aN aa26 zz26 rfl rfl rfl (v := a_2v) rfl))
  · intro ξ hφ; exact obI (az (dC uu28 rfl zz26 (by decide) rfl rfl (k' := 2)))
  · intro ξ hφ; exact obI (be [.blk b2 [b_0v, b_1v, b_2v] 28] rfl rfl (aN aa26 zz26 rfl rfl rfl (v := b_2v) rfl))
  · intro ξ hφ; exact obI (dJ (ψ := fun v => SL v (ab a_2 b_2).length ∧ True) (B := fun v => [.row (α := Iv) 66 v (ab a_2 b_2)]) [.emp] rfl (fun v _ => by simp only [bC, aw] <;> rfl) (fun v hv => by show aX (upd ξ 14 v 14); rw [aw]; exact hv.1.is) (aZ (d5 (vs := [a_2v, b_2v]) (aS cc11 rfl) (fun w_ hB_ hS_ => bH a_2 a_2v b_2 b_2v ca_2 cb_2 w_ (ha_2v.below hB_) (hb_2v.below hB_)))))
  · intro ξ hφ; have is4 : aX (ξ 4) := hφ 4 rfl; have is9 : aX (ξ 9) := hφ 9 rfl; have is14 : aX (ξ 14) := hφ 14 rfl; exact obI (md (v := (.agg #[(ξ 4), (ξ 9), (ξ 14)])) [] rfl rfl (by show upd ξ 15 _ 15 = _; rw [aw]; rfl) (eI j0 rfl is4 is9 is14))
  · intro ξ hφ; have g15 : ξ 15 = (.agg #[(ξ 4), (ξ 9), (ξ 14)]) := hφ 15 rfl; have is4 : aX (ξ 4) := hφ 4 rfl; have is9 : aX (ξ 9) := hφ 9 rfl; have is14 : aX (ξ 14) := hφ 14 rfl; exact obI (dD [.blk b3 [(.slice none 0 0), (.slice none 0 0), (.slice none 0 0)] 28] [.blk b3 [(ξ 4), (ξ 9), (ξ 14)] 28] rfl rfl (d8 zz28 rfl (Eq.trans rfl (congrArg some g15)) rfl rfl (kZ is4 is9 is14) rfl rfl))
  clear h ac wo; intro ξ ac wo hφ h
  have is4 : aX (ξ 4) := hφ 4
  have is9 : aX (ξ 9) := hφ 9
  have is14 : aX (ξ 14) := hφ 14
  have g15 : ξ 15 = (.agg #[(ξ 4), (ξ 9), (ξ 14)]) := hφ 15
  replace h : St w0 21 [(4, (ptr b3 0))] [.blk b3 [(ξ 4), (ξ 9), (ξ 14)] 28, .blk b2 [b_0v, b_1v, b_2v] 28, .blk b1 [a_0v, a_1v, a_2v] 28, .row (α := Iv) 66 (ξ 4) (ab a_0 b_0), .row (α := Iv) 66 (ξ 9) (ab a_1 b_1), .row (α := Iv) 66 (ξ 14) (ab a_2 b_2)] ac wo := (h.pick [0, 1, 2, 3, 4, 5] (by decide)).sub ⟨rfl, trivial⟩
  try clear g15
  generalize ξ 4 = sv1 at h is4; have is_sv1 := is4; clear is4
  try clear g15
  generalize ξ 9 = sv2 at h is9; have is_sv2 := is9; clear is9
  try clear g15
  generalize ξ 14 = sv3 at h is14; have is_sv3 := is14; clear is14
  refine hK2 _ _ ?_
  refine dH ?_
  exact ret (rs := [.cell 4 28]) h rfl (.cell (v := (.agg #[sv1, sv2, sv3])) rfl (i := 0) rfl aa28 zz28 rfl rfl rfl .nil) rfl (h.retA ⟨rfl, jp is_sv1 is_sv2 is_sv3⟩ (h.pick [3, 4, 5] (by decide)))
theorem eN (t_0 : List Iv) (t_0v : Value) (t_1 : List Iv) (t_1v : Value) (t_2 : List Iv) (t_2v : Value) (during : List Iv) (duringv : Value) (ct_0 : Cn t_0) (ct_1 : Cn t_1) (ct_2 : Cn t_2) (cduring : Cn during) (w0 : World) (ht_0v : View w0 t_0v t_0) (ht_1v : View w0 t_1v t_1) (ht_2v : View w0 t_2v t_2) (hduringv : View w0 duringv during) : Calls Tryz.prog 31 #[(.agg #[t_0v, t_1v, t_2v]), duringv] w0 (l3 w0 (fun v => [agc v 0, agc v 1, agc v 2]) (fun v => [.row (α := Iv) 66 (agc v 0) (ab t_0 during), .row (α := Iv) 66 (agc v 1) (ab t_1 during), .row (α := Iv) 66 (agc v 2) (ab t_2 during)])) := by
  refine enter (N := 18) (args := [(.agg #[t_0v, t_1v, t_2v]), duringv]) Tryz.func31 rfl rfl ?_; intro ac h
  have is_t_0 := SL.is ht_0v.sl
  have is_t_1 := SL.is ht_1v.sl
  have is_t_2 := SL.is ht_2v.sl
  have is_during := SL.is hduringv.sl
  refine cz fun K1 hK1 => ?_
  refine bx h [t_0v, t_1v, t_2v] rfl rfl rfl ?_; clear h ac; intro b1 ac wo h
  refine al h [(.slice none 0 0), (.slice none 0 0), (.slice none 0 0)] vv28 rfl rfl ?_; clear h ac wo; intro b2 ac wo h
  refine aW ?_
  refine hK1 _ _ ?_
  refine da fun K2 hK2 => ?_
  replace h := h.emps 3
  refine en [0, 1, 0, 7, 0, 16, 0, 127, 0, 256, 0, 2047, 4095, 8191] (by kernel_rfl) mixed [⟨.det (ptr b1 0), []⟩, ⟨.det t_0v, [1]⟩, ⟨.det duringv, []⟩, ⟨.nd (.one 3 fun v => aX v), [2]⟩, ⟨.det (ptr b1 1), []⟩, ⟨.det t_1v, [1]⟩, ⟨.det duringv, []⟩, ⟨.nd (.one 7 fun v => aX v), [3]⟩, ⟨.det (ptr b1 2), []⟩, ⟨.det t_2v, [1]⟩, ⟨.det duringv, []⟩, ⟨.nd (.one 11 fun v => aX v), [4]⟩, ⟨.nd ⟨[12, 3, 7, 11], fun ξ => ξ 12 = (.agg #[(ξ 3), (ξ 7), (ξ 11)]), fun ξ ξ_2 h_ => by simp only [h_ 12 (by simp), h_ 3 (by simp), h_ 7 (by simp), h_ 11 (by simp)]⟩, []⟩, ⟨.det undef, [0]⟩] [⟨.blk b2 [(.slice none 0 0), (.slice none 0 0), (.slice none 0 0)] 28, [(13, ⟨[3, 7, 11], fun ξ => .blk b2 [(ξ 3), (ξ 7), (ξ 11)] 28, fun ξ ξ_2 h_ => by simp only [h_ 3 (by simp), h_ 7 (by simp), h_ 11 (by simp)]⟩)]⟩, ⟨.blk b1 [t_0v, t_1v, t_2v] 28, []⟩, ⟨.emp, [(3, .one 3 fun v => .row (α := Iv) 66 (v) (ab t_0 during))]⟩, ⟨.emp, [(7, .one 7 fun v => .row (α := Iv) 66 (v) (ab t_1 during))]⟩, ⟨.emp, [(11, .one 11 fun v => .row (α := Iv) 66 (v) (ab t_2 during))]⟩] h rfl (by kernel_rfl) ⟨?_, ?_, ?_, ?_, ?_, ?_, ?_, ?_, ?_, ?_, ?_, ?_, ?_, ?_, trivial⟩ ?_
  · intro ξ hφ; exact obI (az (dC uu28 rfl zz26 (by decide) rfl rfl (k' := 0)))
  · intro ξ hφ; exact obI (be [.blk b1 [t_0v, t_1v, t_2v] 28] rfl rfl (aN aa26 zz26 rfl rfl rfl (v := t_0v) rfl))
  · intro ξ hφ; exact obI (az (ak rfl))
  · intro ξ hφ; exact obI (dJ (ψ := fun v => SL v (ab t_0 during).length ∧ True) (B := fun v => [.row (α := Iv) 66 v (ab t_0 during)]) [.emp] rfl (fun v _ => by simp only [bC, aw] <;> rfl) (fun v hv => by show aX (upd ξ 3 v 3); rw [aw]; exact hv.1.is) (aZ (d5 (vs := [t_0v, duringv]) (aS cc11 rfl) (fun w_ hB_ hS_ => bH t_0 t_0v during duringv ct_0 cduring w_ (ht_0v.below hB_) (hduringv.below hB_)))))
  · intro ξ hφ; exact obI (az (dC uu28 rfl zz26 (by decide) rfl rfl (k' := 1)))
  · intro ξ hφ; exact obI (be [.blk b1 [t_0v, t_1v, t_2v] 28] rfl rfl (aN aa26 zz26 rfl rfl rfl (v := t_1v) rfl))
  · intro ξ hφ; exact obI (az (ak rfl))
  · intro ξ hφ; exact obI (dJ (ψ := fun v => SL v (ab t_1 during).length ∧ True) (B := fun v => [.row (α := Iv) 66 v (ab t_1 during)]) [.emp] rfl (fun v _ => by simp only [bC, aw] <;> rfl) (fun v hv => by show aX (upd ξ 7 v 7); rw [aw]; exact hv.1.is) (aZ (d5 (vs := [t_1v, duringv]) (aS cc11 rfl) (fun w_ hB_ hS_ => bH t_1 t_1v during duringv ct_1 cduring w_ (ht_1v.below hB_) (hduringv.below hB_)))))
  · intro ξ hφ; exact obI (az (dC uu28 rfl zz26 (by decide) rfl rfl (k' := 2)))
  · intro ξ hφ; exact obI (be [.blk b1 [t_0v, t_1v, t_2v] 28] rfl rfl (aN aa26 zz26 rfl rfl rfl (v := t_2v) rfl))
  · intro ξ hφ; exact obI (az (ak rfl))
  · intro ξ hφ; exact obI (dJ (ψ := fun v => SL v (ab t_2 during).length ∧ True) (B := fun v => [.row (α := Iv) 66 v (ab t_2 during)]) [.emp] rfl (fun v _ => by simp only [bC, aw] <;> rfl) (fun v hv => by show aX (upd ξ 11 v 11); rw [aw]; exact hv.1.is) (aZ (d5 (vs := [t_2v, duringv]) (aS cc11 rfl) (fun w_ hB_ hS_ => bH t_2 t_2v during duringv ct_2 cduring w_ (ht_2v.below hB_) (hduringv.below hB_)))))
  · intro ξ hφ; have is3 : aX (ξ 3) := hφ 3 rfl; have is7 : aX (ξ 7) := hφ 7 rfl; have is11 : aX (ξ 11) := hφ 11 rfl; exact obI (md (v := (.agg #[(ξ 3), (ξ 7), (ξ 11)])) [] rfl rfl (by show upd ξ 12 _ 12 = _; rw [aw]; rfl) (eI j0 rfl is3 is7 is11))
  · intro ξ hφ; have g12 : ξ 12 = (.agg #[(ξ 3), (ξ 7), (ξ 11)]) := hφ 12 rfl; have is3 : aX (ξ 3) := hφ 3 rfl; have is7 : aX (ξ 7) := hφ 7 rfl; have is11 : aX (ξ 11) := hφ 11 rfl; exact obI (dD [.blk b2 [(.slice none 0 0), (.slice none 0 0), (.slice none 0 0)] 28] [.blk b2 [(ξ 3), (ξ 7), (ξ 11)] 28] rfl rfl (d8 zz28 rfl (Eq.trans rfl (congrArg some g12)) rfl rfl (kZ is3 is7 is11) rfl rfl))
  clear h ac wo; intro ξ ac wo hφ h
  have is3 : aX (ξ 3) := hφ 3
  have is7 : aX (ξ 7) := hφ 7
  have is11 : aX (ξ 11) := hφ 11
  have g12 : ξ 12 = (.agg #[(ξ 3), (ξ 7), (ξ 11)]) := hφ 12
  replace h : St w0 18 [(4, (ptr b2 0))] [.blk b2 [(ξ 3), (ξ 7), (ξ 11)] 28, .blk b1 [t_0v, t_1v, t_2v] 28, .row (α := Iv) 66 (ξ 3) (ab t_0 during), .row (α := Iv) 66 (ξ 7) (ab t_1 during), .row (α := Iv) 66 (ξ 11) (ab t_2 during)] ac wo := (h.pick [0, 1, 2, 3, 4] (by decide)).sub ⟨rfl, trivial⟩
  try clear g12
  generalize ξ 3 = sv1 at h is3; have is_sv1 := is3; clear is3
  try clear g12
  generalize ξ 7 = sv2 at h is7; have is_sv2 := is7; clear is7
  try clear g12
  generalize ξ 11 = sv3 at h is11; have is_sv3 := is11; clear is11
  refine hK2 _ _ ?_
  refine dH ?_
  exact ret (rs := [.cell 4 28]) h rfl (.cell (v := (.agg #[sv1, sv2, sv3])) rfl (i := 0) rfl aa28 zz28 rfl rfl rfl .nil) rfl (h.retA ⟨rfl, jp is_sv1 is_sv2 is_sv3⟩ (h.pick [2, 3, 4] (by decide)))
theorem jl (a_0 : List Iv) (a_0v : Value) (a_1 : List Iv) (a_1v : Value) (a_2 : List Iv) (a_2v : Value) (b_0 : List Iv) (b_0v : Value) (b_1 : List Iv) (b_1v : Value) (b_2 : List Iv) (b_2v : Value) (ca_0 : Cn a_0) (ca_1 : Cn a_1) (ca_2 : Cn a_2) (cb_0 : Cn b_0) (cb_1 : Cn b_1) (cb_2 : Cn b_2) (w0 : World) (ha_0v : View w0 a_0v a_0) (ha_1v : View w0 a_1v a_1) (ha_2v : View w0 a_2v a_2) (hb_0v : View w0 b_0v b_0) (hb_1v : View w0 b_1v b_1) (hb_2v : View w0 b_2v b_2) : Calls Tryz.prog 29 #[(.agg #[a_0v, a_1v, a_2v]), (.agg #[b_0v, b_1v, b_2v])] w0 (l3 w0 (fun v => [agc v 0, agc v 1, agc v 2]) (fun v => [.row (α := Iv) 66 (agc v 0) (ab (ab a_0 b_0) (ab a_0 b_0)), .row (α := Iv) 66 (agc v 1) (ab (am a_1 b_1) (ab a_0 b_0)), .row (α := Iv) 66 (agc v 2) (ab (am a_2 b_2) (ab a_0 b_0))])) := by
  refine enter (N := 27) (args := [(.agg #[a_0v, a_1v, a_2v]), (.agg #[b_0v, b_1v, b_2v])]) Tryz.func29 rfl rfl ?_; intro ac h
  have is_a_0 := SL.is ha_0v.sl
  have is_a_1 := SL.is ha_1v.sl
  have is_a_2 := SL.is ha_2v.sl
  have is_b_0 := SL.is hb_0v.sl
  have is_b_1 := SL.is hb_1v.sl
  have is_b_2 := SL.is hb_2v.sl
  refine cz fun K1 hK1 => ?_
  refine bx h [a_0v, a_1v, a_2v] rfl rfl rfl ?_; clear h ac; intro b1 ac wo h
  refine bx h [b_0v, b_1v, b_2v] rfl rfl rfl ?_; clear h ac wo; intro b2 ac wo h
  refine al h [(.slice none 0 0), (.slice none 0 0), (.slice none 0 0)] vv28 rfl rfl ?_; clear h ac wo; intro b3 ac wo h
  refine aW ?_
  refine hK1 _ _ ?_
  refine cz fun K2 hK2 => ?_
  refine rd0 h (dC uu28 rfl zz26 (by decide) rfl rfl (k' := 0)) rfl ?_; clear h ac wo; intro ac wo h
  refine rd1 h 2 rfl (aN aa26 zz26 rfl rfl rfl (v := a_0v) rfl) rfl ?_; clear h ac wo; intro ac wo h
  refine rd0 h (dC uu28 rfl zz26 (by decide) rfl rfl (k' := 0)) rfl ?_; clear h ac wo; intro ac wo h
  refine rd1 h 1 rfl (aN aa26 zz26 rfl rfl rfl (v := b_0v) rfl) rfl ?_; clear h ac wo; intro ac wo h
  refine eU (vs := [a_0v, b_0v]) (xs := (ab a_0 b_0)) h (aS cc11 rfl) (fun w_ hB_ hS_ => bH a_0 a_0v b_0 b_0v ca_0 cb_0 w_ (ha_0v.below hB_) (hb_0v.below hB_)) rfl ?_; clear h ac wo; intro sv1 ac wo _ h
  have is_sv1 := SL.is (h.row_sl 0 rfl)
  refine rd0 h (aj rfl) rfl ?_; clear h ac wo; intro ac wo h
  refine aW ?_
  refine hK2 _ _ ?_
  refine da fun K3 hK3 => ?_
  replace h := h.emps 3
  refine en [0, 0, 2, 0, 8, 30, 0, 64, 0, 256, 1022, 2047, 0, 8191] (by kernel_rfl) mixed [⟨.det sv1, []⟩, ⟨.det (ptr b1 1), []⟩, ⟨.det a_1v, [3]⟩, ⟨.det (ptr b2 1), []⟩, ⟨.det b_1v, [2]⟩, ⟨.nd (.one 5 fun v => aX v), [4]⟩, ⟨.det (ptr b1 2), []⟩, ⟨.det a_2v, [3]⟩, ⟨.det (ptr b2 2), []⟩, ⟨.det b_2v, [2]⟩, ⟨.nd (.one 10 fun v => aX v), [5]⟩, ⟨.nd ⟨[11, 5, 10], fun ξ => ξ 11 = (.agg #[sv1, (ξ 5), (ξ 10)]), fun ξ ξ_2 h_ => by simp only [h_ 11 (by simp), h_ 5 (by simp), h_ 10 (by simp)]⟩, []⟩, ⟨.nd (.one 12 fun v => ∃ b, v = ptr b 0), [6]⟩, ⟨.det undef, [6]⟩] [⟨.row (α := Iv) 66 sv1 (ab a_0 b_0), []⟩, ⟨.blk b3 [(.slice none 0 0), (.slice none 0 0), (.slice none 0 0)] 28, []⟩, ⟨.blk b2 [b_0v, b_1v, b_2v] 28, []⟩, ⟨.blk b1 [a_0v, a_1v, a_2v] 28, []⟩, ⟨.emp, [(5, .one 5 fun v => .row (α := Iv) 66 (v) (am a_1 b_1))]⟩, ⟨.emp, [(10, .one 10 fun v => .row (α := Iv) 66 (v) (am a_2 b_2))]⟩, ⟨.emp, [(12, .one 12 fun v => .blk (a8 (v)) [(.slice none 0 0), (.slice none 0 0), (.slice none 0 0)] 28), (13, ⟨[5, 10, 12], fun ξ => .blk (a8 (ξ 12)) [sv1, (ξ 5), (ξ 10)] 28, fun ξ ξ_2 h_ => by simp only [h_ 5 (by simp), h_ 10 (by simp), h_ 12 (by simp)]⟩)]⟩] h rfl (by kernel_rfl) ⟨?_, ?_, ?_, ?_, ?_, ?_, ?_, ?_, ?_, ?_, ?_, ?_, ?_, ?_, trivial⟩ ?_
  · intro ξ hφ; exact obI (az (ak rfl))
  · intro ξ hφ; exact obI (az (dC uu28 rfl zz26 (by decide) rfl rfl (k' := 1)))
  · intro ξ hφ; exact obI (be [.blk b1 [a_0v, a_1v, a_2v] 28] rfl rfl (aN aa26 zz26 rfl rfl rfl (v := a_1v) rfl))
  · intro ξ hφ; exact obI (az (dC uu28 rfl zz26 (by decide) rfl rfl (k' := 1)))
  · intro ξ hφ; exact obI (be [.blk b2 [b_0v, b_1v, b_2v] 28] rfl rfl (aN aa26 zz26 rfl rfl rfl (v := b_1v) rfl))
  · intro ξ hφ; exact obI (dJ (ψ := fun v => SL v (am a_1 b_1).length ∧ True) (B := fun v => [.row (α := Iv) 66 v (am a_1 b_1)]) [.emp] rfl (fun v _ => by simp only [bC, aw] <;> rfl) (fun v hv => by show aX (upd ξ 5 v 5); rw [aw]; exact hv.1.is) (aZ (d5 (vs := [a_1v, b_1v]) (aS cc48 rfl) (fun w_ hB_ hS_ => e9 a_1 a_1v b_1 b_1v ca_1 cb_1 w_ (ha_1v.below hB_) (hb_1v.below hB_)))))
  · intro ξ hφ; exact obI (az (dC uu28 rfl zz26 (by decide) rfl rfl (k' := 2)))
  · intro ξ hφ; exact obI (be [.blk b1 [a_0v, a_1v, a_2v] 28] rfl rfl (aN aa26 zz26 rfl rfl rfl (v := a_2v) rfl))
  · intro ξ hφ; exact obI (az (dC uu28 rfl zz26 (by decide) rfl rfl (k' := 2)))
  · intro ξ hφ; exact obI (be [.blk b2 [b_0v, b_1v, b_2v] 28] rfl rfl (aN aa26 zz26 rfl rfl rfl (v := b_2v) rfl))
  · intro ξ hφ; exact obI (dJ (ψ := fun v => SL v (am a_2 b_2).length ∧ True) (B := fun v => [.row (α := Iv) 66 v (am a_2 b_2)]) [.emp] rfl (fun v _ => by simp only [bC, aw] <;> rfl) (fun v hv => by show aX (upd ξ 10 v 10); rw [aw]; exact hv.1.is) (aZ (d5 (vs := [a_2v, b_2v]) (aS cc48 rfl) (fun w_ hB_ hS_ => e9 a_2 a_2v b_2 b_2v ca_2 cb_2 w_ (ha_2v.below hB_) (hb_2v.below hB_)))))
  · intro ξ hφ; have is5 : aX (ξ 5) := hφ 5 rfl; have is10 : aX (ξ 10) := hφ 10 rfl; exact obI (md (v := (.agg #[sv1, (ξ 5), (ξ 10)])) [] rfl rfl (by show upd ξ 11 _ 11 = _; rw [aw]; rfl) (eI j0 rfl is_sv1 is5 is10))
  · intro ξ hφ; exact obI (dJ (ψ := fun v => ∃ b, v = ptr b 0) (B := fun v => [.blk (a8 v) [(.slice none 0 0), (.slice none 0 0), (.slice none 0 0)] 28]) [.emp] rfl (fun v _ => by simp only [bC, aw] <;> rfl) (fun v hv => by simpa [DF.one, aw] using hv) (fc (dq vv28 rfl)))
  · intro ξ hφ; obtain ⟨b4, hb12⟩ : ∃ b, ξ 12 = ptr b 0 := hφ 12 rfl; have g11 : ξ 11 = (.agg #[sv1, (ξ 5), (ξ 10)]) := hφ 11 rfl; have is5 : aX (ξ 5) := hφ 5 rfl; have is10 : aX (ξ 10) := hφ 10 rfl; exact obI (dD [.blk b4 [(.slice none 0 0), (.slice none 0 0), (.slice none 0 0)] 28] [.blk b4 [sv1, (ξ 5), (ξ 10)] 28] (congrArg (fun v => [Asn.blk (a8 v) [(.slice none 0 0), (.slice none 0 0), (.slice none 0 0)] 28]) hb12) (congrArg (fun v => [Asn.blk (a8 v) [sv1, (ξ 5), (ξ 10)] 28]) hb12) (d8 zz28 (Eq.trans rfl (congrArg some hb12)) (Eq.trans rfl (congrArg some g11)) rfl rfl (kZ is_sv1 is5 is10) rfl rfl))
  clear h ac wo; intro ξ ac wo hφ h
  have is5 : aX (ξ 5) := hφ 5
  have is10 : aX (ξ 10) := hφ 10
  have g11 : ξ 11 = (.agg #[sv1, (ξ 5), (ξ 10)]) := hφ 11
  obtain ⟨b4, hb12⟩ : ∃ b, ξ 12 = ptr b 0 := hφ 12
  replace h : St w0 27 [(4, (ptr b3 0)), (5, sv1), (6, (ptr b4 0))] [.row (α := Iv) 66 sv1 (ab a_0 b_0), .blk b3 [(.slice none 0 0), (.slice none 0 0), (.slice none 0 0)] 28, .blk b2 [b_0v, b_1v, b_2v] 28, .blk b1 [a_0v, a_1v, a_2v] 28, .row (α := Iv) 66 (ξ 5) (am a_1 b_1), .row (α := Iv) 66 (ξ 10) (am a_2 b_2), .blk (a8 (ξ 12)) [sv1, (ξ 5), (ξ 10)] 28] ac wo := (h.pick [0, 1, 2, 3, 4, 5, 6] (by decide)).sub ⟨rfl, rfl, (Eq.trans rfl (congrArg some hb12)), trivial⟩
  rw [hb12] at h
  try clear g11
  generalize ξ 5 = sv2 at h is5; have is_sv2 := is5; clear is5
  try clear g11
  generalize ξ 10 = sv3 at h is10; have is_sv3 := is10; clear is10
  refine hK3 _ _ ?_
  refine cz fun K4 hK4 => ?_
  refine rd1 h 6 rfl (aN aa28 zz28 rfl rfl rfl (v := (.agg #[sv1, sv2, sv3])) rfl) rfl ?_; clear h ac wo; intro ac wo h
  refine rd0 h (ak rfl) rfl ?_; clear h ac wo; intro ac wo h
  refine c_ag (vs := [(.agg #[sv1, sv2, sv3]), sv1]) h (aS Tryz.call31 rfl) (fun w_ hB_ hS_ => eN (ab a_0 b_0) sv1 (am a_1 b_1) sv2 (am a_2 b_2) sv3 (ab a_0 b_0) sv1 (Cn.inter ca_0 cb_0) (Cn.union ca_1 cb_1) (Cn.union ca_2 cb_2) (Cn.inter ca_0 cb_0) w_ (row_view hS_ 0 rfl) (row_view hS_ 4 rfl) (row_view hS_ 5 rfl) (row_view hS_ 0 rfl)) rfl ?_; clear h ac wo; intro va ac wo ha h
  obtain ⟨ha, hi⟩ := ha
  generalize agc va 0 = sv4 at h ha hi
  generalize agc va 1 = sv5 at h ha hi
  generalize agc va 2 = sv6 at h ha hi
  obtain ⟨is_sv4, is_sv5, is_sv6⟩ := sl3 hi
  subst ha
  refine st h 4 [sv4, sv5, sv6] rfl zz28 rfl rfl rfl rfl (kZ is_sv4 is_sv5 is_sv6) rfl rfl ?_; clear h ac wo; intro ac wo h
  refine aW ?_
  refine hK4 _ _ ?_
  refine dH ?_
  exact ret (rs := [.cell 4 28]) h rfl (.cell (v := (.agg #[sv4, sv5, sv6])) rfl (i := 4) rfl aa28 zz28 rfl rfl rfl .nil) rfl (h.retA ⟨rfl, jp is_sv4 is_sv5 is_sv6⟩ (h.pick [0, 1, 2] (by decide)))
theorem jq (a_0 : List Iv) (a_0v : Value) (a_1 : List Iv) (a_1v : Value) (a_2 : List Iv) (a_2v : Value) (b_0 : List Iv) (b_0v : Value) (b_1 : List Iv) (b_1v : Value) (b_2 : List Iv) (b_2v : Value) (ca_0 : Cn a_0) (ca_1 : Cn a_1) (ca_2 : Cn a_2) (cb_0 : Cn b_0) (cb_1 : Cn b_1) (cb_2 : Cn b_2) (w0 : World) (ha_0v : View w0 a_0v a_0) (ha_1v : View w0 a_1v a_1) (ha_2v : View w0 a_2v a_2) (hb_0v : View w0 b_0v b_0) (hb_1v : View w0 b_1v b_1) (hb_2v : View w0 b_2v b_2) : Calls Tryz.prog 30 #[(.agg #[a_0v, a_1v, a_2v]), (.agg #[b_0v, b_1v, b_2v])] w0 (l3 w0 (fun v => [agc v 0, agc v 1, agc v 2]) (fun v => [.row (α := Iv) 66 (agc v 0) (ab a_0 b_0), .row (α := Iv) 66 (agc v 1) (ab (ab a_0 b_0) (am a_1 b_1)), .row (α := Iv) 66 (agc v 2) (ab (ab a_0 b_0) (am a_2 b_2))])) := by
  refine enter (N := 27) (args := [(.agg #[a_0v, a_1v, a_2v]), (.agg #[b_0v, b_1v, b_2v])]) Tryz.func30 rfl rfl ?_; intro ac h
  have is_a_0 := SL.is ha_0v.sl
  have is_a_1 := SL.is ha_1v.sl
  have is_a_2 := SL.is ha_2v.sl
  have is_b_0 := SL.is hb_0v.sl
  have is_b_1 := SL.is hb_1v.sl
  have is_b_2 := SL.is hb_2v.sl
  refine cz fun K1 hK1 => ?_
  refine bx h [a_0v, a_1v, a_2v] rfl rfl rfl ?_; clear h ac; intro b1 ac wo h
  refine bx h [b_0v, b_1v, b_2v] rfl rfl rfl ?_; clear h ac wo; intro b2 ac wo h
  refine al h [(.slice none 0 0), (.slice none 0 0), (.slice none 0 0)] vv28 rfl rfl ?_; clear h ac wo; intro b3 ac wo h
  refine aW ?_
  refine hK1 _ _ ?_
  refine cz fun K2 hK2 => ?_
  refine rd0 h (dC uu28 rfl zz26 (by decide) rfl rfl (k' := 0)) rfl ?_; clear h ac wo; intro ac wo h
  refine rd1 h 2 rfl (aN aa26 zz26 rfl rfl rfl (v := a_0v) rfl) rfl ?_; clear h ac wo; intro ac wo h
  refine rd0 h (dC uu28 rfl zz26 (by decide) rfl rfl (k' := 0)) rfl ?_; clear h ac wo; intro ac wo h
  refine rd1 h 1 rfl (aN aa26 zz26 rfl rfl rfl (v := b_0v) rfl) rfl ?_; clear h ac wo; intro ac wo h
  refine eU (vs := [a_0v, b_0v]) (xs := (ab a_0 b_0)) h (aS cc11 rfl) (fun w_ hB_ hS_ => bH a_0 a_0v b_0 b_0v ca_0 cb_0 w_ (ha_0v.below hB_) (hb_0v.below hB_)) rfl ?_; clear h ac wo; intro sv1 ac wo _ h
  have is_sv1 := SL.is (h.row_sl 0 rfl)
  refine rd0 h (aj rfl) rfl ?_; clear h ac wo; intro ac wo h
  refine aW ?_
  refine hK2 _ _ ?_
  refine da fun K3 hK3 => ?_
  replace h := h.emps 4
  refine en [0, 0, 0, 4, 0, 16, 60, 126, 0, 0, 512, 0, 2048, 7934, 16382, 32767, 65535] (by kernel_rfl) mixed [⟨.det sv1, []⟩, ⟨.det sv1, []⟩, ⟨.det (ptr b1 1), []⟩, ⟨.det a_1v, [3]⟩, ⟨.det (ptr b2 1), []⟩, ⟨.det b_1v, [2]⟩, ⟨.nd (.one 6 fun v => aX v), [4]⟩, ⟨.nd (.one 7 fun v => aX v), [5, 0, 4]⟩, ⟨.det sv1, []⟩, ⟨.det (ptr b1 2), []⟩, ⟨.det a_2v, [3]⟩, ⟨.det (ptr b2 2), []⟩, ⟨.det b_2v, [2]⟩, ⟨.nd (.one 13 fun v => aX v), [6]⟩, ⟨.nd (.one 14 fun v => aX v), [7, 0, 6]⟩, ⟨.nd ⟨[15, 7, 14], fun ξ => ξ 15 = (.agg #[sv1, (ξ 7), (ξ 14)]), fun ξ ξ_2 h_ => by simp only [h_ 15 (by simp), h_ 7 (by simp), h_ 14 (by simp)]⟩, []⟩, ⟨.det undef, [1]⟩] [⟨.row (α := Iv) 66 sv1 (ab a_0 b_0), []⟩, ⟨.blk b3 [(.slice none 0 0), (.slice none 0 0), (.slice none 0 0)] 28, [(16, ⟨[7, 14], fun ξ => .blk b3 [sv1, (ξ 7), (ξ 14)] 28, fun ξ ξ_2 h_ => by simp only [h_ 7 (by simp), h_ 14 (by simp)]⟩)]⟩, ⟨.blk b2 [b_0v, b_1v, b_2v] 28, []⟩, ⟨.blk b1 [a_0v, a_1v, a_2v] 28, []⟩, ⟨.emp, [(6, .one 6 fun v => .row (α := Iv) 66 (v) (am a_1 b_1))]⟩, ⟨.emp, [(7, .one 7 fun v => .row (α := Iv) 66 (v) (ab (ab a_0 b_0) (am a_1 b_1)))]⟩, ⟨.emp, [(13, .one 13 fun v => .row (α := Iv) 66 (v) (am a_2 b_2))]⟩, ⟨.emp, [(14, .one 14 fun v => .row (α := Iv) 66 (v) (ab (ab a_0 b_0) (am a_2 b_2)))]⟩] h rfl (by kernel_rfl) ⟨?_, ?_, ?_, ?_, ?_, ?_, ?_, ?_, ?_, ?_, ?_, ?_, ?_, ?_, ?_, ?_, ?_, trivial⟩ ?_
  · intro ξ hφ; exact obI (az (ak rfl))
  · intro ξ hφ; exact obI (az (ak rfl))
  · intro ξ hφ; exact obI (az (dC uu28 rfl zz26 (by decide) rfl rfl (k' := 1)))
  · intro ξ hφ; exact obI (be [.blk b1 [a_0v, a_1v, a_2v] 28] rfl rfl (aN aa26 zz26 rfl rfl rfl (v := a_1v) rfl))
  · intro ξ hφ; exact obI (az (dC uu28 rfl zz26 (by decide) rfl rfl (k' := 1)))
  · intro ξ hφ; exact obI (be [.blk b2 [b_0v, b_1v, b_2v] 28] rfl rfl (aN aa26 zz26 rfl rfl rfl (v := b_1v) rfl))
  · intro ξ hφ; exact obI (dJ (ψ := fun v => SL v (am a_1 b_1).length ∧ True) (B := fun v => [.row (α := Iv) 66 v (am a_1 b_1)]) [.emp] rfl (fun v _ => by simp only [bC, aw] <;> rfl) (fun v hv => by show aX (upd ξ 6 v 6); rw [aw]; exact hv.1.is) (aZ (d5 (vs := [a_1v, b_1v]) (aS cc48 rfl) (fun w_ hB_ hS_ => e9 a_1 a_1v b_1 b_1v ca_1 cb_1 w_ (ha_1v.below hB_) (hb_1v.below hB_)))))
  · intro ξ hφ; have is6 : aX (ξ 6) := hφ 6 rfl; exact obI (dJ (ψ := fun v => SL v (ab (ab a_0 b_0) (am a_1 b_1)).length ∧ True) (B := fun v => [.row (α := Iv) 66 v (ab (ab a_0 b_0) (am a_1 b_1)), .row (α := Iv) 66 sv1 (ab a_0 b_0), .row (α := Iv) 66 (ξ 6) (am a_1 b_1)]) [.emp, .row (α := Iv) 66 sv1 (ab a_0 b_0), .row (α := Iv) 66 (ξ 6) (am a_1 b_1)] rfl (fun v _ => by simp only [bC, aw] <;> rfl) (fun v hv => by show aX (upd ξ 7 v 7); rw [aw]; exact hv.1.is) (aZ (d5 (vs := [sv1, (ξ 6)]) (aS cc11 rfl) (fun w_ hB_ hS_ => bH (ab a_0 b_0) sv1 (am a_1 b_1) (ξ 6) (Cn.inter ca_0 cb_0) (Cn.union ca_1 cb_1) w_ (row_view hS_ 0 rfl) (row_view hS_ 1 rfl)))))
  · intro ξ hφ; exact obI (az (ak rfl))
  · intro ξ hφ; exact obI (az (dC uu28 rfl zz26 (by decide) rfl rfl (k' := 2)))
  · intro ξ hφ; exact obI (be [.blk b1 [a_0v, a_1v, a_2v] 28] rfl rfl (aN aa26 zz26 rfl rfl rfl (v := a_2v) rfl))
  · intro ξ hφ; exact obI (az (dC uu28 rfl zz26 (by decide) rfl rfl (k' := 2)))
  · intro ξ hφ; exact obI (be [.blk b2 [b_0v, b_1v, b_2v] 28] rfl rfl (aN aa26 zz26 rfl rfl rfl (v := b_2v) rfl))
  · intro ξ hφ; exact obI (dJ (ψ := fun v => SL v (am a_2 b_2).length ∧ True) (B := fun v => [.row (α := Iv) 66 v (am a_2 b_2)]) [.emp] rfl (fun v _ => by simp only [bC, aw] <;> rfl) (fun v hv => by show aX (upd ξ 13 v 13); rw [aw]; exact hv.1.is) (aZ (d5 (vs := [a_2v, b_2v]) (aS cc48 rfl) (fun w_ hB_ hS_ => e9 a_2 a_2v b_2 b_2v ca_2 cb_2 w_ (ha_2v.below hB_) (hb_2v.below hB_)))))
  · intro ξ hφ; have is13 : aX (ξ 13) := hφ 13 rfl; exact obI (dJ (ψ := fun v => SL v (ab (ab a_0 b_0) (am a_2 b_2)).length ∧ True) (B := fun v => [.row (α := Iv) 66 v (ab (ab a_0 b_0) (am a_2 b_2)), .row (α := Iv) 66 sv1 (ab a_0 b_0), .row (α := Iv) 66 (ξ 13) (am a_2 b_2)]) [.emp, .row (α := Iv) 66 sv1 (ab a_0 b_0), .row (α := Iv) 66 (ξ 13) (am a_2 b_2)] rfl (fun v _ => by simp only [bC, aw] <;> rfl) (fun v hv => by show aX (upd ξ 14 v 14); rw [aw]; exact hv.1.is) (aZ (d5 (vs := [sv1, (ξ 13)]) (aS cc11 rfl) (fun w_ hB_ hS_ => bH (ab a_0 b_0) sv1 (am a_2 b_2) (ξ 13) (Cn.inter ca_0 cb_0) (Cn.union ca_2 cb_2) w_ (row_view hS_ 0 rfl) (row_view hS_ 1 rfl)))))
  · intro ξ hφ; have is7 : aX (ξ 7) := hφ 7 rfl; have is14 : aX (ξ 14) := hφ 14 rfl; exact obI (md (v := (.agg #[sv1, (ξ 7), (ξ 14)])) [] rfl rfl (by show upd ξ 15 _ 15 = _; rw [aw]; rfl) (eI j0 rfl is_sv1 is7 is14))
  · intro ξ hφ; have g15 : ξ 15 = (.agg #[sv1, (ξ 7), (ξ 14)]) := hφ 15 rfl; have is7 : aX (ξ 7) := hφ 7 rfl; have is14 : aX (ξ 14) := hφ 14 rfl; exact obI (dD [.blk b3 [(.slice none 0 0), (.slice none 0 0), (.slice none 0 0)] 28] [.blk b3 [sv1, (ξ 7), (ξ 14)] 28] rfl rfl (d8 zz28 rfl (Eq.trans rfl (congrArg some g15)) rfl rfl (kZ is_sv1 is7 is14) rfl rfl))
  clear h ac wo; intro ξ ac wo hφ h
  have is6 : aX (ξ 6) := hφ 6
  have is7 : aX (ξ 7) := hφ 7
  have is13 : aX (ξ 13) := hφ 13
  have is14 : aX (ξ 14) := hφ 14
  have g15 : ξ 15 = (.agg #[sv1, (ξ 7), (ξ 14)]) := hφ 15
  replace h : St w0 27 [(4, (ptr b3 0))] [.row (α := Iv) 66 sv1 (ab a_0 b_0), .blk b3 [sv1, (ξ 7), (ξ 14)] 28, .blk b2 [b_0v, b_1v, b_2v] 28, .blk b1 [a_0v, a_1v, a_2v] 28, .row (α := Iv) 66 (ξ 7) (ab (ab a_0 b_0) (am a_1 b_1)), .row (α := Iv) 66 (ξ 14) (ab (ab a_0 b_0) (am a_2 b_2))] ac wo := (h.pick [0, 1, 2, 3, 5, 7] (by decide)).sub ⟨rfl, trivial⟩
  try clear g15
  generalize ξ 7 = sv2 at h is7; have is_sv2 := is7; clear is7
  try clear g15
  generalize ξ 14 = sv3 at h is14; have is_sv3 := is14; clear is14
  refine hK3 _ _ ?_
  refine dH ?_
  exact ret (rs := [.cell 4 28]) h rfl (.cell (v := (.agg #[sv1, sv2, sv3])) rfl (i := 1) rfl aa28 zz28 rfl rfl rfl .nil) rfl (h.retA ⟨rfl, jp is_sv1 is_sv2 is_sv3⟩ (h.pick [0, 4, 5] (by decide)))
theorem gi (b_0 : List Iv) (b_0v : Value) (b_1 : List Iv) (b_1v : Value) (cb_0 : Cn b_0) (cb_1 : Cn b_1) (w0 : World) (hb_0v : View w0 b_0v b_0) (hb_1v : View w0 b_1v b_1) : Calls Tryz.prog 15 #[(.agg #[b_0v, b_1v])] w0 (l3 w0 (fun v => [agc v 0, agc v 1, agc v 2]) (fun v => [.row (α := Iv) 66 (agc v 0) b_0, .row (α := Iv) 66 (agc v 1) b_1, .row (α := Iv) 66 (agc v 2) b_1])) := by
  refine enter (N := 13) (args := [(.agg #[b_0v, b_1v])]) Tryz.func15 rfl rfl ?_; intro ac h
  have is_b_0 := SL.is hb_0v.sl
  have is_b_1 := SL.is hb_1v.sl
  refine cz fun K1 hK1 => ?_
  refine bx h [b_0v, b_1v] rfl rfl rfl ?_; clear h ac; intro b1 ac wo h
  refine al h [(.slice none 0 0), (.slice none 0 0), (.slice none 0 0)] vv28 rfl rfl ?_; clear h ac wo; intro b2 ac wo h
  refine aW ?_
  refine hK1 _ _ ?_
  refine da fun K2 hK2 => ?_
  replace h := h.emps 3
  refine en [0, 1, 3, 0, 8, 31, 0, 64, 255, 511, 1023] (by kernel_rfl) mixed [⟨.det (ptr b1 0), []⟩, ⟨.det b_0v, [1]⟩, ⟨.nd (.one 2 fun v => aX v), [2]⟩, ⟨.det (ptr b1 1), []⟩, ⟨.det b_1v, [1]⟩, ⟨.nd (.one 5 fun v => aX v), [3]⟩, ⟨.det (ptr b1 1), []⟩, ⟨.det b_1v, [1]⟩, ⟨.nd (.one 8 fun v => aX v), [4]⟩, ⟨.nd ⟨[9, 2, 5, 8], fun ξ => ξ 9 = (.agg #[(ξ 2), (ξ 5), (ξ 8)]), fun ξ ξ_2 h_ => by simp only [h_ 9 (by simp), h_ 2 (by simp), h_ 5 (by simp), h_ 8 (by simp)]⟩, []⟩, ⟨.det undef, [0]⟩] [⟨.blk b2 [(.slice none 0 0), (.slice none 0 0), (.slice none 0 0)] 28, [(10, ⟨[2, 5, 8], fun ξ => .blk b2 [(ξ 2), (ξ 5), (ξ 8)] 28, fun ξ ξ_2 h_ => by simp only [h_ 2 (by simp), h_ 5 (by simp), h_ 8 (by simp)]⟩)]⟩, ⟨.blk b1 [b_0v, b_1v] 33, []⟩, ⟨.emp, [(2, .one 2 fun v => .row (α := Iv) 66 (v) b_0)]⟩, ⟨.emp, [(5, .one 5 fun v => .row (α := Iv) 66 (v) b_1)]⟩, ⟨.emp, [(8, .one 8 fun v => .row (α := Iv) 66 (v) b_1)]⟩] h rfl (by kernel_rfl) ⟨?_, ?_, ?_, ?_, ?_, ?_, ?_, ?_, ?_, ?_, ?_, trivial⟩ ?_
  · intro ξ hφ; exact obI (az (dC uu33 rfl zz26 (by decide) rfl rfl (k' := 0)))
  · intro ξ hφ; exact obI (be [.blk b1 [b_0v, b_1v] 33] rfl rfl (aN aa26 zz26 rfl rfl rfl (v := b_0v) rfl))
  · intro ξ hφ; exact obI (dJ (ψ := fun v => SL v b_0.length ∧ True) (B := fun v => [.row (α := Iv) 66 v b_0]) [.emp] rfl (fun v _ => by simp only [bC, aw] <;> rfl) (fun v hv => by show aX (upd ξ 2 v 2); rw [aw]; exact hv.1.is) (aZ (d5 (vs := [b_0v]) (aS cc49 rfl) (fun w_ hB_ hS_ => fU b_0 b_0v cb_0 w_ (hb_0v.below hB_)))))
  · intro ξ hφ; exact obI (az (dC uu33 rfl zz26 (by decide) rfl rfl (k' := 1)))
  · intro ξ hφ; exact obI (be [.blk b1 [b_0v, b_1v] 33] rfl rfl (aN aa26 zz26 rfl rfl rfl (v := b_1v) rfl))
  · intro ξ hφ; exact obI (dJ (ψ := fun v => SL v b_1.length ∧ True) (B := fun v => [.row (α := Iv) 66 v b_1]) [.emp] rfl (fun v _ => by simp only [bC, aw] <;> rfl) (fun v hv => by show aX (upd ξ 5 v 5); rw [aw]; exact hv.1.is) (aZ (d5 (vs := [b_1v]) (aS cc49 rfl) (fun w_ hB_ hS_ => fU b_1 b_1v cb_1 w_ (hb_1v.below hB_)))))
  · intro ξ hφ; exact obI (az (dC uu33 rfl zz26 (by decide) rfl rfl (k' := 1)))
  · intro ξ hφ; exact obI (be [.blk b1 [b_0v, b_1v] 33] rfl rfl (aN aa26 zz26 rfl rfl rfl (v := b_1v) rfl))
  · intro ξ hφ; exact obI (dJ (ψ := fun v => SL v b_1.length ∧ True) (B := fun v => [.row (α := Iv) 66 v b_1]) [.emp] rfl (fun v _ => by simp only [bC, aw] <;> rfl) (fun v hv => by show aX (upd ξ 8 v 8); rw [aw]; exact hv.1.is) (aZ (d5 (vs := [b_1v]) (aS cc49 rfl) (fun w_ hB_ hS_ => fU b_1 b_1v cb_1 w_ (hb_1v.below hB_)))))
  · intro ξ hφ; have is2 : aX (ξ 2) := hφ 2 rfl; have is5 : aX (ξ 5) := hφ 5 rfl; have is8 : aX (ξ 8) := hφ 8 rfl; exact obI (md (v := (.agg #[(ξ 2), (ξ 5), (ξ 8)])) [] rfl rfl (by show upd ξ 9 _ 9 = _; rw [aw]; rfl) (eI j0 rfl is2 is5 is8))
  · intro ξ hφ; have g9 : ξ 9 = (.agg #[(ξ 2), (ξ 5), (ξ 8)]) := hφ 9 rfl; have is2 : aX (ξ 2) := hφ 2 rfl; have is5 : aX (ξ 5) := hφ 5 rfl; have is8 : aX (ξ 8) := hφ 8 rfl; exact obI (dD [.blk b2 [(.slice none 0 0), (.slice none 0 0), (.slice none 0 0)] 28] [.blk b2 [(ξ 2), (ξ 5), (ξ 8)] 28] rfl rfl (d8 zz28 rfl (Eq.trans rfl (congrArg some g9)) rfl rfl (kZ is2 is5 is8) rfl rfl))
  clear h ac wo; intro ξ ac wo hφ h
  have is2 : aX (ξ 2) := hφ 2
  have is5 : aX (ξ 5) := hφ 5
  have is8 : aX (ξ 8) := hφ 8
  have g9 : ξ 9 = (.agg #[(ξ 2), (ξ 5), (ξ 8)]) := hφ 9
  replace h : St w0 13 [(2, (ptr b2 0))] [.blk b2 [(ξ 2), (ξ 5), (ξ 8)] 28, .blk b1 [b_0v, b_1v] 33, .row (α := Iv) 66 (ξ 2) b_0, .row (α := Iv) 66 (ξ 5) b_1, .row (α := Iv) 66 (ξ 8) b_1] ac wo := (h.pick [0, 1, 2, 3, 4] (by decide)).sub ⟨rfl, trivial⟩
  try clear g9
  generalize ξ 2 = sv1 at h is2; have is_sv1 := is2; clear is2
  try clear g9
  generalize ξ 5 = sv2 at h is5; have is_sv2 := is5; clear is5
  try clear g9
  generalize ξ 8 = sv3 at h is8; have is_sv3 := is8; clear is8
  refine hK2 _ _ ?_
  refine dH ?_
  exact ret (rs := [.cell 2 28]) h rfl (.cell (v := (.agg #[sv1, sv2, sv3])) rfl (i := 0) rfl aa28 zz28 rfl rfl rfl .nil) rfl (h.retA ⟨rfl, jp is_sv1 is_sv2 is_sv3⟩ (h.pick [2, 3, 4] (by decide)))
theorem jH (t_0 : List Iv) (t_0v : Value) (t_1 : List Iv) (t_1v : Value) (t_2 : List Iv) (t_2v : Value) (ct_0 : Cn t_0) (ct_1 : Cn t_1) (ct_2 : Cn t_2) (w0 : World) (ht_0v : View w0 t_0v t_0) (ht_1v : View w0 t_1v t_1) (ht_2v : View w0 t_2v t_2) : Calls Tryz.prog 18 #[(.agg #[t_0v, t_1v, t_2v])] w0 (RetP w0 (.int .i64 (bJ (ax t_1 t_0) (!(ax t_2 t_0)))) True) := by
  refine enter (N := 15) (args := [(.agg #[t_0v, t_1v, t_2v])]) Tryz.func18 rfl rfl ?_; intro ac h
  have is_t_0 := SL.is ht_0v.sl
  have is_t_1 := SL.is ht_1v.sl
  have is_t_2 := SL.is ht_2v.sl
  refine cz fun K1 hK1 => ?_
  refine bx h [t_0v, t_1v, t_2v] rfl rfl rfl ?_; clear h ac; intro b1 ac wo h
  refine rd0 h (aj rfl (v := (.int .i64 0))) rfl ?_; clear h ac wo; intro ac wo h
  refine aW ?_
  refine hK1 _ _ ?_
  refine da fun K2 hK2 => ?_
  refine en [0, 1, 0, 4, 15, 0, 32, 0, 128, 511, 1023, 2047, 4095] (by kernel_rfl) mixed [⟨.det (ptr b1 1), []⟩, ⟨.det t_1v, [0]⟩, ⟨.det (ptr b1 0), []⟩, ⟨.det t_0v, [0]⟩, ⟨.det (.bool (ax t_1 t_0)), []⟩, ⟨.det (ptr b1 2), []⟩, ⟨.det t_2v, [0]⟩, ⟨.det (ptr b1 0), []⟩, ⟨.det t_0v, [0]⟩, ⟨.det (.bool (ax t_2 t_0)), []⟩, ⟨.det (.bool (!(ax t_2 t_0))), []⟩, ⟨.det (.int .i64 (bJ (ax t_1 t_0) (!(ax t_2 t_0)))), []⟩, ⟨.det (.int .i64 (bJ (ax t_1 t_0) (!(ax t_2 t_0)))), []⟩] [⟨.blk b1 [t_0v, t_1v, t_2v] 28, []⟩] h rfl (by kernel_rfl) ⟨?_, ?_, ?_, ?_, ?_, ?_, ?_, ?_, ?_, ?_, ?_, ?_, ?_, trivial⟩ ?_
  · intro ξ hφ; exact obI (az (dC uu28 rfl zz26 (by decide) rfl rfl (k' := 1)))
  · intro ξ hφ; exact obI (be [.blk b1 [t_0v, t_1v, t_2v] 28] rfl rfl (aN aa26 zz26 rfl rfl rfl (v := t_1v) rfl))
  · intro ξ hφ; exact obI (az (dC uu28 rfl zz26 (by decide) rfl rfl (k' := 0)))
  · intro ξ hφ; exact obI (be [.blk b1 [t_0v, t_1v, t_2v] 28] rfl rfl (aN aa26 zz26 rfl rfl rfl (v := t_0v) rfl))
  · intro ξ hφ; exact obI (dN (cP (vs := [t_1v, t_0v]) (aS Tryz.call32 rfl) (fun w_ hB_ hS_ => ee t_1 t_1v t_0 t_0v ct_1 ct_0 w_ (ht_1v.below hB_) (ht_0v.below hB_))))
  · intro ξ hφ; exact obI (az (dC uu28 rfl zz26 (by decide) rfl rfl (k' := 2)))
  · intro ξ hφ; exact obI (be [.blk b1 [t_0v, t_1v, t_2v] 28] rfl rfl (aN aa26 zz26 rfl rfl rfl (v := t_2v) rfl))
  · intro ξ hφ; exact obI (az (dC uu28 rfl zz26 (by decide) rfl rfl (k' := 0)))
  · intro ξ hφ; exact obI (be [.blk b1 [t_0v, t_1v, t_2v] 28] rfl rfl (aN aa26 zz26 rfl rfl rfl (v := t_0v) rfl))
  · intro ξ hφ; exact obI (dN (cP (vs := [t_2v, t_0v]) (aS Tryz.call32 rfl) (fun w_ hB_ hS_ => ee t_2 t_2v t_0 t_0v ct_2 ct_0 w_ (ht_2v.below hB_) (ht_0v.below hB_))))
  · intro ξ hφ; exact obI (az (fL rfl))
  · intro ξ hφ; exact obI (dN (cP (vs := [(.bool (ax t_1 t_0)), (.bool (!(ax t_2 t_0)))]) (aS Tryz.call52 rfl) (fun w_ hB_ hS_ => eV (ax t_1 t_0) (!(ax t_2 t_0)) w_ )))
  · intro ξ hφ; exact obI (az (aj rfl))
  clear h ac wo; intro ξ ac wo hφ h
  replace h : St w0 15 [(2, (.int .i64 (bJ (ax t_1 t_0) (!(ax t_2 t_0)))))] [.blk b1 [t_0v, t_1v, t_2v] 28] ac wo := (h.pick [0] (by decide)).sub ⟨rfl, trivial⟩
  refine hK2 _ _ ?_
  refine dH ?_
  exact ret (rs := [.tmp 2]) h rfl (.tmp rfl .nil) rfl (h.retP rfl trivial)
theorem jB (b_0 : List Iv) (b_0v : Value) (b_1 : List Iv) (b_1v : Value) (cb_0 : Cn b_0) (cb_1 : Cn b_1) (w0 : World) (hb_0v : View w0 b_0v b_0) (hb_1v : View w0 b_1v b_1) : Calls Tryz.prog 35 #[(.agg #[b_0v, b_1v])] w0 (l3 w0 (fun v => [agc v 0, agc v 1]) (fun v => [.row (α := Iv) 66 (agc v 0) b_0, .row (α := Iv) 66 (agc v 1) (an b_0 b_1)])) := by
  refine enter (N := 9) (args := [(.agg #[b_0v, b_1v])]) Tryz.func35 rfl rfl ?_; intro ac h
  have is_b_0 := SL.is hb_0v.sl
  have is_b_1 := SL.is hb_1v.sl
  refine cz fun K1 hK1 => ?_
  refine bx h [b_0v, b_1v] rfl rfl rfl ?_; clear h ac; intro b1 ac wo h
  refine al h [(.slice none 0 0), (.slice none 0 0)] vv33 rfl rfl ?_; clear h ac wo; intro b2 ac wo h
  refine aW ?_
  refine hK1 _ _ ?_
  refine da fun K2 hK2 => ?_
  replace h := h.emps 2
  refine en [0, 1, 3, 0, 15, 31, 63] (by kernel_rfl) mixed [⟨.det (ptr b1 0), []⟩, ⟨.det b_0v, [1]⟩, ⟨.nd (.one 2 fun v => aX v), [2]⟩, ⟨.det (.agg #[b_0v, b_1v]), [1]⟩, ⟨.nd (.one 4 fun v => aX v), [3]⟩, ⟨.nd ⟨[5, 2, 4], fun ξ => ξ 5 = (.agg #[(ξ 2), (ξ 4)]), fun ξ ξ_2 h_ => by simp only [h_ 5 (by simp), h_ 2 (by simp), h_ 4 (by simp)]⟩, []⟩, ⟨.det undef, [0]⟩] [⟨.blk b2 [(.slice none 0 0), (.slice none 0 0)] 33, [(6, ⟨[2, 4], fun ξ => .blk b2 [(ξ 2), (ξ 4)] 33, fun ξ ξ_2 h_ => by simp only [h_ 2 (by simp), h_ 4 (by simp)]⟩)]⟩, ⟨.blk b1 [b_0v, b_1v] 33, []⟩, ⟨.emp, [(2, .one 2 fun v => .row (α := Iv) 66 (v) b_0)]⟩, ⟨.emp, [(4, .one 4 fun v => .row (α := Iv) 66 (v) (an b_0 b_1))]⟩] h rfl (by kernel_rfl) ⟨?_, ?_, ?_, ?_, ?_, ?_, ?_, trivial⟩ ?_
  · intro ξ hφ; exact obI (az (dC uu33 rfl zz26 (by decide) rfl rfl (k' := 0)))
  · intro ξ hφ; exact obI (be [.blk b1 [b_0v, b_1v] 33] rfl rfl (aN aa26 zz26 rfl rfl rfl (v := b_0v) rfl))
  · intro ξ hφ; exact obI (dJ (ψ := fun v => SL v b_0.length ∧ True) (B := fun v => [.row (α := Iv) 66 v b_0]) [.emp] rfl (fun v _ => by simp only [bC, aw] <;> rfl) (fun v hv => by show aX (upd ξ 2 v 2); rw [aw]; exact hv.1.is) (aZ (d5 (vs := [b_0v]) (aS cc49 rfl) (fun w_ hB_ hS_ => fU b_0 b_0v cb_0 w_ (hb_0v.below hB_)))))
  · intro ξ hφ; exact obI (be [.blk b1 [b_0v, b_1v] 33] rfl rfl (aN aa33 zz33 rfl rfl rfl (v := (.agg #[b_0v, b_1v])) rfl))
  · intro ξ hφ; exact obI (dJ (ψ := fun v => SL v (an b_0 b_1).length ∧ True) (B := fun v => [.row (α := Iv) 66 v (an b_0 b_1)]) [.emp] rfl (fun v _ => by simp only [bC, aw] <;> rfl) (fun v hv => by show aX (upd ξ 4 v 4); rw [aw]; exact hv.1.is) (aZ (d5 (vs := [(.agg #[b_0v, b_1v])]) (aS Tryz.call54 rfl) (fun w_ hB_ hS_ => iS b_0 b_0v b_1 b_1v cb_0 cb_1 w_ (hb_0v.below hB_) (hb_1v.below hB_)))))
  · intro ξ hφ; have is2 : aX (ξ 2) := hφ 2 rfl; have is4 : aX (ξ 4) := hφ 4 rfl; exact obI (md (v := (.agg #[(ξ 2), (ξ 4)])) [] rfl rfl (by show upd ξ 5 _ 5 = _; rw [aw]; rfl) (f7 lX rfl is2 is4))
  · intro ξ hφ; have g5 : ξ 5 = (.agg #[(ξ 2), (ξ 4)]) := hφ 5 rfl; have is2 : aX (ξ 2) := hφ 2 rfl; have is4 : aX (ξ 4) := hφ 4 rfl; exact obI (dD [.blk b2 [(.slice none 0 0), (.slice none 0 0)] 33] [.blk b2 [(ξ 2), (ξ 4)] 33] rfl rfl (d8 zz33 rfl (Eq.trans rfl (congrArg some g5)) rfl rfl (one2 is2 is4) rfl rfl))
  clear h ac wo; intro ξ ac wo hφ h
  have is2 : aX (ξ 2) := hφ 2
  have is4 : aX (ξ 4) := hφ 4
  have g5 : ξ 5 = (.agg #[(ξ 2), (ξ 4)]) := hφ 5
  replace h : St w0 9 [(2, (ptr b2 0))] [.blk b2 [(ξ 2), (ξ 4)] 33, .blk b1 [b_0v, b_1v] 33, .row (α := Iv) 66 (ξ 2) b_0, .row (α := Iv) 66 (ξ 4) (an b_0 b_1)] ac wo := (h.pick [0, 1, 2, 3] (by decide)).sub ⟨rfl, trivial⟩
  try clear g5
  generalize ξ 2 = sv1 at h is2; have is_sv1 := is2; clear is2
  try clear g5
  generalize ξ 4 = sv2 at h is4; have is_sv2 := is4; clear is4
  refine hK2 _ _ ?_
  refine dH ?_
  exact ret (rs := [.cell 2 33]) h rfl (.cell (v := (.agg #[sv1, sv2])) rfl (i := 0) rfl aa33 zz33 rfl rfl rfl .nil) rfl (h.retA ⟨rfl, kz is_sv1 is_sv2⟩ (h.pick [2, 3] (by decide)))
theorem f8 (a_0 : List Iv) (a_0v : Value) (a_1 : List Iv) (a_1v : Value) (b_0 : List Iv) (b_0v : Value) (b_1 : List Iv) (b_1v : Value) (true_ : List Iv) (true_v : Value) (ca_0 : Cn a_0) (ca_1 : Cn a_1) (cb_0 : Cn b_0) (cb_1 : Cn b_1) (ctrue_ : Cn true_) (w0 : World) (ha_0v : View w0 a_0v a_0) (ha_1v : View w0 a_1v a_1) (hb_0v : View w0 b_0v b_0) (hb_1v : View w0 b_1v b_1) (htrue_v : View w0 true_v true_) : Calls Tryz.prog 60 #[(.agg #[a_0v, a_1v]), (.agg #[b_0v, b_1v]), true_v] w0 (l3 w0 (fun v => [agc v 0, agc v 1]) (fun v => [.row (α := Iv) 66 (agc v 0) (ab a_0 b_0), .row (α := Iv) 66 (agc v 1) (ab (ab a_0 b_0) true_)])) := by
  refine enter (N := 18) (args := [(.agg #[a_0v, a_1v]), (.agg #[b_0v, b_1v]), true_v]) Tryz.func60 rfl rfl ?_; intro ac h
  have is_a_0 := SL.is ha_0v.sl
  have is_a_1 := SL.is ha_1v.sl
  have is_b_0 := SL.is hb_0v.sl
  have is_b_1 := SL.is hb_1v.sl
  have is_true_ := SL.is htrue_v.sl
  refine cz fun K1 hK1 => ?_
  refine bx h [a_0v, a_1v] rfl rfl rfl ?_; clear h ac; intro b1 ac wo h
  refine bx h [b_0v, b_1v] rfl rfl rfl ?_; clear h ac wo; intro b2 ac wo h
  refine al h [(.slice none 0 0), (.slice none 0 0)] vv33 rfl rfl ?_; clear h ac wo; intro b3 ac wo h
  refine aW ?_
  refine hK1 _ _ ?_
  refine cz fun K2 hK2 => ?_
  refine rd0 h (dC uu33 rfl zz26 (by decide) rfl rfl (k' := 0)) rfl ?_; clear h ac wo; intro ac wo h
  refine rd1 h 2 rfl (aN aa26 zz26 rfl rfl rfl (v := a_0v) rfl) rfl ?_; clear h ac wo; intro ac wo h
  refine rd0 h (dC uu33 rfl zz26 (by decide) rfl rfl (k' := 0)) rfl ?_; clear h ac wo; intro ac wo h
  refine rd1 h 1 rfl (aN aa26 zz26 rfl rfl rfl (v := b_0v) rfl) rfl ?_; clear h ac wo; intro ac wo h
  refine eU (vs := [a_0v, b_0v]) (xs := (ab a_0 b_0)) h (aS cc11 rfl) (fun w_ hB_ hS_ => bH a_0 a_0v b_0 b_0v ca_0 cb_0 w_ (ha_0v.below hB_) (hb_0v.below hB_)) rfl ?_; clear h ac wo; intro sv1 ac wo _ h
  have is_sv1 := SL.is (h.row_sl 0 rfl)
  refine rd0 h (aj rfl) rfl ?_; clear h ac wo; intro ac wo h
  refine aW ?_
  refine hK2 _ _ ?_
  refine cz fun K3 hK3 => ?_
  refine rd0 h (ak rfl) rfl ?_; clear h ac wo; intro ac wo h
  refine rd0 h (ak rfl) rfl ?_; clear h ac wo; intro ac wo h
  refine rd0 h (ak rfl) rfl ?_; clear h ac wo; intro ac wo h
  refine eU (vs := [sv1, true_v]) (xs := (ab (ab a_0 b_0) true_)) h (aS cc11 rfl) (fun w_ hB_ hS_ => bH (ab a_0 b_0) sv1 true_ true_v (Cn.inter ca_0 cb_0) ctrue_ w_ (row_view hS_ 0 rfl) (htrue_v.below hB_)) rfl ?_; clear h ac wo; intro sv2 ac wo _ h
  have is_sv2 := SL.is (h.row_sl 0 rfl)
  refine rd0 h (f7 lX rfl is_sv1 is_sv2) rfl ?_; clear h ac wo; intro ac wo h
  refine st h 2 [sv1, sv2] rfl zz33 rfl rfl rfl rfl (one2 is_sv1 is_sv2) rfl rfl ?_; clear h ac wo; intro ac wo h
  refine aW ?_
  refine hK3 _ _ ?_
  replace h := h.sub (F' := [(6, (ptr b3 0))]) ⟨rfl, trivial⟩
  refine dH ?_
  exact ret (rs := [.cell 6 33]) h rfl (.cell (v := (.agg #[sv1, sv2])) rfl (i := 2) rfl aa33 zz33 rfl rfl rfl .nil) rfl (h.retA ⟨rfl, kz is_sv1 is_sv2⟩ (h.pick [1, 0] (by decide)))
theorem jC (a_0 : List Iv) (a_0v : Value) (a_1 : List Iv) (a_1v : Value) (b_0 : List Iv) (b_0v : Value) (b_1 : List Iv) (b_1v : Value) (ca_0 : Cn a_0) (ca_1 : Cn a_1) (cb_0 : Cn b_0) (cb_1 : Cn b_1) (w0 : World) (ha_0v : View w0 a_0v a_0) (ha_1v : View w0 a_1v a_1) (hb_0v : View w0 b_0v b_0) (hb_1v : View w0 b_1v b_1) : Calls Tryz.prog 36 #[(.agg #[a_0v, a_1v]), (.agg #[b_0v, b_1v])] w0 (l3 w0 (fun v => [agc v 0, agc v 1]) (fun v => [.row (α := Iv) 66 (agc v 0) (ab a_0 b_0), .row (α := Iv) 66 (agc v 1) (ab (ab a_0 b_0) (ab a_1 b_1))])) := by
  refine enter (N := 13) (args := [(.agg #[a_0v, a_1v]), (.agg #[b_0v, b_1v])]) Tryz.func36 rfl rfl ?_; intro ac h
  have is_a_0 := SL.is ha_0v.sl
  have is_a_1 := SL.is ha_1v.sl
  have is_b_0 := SL.is hb_0v.sl
  have is_b_1 := SL.is hb_1v.sl
  refine cz fun K1 hK1 => ?_
  refine bx h [a_0v, a_1v] rfl rfl rfl ?_; clear h ac; intro b1 ac wo h
  refine bx h [b_0v, b_1v] rfl rfl rfl ?_; clear h ac wo; intro b2 ac wo h
  refine al h [(.slice none 0 0), (.slice none 0 0)] vv33 rfl rfl ?_; clear h ac wo; intro b3 ac wo h
  refine aW ?_
  refine hK1 _ _ ?_
  refine da fun K2 hK2 => ?_
  replace h := h.emps 3
  refine en [0, 0, 0, 4, 0, 16, 60, 127, 255] (by kernel_rfl) mixed [⟨.det (.agg #[a_0v, a_1v]), [2]⟩, ⟨.det (.agg #[b_0v, b_1v]), [1]⟩, ⟨.det (ptr b1 1), []⟩, ⟨.det a_1v, [2]⟩, ⟨.det (ptr b2 1), []⟩, ⟨.det b_1v, [1]⟩, ⟨.nd (.one 6 fun v => aX v), [3]⟩, ⟨.nd (.one 7 fun v => v = .agg #[agc v 0, agc v 1] ∧ ∀ x ∈ [agc v 0, agc v 1], aX x), [4, 5, 3]⟩, ⟨.det undef, [0]⟩] [⟨.blk b3 [(.slice none 0 0), (.slice none 0 0)] 33, [(8, .one 7 fun v => .blk b3 [(agc (v) 0), (agc (v) 1)] 33)]⟩, ⟨.blk b2 [b_0v, b_1v] 33, []⟩, ⟨.blk b1 [a_0v, a_1v] 33, []⟩, ⟨.emp, [(6, .one 6 fun v => .row (α := Iv) 66 (v) (ab a_1 b_1))]⟩, ⟨.emp, [(7, .one 7 fun v => .row (α := Iv) 66 (agc (v) 0) (ab a_0 b_0))]⟩, ⟨.emp, [(7, .one 7 fun v => .row (α := Iv) 66 (agc (v) 1) (ab (ab a_0 b_0) (ab a_1 b_1)))]⟩] h rfl (by kernel_rfl) ⟨?_, ?_, ?_, ?_, ?_, ?_, ?_, ?_, ?_, trivial⟩ ?_
  · intro ξ hφ; exact obI (be [.blk b1 [a_0v, a_1v] 33] rfl rfl (aN aa33 zz33 rfl rfl rfl (v := (.agg #[a_0v, a_1v])) rfl))
  · intro ξ hφ; exact obI (be [.blk b2 [b_0v, b_1v] 33] rfl rfl (aN aa33 zz33 rfl rfl rfl (v := (.agg #[b_0v, b_1v])) rfl))
  · intro ξ hφ; exact obI (az (dC uu33 rfl zz26 (by decide) rfl rfl (k' := 1)))
  · intro ξ hφ; exact obI (be [.blk b1 [a_0v, a_1v] 33] rfl rfl (aN aa26 zz26 rfl rfl rfl (v := a_1v) rfl))
  · intro ξ hφ; exact obI (az (dC uu33 rfl zz26 (by decide) rfl rfl (k' := 1)))
  · intro ξ hφ; exact obI (be [.blk b2 [b_0v, b_1v] 33] rfl rfl (aN aa26 zz26 rfl rfl rfl (v := b_1v) rfl))
  · intro ξ hφ; exact obI (dJ (ψ := fun v => SL v (ab a_1 b_1).length ∧ True) (B := fun v => [.row (α := Iv) 66 v (ab a_1 b_1)]) [.emp] rfl (fun v _ => by simp only [bC, aw] <;> rfl) (fun v hv => by show aX (upd ξ 6 v 6); rw [aw]; exact hv.1.is) (aZ (d5 (vs := [a_1v, b_1v]) (aS cc11 rfl) (fun w_ hB_ hS_ => bH a_1 a_1v b_1 b_1v ca_1 cb_1 w_ (ha_1v.below hB_) (hb_1v.below hB_)))))
  · intro ξ hφ; have is6 : aX (ξ 6) := hφ 6 rfl; exact obI (dJ (ψ := fun v => v = .agg #[agc v 0, agc v 1] ∧ ∀ x ∈ [agc v 0, agc v 1], aX x) (B := fun v => [.row (α := Iv) 66 (agc v 0) (ab a_0 b_0), .row (α := Iv) 66 (agc v 1) (ab (ab a_0 b_0) (ab a_1 b_1)), .row (α := Iv) 66 (ξ 6) (ab a_1 b_1)]) [.emp, .emp, .row (α := Iv) 66 (ξ 6) (ab a_1 b_1)] rfl (fun v _ => by simp only [bC, aw] <;> rfl) (fun v hv => by show upd ξ 7 v 7 = _ ∧ _; rw [aw]; exact hv) (aZ (aZ (js (vs := [(.agg #[a_0v, a_1v]), (.agg #[b_0v, b_1v]), (ξ 6)]) (g := fun v => [agc v 0, agc v 1]) (A := fun v => [.row (α := Iv) 66 (agc v 0) (ab a_0 b_0), .row (α := Iv) 66 (agc v 1) (ab (ab a_0 b_0) (ab a_1 b_1))]) (aS Tryz.call60 rfl) (fun w_ hB_ hS_ => f8 a_0 a_0v a_1 a_1v b_0 b_0v b_1 b_1v (ab a_1 b_1) (ξ 6) ca_0 ca_1 cb_0 cb_1 (Cn.inter ca_1 cb_1) w_ (ha_0v.below hB_) (ha_1v.below hB_) (hb_0v.below hB_) (hb_1v.below hB_) (row_view hS_ 0 rfl))))))
  · intro ξ hφ; have G7 : ξ 7 = .agg #[agc (ξ 7) 0, agc (ξ 7) 1] ∧ ∀ x ∈ [agc (ξ 7) 0, agc (ξ 7) 1], aX x := hφ 7 rfl; have g7 := G7.1; obtain ⟨is7_0, is7_1⟩ := sl2 G7.2; exact obI (dD [.blk b3 [(.slice none 0 0), (.slice none 0 0)] 33] [.blk b3 [(agc (ξ 7) 0), (agc (ξ 7) 1)] 33] rfl rfl (d8 zz33 rfl (Eq.trans rfl (congrArg some g7)) rfl rfl (one2 is7_0 is7_1) rfl rfl))
  clear h ac wo; intro ξ ac wo hφ h
  have is6 : aX (ξ 6) := hφ 6
  have G7 : ξ 7 = .agg #[agc (ξ 7) 0, agc (ξ 7) 1] ∧ ∀ x ∈ [agc (ξ 7) 0, agc (ξ 7) 1], aX x := hφ 7; have g7 := G7.1; obtain ⟨is7_0, is7_1⟩ := sl2 G7.2
  replace h : St w0 13 [(4, (ptr b3 0))] [.blk b3 [(agc (ξ 7) 0), (agc (ξ 7) 1)] 33, .blk b2 [b_0v, b_1v] 33, .blk b1 [a_0v, a_1v] 33, .row (α := Iv) 66 (agc (ξ 7) 0) (ab a_0 b_0), .row (α := Iv) 66 (agc (ξ 7) 1) (ab (ab a_0 b_0) (ab a_1 b_1))] ac wo := (h.pick [0, 1, 2, 4, 5] (by decide)).sub ⟨rfl, trivial⟩
  clear G7 g7
  generalize agc (ξ 7) 0 = sv1 at h is7_0; have is_sv1 := is7_0; clear is7_0
  generalize agc (ξ 7) 1 = sv2 at h is7_1; have is_sv2 := is7_1; clear is7_1
  refine hK2 _ _ ?_
  refine dH ?_
  exact ret (rs := [.cell 4 33]) h rfl (.cell (v := (.agg #[sv1, sv2])) rfl (i := 0) rfl aa33 zz33 rfl rfl rfl .nil) rfl (h.retA ⟨rfl, kz is_sv1 is_sv2⟩ (h.pick [3, 4] (by decide)))
theorem jU (a_0 : List Iv) (a_0v : Value) (a_1 : List Iv) (a_1v : Value) (b_0 : List Iv) (b_0v : Value) (b_1 : List Iv) (b_1v : Value) (ca_0 : Cn a_0) (ca_1 : Cn a_1) (cb_0 : Cn b_0) (cb_1 : Cn b_1) (w0 : World) (ha_0v : View w0 a_0v a_0) (ha_1v : View w0 a_1v a_1) (hb_0v : View w0 b_0v b_0) (hb_1v : View w0 b_1v b_1) : Calls Tryz.prog 37 #[(.agg #[a_0v, a_1v]), (.agg #[b_0v, b_1v])] w0 (l3 w0 (fun v => [agc v 0, agc v 1]) (fun v => [.row (α := Iv) 66 (agc v 0) (ab a_0 b_0), .row (α := Iv) 66 (agc v 1) (ab (ab a_0 b_0) (am a_1 b_1))])) := by
  refine enter (N := 13) (args := [(.agg #[a_0v, a_1v]), (.agg #[b_0v, b_1v])]) Tryz.func37 rfl rfl ?_; intro ac h
  have is_a_0 := SL.is ha_0v.sl
  have is_a_1 := SL.is ha_1v.sl
  have is_b_0 := SL.is hb_0v.sl
  have is_b_1 := SL.is hb_1v.sl
  refine cz fun K1 hK1 => ?_
  refine bx h [a_0v, a_1v] rfl rfl rfl ?_; clear h ac; intro b1 ac wo h
  refine bx h [b_0v, b_1v] rfl rfl rfl ?_; clear h ac wo; intro b2 ac wo h
  refine al h [(.slice none 0 0), (.slice none 0 0)] vv33 rfl rfl ?_; clear h ac wo; intro b3 ac wo h
  refine aW ?_
  refine hK1 _ _ ?_
  refine da fun K2 hK2 => ?_
  replace h := h.emps 3
  refine en [0, 0, 0, 4, 0, 16, 60, 127, 255] (by kernel_rfl) mixed [⟨.det (.agg #[a_0v, a_1v]), [2]⟩, ⟨.det (.agg #[b_0v, b_1v]), [1]⟩, ⟨.det (ptr b1 1), []⟩, ⟨.det a_1v, [2]⟩, ⟨.det (ptr b2 1), []⟩, ⟨.det b_1v, [1]⟩, ⟨.nd (.one 6 fun v => aX v), [3]⟩, ⟨.nd (.one 7 fun v => v = .agg #[agc v 0, agc v 1] ∧ ∀ x ∈ [agc v 0, agc v 1], aX x), [4, 5, 3]⟩, ⟨.det undef, [0]⟩] [⟨.blk b3 [(.slice none 0 0), (.slice none 0 0)] 33, [(8, .one 7 fun v => .blk b3 [(agc (v) 0), (agc (v) 1)] 33)]⟩, ⟨.blk b2 [b_0v, b_1v] 33, []⟩, ⟨.blk b1 [a_0v, a_1v] 33, []⟩, ⟨.emp, [(6, .one 6 fun v => .row (α := Iv) 66 (v) (am a_1 b_1))]⟩, ⟨.emp, [(7, .one 7 fun v => .row (α := Iv) 66 (agc (v) 0) (ab a_0 b_0))]⟩, ⟨.emp, [(7, .one 7 fun v => .row (α := Iv) 66 (agc (v) 1) (ab (ab a_0 b_0) (am a_1 b_1)))]⟩] h rfl (by kernel_rfl) ⟨?_, ?_, ?_, ?_, ?_, ?_, ?_, ?_, ?_, trivial⟩ ?_
  · intro ξ hφ; exact obI (be [.blk b1 [a_0v, a_1v] 33] rfl rfl (aN aa33 zz33 rfl rfl rfl (v := (.agg #[a_0v, a_1v])) rfl))
  · intro ξ hφ; exact obI (be [.blk b2 [b_0v, b_1v] 33] rfl rfl (aN aa33 zz33 rfl rfl rfl (v := (.agg #[b_0v, b_1v])) rfl))
  · intro ξ hφ; exact obI (az (dC uu33 rfl zz26 (by decide) rfl rfl (k' := 1)))
  · intro ξ hφ; exact obI (be [.blk b1 [a_0v, a_1v] 33] rfl rfl (aN aa26 zz26 rfl rfl rfl (v := a_1v) rfl))
  · intro ξ hφ; exact obI (az (dC uu33 rfl zz26 (by decide) rfl rfl (k' := 1)))
  · intro ξ hφ; exact obI (be [.blk b2 [b_0v, b_1v] 33] rfl rfl (aN aa26 zz26 rfl rfl rfl (v := b_1v) rfl))
  · intro ξ hφ; exact obI (dJ (ψ := fun v => SL v (am a_1 b_1).length ∧ True) (B := fun v => [.row (α := Iv) 66 v (am a_1 b_1)]) [.emp] rfl (fun v _ => by simp only [bC, aw] <;> rfl) (fun v hv => by show aX (upd ξ 6 v 6); rw [aw]; exact hv.1.is) (aZ (d5 (vs := [a_1v, b_1v]) (aS cc48 rfl) (fun w_ hB_ hS_ => e9 a_1 a_1v b_1 b_1v ca_1 cb_1 w_ (ha_1v.below hB_) (hb_1v.below hB_)))))
  · intro ξ hφ; have is6 : aX (ξ 6) := hφ 6 rfl; exact obI (dJ (ψ := fun v => v = .agg #[agc v 0, agc v 1] ∧ ∀ x ∈ [agc v 0, agc v 1], aX x) (B := fun v => [.row (α := Iv) 66 (agc v 0) (ab a_0 b_0), .row (α := Iv) 66 (agc v 1) (ab (ab a_0 b_0) (am a_1 b_1)), .row (α := Iv) 66 (ξ 6) (am a_1 b_1)]) [.emp, .emp, .row (α := Iv) 66 (ξ 6) (am a_1 b_1)] rfl (fun v _ => by simp only [bC, aw] <;> rfl) (fun v hv => by show upd ξ 7 v 7 = _ ∧ _; rw [aw]; exact hv) (aZ (aZ (js (vs := [(.agg #[a_0v, a_1v]), (.agg #[b_0v, b_1v]), (ξ 6)]) (g := fun v => [agc v 0, agc v 1]) (A := fun v => [.row (α := Iv) 66 (agc v 0) (ab a_0 b_0), .row (α := Iv) 66 (agc v 1) (ab (ab a_0 b_0) (am a_1 b_1))]) (aS Tryz.call60 rfl) (fun w_ hB_ hS_ => f8 a_0 a_0v a_1 a_1v b_0 b_0v b_1 b_1v (am a_1 b_1) (ξ 6) ca_0 ca_1 cb_0 cb_1 (Cn.union ca_1 cb_1) w_ (ha_0v.below hB_) (ha_1v.below hB_) (hb_0v.below hB_) (hb_1v.below hB_) (row_view hS_ 0 rfl))))))
  · intro ξ hφ; have G7 : ξ 7 = .agg #[agc (ξ 7) 0, agc (ξ 7) 1] ∧ ∀ x ∈ [agc (ξ 7) 0, agc (ξ 7) 1], aX x := hφ 7 rfl; have g7 := G7.1; obtain ⟨is7_0, is7_1⟩ := sl2 G7.2; exact obI (dD [.blk b3 [(.slice none 0 0), (.slice none 0 0)] 33] [.blk b3 [(agc (ξ 7) 0), (agc (ξ 7) 1)] 33] rfl rfl (d8 zz33 rfl (Eq.trans rfl (congrArg some g7)) rfl rfl (one2 is7_0 is7_1) rfl rfl))
  clear h ac wo; intro ξ ac wo hφ h
  have is6 : aX (ξ 6) := hφ 6
  have G7 : ξ 7 = .agg #[agc (ξ 7) 0, agc (ξ 7) 1] ∧ ∀ x ∈ [agc (ξ 7) 0, agc (ξ 7) 1], aX x := hφ 7; have g7 := G7.1; obtain ⟨is7_0, is7_1⟩ := sl2 G7.2
  replace h : St w0 13 [(4, (ptr b3 0))] [.blk b3 [(agc (ξ 7) 0), (agc (ξ 7) 1)] 33, .blk b2 [b_0v, b_1v] 33, .blk b1 [a_0v, a_1v] 33, .row (α := Iv) 66 (agc (ξ 7) 0) (ab a_0 b_0), .row (α := Iv) 66 (agc (ξ 7) 1) (ab (ab a_0 b_0) (am a_1 b_1))] ac wo := (h.pick [0, 1, 2, 4, 5] (by decide)).sub ⟨rfl, trivial⟩
  clear G7 g7
  generalize agc (ξ 7) 0 = sv1 at h is7_0; have is_sv1 := is7_0; clear is7_0
  generalize agc (ξ 7) 1 = sv2 at h is7_1; have is_sv2 := is7_1; clear is7_1
  refine hK2 _ _ ?_
  refine dH ?_
  exact ret (rs := [.cell 4 33]) h rfl (.cell (v := (.agg #[sv1, sv2])) rfl (i := 0) rfl aa33 zz33 rfl rfl rfl .nil) rfl (h.retA ⟨rfl, kz is_sv1 is_sv2⟩ (h.pick [3, 4] (by decide)))
theorem hG (b_0 : List Iv) (b_0v : Value) (b_1 : List Iv) (b_1v : Value) (during : List Iv) (duringv : Value) (cb_0 : Cn b_0) (cb_1 : Cn b_1) (cduring : Cn during) (w0 : World) (hb_0v : View w0 b_0v b_0) (hb_1v : View w0 b_1v b_1) (hduringv : View w0 duringv during) : Calls Tryz.prog 38 #[(.agg #[b_0v, b_1v]), duringv] w0 (l3 w0 (fun v => [agc v 0, agc v 1]) (fun v => [.row (α := Iv) 66 (agc v 0) (ab b_0 during), .row (α := Iv) 66 (agc v 1) (ab b_1 during)])) := by
  refine enter (N := 14) (args := [(.agg #[b_0v, b_1v]), duringv]) Tryz.func38 rfl rfl ?_; intro ac h
  have is_b_0 := SL.is hb_0v.sl
  have is_b_1 := SL.is hb_1v.sl
  have is_during := SL.is hduringv.sl
  refine cz fun K1 hK1 => ?_
  refine bx h [b_0v, b_1v] rfl rfl rfl ?_; clear h ac; intro b1 ac wo h
  refine al h [(.slice none 0 0), (.slice none 0 0)] vv33 rfl rfl ?_; clear h ac wo; intro b2 ac wo h
  refine aW ?_
  refine hK1 _ _ ?_
  refine da fun K2 hK2 => ?_
  replace h := h.emps 2
  refine en [0, 1, 0, 7, 0, 16, 0, 127, 255, 511] (by kernel_rfl) mixed [⟨.det (ptr b1 0), []⟩, ⟨.det b_0v, [1]⟩, ⟨.det duringv, []⟩, ⟨.nd (.one 3 fun v => aX v), [2]⟩, ⟨.det (ptr b1 1), []⟩, ⟨.det b_1v, [1]⟩, ⟨.det duringv, []⟩, ⟨.nd (.one 7 fun v => aX v), [3]⟩, ⟨.nd ⟨[8, 3, 7], fun ξ => ξ 8 = (.agg #[(ξ 3), (ξ 7)]), fun ξ ξ_2 h_ => by simp only [h_ 8 (by simp), h_ 3 (by simp), h_ 7 (by simp)]⟩, []⟩, ⟨.det undef, [0]⟩] [⟨.blk b2 [(.slice none 0 0), (.slice none 0 0)] 33, [(9, ⟨[3, 7], fun ξ => .blk b2 [(ξ 3), (ξ 7)] 33, fun ξ ξ_2 h_ => by simp only [h_ 3 (by simp), h_ 7 (by simp)]⟩)]⟩, ⟨.blk b1 [b_0v, b_1v] 33, []⟩, ⟨.emp, [(3, .one 3 fun v => .row (α := Iv) 66 (v) (ab b_0 during))]⟩, ⟨.emp, [(7, .one 7 fun v => .row (α := Iv) 66 (v) (ab b_1 during))]⟩] h rfl (by kernel_rfl) ⟨?_, ?_, ?_, ?_, ?_, ?_, ?_, ?_, ?_, ?_, trivial⟩ ?_
  · intro ξ hφ; exact obI (az (dC uu33 rfl zz26 (by decide) rfl rfl (k' := 0)))
  · intro ξ hφ; exact obI (be [.blk b1 [b_0v, b_1v] 33] rfl rfl (aN aa26 zz26 rfl rfl rfl (v := b_0v) rfl))
  · intro ξ hφ; exact obI (az (ak rfl))
  · intro ξ hφ; exact obI (dJ (ψ := fun v => SL v (ab b_0 during).length ∧ True) (B := fun v => [.row (α := Iv) 66 v (ab b_0 during)]) [.emp] rfl (fun v _ => by simp only [bC, aw] <;> rfl) (fun v hv => by show aX (upd ξ 3 v 3); rw [aw]; exact hv.1.is) (aZ (d5 (vs := [b_0v, duringv]) (aS cc11 rfl) (fun w_ hB_ hS_ => bH b_0 b_0v during duringv cb_0 cduring w_ (hb_0v.below hB_) (hduringv.below hB_)))))
  · intro ξ hφ; exact obI (az (dC uu33 rfl zz26 (by decide) rfl rfl (k' := 1)))
  · intro ξ hφ; exact obI (be [.blk b1 [b_0v, b_1v] 33] rfl rfl (aN aa26 zz26 rfl rfl rfl (v := b_1v) rfl))
  · intro ξ hφ; exact obI (az (ak rfl))
  · intro ξ hφ; exact obI (dJ (ψ := fun v => SL v (ab b_1 during).length ∧ True) (B := fun v => [.row (α := Iv) 66 v (ab b_1 during)]) [.emp] rfl (fun v _ => by simp only [bC, aw] <;> rfl) (fun v hv => by show aX (upd ξ 7 v 7); rw [aw]; exact hv.1.is) (aZ (d5 (vs := [b_1v, duringv]) (aS cc11 rfl) (fun w_ hB_ hS_ => bH b_1 b_1v during duringv cb_1 cduring w_ (hb_1v.below hB_) (hduringv.below hB_)))))
  · intro ξ hφ; have is3 : aX (ξ 3) := hφ 3 rfl; have is7 : aX (ξ 7) := hφ 7 rfl; exact obI (md (v := (.agg #[(ξ 3), (ξ 7)])) [] rfl rfl (by show upd ξ 8 _ 8 = _; rw [aw]; rfl) (f7 lX rfl is3 is7))
  · intro ξ hφ; have g8 : ξ 8 = (.agg #[(ξ 3), (ξ 7)]) := hφ 8 rfl; have is3 : aX (ξ 3) := hφ 3 rfl; have is7 : aX (ξ 7) := hφ 7 rfl; exact obI (dD [.blk b2 [(.slice none 0 0), (.slice none 0 0)] 33] [.blk b2 [(ξ 3), (ξ 7)] 33] rfl rfl (d8 zz33 rfl (Eq.trans rfl (congrArg some g8)) rfl rfl (one2 is3 is7) rfl rfl))
  clear h ac wo; intro ξ ac wo hφ h
  have is3 : aX (ξ 3) := hφ 3
  have is7 : aX (ξ 7) := hφ 7
  have g8 : ξ 8 = (.agg #[(ξ 3), (ξ 7)]) := hφ 8
  replace h : St w0 14 [(4, (ptr b2 0))] [.blk b2 [(ξ 3), (ξ 7)] 33, .blk b1 [b_0v, b_1v] 33, .row (α := Iv) 66 (ξ 3) (ab b_0 during), .row (α := Iv) 66 (ξ 7) (ab b_1 during)] ac wo := (h.pick [0, 1, 2, 3] (by decide)).sub ⟨rfl, trivial⟩
  try clear g8
  generalize ξ 3 = sv1 at h is3; have is_sv1 := is3; clear is3
  try clear g8
  generalize ξ 7 = sv2 at h is7; have is_sv2 := is7; clear is7
  refine hK2 _ _ ?_
  refine dH ?_
  exact ret (rs := [.cell 4 33]) h rfl (.cell (v := (.agg #[sv1, sv2])) rfl (i := 0) rfl aa33 zz33 rfl rfl rfl .nil) rfl (h.retA ⟨rfl, kz is_sv1 is_sv2⟩ (h.pick [2, 3] (by decide)))
theorem iW (t_0 : List Iv) (t_0v : Value) (t_1 : List Iv) (t_1v : Value) (t_2 : List Iv) (t_2v : Value) (ct_0 : Cn t_0) (ct_1 : Cn t_1) (ct_2 : Cn t_2) (w0 : World) (ht_0v : View w0 t_0v t_0) (ht_1v : View w0 t_1v t_1) (ht_2v : View w0 t_2v t_2) : Calls Tryz.prog 17 #[(.agg #[t_0v, t_1v, t_2v])] w0 (RetP w0 (.int .i64 (bJ (decide (((t_1.length : Nat) : Int) > 0)) ((((t_2.length : Nat) : Int)) == (((0 : Nat) : Int))))) True) := by
  refine enter (N := 12) (args := [(.agg #[t_0v, t_1v, t_2v])]) Tryz.func17 rfl rfl ?_; intro ac h
  have is_t_0 := SL.is ht_0v.sl
  have is_t_1 := SL.is ht_1v.sl
  have is_t_2 := SL.is ht_2v.sl
  refine cz fun K1 hK1 => ?_
  refine bx h [t_0v, t_1v, t_2v] rfl rfl rfl ?_; clear h ac; intro b1 ac wo h
  refine rd0 h (aj rfl (v := (.int .i64 0))) rfl ?_; clear h ac wo; intro ac wo h
  refine aW ?_
  refine hK1 _ _ ?_
  refine cz fun K2 hK2 => ?_
  refine rd0 h (dC uu28 rfl zz26 (by decide) rfl rfl (k' := 1)) rfl ?_; clear h ac wo; intro ac wo h
  refine rd1 h 0 rfl (aN aa26 zz26 rfl rfl rfl (v := t_1v) rfl) rfl ?_; clear h ac wo; intro ac wo h
  refine rd0 h (dg uu26 rfl ht_1v.sl) rfl ?_; clear h ac wo; intro ac wo h
  refine rd0 h (ja rfl rfl) rfl ?_; clear h ac wo; intro ac wo h
  refine rd0 h (dC uu28 rfl zz26 (by decide) rfl rfl (k' := 2)) rfl ?_; clear h ac wo; intro ac wo h
  refine rd1 h 0 rfl (aN aa26 zz26 rfl rfl rfl (v := t_2v) rfl) rfl ?_; clear h ac wo; intro ac wo h
  refine rd0 h (dg uu26 rfl ht_2v.sl) rfl ?_; clear h ac wo; intro ac wo h
  refine rd0 h (eG rfl rfl (m := ((t_2.length : Nat) : Int)) (n := ((0 : Nat) : Int))) rfl ?_; clear h ac wo; intro ac wo h
  refine jZ (vs := [(.bool (decide (((t_1.length : Nat) : Int) > 0))), (.bool ((((t_2.length : Nat) : Int)) == (((0 : Nat) : Int))))]) h (aS Tryz.call52 rfl) (fun w_ hB_ hS_ => eV (decide (((t_1.length : Nat) : Int) > 0)) ((((t_2.length : Nat) : Int)) == (((0 : Nat) : Int))) w_ ) rfl ?_; clear h ac wo; intro ac wo h
  refine rd0 h (aj rfl) rfl ?_; clear h ac wo; intro ac wo h
  refine aW ?_
  refine hK2 _ _ ?_
  refine dH ?_
  exact ret (rs := [.tmp 2]) h rfl (.tmp rfl .nil) rfl (h.retP rfl trivial)
theorem g6 (b_0 : List Iv) (b_0v : Value) (b_1 : List Iv) (b_1v : Value) (cb_0 : Cn b_0) (cb_1 : Cn b_1) (w0 : World) (hb_0v : View w0 b_0v b_0) (hb_1v : View w0 b_1v b_1) : Calls Tryz.prog 21 #[(.agg #[b_0v, b_1v])] w0 (RetP w0 (.bool (decide (((b_1.length : Nat) : Int) > 0))) True) := by
  refine enter (N := 7) (args := [(.agg #[b_0v, b_1v])]) Tryz.func21 rfl rfl ?_; intro ac h
  have is_b_0 := SL.is hb_0v.sl
  have is_b_1 := SL.is hb_1v.sl
  refine cz fun K1 hK1 => ?_
  refine bx h [b_0v, b_1v] rfl rfl rfl ?_; clear h ac; intro b1 ac wo h
  refine rd0 h (aj rfl (v := (.bool false))) rfl ?_; clear h ac wo; intro ac wo h
  refine aW ?_
  refine hK1 _ _ ?_
  refine cz fun K2 hK2 => ?_
  refine rd0 h (dC uu33 rfl zz26 (by decide) rfl rfl (k' := 1)) rfl ?_; clear h ac wo; intro ac wo h
  refine rd1 h 0 rfl (aN aa26 zz26 rfl rfl rfl (v := b_1v) rfl) rfl ?_; clear h ac wo; intro ac wo h
  refine rd0 h (dg uu26 rfl hb_1v.sl) rfl ?_; clear h ac wo; intro ac wo h
  refine rd0 h (ja rfl rfl) rfl ?_; clear h ac wo; intro ac wo h
  refine rd0 h (aj rfl) rfl ?_; clear h ac wo; intro ac wo h
  refine aW ?_
  refine hK2 _ _ ?_
  refine dH ?_
  exact ret (rs := [.tmp 2]) h rfl (.tmp rfl .nil) rfl (h.retP rfl trivial)
theorem df (p_0 : List Stp) (p_0v : Value) (p_1 : List Stp) (p_1v : Value) (p_2 : List Stp) (p_2v : Value) (w0 : World) (hp_0v : View w0 p_0v p_0) (hp_1v : View w0 p_1v p_1) (hp_2v : View w0 p_2v p_2) : Calls Tryz.prog 9 #[(.agg #[p_0v, p_1v, p_2v])] w0 (l3 w0 (fun v => [agc v 0, agc v 1, agc v 2]) (fun v => [.row (α := Iv) 66 (agc v 0) (aa p_0), .row (α := Iv) 66 (agc v 1) (ab (ab (aa p_0) (aa p_2)) (aa p_1)), .row (α := Iv) 66 (agc v 2) (ab (aa p_0) (aa p_2))])) := by
  refine enter (N := 21) (args := [(.agg #[p_0v, p_1v, p_2v])]) Tryz.func9 rfl rfl ?_; intro ac h
  have is_p_0 := SL.is hp_0v.sl
  have is_p_1 := SL.is hp_1v.sl
  have is_p_2 := SL.is hp_2v.sl
  refine cz fun K1 hK1 => ?_
  refine bx h [p_0v, p_1v, p_2v] rfl rfl rfl ?_; clear h ac; intro b1 ac wo h
  refine al h [(.slice none 0 0), (.slice none 0 0), (.slice none 0 0)] vv28 rfl rfl ?_; clear h ac wo; intro b2 ac wo h
  refine aW ?_
  refine hK1 _ _ ?_
  refine cz fun K2 hK2 => ?_
  refine rd0 h (dC uu24 rfl zz22 (by decide) rfl rfl (k' := 0)) rfl ?_; clear h ac wo; intro ac wo h
  refine rd1 h 1 rfl (aN aa22 zz22 rfl rfl rfl (v := p_0v) rfl) rfl ?_; clear h ac wo; intro ac wo h
  refine eU (vs := [p_0v]) (xs := (aa p_0)) h (aS cc10 rfl) (fun w_ hB_ hS_ => dW p_0 p_0v w_ (hp_0v.below hB_)) rfl ?_; clear h ac wo; intro sv1 ac wo _ h
  have is_sv1 := SL.is (h.row_sl 0 rfl)
  refine rd0 h (aj rfl) rfl ?_; clear h ac wo; intro ac wo h
  refine aW ?_
  refine hK2 _ _ ?_
  refine cz fun K3 hK3 => ?_
  refine rd0 h (ak rfl) rfl ?_; clear h ac wo; intro ac wo h
  refine rd0 h (dC uu24 rfl zz22 (by decide) rfl rfl (k' := 2)) rfl ?_; clear h ac wo; intro ac wo h
  refine rd1 h 2 rfl (aN aa22 zz22 rfl rfl rfl (v := p_2v) rfl) rfl ?_; clear h ac wo; intro ac wo h
  refine eU (vs := [p_2v]) (xs := (aa p_2)) h (aS cc10 rfl) (fun w_ hB_ hS_ => dW p_2 p_2v w_ (hp_2v.below hB_)) rfl ?_; clear h ac wo; intro sv2 ac wo _ h
  have is_sv2 := SL.is (h.row_sl 0 rfl)
  refine eU (vs := [sv1, sv2]) (xs := (ab (aa p_0) (aa p_2))) h (aS cc11 rfl) (fun w_ hB_ hS_ => bH (aa p_0) sv1 (aa p_2) sv2 (ah p_0) (ah p_2) w_ (row_view hS_ 1 rfl) (row_view hS_ 0 rfl)) rfl ?_; clear h ac wo; intro sv3 ac wo _ h
  have is_sv3 := SL.is (h.row_sl 0 rfl)
  refine rd0 h (aj rfl) rfl ?_; clear h ac wo; intro ac wo h
  refine aW ?_
  refine hK3 _ _ ?_
  refine cz fun K4 hK4 => ?_
  refine rd0 h (ak rfl) rfl ?_; clear h ac wo; intro ac wo h
  refine rd0 h (ak rfl) rfl ?_; clear h ac wo; intro ac wo h
  refine rd0 h (dC uu24 rfl zz22 (by decide) rfl rfl (k' := 1)) rfl ?_; clear h ac wo; intro ac wo h
  refine rd1 h 4 rfl (aN aa22 zz22 rfl rfl rfl (v := p_1v) rfl) rfl ?_; clear h ac wo; intro ac wo h
  refine eU (vs := [p_1v]) (xs := (aa p_1)) h (aS cc10 rfl) (fun w_ hB_ hS_ => dW p_1 p_1v w_ (hp_1v.below hB_)) rfl ?_; clear h ac wo; intro sv4 ac wo _ h
  have is_sv4 := SL.is (h.row_sl 0 rfl)
  refine eU (vs := [sv3, sv4]) (xs := (ab (ab (aa p_0) (aa p_2)) (aa p_1))) h (aS cc11 rfl) (fun w_ hB_ hS_ => bH (ab (aa p_0) (aa p_2)) sv3 (aa p_1) sv4 (Cn.inter (ah p_0) (ah p_2)) (ah p_1) w_ (row_view hS_ 1 rfl) (row_view hS_ 0 rfl)) rfl ?_; clear h ac wo; intro sv5 ac wo _ h
  have is_sv5 := SL.is (h.row_sl 0 rfl)
  refine rd0 h (ak rfl) rfl ?_; clear h ac wo; intro ac wo h
  refine rd0 h (eI j0 rfl is_sv1 is_sv5 is_sv3) rfl ?_; clear h ac wo; intro ac wo h
  refine st h 5 [sv1, sv5, sv3] rfl zz28 rfl rfl rfl rfl (kZ is_sv1 is_sv5 is_sv3) rfl rfl ?_; clear h ac wo; intro ac wo h
  refine aW ?_
  refine hK4 _ _ ?_
  replace h := h.sub (F' := [(2, (ptr b2 0))]) ⟨rfl, trivial⟩
  refine dH ?_
  exact ret (rs := [.cell 2 28]) h rfl (.cell (v := (.agg #[sv1, sv5, sv3])) rfl (i := 5) rfl aa28 zz28 rfl rfl rfl .nil) rfl (h.retA ⟨rfl, jp is_sv1 is_sv5 is_sv3⟩ (h.pick [4, 0, 2] (by decide)))
theorem ez (t_0 : List Iv) (t_0v : Value) (t_1 : List Iv) (t_1v : Value) (t_2 : List Iv) (t_2v : Value) (l : List Stp) (lv : Value) (ct_0 : Cn t_0) (ct_1 : Cn t_1) (ct_2 : Cn t_2) (w0 : World) (ht_0v : View w0 t_0v t_0) (ht_1v : View w0 t_1v t_1) (ht_2v : View w0 t_2v t_2) (hlv : View w0 lv l) : Calls Tryz.prog 14 #[(.agg #[t_0v, t_1v, t_2v]), lv] w0 (l3 w0 (fun v => [t_0v, agc v 1]) (fun v => [.row (α := Iv) 66 (agc v 1) (am t_1 (ab t_2 (aa l)))])) := by
  refine enter (N := 16) (args := [(.agg #[t_0v, t_1v, t_2v]), lv]) Tryz.func14 rfl rfl ?_; intro ac h
  have is_t_0 := SL.is ht_0v.sl
  have is_t_1 := SL.is ht_1v.sl
  have is_t_2 := SL.is ht_2v.sl
  have is_l := SL.is hlv.sl
  refine cz fun K1 hK1 => ?_
  refine bx h [t_0v, t_1v, t_2v] rfl rfl rfl ?_; clear h ac; intro b1 ac wo h
  refine al h [(.slice none 0 0), (.slice none 0 0)] vv33 rfl rfl ?_; clear h ac wo; intro b2 ac wo h
  refine aW ?_
  refine hK1 _ _ ?_
  refine da fun K2 hK2 => ?_
  replace h := h.emps 3
  refine en [0, 1, 0, 4, 0, 16, 0, 64, 240, 508, 1023, 2047] (by kernel_rfl) mixed [⟨.det (ptr b1 0), []⟩, ⟨.det t_0v, [1]⟩, ⟨.det (ptr b1 1), []⟩, ⟨.det t_1v, [1]⟩, ⟨.det (ptr b1 2), []⟩, ⟨.det t_2v, [1]⟩, ⟨.det lv, []⟩, ⟨.nd (.one 7 fun v => aX v), [2]⟩, ⟨.nd (.one 8 fun v => aX v), [3, 2]⟩, ⟨.nd (.one 9 fun v => aX v), [4, 3]⟩, ⟨.nd ⟨[10, 9], fun ξ => ξ 10 = (.agg #[t_0v, (ξ 9)]), fun ξ ξ_2 h_ => by simp only [h_ 10 (by simp), h_ 9 (by simp)]⟩, []⟩, ⟨.det undef, [0]⟩] [⟨.blk b2 [(.slice none 0 0), (.slice none 0 0)] 33, [(11, .one 9 fun v => .blk b2 [t_0v, (v)] 33)]⟩, ⟨.blk b1 [t_0v, t_1v, t_2v] 28, []⟩, ⟨.emp, [(7, .one 7 fun v => .row (α := Iv) 66 (v) (aa l))]⟩, ⟨.emp, [(8, .one 8 fun v => .row (α := Iv) 66 (v) (ab t_2 (aa l)))]⟩, ⟨.emp, [(9, .one 9 fun v => .row (α := Iv) 66 (v) (am t_1 (ab t_2 (aa l))))]⟩] h rfl (by kernel_rfl) ⟨?_, ?_, ?_, ?_, ?_, ?_, ?_, ?_, ?_, ?_, ?_, ?_, trivial⟩ ?_
  · intro ξ hφ; exact obI (az (dC uu28 rfl zz26 (by decide) rfl rfl (k' := 0)))
  · intro ξ hφ; exact obI (be [.blk b1 [t_0v, t_1v, t_2v] 28] rfl rfl (aN aa26 zz26 rfl rfl rfl (v := t_0v) rfl))
  · intro ξ hφ; exact obI (az (dC uu28 rfl zz26 (by decide) rfl rfl (k' := 1)))
  · intro ξ hφ; exact obI (be [.blk b1 [t_0v, t_1v, t_2v] 28] rfl rfl (aN aa26 zz26 rfl rfl rfl (v := t_1v) rfl))
  · intro ξ hφ; exact obI (az (dC uu28 rfl zz26 (by decide) rfl rfl (k' := 2)))
  · intro ξ hφ; exact obI (be [.blk b1 [t_0v, t_1v, t_2v] 28] rfl rfl (aN aa26 zz26 rfl rfl rfl (v := t_2v) rfl))
  · intro ξ hφ; exact obI (az (ak rfl))
  · intro ξ hφ; exact obI (dJ (ψ := fun v => SL v (aa l).length ∧ True) (B := fun v => [.row (α := Iv) 66 v (aa l)]) [.emp] rfl (fun v _ => by simp only [bC, aw] <;> rfl) (fun v hv => by show aX (upd ξ 7 v 7); rw [aw]; exact hv.1.is) (aZ (d5 (vs := [lv]) (aS cc10 rfl) (fun w_ hB_ hS_ => dW l lv w_ (hlv.below hB_)))))
  · intro ξ hφ; have is7 : aX (ξ 7) := hφ 7 rfl; exact obI (dJ (ψ := fun v => SL v (ab t_2 (aa l)).length ∧ True) (B := fun v => [.row (α := Iv) 66 v (ab t_2 (aa l)), .row (α := Iv) 66 (ξ 7) (aa l)]) [.emp, .row (α := Iv) 66 (ξ 7) (aa l)] rfl (fun v _ => by simp only [bC, aw] <;> rfl) (fun v hv => by show aX (upd ξ 8 v 8); rw [aw]; exact hv.1.is) (aZ (d5 (vs := [t_2v, (ξ 7)]) (aS cc11 rfl) (fun w_ hB_ hS_ => bH t_2 t_2v (aa l) (ξ 7) ct_2 (ah l) w_ (ht_2v.below hB_) (row_view hS_ 0 rfl)))))
  · intro ξ hφ; have is8 : aX (ξ 8) := hφ 8 rfl; exact obI (dJ (ψ := fun v => SL v (am t_1 (ab t_2 (aa l))).length ∧ True) (B := fun v => [.row (α := Iv) 66 v (am t_1 (ab t_2 (aa l))), .row (α := Iv) 66 (ξ 8) (ab t_2 (aa l))]) [.emp, .row (α := Iv) 66 (ξ 8) (ab t_2 (aa l))] rfl (fun v _ => by simp only [bC, aw] <;> rfl) (fun v hv => by show aX (upd ξ 9 v 9); rw [aw]; exact hv.1.is) (aZ (d5 (vs := [t_1v, (ξ 8)]) (aS cc48 rfl) (fun w_ hB_ hS_ => e9 t_1 t_1v (ab t_2 (aa l)) (ξ 8) ct_1 (Cn.inter ct_2 (ah l)) w_ (ht_1v.below hB_) (row_view hS_ 0 rfl)))))
  · intro ξ hφ; have is9 : aX (ξ 9) := hφ 9 rfl; exact obI (md (v := (.agg #[t_0v, (ξ 9)])) [] rfl rfl (by show upd ξ 10 _ 10 = _; rw [aw]; rfl) (f7 lX rfl is_t_0 is9))
  · intro ξ hφ; have g10 : ξ 10 = (.agg #[t_0v, (ξ 9)]) := hφ 10 rfl; have is9 : aX (ξ 9) := hφ 9 rfl; exact obI (dD [.blk b2 [(.slice none 0 0), (.slice none 0 0)] 33] [.blk b2 [t_0v, (ξ 9)] 33] rfl rfl (d8 zz33 rfl (Eq.trans rfl (congrArg some g10)) rfl rfl (one2 is_t_0 is9) rfl rfl))
  clear h ac wo; intro ξ ac wo hφ h
  have is7 : aX (ξ 7) := hφ 7
  have is8 : aX (ξ 8) := hφ 8
  have is9 : aX (ξ 9) := hφ 9
  have g10 : ξ 10 = (.agg #[t_0v, (ξ 9)]) := hφ 10
  replace h : St w0 16 [(4, (ptr b2 0))] [.blk b2 [t_0v, (ξ 9)] 33, .blk b1 [t_0v, t_1v, t_2v] 28, .row (α := Iv) 66 (ξ 9) (am t_1 (ab t_2 (aa l)))] ac wo := (h.pick [0, 1, 4] (by decide)).sub ⟨rfl, trivial⟩
  try clear g10
  generalize ξ 9 = sv1 at h is9; have is_sv1 := is9; clear is9
  refine hK2 _ _ ?_
  refine dH ?_
  exact ret (rs := [.cell 4 33]) h rfl (.cell (v := (.agg #[t_0v, sv1])) rfl (i := 0) rfl aa33 zz33 rfl rfl rfl .nil) rfl (h.retA ⟨rfl, kz is_t_0 is_sv1⟩ (h.pick [2] (by decide)))
end Go.Sx
