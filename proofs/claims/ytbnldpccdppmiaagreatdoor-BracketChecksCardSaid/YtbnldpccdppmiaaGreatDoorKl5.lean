/- A part of the proof that the law BracketQuestions/Checks answers true at every input and leaves its arguments as they were. -/
import Derived.Test.YtbnldpccdppmiaaGreatDoorKb4
set_option linter.unusedVariables false
set_option linter.unusedSimpArgs false
open Go.Proofs.Tryz renaming runUnderlying24 → uu24, sizeOf22 → zz22, isAgg22 → aa22, call10 → cc10, zeroValue62 → vv62, runUnderlying62 → uu62, sizeOf26 → zz26, isAgg26 → aa26, sizeOf28 → zz28, call39 → cc39, isAgg28 → aa28, call40 → cc40, runUnderlying26 → uu26, sizeOf66 → zz66, isAgg66 → aa66
namespace Go.Sx
open Go Go.RowKit Go.Proofs
set_option maxRecDepth 100000
set_option maxHeartbeats 40000000
theorem gh (p_0 : List Stp) (p_0v : Value) (p_1 : List Stp) (p_1v : Value) (p_2 : List Stp) (p_2v : Value) (kind : Nat) (hb_ : kind < 256) (w0 : World) (hp_0v : View w0 p_0v p_0) (hp_1v : View w0 p_1v p_1) (hp_2v : View w0 p_2v p_2) : Calls Tryz.prog 7 #[(.agg #[p_0v, p_1v, p_2v]), (.int .u8 ((kind : Nat) : Int))] w0 (RetP w0 (.bool true) True) := by
  refine enter (N := 93) (args := [(.agg #[p_0v, p_1v, p_2v]), (.int .u8 ((kind : Nat) : Int))]) Tryz.func7 rfl rfl ?_; intro ac h
  have is_p_0 := SL.is hp_0v.sl
  have is_p_1 := SL.is hp_1v.sl
  have is_p_2 := SL.is hp_2v.sl
  refine bB fun K1 hK1 => ?_
  refine bx h [p_0v, p_1v, p_2v] rfl rfl rfl ?_; clear h ac; intro b1 ac wo h
  refine rd0 h (ah rfl (v := (.bool false))) rfl ?_; clear h ac wo; intro ac wo h
  refine aE ?_
  refine hK1 _ _ ?_
  refine bP fun K2 hK2 => ?_
  refine bB fun K3 hK3 => ?_
  refine dQ (vs := []) h (bh Tryz.call8 rfl) (fun w_ hB_ hS_ => f5  w_ ) rfl ?_; clear h ac wo; intro ac wo h
  refine rd0 h (Rd.cast (eU rfl) (v := .bool false) rfl) rfl ?_; clear h ac wo; intro ac wo h
  refine aE ?_
  refine hK3 _ _ ?_
  refine kP (b := false) h rfl ?_
  refine bR ?_
  refine hK2 _ _ ?_
  refine bP fun K4 hK4 => ?_
  replace h := h.emps 4
  refine hO [0, 1, 3, 0, 8, 31, 0, 64, 255, 511, 0, 2047] (by kernel_rfl) mixed [⟨.det (ptr b1 0), []⟩, ⟨.det p_0v, [0]⟩, ⟨.nd (.one 2 fun v => d4 v), [1]⟩, ⟨.det (ptr b1 1), []⟩, ⟨.det p_1v, [0]⟩, ⟨.nd (.one 5 fun v => d4 v), [2]⟩, ⟨.det (ptr b1 2), []⟩, ⟨.det p_2v, [0]⟩, ⟨.nd (.one 8 fun v => d4 v), [3]⟩, ⟨.nd ⟨[9, 2, 5, 8], fun ξ => ξ 9 = (.agg #[(ξ 2), (ξ 5), (ξ 8)]), fun ξ ξ_2 h_ => by simp only [h_ 9 (by simp), h_ 2 (by simp), h_ 5 (by simp), h_ 8 (by simp)]⟩, []⟩, ⟨.nd (.one 10 fun v => ∃ b, v = ptr b 0), [4]⟩, ⟨.det undef, [4]⟩] [⟨.blk b1 [p_0v, p_1v, p_2v] 24, []⟩, ⟨.emp, [(2, .one 2 fun v => .row (α := Iv) 66 (v) (aa p_0))]⟩, ⟨.emp, [(5, .one 5 fun v => .row (α := Iv) 66 (v) (aa p_1))]⟩, ⟨.emp, [(8, .one 8 fun v => .row (α := Iv) 66 (v) (aa p_2))]⟩, ⟨.emp, [(10, .one 10 fun v => .blk (bI (v)) [(.slice none 0 0), (.slice none 0 0), (.slice none 0 0)] 62), (11, ⟨[2, 5, 8, 10], fun ξ => .blk (bI (ξ 10)) [(ξ 2), (ξ 5), (ξ 8)] 62, fun ξ ξ_2 h_ => by simp only [h_ 2 (by simp), h_ 5 (by simp), h_ 8 (by simp), h_ 10 (by simp)]⟩)]⟩] h rfl (by kernel_rfl) ⟨?_, ?_, ?_, ?_, ?_, ?_, ?_, ?_, ?_, ?_, ?_, ?_, trivial⟩ ?_
  · intro ξ hφ; exact obI (ay (eN uu24 rfl zz22 (by decide) rfl rfl (k' := 0)))
  · intro ξ hφ; exact obI (bT [.blk b1 [p_0v, p_1v, p_2v] 24] rfl rfl (aZ aa22 zz22 rfl rfl rfl (v := p_0v) rfl))
  · intro ξ hφ; exact obI (ij (ψ := fun v => SL v (aa p_0).length ∧ True) (B := fun v => [.row (α := Iv) 66 v (aa p_0)]) [.emp] rfl (fun v _ => by simp only [dO, aS] <;> rfl) (fun v hv => by show d4 (upd ξ 2 v 2); rw [aS]; exact hv.1.is) (jq (lw (vs := [p_0v]) (bh cc10 rfl) (fun w_ hB_ hS_ => fb p_0 p_0v w_ (hp_0v.below hB_)))))
  · intro ξ hφ; exact obI (ay (eN uu24 rfl zz22 (by decide) rfl rfl (k' := 1)))
  · intro ξ hφ; exact obI (bT [.blk b1 [p_0v, p_1v, p_2v] 24] rfl rfl (aZ aa22 zz22 rfl rfl rfl (v := p_1v) rfl))
  · intro ξ hφ; exact obI (ij (ψ := fun v => SL v (aa p_1).length ∧ True) (B := fun v => [.row (α := Iv) 66 v (aa p_1)]) [.emp] rfl (fun v _ => by simp only [dO, aS] <;> rfl) (fun v hv => by show d4 (upd ξ 5 v 5); rw [aS]; exact hv.1.is) (jq (lw (vs := [p_1v]) (bh cc10 rfl) (fun w_ hB_ hS_ => fb p_1 p_1v w_ (hp_1v.below hB_)))))
  · intro ξ hφ; exact obI (ay (eN uu24 rfl zz22 (by decide) rfl rfl (k' := 2)))
  · intro ξ hφ; exact obI (bT [.blk b1 [p_0v, p_1v, p_2v] 24] rfl rfl (aZ aa22 zz22 rfl rfl rfl (v := p_2v) rfl))
  · intro ξ hφ; exact obI (ij (ψ := fun v => SL v (aa p_2).length ∧ True) (B := fun v => [.row (α := Iv) 66 v (aa p_2)]) [.emp] rfl (fun v _ => by simp only [dO, aS] <;> rfl) (fun v hv => by show d4 (upd ξ 8 v 8); rw [aS]; exact hv.1.is) (jq (lw (vs := [p_2v]) (bh cc10 rfl) (fun w_ hB_ hS_ => fb p_2 p_2v w_ (hp_2v.below hB_)))))
  · intro ξ hφ; have is2 : d4 (ξ 2) := hφ 2 rfl; have is5 : d4 (ξ 5) := hφ 5 rfl; have is8 : d4 (ξ 8) := hφ 8 rfl; exact obI (ob_n (v := (.agg #[(ξ 2), (ξ 5), (ξ 8)])) [] rfl rfl (by show upd ξ 9 _ 9 = _; rw [aS]; rfl) (o9 vv62 rfl uu62 zz26 rfl is2 is5 is8))
  · intro ξ hφ; exact obI (ij (ψ := fun v => ∃ b, v = ptr b 0) (B := fun v => [.blk (bI v) [(.slice none 0 0), (.slice none 0 0), (.slice none 0 0)] 62]) [.emp] rfl (fun v _ => by simp only [dO, aS] <;> rfl) (fun v hv => by simpa [DF.one, aS] using hv) (fU (eo vv62 rfl)))
  · intro ξ hφ; refine Exists.elim (show ∃ b, ξ 10 = ptr b 0 from hφ 10 rfl) fun b2 hb10 => ?_; have g9 : ξ 9 = (.agg #[(ξ 2), (ξ 5), (ξ 8)]) := hφ 9 rfl; have is2 : d4 (ξ 2) := hφ 2 rfl; have is5 : d4 (ξ 5) := hφ 5 rfl; have is8 : d4 (ξ 8) := hφ 8 rfl; exact obI (es [.blk b2 [(.slice none 0 0), (.slice none 0 0), (.slice none 0 0)] 62] [.blk b2 [(ξ 2), (ξ 5), (ξ 8)] 62] (congrArg (fun v => [Asn.blk (bI v) [(.slice none 0 0), (.slice none 0 0), (.slice none 0 0)] 62]) hb10) (congrArg (fun v => [Asn.blk (bI v) [(ξ 2), (ξ 5), (ξ 8)] 62]) hb10) (eW Tryz.sizeOf62 (Eq.trans rfl (congrArg some hb10)) (Eq.trans rfl (congrArg some g9)) rfl rfl (one3 is2 is5 is8) rfl rfl))
  clear h ac wo; intro ξ ac wo hφ h
  have is2 : d4 (ξ 2) := hφ 2
  have is5 : d4 (ξ 5) := hφ 5
  have is8 : d4 (ξ 8) := hφ 8
  have g9 : ξ 9 = (.agg #[(ξ 2), (ξ 5), (ξ 8)]) := hφ 9
  refine Exists.elim (show ∃ b, ξ 10 = ptr b 0 from hφ 10) fun b2 hb10 => ?_
  replace h : St w0 93 [(1, (.int .u8 ((kind : Nat) : Int))), (2, (ptr b1 0)), (5, (ptr b2 0))] [.blk b1 [p_0v, p_1v, p_2v] 24, .row (α := Iv) 66 (ξ 2) (aa p_0), .row (α := Iv) 66 (ξ 5) (aa p_1), .row (α := Iv) 66 (ξ 8) (aa p_2), .blk (bI (ξ 10)) [(ξ 2), (ξ 5), (ξ 8)] 62] ac wo := (h.pick [0, 1, 2, 3, 4] (by decide)).sub ⟨rfl, rfl, (Eq.trans rfl (congrArg some hb10)), trivial⟩
  rw [hb10] at h
  try clear g9
  generalize ξ 2 = sv1 at h is2; have is_sv1 := is2; clear is2
  try clear g9
  generalize ξ 5 = sv2 at h is5; have is_sv2 := is5; clear is5
  try clear g9
  generalize ξ 8 = sv3 at h is8; have is_sv3 := is8; clear is8
  refine hK4 _ _ ?_
  refine bP fun K5 hK5 => ?_
  have rest : ∀ (a0 a1 a2 : List Iv) (s0 s1 s2 : Value) (ac : Act) (wo : World), Wl a0 → Wl a1 → Wl a2 → d4 s0 → d4 s1 → d4 s2 → St w0 93 [(2, ptr b1 0), (5, ptr b2 0)] [.blk b1 [p_0v, p_1v, p_2v] 24, .blk b2 [s0, s1, s2] 62, .row (α := Iv) 66 s0 a0, .row (α := Iv) 66 s1 a1, .row (α := Iv) 66 s2 a2] ac wo → K5 ac wo := by
    clear h; intro a0 a1 a2 s0 s1 s2 ac wo wa0 wa1 wa2 is_s0 is_s1 is_s2 h
    refine hK5 _ _ ?_
    refine bB fun K6 hK6 => ?_
    refine rd0 h (dC (i := 0) uu62 zz26 rfl rfl (by decide)) rfl ?_; clear h ac wo; intro ac wo h
    refine rd1 h 1 rfl (aZ aa26 zz26 rfl rfl rfl (v := s0) rfl) rfl ?_; clear h ac wo; intro ac wo h
    refine rd0 h (dC (i := 1) uu62 zz26 rfl rfl (by decide)) rfl ?_; clear h ac wo; intro ac wo h
    refine rd1 h 1 rfl (aZ aa26 zz26 rfl rfl rfl (v := s1) rfl) rfl ?_; clear h ac wo; intro ac wo h
    refine rd0 h (dC (i := 2) uu62 zz26 rfl rfl (by decide)) rfl ?_; clear h ac wo; intro ac wo h
    refine rd1 h 1 rfl (aZ aa26 zz26 rfl rfl rfl (v := s2) rfl) rfl ?_; clear h ac wo; intro ac wo h
    refine rd0 h (kb bld28 rfl is_s0 is_s1 is_s2) rfl ?_; clear h ac wo; intro ac wo h
    refine al h [(.slice none 0 0), (.slice none 0 0), (.slice none 0 0)] Tryz.zeroValue28 rfl rfl ?_; clear h ac wo; intro b3 ac wo h
    refine st h 0 [s0, s1, s2] rfl zz28 rfl rfl rfl rfl (one3 is_s0 is_s1 is_s2) rfl rfl ?_; clear h ac wo; intro ac wo h
    refine aE ?_
    refine hK6 _ _ ?_
    refine bP fun K7 hK7 => ?_
    refine bB fun K8 hK8 => ?_
    refine rd0 h (ah rfl (v := (.int .i64 0))) rfl ?_; clear h ac wo; intro ac wo h
    refine aE ?_
    refine hK8 _ _ ?_
    refine dm ?_
    refine iD 3 ?_
    refine bP fun K9 hK9 => ?_
    refine bB fun K10 hK10 => ?_
    refine rd0 h (aj rfl) rfl ?_; clear h ac wo; intro ac wo h
    refine rd0 h (dr rfl rfl) rfl ?_; clear h ac wo; intro ac wo h
    refine aE ?_
    refine hK10 _ _ ?_
    refine kO (b := true) h rfl ?_
    refine bR ?_
    refine hK9 _ _ ?_
    refine bP fun K11 hK11 => ?_
    refine dm ?_
    refine bB fun K12 hK12 => ?_
    refine rd0 h (aj rfl) rfl ?_; clear h ac wo; intro ac wo h
    refine rd0 h (dC (i := 0) uu62 zz26 rfl rfl (by decide)) rfl ?_; clear h ac wo; intro ac wo h
    refine rd1 h 2 rfl (aZ aa26 zz26 rfl rfl rfl (v := s0) rfl) rfl ?_; clear h ac wo; intro ac wo h
    refine dQ (vs := [s0]) h (bh cc39 rfl) (fun w_ hB_ hS_ => fM a0 s0 wa0 w_ (row_view hS_ 3 rfl)) rfl ?_; clear h ac wo; intro ac wo h
    refine rd0 h (ah rfl) rfl ?_; clear h ac wo; intro ac wo h
    refine aE ?_
    refine hK12 _ _ ?_
    refine bB fun K13 hK13 => ?_
    refine rd0 h (aj rfl) rfl ?_; clear h ac wo; intro ac wo h
    refine rd0 h (gw rfl rfl) rfl ?_; clear h ac wo; intro ac wo h
    refine aE ?_
    refine hK13 _ _ ?_
    refine c8 (b := ((aH a0) != 0)) h rfl (fun hc1 => ?_) (fun hc1 => ?_)
    · skip
      have hq1 := hc1; try simp only [Bool.and_eq_true, Bool.or_eq_true, Bool.and_eq_false_iff, Bool.or_eq_false_iff, decide_eq_true_eq, decide_eq_false_iff_not, beq_iff_eq, beq_eq_false_iff_ne, bne_iff_ne, bne_eq_false_iff_eq, Bool.true_and, Bool.not_eq_true', Bool.not_eq_false', ne_eq] at hq1
      refine bB fun K14 hK14 => ?_
      refine rd1 h 0 rfl (aZ aa28 zz28 rfl rfl rfl (v := (.agg #[s0, s1, s2])) rfl) rfl ?_; clear h ac wo; intro ac wo h
      refine dQ (vs := [(.agg #[s0, s1, s2])]) h (bh cc40 rfl) (fun w_ hB_ hS_ => d3 a0 s0 a1 s1 a2 s2 wa0 wa1 wa2 w_ (row_view hS_ 3 rfl) (row_view hS_ 4 rfl) (row_view hS_ 5 rfl)) rfl ?_; clear h ac wo; intro ac wo h
      refine rd0 h (aj rfl) rfl ?_; clear h ac wo; intro ac wo h
      refine rd0 h (Rd.cast (dV rfl rfl) (congrArg Value.bool (by first | exact bcE0 (by assumption) | exact bcE1 (by assumption) (by assumption) | exact bcE2 (by assumption) (by assumption) (by assumption)))) rfl ?_; clear h ac wo; intro ac wo h
      refine rd0 h (ah rfl) rfl ?_; clear h ac wo; intro ac wo h
      refine aE ?_
      refine hK14 _ _ ?_
      replace h := h.sub (F' := [(4, (.bool true))]) ⟨rfl, trivial⟩
      refine cr ?_
      exact ret (rs := [.tmp 4]) h rfl (.tmp rfl .nil) rfl (h.retP rfl trivial)
    · skip
      have hq1 := hc1; try simp only [Bool.and_eq_true, Bool.or_eq_true, Bool.and_eq_false_iff, Bool.or_eq_false_iff, decide_eq_true_eq, decide_eq_false_iff_not, beq_iff_eq, beq_eq_false_iff_ne, bne_iff_ne, bne_eq_false_iff_eq, Bool.true_and, Bool.not_eq_true', Bool.not_eq_false', ne_eq] at hq1
      refine bR ?_
      refine e7 ?_
      refine hK11 _ _ ?_
      refine c_r ?_
      refine rd0 h (aj rfl) rfl ?_; clear h ac wo; intro ac wo h
      refine rd0 h (bO rfl rfl (r := 1) (by decide)) rfl ?_; clear h ac wo; intro ac wo h
      refine rd0 h (ah rfl) rfl ?_; clear h ac wo; intro ac wo h
      refine aE ?_
      replace h := h.sub (F' := [(2, (ptr b1 0)), (5, (ptr b2 0)), (6, (ptr b3 0)), (7, (.int .i64 1))]) ⟨rfl, rfl, rfl, rfl, trivial⟩
      refine fh ?_
      refine bP fun K15 hK15 => ?_
      refine bB fun K16 hK16 => ?_
      refine rd0 h (aj rfl) rfl ?_; clear h ac wo; intro ac wo h
      refine rd0 h (dr rfl rfl) rfl ?_; clear h ac wo; intro ac wo h
      refine aE ?_
      refine hK16 _ _ ?_
      refine kO (b := true) h rfl ?_
      refine bR ?_
      refine hK15 _ _ ?_
      refine bP fun K17 hK17 => ?_
      refine dm ?_
      refine bB fun K18 hK18 => ?_
      refine rd0 h (aj rfl) rfl ?_; clear h ac wo; intro ac wo h
      refine rd0 h (dC (i := 1) uu62 zz26 rfl rfl (by decide)) rfl ?_; clear h ac wo; intro ac wo h
      refine rd1 h 2 rfl (aZ aa26 zz26 rfl rfl rfl (v := s1) rfl) rfl ?_; clear h ac wo; intro ac wo h
      refine dQ (vs := [s1]) h (bh cc39 rfl) (fun w_ hB_ hS_ => fM a1 s1 wa1 w_ (row_view hS_ 4 rfl)) rfl ?_; clear h ac wo; intro ac wo h
      refine rd0 h (ah rfl) rfl ?_; clear h ac wo; intro ac wo h
      refine aE ?_
      refine hK18 _ _ ?_
      refine bB fun K19 hK19 => ?_
      refine rd0 h (aj rfl) rfl ?_; clear h ac wo; intro ac wo h
      refine rd0 h (gw rfl rfl) rfl ?_; clear h ac wo; intro ac wo h
      refine aE ?_
      refine hK19 _ _ ?_
      refine c8 (b := ((aH a1) != 0)) h rfl (fun hc2 => ?_) (fun hc2 => ?_)
      · skip
        have hq2 := hc2; try simp only [Bool.and_eq_true, Bool.or_eq_true, Bool.and_eq_false_iff, Bool.or_eq_false_iff, decide_eq_true_eq, decide_eq_false_iff_not, beq_iff_eq, beq_eq_false_iff_ne, bne_iff_ne, bne_eq_false_iff_eq, Bool.true_and, Bool.not_eq_true', Bool.not_eq_false', ne_eq] at hq2
        refine bB fun K20 hK20 => ?_
        refine rd1 h 0 rfl (aZ aa28 zz28 rfl rfl rfl (v := (.agg #[s0, s1, s2])) rfl) rfl ?_; clear h ac wo; intro ac wo h
        refine dQ (vs := [(.agg #[s0, s1, s2])]) h (bh cc40 rfl) (fun w_ hB_ hS_ => d3 a0 s0 a1 s1 a2 s2 wa0 wa1 wa2 w_ (row_view hS_ 3 rfl) (row_view hS_ 4 rfl) (row_view hS_ 5 rfl)) rfl ?_; clear h ac wo; intro ac wo h
        refine rd0 h (aj rfl) rfl ?_; clear h ac wo; intro ac wo h
        refine rd0 h (Rd.cast (dV rfl rfl) (congrArg Value.bool (by first | exact bcE0 (by assumption) | exact bcE1 (by assumption) (by assumption) | exact bcE2 (by assumption) (by assumption) (by assumption)))) rfl ?_; clear h ac wo; intro ac wo h
        refine rd0 h (ah rfl) rfl ?_; clear h ac wo; intro ac wo h
        refine aE ?_
        refine hK20 _ _ ?_
        replace h := h.sub (F' := [(4, (.bool true))]) ⟨rfl, trivial⟩
        refine cr ?_
        exact ret (rs := [.tmp 4]) h rfl (.tmp rfl .nil) rfl (h.retP rfl trivial)
      · skip
        have hq2 := hc2; try simp only [Bool.and_eq_true, Bool.or_eq_true, Bool.and_eq_false_iff, Bool.or_eq_false_iff, decide_eq_true_eq, decide_eq_false_iff_not, beq_iff_eq, beq_eq_false_iff_ne, bne_iff_ne, bne_eq_false_iff_eq, Bool.true_and, Bool.not_eq_true', Bool.not_eq_false', ne_eq] at hq2
        refine bR ?_
        refine e7 ?_
        refine hK17 _ _ ?_
        refine c_r ?_
        refine rd0 h (aj rfl) rfl ?_; clear h ac wo; intro ac wo h
        refine rd0 h (bO rfl rfl (r := 2) (by decide)) rfl ?_; clear h ac wo; intro ac wo h
        refine rd0 h (ah rfl) rfl ?_; clear h ac wo; intro ac wo h
        refine aE ?_
        refine fh ?_
        refine bP fun K21 hK21 => ?_
        refine bB fun K22 hK22 => ?_
        refine rd0 h (aj rfl) rfl ?_; clear h ac wo; intro ac wo h
        refine rd0 h (dr rfl rfl) rfl ?_; clear h ac wo; intro ac wo h
        refine aE ?_
        refine hK22 _ _ ?_
        refine kO (b := true) h rfl ?_
        refine bR ?_
        refine hK21 _ _ ?_
        refine bP fun K23 hK23 => ?_
        refine dm ?_
        refine bB fun K24 hK24 => ?_
        refine rd0 h (aj rfl) rfl ?_; clear h ac wo; intro ac wo h
        refine rd0 h (dC (i := 2) uu62 zz26 rfl rfl (by decide)) rfl ?_; clear h ac wo; intro ac wo h
        refine rd1 h 2 rfl (aZ aa26 zz26 rfl rfl rfl (v := s2) rfl) rfl ?_; clear h ac wo; intro ac wo h
        refine dQ (vs := [s2]) h (bh cc39 rfl) (fun w_ hB_ hS_ => fM a2 s2 wa2 w_ (row_view hS_ 5 rfl)) rfl ?_; clear h ac wo; intro ac wo h
        refine rd0 h (ah rfl) rfl ?_; clear h ac wo; intro ac wo h
        refine aE ?_
        refine hK24 _ _ ?_
        refine bB fun K25 hK25 => ?_
        refine rd0 h (aj rfl) rfl ?_; clear h ac wo; intro ac wo h
        refine rd0 h (gw rfl rfl) rfl ?_; clear h ac wo; intro ac wo h
        refine aE ?_
        refine hK25 _ _ ?_
        refine c8 (b := ((aH a2) != 0)) h rfl (fun hc3 => ?_) (fun hc3 => ?_)
        · skip
          have hq3 := hc3; try simp only [Bool.and_eq_true, Bool.or_eq_true, Bool.and_eq_false_iff, Bool.or_eq_false_iff, decide_eq_true_eq, decide_eq_false_iff_not, beq_iff_eq, beq_eq_false_iff_ne, bne_iff_ne, bne_eq_false_iff_eq, Bool.true_and, Bool.not_eq_true', Bool.not_eq_false', ne_eq] at hq3
          refine bB fun K26 hK26 => ?_
          refine rd1 h 0 rfl (aZ aa28 zz28 rfl rfl rfl (v := (.agg #[s0, s1, s2])) rfl) rfl ?_; clear h ac wo; intro ac wo h
          refine dQ (vs := [(.agg #[s0, s1, s2])]) h (bh cc40 rfl) (fun w_ hB_ hS_ => d3 a0 s0 a1 s1 a2 s2 wa0 wa1 wa2 w_ (row_view hS_ 3 rfl) (row_view hS_ 4 rfl) (row_view hS_ 5 rfl)) rfl ?_; clear h ac wo; intro ac wo h
          refine rd0 h (aj rfl) rfl ?_; clear h ac wo; intro ac wo h
          refine rd0 h (Rd.cast (dV rfl rfl) (congrArg Value.bool (by first | exact bcE0 (by assumption) | exact bcE1 (by assumption) (by assumption) | exact bcE2 (by assumption) (by assumption) (by assumption)))) rfl ?_; clear h ac wo; intro ac wo h
          refine rd0 h (ah rfl) rfl ?_; clear h ac wo; intro ac wo h
          refine aE ?_
          refine hK26 _ _ ?_
          replace h := h.sub (F' := [(4, (.bool true))]) ⟨rfl, trivial⟩
          refine cr ?_
          exact ret (rs := [.tmp 4]) h rfl (.tmp rfl .nil) rfl (h.retP rfl trivial)
        · skip
          have hq3 := hc3; try simp only [Bool.and_eq_true, Bool.or_eq_true, Bool.and_eq_false_iff, Bool.or_eq_false_iff, decide_eq_true_eq, decide_eq_false_iff_not, beq_iff_eq, beq_eq_false_iff_ne, bne_iff_ne, bne_eq_false_iff_eq, Bool.true_and, Bool.not_eq_true', Bool.not_eq_false', ne_eq] at hq3
          refine bR ?_
          refine e7 ?_
          refine hK23 _ _ ?_
          refine c_r ?_
          refine rd0 h (aj rfl) rfl ?_; clear h ac wo; intro ac wo h
          refine rd0 h (bO rfl rfl (r := 3) (by decide)) rfl ?_; clear h ac wo; intro ac wo h
          refine rd0 h (ah rfl) rfl ?_; clear h ac wo; intro ac wo h
          refine aE ?_
          refine fh ?_
          refine bP fun K27 hK27 => ?_
          refine bB fun K28 hK28 => ?_
          refine rd0 h (aj rfl) rfl ?_; clear h ac wo; intro ac wo h
          refine rd0 h (dr rfl rfl) rfl ?_; clear h ac wo; intro ac wo h
          refine aE ?_
          refine hK28 _ _ ?_
          refine kP (b := false) h rfl ?_
          refine dW ?_
          refine hK7 _ _ ?_
          refine bB fun K29 hK29 => ?_
          refine rd0 h (ah rfl (v := (.int .i64 0))) rfl ?_; clear h ac wo; intro ac wo h
          refine aE ?_
          refine hK29 _ _ ?_
          refine bP fun K30 hK30 => ?_
          refine bB fun K31 hK31 => ?_
          refine rd0 h (dC (i := 2) uu62 zz26 rfl rfl (by decide)) rfl ?_; clear h ac wo; intro ac wo h
          refine rd1 h 2 rfl (aZ aa26 zz26 rfl rfl rfl (v := s2) rfl) rfl ?_; clear h ac wo; intro ac wo h
          refine rd0 h (dC (i := 1) uu62 zz26 rfl rfl (by decide)) rfl ?_; clear h ac wo; intro ac wo h
          refine rd1 h 2 rfl (aZ aa26 zz26 rfl rfl rfl (v := s1) rfl) rfl ?_; clear h ac wo; intro ac wo h
          refine dQ (vs := [s2, s1]) h (bh Tryz.call41 rfl) (fun w_ hB_ hS_ => gM a2 s2 a1 s1 wa2 wa1 w_ (row_view hS_ 5 rfl) (row_view hS_ 4 rfl)) rfl ?_; clear h ac wo; intro ac wo h
          refine rd0 h (eU rfl) rfl ?_; clear h ac wo; intro ac wo h
          refine rd0 h (aj rfl) rfl ?_; clear h ac wo; intro ac wo h
          refine gd (j := 6) (c := true) (b := (!(aT a2 a1))) (g := (!(!(aT a2 a1)))) h rfl rfl g_f (fun hg => (Rd.of_nil (dC (i := 0) uu62 zz26 rfl rfl (by decide))).step) rfl ?_; clear h ac wo; intro ac wo h
          refine gd (j := 6) (c := true) (b := (!(aT a2 a1))) (g := (!(!(aT a2 a1)))) h rfl rfl g_f (fun hg => (Rd.of_mem (i := 2) (aZ aa26 zz26 (bo rfl hg) rfl rfl (v := s0) rfl) rfl).step) rfl ?_; clear h ac wo; intro ac wo h
          refine gd (j := 6) (c := true) (b := (!(aT a2 a1))) (g := (!(!(aT a2 a1)))) h rfl rfl g_f (fun hg => (Rd.of_nil (dC (i := 2) uu62 zz26 rfl rfl (by decide))).step) rfl ?_; clear h ac wo; intro ac wo h
          refine gd (j := 6) (c := true) (b := (!(aT a2 a1))) (g := (!(!(aT a2 a1)))) h rfl rfl g_f (fun hg => (Rd.of_mem (i := 2) (aZ aa26 zz26 (bo rfl hg) rfl rfl (v := s2) rfl) rfl).step) rfl ?_; clear h ac wo; intro ac wo h
          refine gd (j := 6) (c := true) (b := (!(aT a2 a1))) (g := (!(!(aT a2 a1)))) h rfl rfl g_f (fun hg => df (vs := [s0, s2]) (bh Tryz.call41 (en (bo rfl hg) (en (bo rfl hg) rfl))) (fun w_ hB_ hS_ => gM a0 s0 a2 s2 wa0 wa2 w_ (row_view hS_ 3 rfl) (row_view hS_ 5 rfl))) rfl ?_; clear h ac wo; intro ac wo h
          refine gd (j := 6) (c := true) (b := (!(aT a2 a1))) (g := (!(!(aT a2 a1)))) h rfl rfl g_f (fun hg => (Rd.of_nil (eU (bo rfl hg))).step) rfl ?_; clear h ac wo; intro ac wo h
          refine rd0 h (mM rfl (fun e => (bo rfl (mO e)))) rfl ?_; clear h ac wo; intro ac wo h
          refine aE ?_
          refine hK31 _ _ ?_
          replace h := h.sub (F' := [(2, (ptr b1 0)), (6, (ptr b3 0)), (9, (.int .i64 0)), (82, (.bool ((!(aT a2 a1)) || (!(aT a0 a2)))))]) ⟨rfl, rfl, rfl, rfl, trivial⟩
          refine c8 (b := ((!(aT a2 a1)) || (!(aT a0 a2)))) h rfl (fun hc4 => ?_) (fun hc4 => ?_)
          · skip
            have hq4 := hc4; try simp only [Bool.and_eq_true, Bool.or_eq_true, Bool.and_eq_false_iff, Bool.or_eq_false_iff, decide_eq_true_eq, decide_eq_false_iff_not, beq_iff_eq, beq_eq_false_iff_ne, bne_iff_ne, bne_eq_false_iff_eq, Bool.true_and, Bool.not_eq_true', Bool.not_eq_false', ne_eq] at hq4
            refine c_r ?_
            refine rd0 h (ah rfl (v := (.int .i64 2))) rfl ?_; clear h ac wo; intro ac wo h
            refine aE ?_
            refine hK30 _ _ ?_
            refine bB fun K32 hK32 => ?_
            refine rd1 h 0 rfl (aZ aa28 zz28 rfl rfl rfl (v := (.agg #[s0, s1, s2])) rfl) rfl ?_; clear h ac wo; intro ac wo h
            refine dQ (vs := [(.agg #[s0, s1, s2])]) h (bh cc40 rfl) (fun w_ hB_ hS_ => d3 a0 s0 a1 s1 a2 s2 wa0 wa1 wa2 w_ (row_view hS_ 3 rfl) (row_view hS_ 4 rfl) (row_view hS_ 5 rfl)) rfl ?_; clear h ac wo; intro ac wo h
            refine rd0 h (aj rfl) rfl ?_; clear h ac wo; intro ac wo h
            refine rd0 h (Rd.cast (dV rfl rfl) (congrArg Value.bool (by first | exact bcW1 (by assumption) (by assumption) (by assumption) (by assumption) | exact bcW0 (by assumption) (by assumption) (by assumption) (by assumption)))) rfl ?_; clear h ac wo; intro ac wo h
            refine rd0 h (aj rfl) rfl ?_; clear h ac wo; intro ac wo h
            refine gK (j := 4) (c := true) (b := true) (g := true) h rfl rfl g_t rfl ?_
            refine rd1 h 1 rfl (aZ Tryz.isAgg24 Tryz.sizeOf24 rfl rfl rfl (v := (.agg #[p_0v, p_1v, p_2v])) rfl) rfl ?_; clear h ac wo; intro ac wo h
            refine gK (j := 4) (c := true) (b := true) (g := true) h rfl rfl g_t rfl ?_
            refine c_ag (vs := [(.agg #[p_0v, p_1v, p_2v])]) h (bh Tryz.call9 rfl) (fun w_ hB_ hS_ => ey p_0 p_0v p_1 p_1v p_2 p_2v w_ (hp_0v.below hB_) (hp_1v.below hB_) (hp_2v.below hB_)) rfl ?_; clear h ac wo; intro va ac wo ha h
            obtain ⟨ha, hi⟩ := ha
            generalize agc va 0 = sv4 at h ha hi
            generalize agc va 1 = sv5 at h ha hi
            generalize agc va 2 = sv6 at h ha hi
            obtain ⟨is_sv4, is_sv5, is_sv6⟩ := sl3 hi
            subst ha
            refine gK (j := 4) (c := true) (b := true) (g := true) h rfl rfl g_t rfl ?_
            refine dQ (vs := [(.agg #[sv4, sv5, sv6])]) h (bh cc40 rfl) (fun w_ hB_ hS_ => d3 (aa p_0) sv4 (af (af (aa p_0) (aa p_2)) (aa p_1)) sv5 (af (aa p_0) (aa p_2)) sv6 (Cn.wl (aD p_0)) (Cn.wl (Cn.inter (Cn.inter (aD p_0) (aD p_2)) (aD p_1))) (Cn.wl (Cn.inter (aD p_0) (aD p_2))) w_ (row_view hS_ 0 rfl) (row_view hS_ 1 rfl) (row_view hS_ 2 rfl)) rfl ?_; clear h ac wo; intro ac wo h
            refine gK (j := 4) (c := true) (b := true) (g := true) h rfl rfl g_t rfl ?_
            refine rd0 h (Rd.cast (dV rfl rfl) (congrArg Value.bool (bc_of (aD _) (aD _) (aD _)))) rfl ?_; clear h ac wo; intro ac wo h
            refine rd0 h (fv (b := true) rfl (fun e => rfl) (fun e => absurd e (by decide)) (v := (.bool true))) rfl ?_; clear h ac wo; intro ac wo h
            refine rd0 h (ah rfl) rfl ?_; clear h ac wo; intro ac wo h
            refine aE ?_
            refine hK32 _ _ ?_
            refine cr ?_
            exact ret (rs := [.tmp 4]) h rfl (.tmp rfl .nil) rfl (h.retP rfl trivial)
          · skip
            have hq4 := hc4; try simp only [Bool.and_eq_true, Bool.or_eq_true, Bool.and_eq_false_iff, Bool.or_eq_false_iff, decide_eq_true_eq, decide_eq_false_iff_not, beq_iff_eq, beq_eq_false_iff_ne, bne_iff_ne, bne_eq_false_iff_eq, Bool.true_and, Bool.not_eq_true', Bool.not_eq_false', ne_eq] at hq4
            refine bR ?_
            refine hK30 _ _ ?_
            refine bB fun K33 hK33 => ?_
            refine rd1 h 0 rfl (aZ aa28 zz28 rfl rfl rfl (v := (.agg #[s0, s1, s2])) rfl) rfl ?_; clear h ac wo; intro ac wo h
            refine dQ (vs := [(.agg #[s0, s1, s2])]) h (bh cc40 rfl) (fun w_ hB_ hS_ => d3 a0 s0 a1 s1 a2 s2 wa0 wa1 wa2 w_ (row_view hS_ 3 rfl) (row_view hS_ 4 rfl) (row_view hS_ 5 rfl)) rfl ?_; clear h ac wo; intro ac wo h
            refine rd0 h (aj rfl) rfl ?_; clear h ac wo; intro ac wo h
            refine rd0 h (Rd.cast (dV rfl rfl) (congrArg Value.bool (by first | exact bcW1 (by assumption) (by assumption) (by assumption) (by assumption) | exact bcW0 (by assumption) (by assumption) (by assumption) (by assumption)))) rfl ?_; clear h ac wo; intro ac wo h
            refine rd0 h (aj rfl) rfl ?_; clear h ac wo; intro ac wo h
            refine gK (j := 4) (c := true) (b := true) (g := true) h rfl rfl g_t rfl ?_
            refine rd1 h 1 rfl (aZ Tryz.isAgg24 Tryz.sizeOf24 rfl rfl rfl (v := (.agg #[p_0v, p_1v, p_2v])) rfl) rfl ?_; clear h ac wo; intro ac wo h
            refine gK (j := 4) (c := true) (b := true) (g := true) h rfl rfl g_t rfl ?_
            refine c_ag (vs := [(.agg #[p_0v, p_1v, p_2v])]) h (bh Tryz.call9 rfl) (fun w_ hB_ hS_ => ey p_0 p_0v p_1 p_1v p_2 p_2v w_ (hp_0v.below hB_) (hp_1v.below hB_) (hp_2v.below hB_)) rfl ?_; clear h ac wo; intro va ac wo ha h
            obtain ⟨ha, hi⟩ := ha
            generalize agc va 0 = sv7 at h ha hi
            generalize agc va 1 = sv8 at h ha hi
            generalize agc va 2 = sv9 at h ha hi
            obtain ⟨is_sv7, is_sv8, is_sv9⟩ := sl3 hi
            subst ha
            refine gK (j := 4) (c := true) (b := true) (g := true) h rfl rfl g_t rfl ?_
            refine dQ (vs := [(.agg #[sv7, sv8, sv9])]) h (bh cc40 rfl) (fun w_ hB_ hS_ => d3 (aa p_0) sv7 (af (af (aa p_0) (aa p_2)) (aa p_1)) sv8 (af (aa p_0) (aa p_2)) sv9 (Cn.wl (aD p_0)) (Cn.wl (Cn.inter (Cn.inter (aD p_0) (aD p_2)) (aD p_1))) (Cn.wl (Cn.inter (aD p_0) (aD p_2))) w_ (row_view hS_ 0 rfl) (row_view hS_ 1 rfl) (row_view hS_ 2 rfl)) rfl ?_; clear h ac wo; intro ac wo h
            refine gK (j := 4) (c := true) (b := true) (g := true) h rfl rfl g_t rfl ?_
            refine rd0 h (Rd.cast (dV rfl rfl) (congrArg Value.bool (bc_of (aD _) (aD _) (aD _)))) rfl ?_; clear h ac wo; intro ac wo h
            refine rd0 h (fv (b := true) rfl (fun e => rfl) (fun e => absurd e (by decide)) (v := (.bool true))) rfl ?_; clear h ac wo; intro ac wo h
            refine rd0 h (ah rfl) rfl ?_; clear h ac wo; intro ac wo h
            refine aE ?_
            refine hK33 _ _ ?_
            refine cr ?_
            exact ret (rs := [.tmp 4]) h rfl (.tmp rfl .nil) rfl (h.retP rfl trivial)
  have hk4 : kind % 4 = 0 ∨ kind % 4 = 1 ∨ kind % 4 = 2 ∨ kind % 4 = 3 := by omega
  rcases hk4 with hk | hk | hk | hk
  · skip
    refine bB fun K34 hK34 => ?_
    refine rd0 h (aj rfl) rfl ?_; clear h ac wo; intro ac wo h
    refine rd0 h (Rd.cast (ex rfl rfl (r := (((kind % 4 : Nat)) : Int)) (by decide) (by rw [Int.tmod_eq_emod_of_nonneg (by omega)]; rfl)) (v := .int .u8 0) (by rw [hk]; rfl)) rfl ?_; clear h ac wo; intro ac wo h
    refine rd0 h (Rd.cast (dr rfl rfl) (v := .bool true) rfl) rfl ?_; clear h ac wo; intro ac wo h
    refine rd0 h (aj rfl) rfl ?_; clear h ac wo; intro ac wo h
    refine gK (j := 3) (c := true) (b := true) (g := true) h rfl rfl g_t rfl ?_
    refine rd0 h (aj rfl) rfl ?_; clear h ac wo; intro ac wo h
    refine gK (j := 3) (c := true) (b := true) (g := true) h rfl rfl g_t rfl ?_
    refine rd0 h (Rd.cast (ex rfl rfl (r := (((kind % 4 : Nat)) : Int)) (by decide) (by rw [Int.tmod_eq_emod_of_nonneg (by omega)]; rfl)) (v := .int .u8 0) (by rw [hk]; rfl)) rfl ?_; clear h ac wo; intro ac wo h
    refine gK (j := 3) (c := true) (b := true) (g := true) h rfl rfl g_t rfl ?_
    refine rd0 h (dC (i := 0) uu62 zz26 rfl rfl (by decide)) rfl ?_; clear h ac wo; intro ac wo h
    refine gK (j := 3) (c := true) (b := true) (g := true) h rfl rfl g_t rfl ?_
    refine rd1 h 4 rfl (aZ aa26 zz26 rfl rfl rfl (v := sv1) rfl) rfl ?_; clear h ac wo; intro ac wo h
    refine gK (j := 3) (c := true) (b := true) (g := true) h rfl rfl g_t rfl ?_
    refine rd0 h (dx uu26 rfl (h.row_sl 1 rfl)) rfl ?_; clear h ac wo; intro ac wo h
    refine gK (j := 3) (c := true) (b := true) (g := true) h rfl rfl g_t rfl ?_
    refine rd0 h (iB rfl rfl) rfl ?_; clear h ac wo; intro ac wo h
    refine rd0 h (fv (b := true) rfl (fun e => rfl) (fun e => absurd e (by decide)) (v := (.bool (decide ((((aa p_0).length : Nat) : Int) > 0))))) rfl ?_; clear h ac wo; intro ac wo h
    refine aE ?_
    refine hK34 _ _ ?_
    refine c8 (b := (decide ((((aa p_0).length : Nat) : Int) > 0))) h rfl (fun hc5 => ?_) (fun hc5 => ?_)
    · skip
      have hd5 := of_decide_eq_true hc5
      replace h := h.emps 1
      refine hO [0, 1, 0, 4, 12, 28, 0, 64, 192, 448, 960, 1984, 4032, 8188, 16383, 32767] (by kernel_rfl) mixed [⟨.det (.int .u8 ((kind : Nat) : Int)), []⟩, ⟨.det (.int .u8 0), []⟩, ⟨.det (.int .u8 ((kind : Nat) : Int)), []⟩, ⟨.det (.int .u8 0), []⟩, ⟨.det (ptr b2 0), []⟩, ⟨.det sv1, [4]⟩, ⟨.det (.int .u8 ((kind : Nat) : Int)), []⟩, ⟨.det (.int .u8 0), []⟩, ⟨.det (ptr b2 0), []⟩, ⟨.det sv1, [4]⟩, ⟨.det (sel sv1 (0 * 20)), []⟩, ⟨.det (vV (gt (aa p_0) 0)), [1]⟩, ⟨.nd (.one 12 fun v => NN v 1), [5]⟩, ⟨.nd (.one 13 fun v => d4 v), [1, 5]⟩, ⟨.det (ptr b2 0), []⟩, ⟨.det undef, [4]⟩] [⟨.blk b1 [p_0v, p_1v, p_2v] 24, []⟩, ⟨.row (α := Iv) 66 sv1 (aa p_0), [(13, .one 13 fun v => .row (α := Iv) 66 (v) ((aa p_0) ++ [(gt (aa p_0) 0)]))]⟩, ⟨.row (α := Iv) 66 sv2 (aa p_1), []⟩, ⟨.row (α := Iv) 66 sv3 (aa p_2), []⟩, ⟨.blk b2 [sv1, sv2, sv3] 62, [(15, .one 13 fun v => .blk b2 [(v), sv2, sv3] 62)]⟩, ⟨.emp, [(12, .one 12 fun v => .row (α := Iv) 66 (v) ([(gt (aa p_0) 0)]))]⟩] h rfl (by kernel_rfl) ⟨?_, ?_, ?_, ?_, ?_, ?_, ?_, ?_, ?_, ?_, ?_, ?_, ?_, ?_, ?_, ?_, trivial⟩ ?_
      · intro ξ hφ; exact obI (ay (aj rfl))
      · intro ξ hφ; exact obI (ay (Rd.cast (ex rfl rfl (r := (((kind % 4 : Nat)) : Int)) (by decide) (by rw [Int.tmod_eq_emod_of_nonneg (by omega)]; rfl)) (v := .int .u8 0) (by rw [hk]; rfl)))
      · intro ξ hφ; exact obI (ay (aj rfl))
      · intro ξ hφ; exact obI (ay (Rd.cast (ex rfl rfl (r := (((kind % 4 : Nat)) : Int)) (by decide) (by rw [Int.tmod_eq_emod_of_nonneg (by omega)]; rfl)) (v := .int .u8 0) (by rw [hk]; rfl)))
      · intro ξ hφ; exact obI (ay (dC (i := 0) uu62 zz26 rfl rfl (by decide)))
      · intro ξ hφ; exact obI (bT [.blk b2 [sv1, sv2, sv3] 62] rfl rfl (aZ aa26 zz26 rfl rfl rfl (v := sv1) rfl))
      · intro ξ hφ; exact obI (ay (aj rfl))
      · intro ξ hφ; exact obI (ay (Rd.cast (ex rfl rfl (r := (((kind % 4 : Nat)) : Int)) (by decide) (by rw [Int.tmod_eq_emod_of_nonneg (by omega)]; rfl)) (v := .int .u8 0) (by rw [hk]; rfl)))
      · intro ξ hφ; exact obI (ay (dC (i := 0) uu62 zz26 rfl rfl (by decide)))
      · intro ξ hφ; exact obI (bT [.blk b2 [sv1, sv2, sv3] 62] rfl rfl (aZ aa26 zz26 rfl rfl rfl (v := sv1) rfl))
      · intro ξ hφ; exact obI (ay (ep (i := 0) uu26 zz66 rfl rfl (h.row_nn 1 rfl (by first | assumption | omega | (simp only [aq, Bool.cond_decide, Bool.cond_eq_ite, List.length_append, List.length_set, List.length_cons, List.length_nil, List.length_take, List.length_drop, List.length_replicate] at *; done) | (simp only [aq, Bool.cond_decide, Bool.cond_eq_ite, List.length_append, List.length_set, List.length_cons, List.length_nil, List.length_take, List.length_drop, List.length_replicate] at *; omega) | (simp only [aq, Bool.cond_decide, Bool.cond_eq_ite, List.length_append, List.length_set, List.length_cons, List.length_nil, List.length_take, List.length_drop, List.length_replicate]; omega))) (by first | assumption | omega | (simp only [aq, Bool.cond_decide, Bool.cond_eq_ite, List.length_append, List.length_set, List.length_cons, List.length_nil, List.length_take, List.length_drop, List.length_replicate] at *; done) | (simp only [aq, Bool.cond_decide, Bool.cond_eq_ite, List.length_append, List.length_set, List.length_cons, List.length_nil, List.length_take, List.length_drop, List.length_replicate] at *; omega) | (simp only [aq, Bool.cond_decide, Bool.cond_eq_ite, List.length_append, List.length_set, List.length_cons, List.length_nil, List.length_take, List.length_drop, List.length_replicate]; omega))))
      · intro ξ hφ; exact obI (bT [.row (α := Iv) 66 sv1 (aa p_0)] rfl rfl (er (k := 0) aa66 zz66 (ec (by first | assumption | omega | (simp only [aq, Bool.cond_decide, Bool.cond_eq_ite, List.length_append, List.length_set, List.length_cons, List.length_nil, List.length_take, List.length_drop, List.length_replicate] at *; done) | (simp only [aq, Bool.cond_decide, Bool.cond_eq_ite, List.length_append, List.length_set, List.length_cons, List.length_nil, List.length_take, List.length_drop, List.length_replicate] at *; omega) | (simp only [aq, Bool.cond_decide, Bool.cond_eq_ite, List.length_append, List.length_set, List.length_cons, List.length_nil, List.length_take, List.length_drop, List.length_replicate]; omega))) rfl (Nat.add_zero _) rfl rfl (v := (vV (gt (aa p_0) 0))) rfl))
      · intro ξ hφ; exact obI (ij (ψ := fun v => NN v 1) (B := fun v => [.row (α := Iv) 66 v ([(gt (aa p_0) 0)])]) [.emp] rfl (fun v _ => by simp only [dO, aS] <;> rfl) (fun v hv => by simpa [DF.one, aS] using hv) (fU (dg (α := Iv) (xs := [.tmp 44]) (vs := [(vV (gt (aa p_0) 0))]) [(gt (aa p_0) 0)] ic rfl rfl rfl (by decide))))
      · intro ξ hφ; have is12 : d4 (ξ 12) := NN.isl (hφ 12 rfl); exact obI (ij (B := fun v => [.row (α := Iv) 66 v ((aa p_0) ++ [(gt (aa p_0) 0)]), .row (α := Iv) 66 (ξ 12) ([(gt (aa p_0) 0)])]) [.row (α := Iv) 66 sv1 (aa p_0), .row (α := Iv) 66 (ξ 12) ([(gt (aa p_0) 0)])] rfl (fun v _ => by simp only [dO, aS] <;> rfl) (fun v hv => by show d4 (upd ξ 13 v 13); rw [aS]; exact (hv (by simp)).isl) (eM (xs := (aa p_0)) (ys := [(gt (aa p_0) 0)]) ic (fun w hs => (row_view hs 0 rfl)) rfl rfl (by have hq_ := ((aD p_0)).len; simp; omega)))
      · intro ξ hφ; exact obI (ay (dC (i := 0) uu62 zz26 rfl rfl (by decide)))
      · intro ξ hφ; have is13 : d4 (ξ 13) := hφ 13 rfl; exact obI (es [.blk b2 [sv1, sv2, sv3] 62] [.blk b2 [(ξ 13), sv2, sv3] 62] rfl rfl (eW zz26 rfl rfl (kz is13) rfl (mT is13) rfl rfl))
      clear h ac wo; intro ξ ac wo hφ h
      have is12 : d4 (ξ 12) := NN.isl (hφ 12)
      have is13 : d4 (ξ 13) := hφ 13
      replace h : St w0 93 [(2, (ptr b1 0)), (5, (ptr b2 0))] [.blk b1 [p_0v, p_1v, p_2v] 24, .row (α := Iv) 66 (ξ 13) ((aa p_0) ++ [(gt (aa p_0) 0)]), .row (α := Iv) 66 sv2 (aa p_1), .row (α := Iv) 66 sv3 (aa p_2), .blk b2 [(ξ 13), sv2, sv3] 62] ac wo := (h.pick [0, 1, 2, 3, 4] (by decide)).sub ⟨rfl, rfl, trivial⟩
      generalize ξ 13 = sv10 at h is13; have is_sv10 := is13; clear is13
      exact rest (((aa p_0) ++ [(gt (aa p_0) 0)])) ((aa p_1)) ((aa p_2)) _ _ _ _ _ (Cn.app (aD p_0) (i := 0) (by omega)) (Cn.wl (aD p_1)) (Cn.wl (aD p_2)) is_sv10 is_sv2 is_sv3 ((h.pick [0, 4, 1, 2, 3] (by decide)).sub ⟨rfl, rfl, trivial⟩)
    · skip
      have hd5 := of_decide_eq_false hc5
      refine bR ?_
      exact rest ((aa p_0)) ((aa p_1)) ((aa p_2)) _ _ _ _ _ (Cn.wl (aD p_0)) (Cn.wl (aD p_1)) (Cn.wl (aD p_2)) is_sv1 is_sv2 is_sv3 ((h.pick [0, 4, 1, 2, 3] (by decide)).sub ⟨rfl, rfl, trivial⟩)
  · skip
    refine bB fun K35 hK35 => ?_
    refine rd0 h (aj rfl) rfl ?_; clear h ac wo; intro ac wo h
    refine rd0 h (Rd.cast (ex rfl rfl (r := (((kind % 4 : Nat)) : Int)) (by decide) (by rw [Int.tmod_eq_emod_of_nonneg (by omega)]; rfl)) (v := .int .u8 1) (by rw [hk]; rfl)) rfl ?_; clear h ac wo; intro ac wo h
    refine rd0 h (Rd.cast (dr rfl rfl) (v := .bool true) rfl) rfl ?_; clear h ac wo; intro ac wo h
    refine rd0 h (aj rfl) rfl ?_; clear h ac wo; intro ac wo h
    refine gK (j := 3) (c := true) (b := true) (g := true) h rfl rfl g_t rfl ?_
    refine rd0 h (aj rfl) rfl ?_; clear h ac wo; intro ac wo h
    refine gK (j := 3) (c := true) (b := true) (g := true) h rfl rfl g_t rfl ?_
    refine rd0 h (Rd.cast (ex rfl rfl (r := (((kind % 4 : Nat)) : Int)) (by decide) (by rw [Int.tmod_eq_emod_of_nonneg (by omega)]; rfl)) (v := .int .u8 1) (by rw [hk]; rfl)) rfl ?_; clear h ac wo; intro ac wo h
    refine gK (j := 3) (c := true) (b := true) (g := true) h rfl rfl g_t rfl ?_
    refine rd0 h (dC (i := 1) uu62 zz26 rfl rfl (by decide)) rfl ?_; clear h ac wo; intro ac wo h
    refine gK (j := 3) (c := true) (b := true) (g := true) h rfl rfl g_t rfl ?_
    refine rd1 h 4 rfl (aZ aa26 zz26 rfl rfl rfl (v := sv2) rfl) rfl ?_; clear h ac wo; intro ac wo h
    refine gK (j := 3) (c := true) (b := true) (g := true) h rfl rfl g_t rfl ?_
    refine rd0 h (dx uu26 rfl (h.row_sl 2 rfl)) rfl ?_; clear h ac wo; intro ac wo h
    refine gK (j := 3) (c := true) (b := true) (g := true) h rfl rfl g_t rfl ?_
    refine rd0 h (iB rfl rfl) rfl ?_; clear h ac wo; intro ac wo h
    refine rd0 h (fv (b := true) rfl (fun e => rfl) (fun e => absurd e (by decide)) (v := (.bool (decide ((((aa p_1).length : Nat) : Int) > 0))))) rfl ?_; clear h ac wo; intro ac wo h
    refine aE ?_
    refine hK35 _ _ ?_
    refine c8 (b := (decide ((((aa p_1).length : Nat) : Int) > 0))) h rfl (fun hc6 => ?_) (fun hc6 => ?_)
    · skip
      have hd6 := of_decide_eq_true hc6
      replace h := h.emps 1
      refine hO [0, 1, 0, 4, 12, 28, 0, 64, 192, 448, 960, 1984, 4032, 8188, 16383, 32767] (by kernel_rfl) mixed [⟨.det (.int .u8 ((kind : Nat) : Int)), []⟩, ⟨.det (.int .u8 1), []⟩, ⟨.det (.int .u8 ((kind : Nat) : Int)), []⟩, ⟨.det (.int .u8 1), []⟩, ⟨.det (ptr b2 1), []⟩, ⟨.det sv2, [4]⟩, ⟨.det (.int .u8 ((kind : Nat) : Int)), []⟩, ⟨.det (.int .u8 1), []⟩, ⟨.det (ptr b2 1), []⟩, ⟨.det sv2, [4]⟩, ⟨.det (sel sv2 (0 * 20)), []⟩, ⟨.det (vV (gt (aa p_1) 0)), [2]⟩, ⟨.nd (.one 12 fun v => NN v 1), [5]⟩, ⟨.nd (.one 13 fun v => d4 v), [2, 5]⟩, ⟨.det (ptr b2 1), []⟩, ⟨.det undef, [4]⟩] [⟨.blk b1 [p_0v, p_1v, p_2v] 24, []⟩, ⟨.row (α := Iv) 66 sv1 (aa p_0), []⟩, ⟨.row (α := Iv) 66 sv2 (aa p_1), [(13, .one 13 fun v => .row (α := Iv) 66 (v) ((aa p_1) ++ [(gt (aa p_1) 0)]))]⟩, ⟨.row (α := Iv) 66 sv3 (aa p_2), []⟩, ⟨.blk b2 [sv1, sv2, sv3] 62, [(15, .one 13 fun v => .blk b2 [sv1, (v), sv3] 62)]⟩, ⟨.emp, [(12, .one 12 fun v => .row (α := Iv) 66 (v) ([(gt (aa p_1) 0)]))]⟩] h rfl (by kernel_rfl) ⟨?_, ?_, ?_, ?_, ?_, ?_, ?_, ?_, ?_, ?_, ?_, ?_, ?_, ?_, ?_, ?_, trivial⟩ ?_
      · intro ξ hφ; exact obI (ay (aj rfl))
      · intro ξ hφ; exact obI (ay (Rd.cast (ex rfl rfl (r := (((kind % 4 : Nat)) : Int)) (by decide) (by rw [Int.tmod_eq_emod_of_nonneg (by omega)]; rfl)) (v := .int .u8 1) (by rw [hk]; rfl)))
      · intro ξ hφ; exact obI (ay (aj rfl))
      · intro ξ hφ; exact obI (ay (Rd.cast (ex rfl rfl (r := (((kind % 4 : Nat)) : Int)) (by decide) (by rw [Int.tmod_eq_emod_of_nonneg (by omega)]; rfl)) (v := .int .u8 1) (by rw [hk]; rfl)))
      · intro ξ hφ; exact obI (ay (dC (i := 1) uu62 zz26 rfl rfl (by decide)))
      · intro ξ hφ; exact obI (bT [.blk b2 [sv1, sv2, sv3] 62] rfl rfl (aZ aa26 zz26 rfl rfl rfl (v := sv2) rfl))
      · intro ξ hφ; exact obI (ay (aj rfl))
      · intro ξ hφ; exact obI (ay (Rd.cast (ex rfl rfl (r := (((kind % 4 : Nat)) : Int)) (by decide) (by rw [Int.tmod_eq_emod_of_nonneg (by omega)]; rfl)) (v := .int .u8 1) (by rw [hk]; rfl)))
      · intro ξ hφ; exact obI (ay (dC (i := 1) uu62 zz26 rfl rfl (by decide)))
      · intro ξ hφ; exact obI (bT [.blk b2 [sv1, sv2, sv3] 62] rfl rfl (aZ aa26 zz26 rfl rfl rfl (v := sv2) rfl))
      · intro ξ hφ; exact obI (ay (ep (i := 0) uu26 zz66 rfl rfl (h.row_nn 2 rfl (by first | assumption | omega | (simp only [aq, Bool.cond_decide, Bool.cond_eq_ite, List.length_append, List.length_set, List.length_cons, List.length_nil, List.length_take, List.length_drop, List.length_replicate] at *; done) | (simp only [aq, Bool.cond_decide, Bool.cond_eq_ite, List.length_append, List.length_set, List.length_cons, List.length_nil, List.length_take, List.length_drop, List.length_replicate] at *; omega) | (simp only [aq, Bool.cond_decide, Bool.cond_eq_ite, List.length_append, List.length_set, List.length_cons, List.length_nil, List.length_take, List.length_drop, List.length_replicate]; omega))) (by first | assumption | omega | (simp only [aq, Bool.cond_decide, Bool.cond_eq_ite, List.length_append, List.length_set, List.length_cons, List.length_nil, List.length_take, List.length_drop, List.length_replicate] at *; done) | (simp only [aq, Bool.cond_decide, Bool.cond_eq_ite, List.length_append, List.length_set, List.length_cons, List.length_nil, List.length_take, List.length_drop, List.length_replicate] at *; omega) | (simp only [aq, Bool.cond_decide, Bool.cond_eq_ite, List.length_append, List.length_set, List.length_cons, List.length_nil, List.length_take, List.length_drop, List.length_replicate]; omega))))
      · intro ξ hφ; exact obI (bT [.row (α := Iv) 66 sv2 (aa p_1)] rfl rfl (er (k := 0) aa66 zz66 (ec (by first | assumption | omega | (simp only [aq, Bool.cond_decide, Bool.cond_eq_ite, List.length_append, List.length_set, List.length_cons, List.length_nil, List.length_take, List.length_drop, List.length_replicate] at *; done) | (simp only [aq, Bool.cond_decide, Bool.cond_eq_ite, List.length_append, List.length_set, List.length_cons, List.length_nil, List.length_take, List.length_drop, List.length_replicate] at *; omega) | (simp only [aq, Bool.cond_decide, Bool.cond_eq_ite, List.length_append, List.length_set, List.length_cons, List.length_nil, List.length_take, List.length_drop, List.length_replicate]; omega))) rfl (Nat.add_zero _) rfl rfl (v := (vV (gt (aa p_1) 0))) rfl))
      · intro ξ hφ; exact obI (ij (ψ := fun v => NN v 1) (B := fun v => [.row (α := Iv) 66 v ([(gt (aa p_1) 0)])]) [.emp] rfl (fun v _ => by simp only [dO, aS] <;> rfl) (fun v hv => by simpa [DF.one, aS] using hv) (fU (dg (α := Iv) (xs := [.tmp 44]) (vs := [(vV (gt (aa p_1) 0))]) [(gt (aa p_1) 0)] ic rfl rfl rfl (by decide))))
      · intro ξ hφ; have is12 : d4 (ξ 12) := NN.isl (hφ 12 rfl); exact obI (ij (B := fun v => [.row (α := Iv) 66 v ((aa p_1) ++ [(gt (aa p_1) 0)]), .row (α := Iv) 66 (ξ 12) ([(gt (aa p_1) 0)])]) [.row (α := Iv) 66 sv2 (aa p_1), .row (α := Iv) 66 (ξ 12) ([(gt (aa p_1) 0)])] rfl (fun v _ => by simp only [dO, aS] <;> rfl) (fun v hv => by show d4 (upd ξ 13 v 13); rw [aS]; exact (hv (by simp)).isl) (eM (xs := (aa p_1)) (ys := [(gt (aa p_1) 0)]) ic (fun w hs => (row_view hs 0 rfl)) rfl rfl (by have hq_ := ((aD p_1)).len; simp; omega)))
      · intro ξ hφ; exact obI (ay (dC (i := 1) uu62 zz26 rfl rfl (by decide)))
      · intro ξ hφ; have is13 : d4 (ξ 13) := hφ 13 rfl; exact obI (es [.blk b2 [sv1, sv2, sv3] 62] [.blk b2 [sv1, (ξ 13), sv3] 62] rfl rfl (eW zz26 rfl rfl (kz is13) rfl (mT is13) rfl rfl))
      clear h ac wo; intro ξ ac wo hφ h
      have is12 : d4 (ξ 12) := NN.isl (hφ 12)
      have is13 : d4 (ξ 13) := hφ 13
      replace h : St w0 93 [(2, (ptr b1 0)), (5, (ptr b2 0))] [.blk b1 [p_0v, p_1v, p_2v] 24, .row (α := Iv) 66 sv1 (aa p_0), .row (α := Iv) 66 (ξ 13) ((aa p_1) ++ [(gt (aa p_1) 0)]), .row (α := Iv) 66 sv3 (aa p_2), .blk b2 [sv1, (ξ 13), sv3] 62] ac wo := (h.pick [0, 1, 2, 3, 4] (by decide)).sub ⟨rfl, rfl, trivial⟩
      generalize ξ 13 = sv11 at h is13; have is_sv11 := is13; clear is13
      exact rest ((aa p_0)) (((aa p_1) ++ [(gt (aa p_1) 0)])) ((aa p_2)) _ _ _ _ _ (Cn.wl (aD p_0)) (Cn.app (aD p_1) (i := 0) (by omega)) (Cn.wl (aD p_2)) is_sv1 is_sv11 is_sv3 ((h.pick [0, 4, 1, 2, 3] (by decide)).sub ⟨rfl, rfl, trivial⟩)
    · skip
      have hd6 := of_decide_eq_false hc6
      refine bR ?_
      exact rest ((aa p_0)) ((aa p_1)) ((aa p_2)) _ _ _ _ _ (Cn.wl (aD p_0)) (Cn.wl (aD p_1)) (Cn.wl (aD p_2)) is_sv1 is_sv2 is_sv3 ((h.pick [0, 4, 1, 2, 3] (by decide)).sub ⟨rfl, rfl, trivial⟩)
  · skip
    refine bB fun K36 hK36 => ?_
    refine rd0 h (aj rfl) rfl ?_; clear h ac wo; intro ac wo h
    refine rd0 h (Rd.cast (ex rfl rfl (r := (((kind % 4 : Nat)) : Int)) (by decide) (by rw [Int.tmod_eq_emod_of_nonneg (by omega)]; rfl)) (v := .int .u8 2) (by rw [hk]; rfl)) rfl ?_; clear h ac wo; intro ac wo h
    refine rd0 h (Rd.cast (dr rfl rfl) (v := .bool true) rfl) rfl ?_; clear h ac wo; intro ac wo h
    refine rd0 h (aj rfl) rfl ?_; clear h ac wo; intro ac wo h
    refine gK (j := 3) (c := true) (b := true) (g := true) h rfl rfl g_t rfl ?_
    refine rd0 h (aj rfl) rfl ?_; clear h ac wo; intro ac wo h
    refine gK (j := 3) (c := true) (b := true) (g := true) h rfl rfl g_t rfl ?_
    refine rd0 h (Rd.cast (ex rfl rfl (r := (((kind % 4 : Nat)) : Int)) (by decide) (by rw [Int.tmod_eq_emod_of_nonneg (by omega)]; rfl)) (v := .int .u8 2) (by rw [hk]; rfl)) rfl ?_; clear h ac wo; intro ac wo h
    refine gK (j := 3) (c := true) (b := true) (g := true) h rfl rfl g_t rfl ?_
    refine rd0 h (dC (i := 2) uu62 zz26 rfl rfl (by decide)) rfl ?_; clear h ac wo; intro ac wo h
    refine gK (j := 3) (c := true) (b := true) (g := true) h rfl rfl g_t rfl ?_
    refine rd1 h 4 rfl (aZ aa26 zz26 rfl rfl rfl (v := sv3) rfl) rfl ?_; clear h ac wo; intro ac wo h
    refine gK (j := 3) (c := true) (b := true) (g := true) h rfl rfl g_t rfl ?_
    refine rd0 h (dx uu26 rfl (h.row_sl 3 rfl)) rfl ?_; clear h ac wo; intro ac wo h
    refine gK (j := 3) (c := true) (b := true) (g := true) h rfl rfl g_t rfl ?_
    refine rd0 h (iB rfl rfl) rfl ?_; clear h ac wo; intro ac wo h
    refine rd0 h (fv (b := true) rfl (fun e => rfl) (fun e => absurd e (by decide)) (v := (.bool (decide ((((aa p_2).length : Nat) : Int) > 0))))) rfl ?_; clear h ac wo; intro ac wo h
    refine aE ?_
    refine hK36 _ _ ?_
    refine c8 (b := (decide ((((aa p_2).length : Nat) : Int) > 0))) h rfl (fun hc7 => ?_) (fun hc7 => ?_)
    · skip
      have hd7 := of_decide_eq_true hc7
      replace h := h.emps 1
      refine hO [0, 1, 0, 4, 12, 28, 0, 64, 192, 448, 960, 1984, 4032, 8188, 16383, 32767] (by kernel_rfl) mixed [⟨.det (.int .u8 ((kind : Nat) : Int)), []⟩, ⟨.det (.int .u8 2), []⟩, ⟨.det (.int .u8 ((kind : Nat) : Int)), []⟩, ⟨.det (.int .u8 2), []⟩, ⟨.det (ptr b2 2), []⟩, ⟨.det sv3, [4]⟩, ⟨.det (.int .u8 ((kind : Nat) : Int)), []⟩, ⟨.det (.int .u8 2), []⟩, ⟨.det (ptr b2 2), []⟩, ⟨.det sv3, [4]⟩, ⟨.det (sel sv3 (0 * 20)), []⟩, ⟨.det (vV (gt (aa p_2) 0)), [3]⟩, ⟨.nd (.one 12 fun v => NN v 1), [5]⟩, ⟨.nd (.one 13 fun v => d4 v), [3, 5]⟩, ⟨.det (ptr b2 2), []⟩, ⟨.det undef, [4]⟩] [⟨.blk b1 [p_0v, p_1v, p_2v] 24, []⟩, ⟨.row (α := Iv) 66 sv1 (aa p_0), []⟩, ⟨.row (α := Iv) 66 sv2 (aa p_1), []⟩, ⟨.row (α := Iv) 66 sv3 (aa p_2), [(13, .one 13 fun v => .row (α := Iv) 66 (v) ((aa p_2) ++ [(gt (aa p_2) 0)]))]⟩, ⟨.blk b2 [sv1, sv2, sv3] 62, [(15, .one 13 fun v => .blk b2 [sv1, sv2, (v)] 62)]⟩, ⟨.emp, [(12, .one 12 fun v => .row (α := Iv) 66 (v) ([(gt (aa p_2) 0)]))]⟩] h rfl (by kernel_rfl) ⟨?_, ?_, ?_, ?_, ?_, ?_, ?_, ?_, ?_, ?_, ?_, ?_, ?_, ?_, ?_, ?_, trivial⟩ ?_
      · intro ξ hφ; exact obI (ay (aj rfl))
      · intro ξ hφ; exact obI (ay (Rd.cast (ex rfl rfl (r := (((kind % 4 : Nat)) : Int)) (by decide) (by rw [Int.tmod_eq_emod_of_nonneg (by omega)]; rfl)) (v := .int .u8 2) (by rw [hk]; rfl)))
      · intro ξ hφ; exact obI (ay (aj rfl))
      · intro ξ hφ; exact obI (ay (Rd.cast (ex rfl rfl (r := (((kind % 4 : Nat)) : Int)) (by decide) (by rw [Int.tmod_eq_emod_of_nonneg (by omega)]; rfl)) (v := .int .u8 2) (by rw [hk]; rfl)))
      · intro ξ hφ; exact obI (ay (dC (i := 2) uu62 zz26 rfl rfl (by decide)))
      · intro ξ hφ; exact obI (bT [.blk b2 [sv1, sv2, sv3] 62] rfl rfl (aZ aa26 zz26 rfl rfl rfl (v := sv3) rfl))
      · intro ξ hφ; exact obI (ay (aj rfl))
      · intro ξ hφ; exact obI (ay (Rd.cast (ex rfl rfl (r := (((kind % 4 : Nat)) : Int)) (by decide) (by rw [Int.tmod_eq_emod_of_nonneg (by omega)]; rfl)) (v := .int .u8 2) (by rw [hk]; rfl)))
      · intro ξ hφ; exact obI (ay (dC (i := 2) uu62 zz26 rfl rfl (by decide)))
      · intro ξ hφ; exact obI (bT [.blk b2 [sv1, sv2, sv3] 62] rfl rfl (aZ aa26 zz26 rfl rfl rfl (v := sv3) rfl))
      · intro ξ hφ; exact obI (ay (ep (i := 0) uu26 zz66 rfl rfl (h.row_nn 3 rfl (by first | assumption | omega | (simp only [aq, Bool.cond_decide, Bool.cond_eq_ite, List.length_append, List.length_set, List.length_cons, List.length_nil, List.length_take, List.length_drop, List.length_replicate] at *; done) | (simp only [aq, Bool.cond_decide, Bool.cond_eq_ite, List.length_append, List.length_set, List.length_cons, List.length_nil, List.length_take, List.length_drop, List.length_replicate] at *; omega) | (simp only [aq, Bool.cond_decide, Bool.cond_eq_ite, List.length_append, List.length_set, List.length_cons, List.length_nil, List.length_take, List.length_drop, List.length_replicate]; omega))) (by first | assumption | omega | (simp only [aq, Bool.cond_decide, Bool.cond_eq_ite, List.length_append, List.length_set, List.length_cons, List.length_nil, List.length_take, List.length_drop, List.length_replicate] at *; done) | (simp only [aq, Bool.cond_decide, Bool.cond_eq_ite, List.length_append, List.length_set, List.length_cons, List.length_nil, List.length_take, List.length_drop, List.length_replicate] at *; omega) | (simp only [aq, Bool.cond_decide, Bool.cond_eq_ite, List.length_append, List.length_set, List.length_cons, List.length_nil, List.length_take, List.length_drop, List.length_replicate]; omega))))
      · intro ξ hφ; exact obI (bT [.row (α := Iv) 66 sv3 (aa p_2)] rfl rfl (er (k := 0) aa66 zz66 (ec (by first | assumption | omega | (simp only [aq, Bool.cond_decide, Bool.cond_eq_ite, List.length_append, List.length_set, List.length_cons, List.length_nil, List.length_take, List.length_drop, List.length_replicate] at *; done) | (simp only [aq, Bool.cond_decide, Bool.cond_eq_ite, List.length_append, List.length_set, List.length_cons, List.length_nil, List.length_take, List.length_drop, List.length_replicate] at *; omega) | (simp only [aq, Bool.cond_decide, Bool.cond_eq_ite, List.length_append, List.length_set, List.length_cons, List.length_nil, List.length_take, List.length_drop, List.length_replicate]; omega))) rfl (Nat.add_zero _) rfl rfl (v := (vV (gt (aa p_2) 0))) rfl))
      · intro ξ hφ; exact obI (ij (ψ := fun v => NN v 1) (B := fun v => [.row (α := Iv) 66 v ([(gt (aa p_2) 0)])]) [.emp] rfl (fun v _ => by simp only [dO, aS] <;> rfl) (fun v hv => by simpa [DF.one, aS] using hv) (fU (dg (α := Iv) (xs := [.tmp 44]) (vs := [(vV (gt (aa p_2) 0))]) [(gt (aa p_2) 0)] ic rfl rfl rfl (by decide))))
      · intro ξ hφ; have is12 : d4 (ξ 12) := NN.isl (hφ 12 rfl); exact obI (ij (B := fun v => [.row (α := Iv) 66 v ((aa p_2) ++ [(gt (aa p_2) 0)]), .row (α := Iv) 66 (ξ 12) ([(gt (aa p_2) 0)])]) [.row (α := Iv) 66 sv3 (aa p_2), .row (α := Iv) 66 (ξ 12) ([(gt (aa p_2) 0)])] rfl (fun v _ => by simp only [dO, aS] <;> rfl) (fun v hv => by show d4 (upd ξ 13 v 13); rw [aS]; exact (hv (by simp)).isl) (eM (xs := (aa p_2)) (ys := [(gt (aa p_2) 0)]) ic (fun w hs => (row_view hs 0 rfl)) rfl rfl (by have hq_ := ((aD p_2)).len; simp; omega)))
      · intro ξ hφ; exact obI (ay (dC (i := 2) uu62 zz26 rfl rfl (by decide)))
      · intro ξ hφ; have is13 : d4 (ξ 13) := hφ 13 rfl; exact obI (es [.blk b2 [sv1, sv2, sv3] 62] [.blk b2 [sv1, sv2, (ξ 13)] 62] rfl rfl (eW zz26 rfl rfl (kz is13) rfl (mT is13) rfl rfl))
      clear h ac wo; intro ξ ac wo hφ h
      have is12 : d4 (ξ 12) := NN.isl (hφ 12)
      have is13 : d4 (ξ 13) := hφ 13
      replace h : St w0 93 [(2, (ptr b1 0)), (5, (ptr b2 0))] [.blk b1 [p_0v, p_1v, p_2v] 24, .row (α := Iv) 66 sv1 (aa p_0), .row (α := Iv) 66 sv2 (aa p_1), .row (α := Iv) 66 (ξ 13) ((aa p_2) ++ [(gt (aa p_2) 0)]), .blk b2 [sv1, sv2, (ξ 13)] 62] ac wo := (h.pick [0, 1, 2, 3, 4] (by decide)).sub ⟨rfl, rfl, trivial⟩
      generalize ξ 13 = sv12 at h is13; have is_sv12 := is13; clear is13
      exact rest ((aa p_0)) ((aa p_1)) (((aa p_2) ++ [(gt (aa p_2) 0)])) _ _ _ _ _ (Cn.wl (aD p_0)) (Cn.wl (aD p_1)) (Cn.app (aD p_2) (i := 0) (by omega)) is_sv1 is_sv2 is_sv12 ((h.pick [0, 4, 1, 2, 3] (by decide)).sub ⟨rfl, rfl, trivial⟩)
    · skip
      have hd7 := of_decide_eq_false hc7
      refine bR ?_
      exact rest ((aa p_0)) ((aa p_1)) ((aa p_2)) _ _ _ _ _ (Cn.wl (aD p_0)) (Cn.wl (aD p_1)) (Cn.wl (aD p_2)) is_sv1 is_sv2 is_sv3 ((h.pick [0, 4, 1, 2, 3] (by decide)).sub ⟨rfl, rfl, trivial⟩)
  · skip
    refine bB fun K37 hK37 => ?_
    refine rd0 h (aj rfl) rfl ?_; clear h ac wo; intro ac wo h
    refine rd0 h (Rd.cast (ex rfl rfl (r := (((kind % 4 : Nat)) : Int)) (by decide) (by rw [Int.tmod_eq_emod_of_nonneg (by omega)]; rfl)) (v := .int .u8 3) (by rw [hk]; rfl)) rfl ?_; clear h ac wo; intro ac wo h
    refine rd0 h (Rd.cast (dr rfl rfl) (v := .bool false) rfl) rfl ?_; clear h ac wo; intro ac wo h
    refine rd0 h (aj rfl) rfl ?_; clear h ac wo; intro ac wo h
    refine gd (j := 3) (c := true) (b := false) (g := false) (v := undef) h rfl rfl g_t (fun hg => absurd hg (by decide)) rfl ?_; clear h ac wo; intro ac wo h
    refine gd (j := 3) (c := true) (b := false) (g := false) (v := undef) h rfl rfl g_t (fun hg => absurd hg (by decide)) rfl ?_; clear h ac wo; intro ac wo h
    refine gd (j := 3) (c := true) (b := false) (g := false) (v := undef) h rfl rfl g_t (fun hg => absurd hg (by decide)) rfl ?_; clear h ac wo; intro ac wo h
    refine gd (j := 3) (c := true) (b := false) (g := false) (v := undef) h rfl rfl g_t (fun hg => absurd hg (by decide)) rfl ?_; clear h ac wo; intro ac wo h
    refine gd (j := 3) (c := true) (b := false) (g := false) (v := undef) h rfl rfl g_t (fun hg => absurd hg (by decide)) rfl ?_; clear h ac wo; intro ac wo h
    refine gd (j := 3) (c := true) (b := false) (g := false) (v := undef) h rfl rfl g_t (fun hg => absurd hg (by decide)) rfl ?_; clear h ac wo; intro ac wo h
    refine rd0 h (fv (b := false) rfl (fun e => absurd e (by decide)) (fun _ => rfl) (v := .bool false)) rfl ?_; clear h ac wo; intro ac wo h
    refine aE ?_
    refine hK37 _ _ ?_
    refine kP (b := false) h rfl ?_
    refine bR ?_
    exact rest ((aa p_0)) ((aa p_1)) ((aa p_2)) _ _ _ _ _ (Cn.wl (aD p_0)) (Cn.wl (aD p_1)) (Cn.wl (aD p_2)) is_sv1 is_sv2 is_sv3 ((h.pick [0, 4, 1, 2, 3] (by decide)).sub ⟨rfl, rfl, trivial⟩)
end Go.Sx
