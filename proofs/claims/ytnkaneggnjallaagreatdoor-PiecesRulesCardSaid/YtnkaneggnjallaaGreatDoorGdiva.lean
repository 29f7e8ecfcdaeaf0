/- A part of the proof that the law PiecesRules answers true at every input and leaves its arguments as they were. -/
import Derived.Test.YtnkaneggnjallaaGreatDoorProg
import Derived.Test.YtnkaneggnjallaaGreatDoorGbase
set_option linter.unusedVariables false
set_option linter.unusedSimpArgs false
namespace Go.Sx
open Go Go.RowKit Go.Proofs
set_option maxRecDepth 100000
theorem ig_div_cut1 {w0 : World} {a b s j X Z : Nat} {sv3 : Value} {sv5 : Value} {sv6 : Value} {sv8 : Value} {sv9 : Value} (hda : dn a ≤ 17592186044416) (hdb : dn b ≤ 17592186044416) (hdl : dn b ≤ dn a) (hn2 : 2 ≤ dn b) (hs31 : s ≤ 31) (hs32 : s ≤ 32) (hYn : b * 2 ^ s < 4294967296 ^ dn b) (hYh : 4294967296 ^ dn b ≤ 2 * (b * 2 ^ s)) (hJ : j + 1 ≤ dn a + 1 - dn b) (D : DS X (b * 2 ^ s) (dn b) j) {ac : Act} {wo : World} (h : St w0 304 [(9, sv8), (12, (.int .i64 ((s : Nat) : Int))), (13, sv6), (14, (.int .i64 (((dn b) : Nat) : Int))), (15, sv9), (16, (.int .i64 ((j : Nat) : Int))), (18, (.int .u64 ((((X / 4294967296 ^ (j + dn b - 1)) / ((b * 2 ^ s) / 4294967296 ^ (dn b - 1))) : Nat) : Int))), (19, (.int .u64 ((((X / 4294967296 ^ (j + dn b - 1)) % ((b * 2 ^ s) / 4294967296 ^ (dn b - 1))) : Nat) : Int)))] [.row (α := Nat) 291 sv9 (dgs (dn a + 1 - dn b) Z), .row (α := Nat) 291 sv8 (dgs (dn b) (b * 2 ^ s)), .row (α := Nat) 291 sv6 (dgs (dn a + 1) X), .row (α := Nat) 291 sv5 (dgs (dn a) a), .row (α := Nat) 291 sv3 (dgs (dn b) b)] ac wo) {K27 : Act → World → Prop} {Q : Exit → Act → World → Prop} (hK27 : ∀ a_ w_, (∃ (g : Nat), ((X / 4294967296 ^ j / (b * 2 ^ s)) ≤ g) ∧ (g ≤ (X / 4294967296 ^ j / (b * 2 ^ s)) + 1 ∧ g < 4294967296) ∧ St w0 304 [(9, sv8), (12, (.int .i64 ((s : Nat) : Int))), (13, sv6), (14, (.int .i64 (((dn b) : Nat) : Int))), (15, sv9), (16, (.int .i64 ((j : Nat) : Int))), (18, (.int .u64 ((g : Nat) : Int)))] [.row (α := Nat) 291 sv9 (dgs (dn a + 1 - dn b) Z), .row (α := Nat) 291 sv8 (dgs (dn b) (b * 2 ^ s)), .row (α := Nat) 291 sv6 (dgs (dn a + 1) X), .row (α := Nat) 291 sv5 (dgs (dn a) a), .row (α := Nat) 291 sv3 (dgs (dn b) b)] a_ w_) → K27 a_ w_) : (subc [1, 1, 1, 1, 1, 1, 1, 1, 1, 1, 0, 1, 0, 0, 1, 0, 0, 1, 1, 0] (Tryz.f194.body.getD .skip)).wp Tryz.prog (Exit.then K27 Q) ac wo := by
  have hv1 := D.v1_lt
  have hv1h := D.v1_hi
  have hhi := D.hi_lt
  refine c_block ?_
  refine wp_loop_ghost (fun n_ a_ w_ => ∃ (g : Nat) (r : Nat), n_ = 1 * g ∧ (g * ((b * 2 ^ s) / 4294967296 ^ (dn b - 1)) + r = (X / 4294967296 ^ (j + dn b - 1))) ∧ ((X / 4294967296 ^ j / (b * 2 ^ s)) ≤ g) ∧ (r < 4294967296) ∧ (g < 18446744073709551616) ∧ St w0 304 [(9, sv8), (12, (.int .i64 ((s : Nat) : Int))), (13, sv6), (14, (.int .i64 (((dn b) : Nat) : Int))), (15, sv9), (16, (.int .i64 ((j : Nat) : Int))), (18, (.int .u64 ((g : Nat) : Int))), (19, (.int .u64 ((r : Nat) : Int)))] [.row (α := Nat) 291 sv9 (dgs (dn a + 1 - dn b) Z), .row (α := Nat) 291 sv8 (dgs (dn b) (b * 2 ^ s)), .row (α := Nat) 291 sv6 (dgs (dn a + 1) X), .row (α := Nat) 291 sv5 (dgs (dn a) a), .row (α := Nat) 291 sv3 (dgs (dn b) b)] a_ w_) _ ⟨((X / 4294967296 ^ (j + dn b - 1)) / ((b * 2 ^ s) / 4294967296 ^ (dn b - 1))), ((X / 4294967296 ^ (j + dn b - 1)) % ((b * 2 ^ s) / 4294967296 ^ (dn b - 1))), rfl, (Nat.div_add_mod' _ _), D.guess0, (Nat.lt_trans (Nat.mod_lt _ (by omega)) hv1), (by have := Nat.div_le_self (X / 4294967296 ^ (j + dn b - 1)) ((b * 2 ^ s) / 4294967296 ^ (dn b - 1)); omega), (h.pick [0, 1, 2, 3, 4] (by decide)).sub ⟨rfl, rfl, rfl, rfl, rfl, rfl, rfl, rfl, trivial⟩⟩ ?_
  clear h ac wo; rintro _ ac wo ⟨g, r, rfl, hgs, hgq, hr, hgu, h⟩
  refine c_seq fun K28 hK28 => ?_
  refine c_seq fun K29 hK29 => ?_
  refine draws mixed [⟨.det (.int .u64 ((g : Nat) : Int)), []⟩, ⟨.det (.bool (decide (((g : Nat) : Int) ≥ 4294967296))), []⟩, ⟨.det (.bool (decide (((g : Nat) : Int) ≥ 4294967296))), []⟩, ⟨.det (gv (!(decide (((g : Nat) : Int) ≥ 4294967296))) (.int .u64 ((g : Nat) : Int))), []⟩, ⟨.det (gv (!(decide (((g : Nat) : Int) ≥ 4294967296))) sv8), []⟩, ⟨.det (gv (!(decide (((g : Nat) : Int) ≥ 4294967296))) (.int .i64 (((dn b) : Nat) : Int))), []⟩, ⟨.det (gv (!(decide (((g : Nat) : Int) ≥ 4294967296))) (.int .i64 (((dn b - 2) : Nat) : Int))), []⟩, ⟨.det (gv (!(decide (((g : Nat) : Int) ≥ 4294967296))) (sel sv8 ((dn b - 2) * 1))), []⟩, ⟨.det (gv (!(decide (((g : Nat) : Int) ≥ 4294967296))) (.int .u32 ((((b * 2 ^ s) / 4294967296 ^ (dn b - 2) % 4294967296) : Nat) : Int))), [1]⟩, ⟨.det (gv (!(decide (((g : Nat) : Int) ≥ 4294967296))) (.int .u64 ((((b * 2 ^ s) / 4294967296 ^ (dn b - 2) % 4294967296) : Nat) : Int))), []⟩, ⟨.det (gv (!(decide (((g : Nat) : Int) ≥ 4294967296))) (.int .u64 ((g * ((b * 2 ^ s) / 4294967296 ^ (dn b - 2) % 4294967296) : Nat) : Int))), []⟩, ⟨.det (gv (!(decide (((g : Nat) : Int) ≥ 4294967296))) (.int .u64 ((r : Nat) : Int))), []⟩, ⟨.det (gv (!(decide (((g : Nat) : Int) ≥ 4294967296))) (.int .u64 (((r * 2 ^ 32) : Nat) : Int))), []⟩, ⟨.det (gv (!(decide (((g : Nat) : Int) ≥ 4294967296))) sv6), []⟩, ⟨.det (gv (!(decide (((g : Nat) : Int) ≥ 4294967296))) (.int .i64 ((j : Nat) : Int))), []⟩, ⟨.det (gv (!(decide (((g : Nat) : Int) ≥ 4294967296))) (.int .i64 (((dn b) : Nat) : Int))), []⟩, ⟨.det (gv (!(decide (((g : Nat) : Int) ≥ 4294967296))) (.int .i64 ((j + (dn b) : Nat) : Int))), []⟩, ⟨.det (gv (!(decide (((g : Nat) : Int) ≥ 4294967296))) (.int .i64 (((j + dn b - 2) : Nat) : Int))), []⟩, ⟨.det (gv (!(decide (((g : Nat) : Int) ≥ 4294967296))) (sel sv6 ((j + dn b - 2) * 1))), []⟩, ⟨.det (gv (!(decide (((g : Nat) : Int) ≥ 4294967296))) (.int .u32 (((X / 4294967296 ^ (j + dn b - 2) % 4294967296) : Nat) : Int))), [2]⟩, ⟨.det (gv (!(decide (((g : Nat) : Int) ≥ 4294967296))) (.int .u64 (((X / 4294967296 ^ (j + dn b - 2) % 4294967296) : Nat) : Int))), []⟩, ⟨.det (gv (!(decide (((g : Nat) : Int) ≥ 4294967296))) (.int .u64 (((r * 4294967296 + (X / 4294967296 ^ (j + dn b - 2) % 4294967296)) : Nat) : Int))), []⟩, ⟨.det (gv (!(decide (((g : Nat) : Int) ≥ 4294967296))) (.bool (decide (((g * ((b * 2 ^ s) / 4294967296 ^ (dn b - 2) % 4294967296) : Nat) : Int) > (((r * 4294967296 + (X / 4294967296 ^ (j + dn b - 2) % 4294967296)) : Nat) : Int))))), []⟩, ⟨.det (.bool ((decide (((g : Nat) : Int) ≥ 4294967296)) || (decide (((g * ((b * 2 ^ s) / 4294967296 ^ (dn b - 2) % 4294967296) : Nat) : Int) > (((r * 4294967296 + (X / 4294967296 ^ (j + dn b - 2) % 4294967296)) : Nat) : Int))))), []⟩] [⟨.row (α := Nat) 291 sv9 (dgs (dn a + 1 - dn b) Z), []⟩, ⟨.row (α := Nat) 291 sv8 (dgs (dn b) (b * 2 ^ s)), []⟩, ⟨.row (α := Nat) 291 sv6 (dgs (dn a + 1) X), []⟩, ⟨.row (α := Nat) 291 sv5 (dgs (dn a) a), []⟩, ⟨.row (α := Nat) 291 sv3 (dgs (dn b) b), []⟩] h rfl (by kernel_rfl) ⟨?_, ?_, ?_, ?_, ?_, ?_, ?_, ?_, ?_, ?_, ?_, ?_, ?_, ?_, ?_, ?_, ?_, ?_, ?_, ?_, ?_, ?_, ?_, ?_, trivial⟩ ?_
  · intro ξ hφ; exact ob_r0 (r_move rfl)
  · intro ξ hφ; exact ob_r0 (r_geq rfl rfl)
  · intro ξ hφ; exact ob_r0 (r_move rfl)
  · intro ξ hφ; exact ob_g (c := true) (b := (decide (((g : Nat) : Int) ≥ 4294967296))) (g := (!(decide (((g : Nat) : Int) ≥ 4294967296)))) [] rfl rfl rfl rfl g_f (fun hg => Rd.step (r_move rfl))
  · intro ξ hφ; exact ob_g (c := true) (b := (decide (((g : Nat) : Int) ≥ 4294967296))) (g := (!(decide (((g : Nat) : Int) ≥ 4294967296)))) [] rfl rfl rfl rfl g_f (fun hg => Rd.step (r_move rfl))
  · intro ξ hφ; exact ob_g (c := true) (b := (decide (((g : Nat) : Int) ≥ 4294967296))) (g := (!(decide (((g : Nat) : Int) ≥ 4294967296)))) [] rfl rfl rfl rfl g_f (fun hg => Rd.step (r_move rfl))
  · intro ξ hφ; exact ob_g (c := true) (b := (decide (((g : Nat) : Int) ≥ 4294967296))) (g := (!(decide (((g : Nat) : Int) ≥ 4294967296)))) [] rfl rfl rfl rfl g_f (fun hg => Rd.step (r_sub (gv_ev rfl hg) rfl (r := (((dn b - 2) : Nat) : Int)) (by simp only [Bool.and_eq_true, decide_eq_true_eq, beq_iff_eq, Bool.true_and, Bool.not_eq_true', decide_eq_false_iff_not] at hg; rw [IntKind.wrap_i64]; omega)))
  · intro ξ hφ; exact ob_g (c := true) (b := (decide (((g : Nat) : Int) ≥ 4294967296))) (g := (!(decide (((g : Nat) : Int) ≥ 4294967296)))) [] rfl rfl rfl rfl g_f (fun hg => Rd.step (r_ia (i := (dn b - 2)) Tryz.runUnderlying289 Tryz.sizeOf291 (gv_ev rfl hg) (gv_ev rfl hg) (h.dnn 1 rfl (by simp only [Bool.and_eq_true, decide_eq_true_eq, beq_iff_eq, Bool.true_and, Bool.not_eq_true', decide_eq_false_iff_not] at hg; omega)) (by simp only [Bool.and_eq_true, decide_eq_true_eq, beq_iff_eq, Bool.true_and, Bool.not_eq_true', decide_eq_false_iff_not] at hg; omega)))
  · intro ξ hφ; exact ob_g (c := true) (b := (decide (((g : Nat) : Int) ≥ 4294967296))) (g := (!(decide (((g : Nat) : Int) ≥ 4294967296)))) [.row (α := Nat) 291 sv8 (dgs (dn b) (b * 2 ^ s))] rfl rfl rfl rfl g_f (fun hg => Rd.step (r_ldR (k := 0) Tryz.isAgg291 Tryz.sizeOf291 (dgs_get (n := (dn b)) (by simp only [Bool.and_eq_true, decide_eq_true_eq, beq_iff_eq, Bool.true_and, Bool.not_eq_true', decide_eq_false_iff_not] at hg; omega)) (gv_ev rfl hg) rfl rfl rfl (v := (.int .u32 ((((b * 2 ^ s) / 4294967296 ^ (dn b - 2) % 4294967296) : Nat) : Int))) rfl))
  · intro ξ hφ; exact ob_g (c := true) (b := (decide (((g : Nat) : Int) ≥ 4294967296))) (g := (!(decide (((g : Nat) : Int) ≥ 4294967296)))) [] rfl rfl rfl rfl g_f (fun hg => Rd.step (r_convInt Tryz.runUnderlying291 Tryz.runUnderlying234 (gv_ev rfl hg) (r := ((((b * 2 ^ s) / 4294967296 ^ (dn b - 2) % 4294967296) : Nat) : Int)) (by simp only [Bool.and_eq_true, decide_eq_true_eq, beq_iff_eq, Bool.true_and, Bool.not_eq_true', decide_eq_false_iff_not] at hg; rw [IntKind.wrap_u64]; omega)))
  · intro ξ hφ; exact ob_g (c := true) (b := (decide (((g : Nat) : Int) ≥ 4294967296))) (g := (!(decide (((g : Nat) : Int) ≥ 4294967296)))) [] rfl rfl rfl rfl g_f (fun hg => Rd.step (r_mul (gv_ev rfl hg) (gv_ev rfl hg) (r := ((g * ((b * 2 ^ s) / 4294967296 ^ (dn b - 2) % 4294967296) : Nat) : Int)) (by simp only [Bool.and_eq_true, decide_eq_true_eq, beq_iff_eq, Bool.true_and, Bool.not_eq_true', decide_eq_false_iff_not] at hg; have := dig_mul_le (x := g) (y := ((b * 2 ^ s) / 4294967296 ^ (dn b - 2) % 4294967296)) (by omega) (Nat.mod_lt _ (by decide)); rw [IntKind.wrap_u64]; omega)))
  · intro ξ hφ; exact ob_g (c := true) (b := (decide (((g : Nat) : Int) ≥ 4294967296))) (g := (!(decide (((g : Nat) : Int) ≥ 4294967296)))) [] rfl rfl rfl rfl g_f (fun hg => Rd.step (r_move rfl))
  · intro ξ hφ; exact ob_g (c := true) (b := (decide (((g : Nat) : Int) ≥ 4294967296))) (g := (!(decide (((g : Nat) : Int) ≥ 4294967296)))) [] rfl rfl rfl rfl g_f (fun hg => Rd.step (r_shl (gv_ev rfl hg) rfl (r := (((r * 2 ^ 32) : Nat) : Int)) (by decide) (by decide) (wshl64 rfl (by omega))))
  · intro ξ hφ; exact ob_g (c := true) (b := (decide (((g : Nat) : Int) ≥ 4294967296))) (g := (!(decide (((g : Nat) : Int) ≥ 4294967296)))) [] rfl rfl rfl rfl g_f (fun hg => Rd.step (r_move rfl))
  · intro ξ hφ; exact ob_g (c := true) (b := (decide (((g : Nat) : Int) ≥ 4294967296))) (g := (!(decide (((g : Nat) : Int) ≥ 4294967296)))) [] rfl rfl rfl rfl g_f (fun hg => Rd.step (r_move rfl))
  · intro ξ hφ; exact ob_g (c := true) (b := (decide (((g : Nat) : Int) ≥ 4294967296))) (g := (!(decide (((g : Nat) : Int) ≥ 4294967296)))) [] rfl rfl rfl rfl g_f (fun hg => Rd.step (r_move rfl))
  · intro ξ hφ; exact ob_g (c := true) (b := (decide (((g : Nat) : Int) ≥ 4294967296))) (g := (!(decide (((g : Nat) : Int) ≥ 4294967296)))) [] rfl rfl rfl rfl g_f (fun hg => Rd.step (r_add (gv_ev rfl hg) (gv_ev rfl hg) (r := ((j + (dn b) : Nat) : Int)) (by simp only [Bool.and_eq_true, decide_eq_true_eq, beq_iff_eq, Bool.true_and, Bool.not_eq_true', decide_eq_false_iff_not] at hg; rw [IntKind.wrap_i64]; omega)))
  · intro ξ hφ; exact ob_g (c := true) (b := (decide (((g : Nat) : Int) ≥ 4294967296))) (g := (!(decide (((g : Nat) : Int) ≥ 4294967296)))) [] rfl rfl rfl rfl g_f (fun hg => Rd.step (r_sub (gv_ev rfl hg) rfl (r := (((j + dn b - 2) : Nat) : Int)) (by simp only [Bool.and_eq_true, decide_eq_true_eq, beq_iff_eq, Bool.true_and, Bool.not_eq_true', decide_eq_false_iff_not] at hg; rw [IntKind.wrap_i64]; omega)))
  · intro ξ hφ; exact ob_g (c := true) (b := (decide (((g : Nat) : Int) ≥ 4294967296))) (g := (!(decide (((g : Nat) : Int) ≥ 4294967296)))) [] rfl rfl rfl rfl g_f (fun hg => Rd.step (r_ia (i := (j + dn b - 2)) Tryz.runUnderlying289 Tryz.sizeOf291 (gv_ev rfl hg) (gv_ev rfl hg) (h.dnn 2 rfl (by simp only [Bool.and_eq_true, decide_eq_true_eq, beq_iff_eq, Bool.true_and, Bool.not_eq_true', decide_eq_false_iff_not] at hg; omega)) (by simp only [Bool.and_eq_true, decide_eq_true_eq, beq_iff_eq, Bool.true_and, Bool.not_eq_true', decide_eq_false_iff_not] at hg; omega)))
  · intro ξ hφ; exact ob_g (c := true) (b := (decide (((g : Nat) : Int) ≥ 4294967296))) (g := (!(decide (((g : Nat) : Int) ≥ 4294967296)))) [.row (α := Nat) 291 sv6 (dgs (dn a + 1) X)] rfl rfl rfl rfl g_f (fun hg => Rd.step (r_ldR (k := 0) Tryz.isAgg291 Tryz.sizeOf291 (dgs_get (n := (dn a + 1)) (by simp only [Bool.and_eq_true, decide_eq_true_eq, beq_iff_eq, Bool.true_and, Bool.not_eq_true', decide_eq_false_iff_not] at hg; omega)) (gv_ev rfl hg) rfl rfl rfl (v := (.int .u32 (((X / 4294967296 ^ (j + dn b - 2) % 4294967296) : Nat) : Int))) rfl))
  · intro ξ hφ; exact ob_g (c := true) (b := (decide (((g : Nat) : Int) ≥ 4294967296))) (g := (!(decide (((g : Nat) : Int) ≥ 4294967296)))) [] rfl rfl rfl rfl g_f (fun hg => Rd.step (r_convInt Tryz.runUnderlying291 Tryz.runUnderlying234 (gv_ev rfl hg) (r := (((X / 4294967296 ^ (j + dn b - 2) % 4294967296) : Nat) : Int)) (by simp only [Bool.and_eq_true, decide_eq_true_eq, beq_iff_eq, Bool.true_and, Bool.not_eq_true', decide_eq_false_iff_not] at hg; rw [IntKind.wrap_u64]; omega)))
  · intro ξ hφ; exact ob_g (c := true) (b := (decide (((g : Nat) : Int) ≥ 4294967296))) (g := (!(decide (((g : Nat) : Int) ≥ 4294967296)))) [] rfl rfl rfl rfl g_f (fun hg => Rd.step (r_or' (gv_ev rfl hg) (gv_ev rfl hg) (r := (((r * 4294967296 + (X / 4294967296 ^ (j + dn b - 2) % 4294967296)) : Nat) : Int)) (bits_or_nat (k := 32) _ _ (by omega) (Nat.mod_lt _ (by decide)) (by omega))))
  · intro ξ hφ; exact ob_g (c := true) (b := (decide (((g : Nat) : Int) ≥ 4294967296))) (g := (!(decide (((g : Nat) : Int) ≥ 4294967296)))) [] rfl rfl rfl rfl g_f (fun hg => Rd.step (r_gtr (gv_ev rfl hg) (gv_ev rfl hg)))
  · intro ξ hφ; exact ob_r0 (r_or rfl (fun e => (gv_ev rfl (notI e))))
  clear h ac wo; intro ξ ac wo hφ h
  replace h : St w0 304 [(9, sv8), (12, (.int .i64 ((s : Nat) : Int))), (13, sv6), (14, (.int .i64 (((dn b) : Nat) : Int))), (15, sv9), (16, (.int .i64 ((j : Nat) : Int))), (18, (.int .u64 ((g : Nat) : Int))), (19, (.int .u64 ((r : Nat) : Int))), (154, (.bool ((decide (((g : Nat) : Int) ≥ 4294967296)) || (decide (((g * ((b * 2 ^ s) / 4294967296 ^ (dn b - 2) % 4294967296) : Nat) : Int) > (((r * 4294967296 + (X / 4294967296 ^ (j + dn b - 2) % 4294967296)) : Nat) : Int))))))] [.row (α := Nat) 291 sv9 (dgs (dn a + 1 - dn b) Z), .row (α := Nat) 291 sv8 (dgs (dn b) (b * 2 ^ s)), .row (α := Nat) 291 sv6 (dgs (dn a + 1) X), .row (α := Nat) 291 sv5 (dgs (dn a) a), .row (α := Nat) 291 sv3 (dgs (dn b) b)] ac wo := h.sub ⟨rfl, rfl, rfl, rfl, rfl, rfl, rfl, rfl, rfl, trivial⟩
  clear hφ ξ
  refine hK29 _ _ ?_
  refine c_if (b := ((decide (((g : Nat) : Int) ≥ 4294967296)) || (decide (((g * ((b * 2 ^ s) / 4294967296 ^ (dn b - 2) % 4294967296) : Nat) : Int) > (((r * 4294967296 + (X / 4294967296 ^ (j + dn b - 2) % 4294967296)) : Nat) : Int))))) h rfl (fun hc5 => ?_) (fun hc5 => ?_)
  · skip
    have hq := hc5; simp only [Bool.or_eq_true, decide_eq_true_eq] at hq
    have hstep := D.step hgs hgq (hq.imp (fun h1 => by omega) (fun h1 => Int.ofNat_lt.1 h1))
    refine c_skip ?_
    refine hK28 _ _ ?_
    refine c_block ?_
    refine c_rs fun K30 hK30 => ?_
    refine rd0 h (r_move rfl) rfl ?_; clear h ac wo; intro ac wo h
    refine rd0 h (r_sub rfl rfl (r := (((g - 1) : Nat) : Int)) (by rw [IntKind.wrap_u64]; omega)) rfl ?_; clear h ac wo; intro ac wo h
    refine rd0 h (r_assign rfl) rfl ?_; clear h ac wo; intro ac wo h
    refine w_nil ?_
    refine hK30 _ _ ?_
    refine c_rs fun K31 hK31 => ?_
    refine rd0 h (r_move rfl) rfl ?_; clear h ac wo; intro ac wo h
    refine rd0 h (r_move rfl) rfl ?_; clear h ac wo; intro ac wo h
    refine rd0 h (r_move rfl) rfl ?_; clear h ac wo; intro ac wo h
    refine rd0 h (r_sub rfl rfl (r := (((dn b - 1) : Nat) : Int)) (by rw [IntKind.wrap_i64]; omega)) rfl ?_; clear h ac wo; intro ac wo h
    refine rd0 h (r_ia (i := (dn b - 1)) Tryz.runUnderlying289 Tryz.sizeOf291 rfl rfl (h.dnn 1 rfl (by omega)) (by omega)) rfl ?_; clear h ac wo; intro ac wo h
    refine rd1 h 1 rfl (r_ldR (k := 0) Tryz.isAgg291 Tryz.sizeOf291 D.y_top rfl rfl rfl rfl (v := (.int .u32 ((((b * 2 ^ s) / 4294967296 ^ (dn b - 1)) : Nat) : Int))) rfl) rfl ?_; clear h ac wo; intro ac wo h
    refine rd0 h (r_convInt Tryz.runUnderlying291 Tryz.runUnderlying234 rfl (r := ((((b * 2 ^ s) / 4294967296 ^ (dn b - 1)) : Nat) : Int)) (by rw [IntKind.wrap_u64]; omega)) rfl ?_; clear h ac wo; intro ac wo h
    refine rd0 h (r_add rfl rfl (r := ((r + ((b * 2 ^ s) / 4294967296 ^ (dn b - 1)) : Nat) : Int)) (by rw [IntKind.wrap_u64]; omega)) rfl ?_; clear h ac wo; intro ac wo h
    refine rd0 h (r_assign rfl) rfl ?_; clear h ac wo; intro ac wo h
    refine w_nil ?_
    refine hK31 _ _ ?_
    refine c_rs fun K32 hK32 => ?_
    refine rd0 h (r_move rfl) rfl ?_; clear h ac wo; intro ac wo h
    refine rd0 h (r_geq rfl rfl) rfl ?_; clear h ac wo; intro ac wo h
    refine w_nil ?_
    refine hK32 _ _ ?_
    refine c_if (b := (decide (((r + ((b * 2 ^ s) / 4294967296 ^ (dn b - 1)) : Nat) : Int) ≥ 4294967296))) h rfl (fun hc6 => ?_) (fun hc6 => ?_)
    · skip
      have hd6 := of_decide_eq_true hc6
      have hdone := D.done hstep.2.2 (.inr (by omega))
      have hge0 := hstep.1
      refine c_exit ?_
      exact hK27 _ _ ⟨(g - 1), hge0, hdone, (h.pick [0, 1, 2, 3, 4] (by decide)).sub ⟨rfl, rfl, rfl, rfl, rfl, rfl, rfl, trivial⟩⟩
    · skip
      have hd6 := of_decide_eq_false hc6
      refine c_skip ?_
      refine b_norm ?_
      exact next_round ⟨_, (by omega), (g - 1), (r + ((b * 2 ^ s) / 4294967296 ^ (dn b - 1))), rfl, hstep.2.2, hstep.1, (by omega), (by omega), (h.pick [0, 1, 2, 3, 4] (by decide)).sub ⟨rfl, rfl, rfl, rfl, rfl, rfl, rfl, rfl, trivial⟩⟩
  · skip
    have hq := hc5; simp only [Bool.or_eq_false_iff, decide_eq_false_iff_not] at hq
    have hdone := D.done hgs (.inl ⟨by omega, Nat.le_of_not_lt fun h1 => hq.2 (Int.ofNat_lt.2 h1)⟩)
    have hge0 := hgq
    refine c_exit ?_
    exact hK27 _ _ ⟨g, hge0, hdone, (h.pick [0, 1, 2, 3, 4] (by decide)).sub ⟨rfl, rfl, rfl, rfl, rfl, rfl, rfl, trivial⟩⟩
end Go.Sx
