/- A part of the proof that the law PiecesRules answers true at every input and leaves its arguments as they were. -/
import Derived.Test.YtnkaneggnjallaaGreatDoorProg
import Derived.Test.YtnkaneggnjallaaGreatDoorGbase
set_option linter.unusedVariables false
set_option linter.unusedSimpArgs false
namespace Go.Sx
open Go Go.RowKit Go.Proofs
set_option maxRecDepth 100000
theorem ig_div_cut2 {w0 : World} {a b s j X g Z : Nat} {sv3 : Value} {sv5 : Value} {sv6 : Value} {sv8 : Value} {sv9 : Value} (hda : dn a ≤ 17592186044416) (hdb : dn b ≤ 17592186044416) (hdl : dn b ≤ dn a) (hn2 : 2 ≤ dn b) (hs31 : s ≤ 31) (hs32 : s ≤ 32) (hYn : b * 2 ^ s < 4294967296 ^ dn b) (hYh : 4294967296 ^ dn b ≤ 2 * (b * 2 ^ s)) (hJ : j + 1 ≤ dn a + 1 - dn b) (D : DS X (b * 2 ^ s) (dn b) j) (hge : (X / 4294967296 ^ j / (b * 2 ^ s)) ≤ g) (hgd : g ≤ (X / 4294967296 ^ j / (b * 2 ^ s)) + 1 ∧ g < 4294967296) {ac : Act} {wo : World} (h : St w0 304 [(9, sv8), (12, (.int .i64 ((s : Nat) : Int))), (13, sv6), (14, (.int .i64 (((dn b) : Nat) : Int))), (15, sv9), (16, (.int .i64 ((j : Nat) : Int))), (18, (.int .u64 ((g : Nat) : Int))), (20, (.int .i64 0)), (21, (.int .u64 0))] [.row (α := Nat) 291 sv9 (dgs (dn a + 1 - dn b) Z), .row (α := Nat) 291 sv8 (dgs (dn b) (b * 2 ^ s)), .row (α := Nat) 291 sv6 (dgs (dn a + 1) X), .row (α := Nat) 291 sv5 (dgs (dn a) a), .row (α := Nat) 291 sv3 (dgs (dn b) b)] ac wo) {K34 : Act → World → Prop} {Q : Exit → Act → World → Prop} (hK34 : ∀ a_ w_, (St w0 304 [(9, sv8), (12, (.int .i64 ((s : Nat) : Int))), (13, sv6), (14, (.int .i64 (((dn b) : Nat) : Int))), (15, sv9), (16, (.int .i64 ((j : Nat) : Int))), (18, (.int .u64 ((g : Nat) : Int))), (20, (.int .i64 (((bw (X / 4294967296 ^ j + 4294967296 ^ (dn b + 1)) (g * (b * 2 ^ s)) (dn b)) : Nat) : Int))), (21, (.int .u64 (((mc 0 g (b * 2 ^ s) (dn b)) : Nat) : Int)))] [.row (α := Nat) 291 sv9 (dgs (dn a + 1 - dn b) Z), .row (α := Nat) 291 sv8 (dgs (dn b) (b * 2 ^ s)), .row (α := Nat) 291 sv6 (dgs (dn a + 1) (mx X (j + (dn b)) ((X / 4294967296 ^ j + 4294967296 ^ (dn b + 1) - g * (b * 2 ^ s)) * 4294967296 ^ j + X % 4294967296 ^ j))), .row (α := Nat) 291 sv5 (dgs (dn a) a), .row (α := Nat) 291 sv3 (dgs (dn b) b)] a_ w_) → K34 a_ w_) : (subc [1, 1, 1, 1, 1, 1, 1, 1, 1, 1, 0, 1, 0, 0, 1, 0, 0, 1, 1, 1, 1, 0] (Tryz.f194.body.getD .skip)).wp Tryz.prog (Exit.then K34 Q) ac wo := by
  refine c_rs fun K35 hK35 => ?_
  refine rd0 h (r_move rfl) rfl ?_; clear h ac wo; intro ac wo h
  refine rd0 h (r_move rfl (v := (.int .i64 0))) rfl ?_; clear h ac wo; intro ac wo h
  refine w_nil ?_
  refine hK35 _ _ ?_
  refine c_block ?_
  replace h := h.rowEq 2 rfl (by show _ = dgs _ (mx X j _); rw [win_start rfl] : (dgs (dn a + 1) X) = (dgs (dn a + 1) (mx X (j + 0) ((X / 4294967296 ^ j + 4294967296 ^ (dn b + 1) - g * (b * 2 ^ s)) * 4294967296 ^ j + X % 4294967296 ^ j))))
  refine wp_loop_ghost (fun n_ a_ w_ => ∃ (i : Nat), n_ = dn b - i ∧ (i ≤ dn b) ∧ St w0 304 [(9, sv8), (12, (.int .i64 ((s : Nat) : Int))), (13, sv6), (14, (.int .i64 (((dn b) : Nat) : Int))), (15, sv9), (16, (.int .i64 ((j : Nat) : Int))), (18, (.int .u64 ((g : Nat) : Int))), (167, (.int .i64 (((dn b) : Nat) : Int))), (168, (.int .i64 ((i : Nat) : Int))), (20, (.int .i64 (((bw (X / 4294967296 ^ j + 4294967296 ^ (dn b + 1)) (g * (b * 2 ^ s)) i) : Nat) : Int))), (21, (.int .u64 (((mc 0 g (b * 2 ^ s) i) : Nat) : Int)))] [.row (α := Nat) 291 sv9 (dgs (dn a + 1 - dn b) Z), .row (α := Nat) 291 sv8 (dgs (dn b) (b * 2 ^ s)), .row (α := Nat) 291 sv6 (dgs (dn a + 1) (mx X (j + i) ((X / 4294967296 ^ j + 4294967296 ^ (dn b + 1) - g * (b * 2 ^ s)) * 4294967296 ^ j + X % 4294967296 ^ j))), .row (α := Nat) 291 sv5 (dgs (dn a) a), .row (α := Nat) 291 sv3 (dgs (dn b) b)] a_ w_) _ ⟨0, rfl, (by omega), (h.pick [0, 1, 2, 3, 4] (by decide)).sub ⟨rfl, rfl, rfl, rfl, rfl, rfl, rfl, rfl, rfl, (by rw [bw_zero]; rfl), (by rw [mc_zero]; rfl), trivial⟩⟩ ?_
  clear h ac wo; rintro _ ac wo ⟨i, rfl, hi, h⟩
  refine c_rs fun K36 hK36 => ?_
  refine rd0 h (r_lss rfl rfl) rfl ?_; clear h ac wo; intro ac wo h
  refine w_nil ?_
  refine hK36 _ _ ?_
  refine c_seq fun K37 hK37 => ?_
  refine c_if (b := (decide (((i : Nat) : Int) < (((dn b) : Nat) : Int)))) h rfl (fun hc7 => ?_) (fun hc7 => ?_)
  · skip
    have hd7 := of_decide_eq_true hc7
    refine c_skip ?_
    refine hK37 _ _ ?_
    refine c_seq fun K38 hK38 => ?_
    refine c_block ?_
    refine c_rs fun K39 hK39 => ?_
    refine rd0 h (r_move rfl) rfl ?_; clear h ac wo; intro ac wo h
    refine rd0 h (r_assign rfl) rfl ?_; clear h ac wo; intro ac wo h
    refine w_nil ?_
    refine hK39 _ _ ?_
    refine c_rs fun K40 hK40 => ?_
    have hlt : i < dn b := by omega
    have hml := dig_mul_le (x := g) (y := b * 2 ^ s / 4294967296 ^ i % 4294967296) hgd.2 (Nat.mod_lt _ (by decide))
    have hcl := mc_lt (p := 0) (b := b * 2 ^ s) (k := i) hgd.2
    have hpr := D.prod_step g i
    have hbl := bw_le (X / 4294967296 ^ j + 4294967296 ^ (dn b + 1)) (g * (b * 2 ^ s)) i
    refine rd0 h (r_move rfl) rfl ?_; clear h ac wo; intro ac wo h
    refine rd0 h (r_move rfl) rfl ?_; clear h ac wo; intro ac wo h
    refine rd0 h (r_move rfl) rfl ?_; clear h ac wo; intro ac wo h
    refine rd0 h (r_move rfl) rfl ?_; clear h ac wo; intro ac wo h
    refine rd0 h (r_ia (i := i) Tryz.runUnderlying289 Tryz.sizeOf291 rfl rfl (h.dnn 1 rfl (by omega)) (by omega)) rfl ?_; clear h ac wo; intro ac wo h
    refine rd1 h 1 rfl (r_ldR (k := 0) Tryz.isAgg291 Tryz.sizeOf291 (dgs_get (n := (dn b)) (by omega)) rfl rfl rfl rfl (v := (.int .u32 ((((b * 2 ^ s) / 4294967296 ^ i % 4294967296) : Nat) : Int))) rfl) rfl ?_; clear h ac wo; intro ac wo h
    refine rd0 h (r_convInt Tryz.runUnderlying291 Tryz.runUnderlying234 rfl (r := ((((b * 2 ^ s) / 4294967296 ^ i % 4294967296) : Nat) : Int)) (by rw [IntKind.wrap_u64]; omega)) rfl ?_; clear h ac wo; intro ac wo h
    refine rd0 h (r_mul rfl rfl (r := ((g * ((b * 2 ^ s) / 4294967296 ^ i % 4294967296) : Nat) : Int)) (by rw [IntKind.wrap_u64]; omega)) rfl ?_; clear h ac wo; intro ac wo h
    refine rd0 h (r_add rfl rfl (r := (((mc 0 g (b * 2 ^ s) i) + (g * ((b * 2 ^ s) / 4294967296 ^ i % 4294967296)) : Nat) : Int)) (by rw [IntKind.wrap_u64]; omega)) rfl ?_; clear h ac wo; intro ac wo h
    refine rd0 h (r_assign rfl) rfl ?_; clear h ac wo; intro ac wo h
    refine w_nil ?_
    refine hK40 _ _ ?_
    refine c_rs fun K41 hK41 => ?_
    refine rd0 h (r_move rfl) rfl ?_; clear h ac wo; intro ac wo h
    refine rd0 h (r_move rfl) rfl ?_; clear h ac wo; intro ac wo h
    refine rd0 h (r_move rfl) rfl ?_; clear h ac wo; intro ac wo h
    refine rd0 h (r_add rfl rfl (r := (((j + i) : Nat) : Int)) (by rw [IntKind.wrap_i64]; omega)) rfl ?_; clear h ac wo; intro ac wo h
    refine rd0 h (r_ia (i := (j + i)) Tryz.runUnderlying289 Tryz.sizeOf291 rfl rfl (h.dnn 2 rfl (by omega)) (by omega)) rfl ?_; clear h ac wo; intro ac wo h
    refine rd1 h 2 rfl (r_ldR (k := 0) Tryz.isAgg291 Tryz.sizeOf291 (mx_get (by omega)) rfl rfl rfl rfl (v := (.int .u32 (((X / 4294967296 ^ (j + i) % 4294967296) : Nat) : Int))) rfl) rfl ?_; clear h ac wo; intro ac wo h
    refine rd0 h (r_convInt Tryz.runUnderlying291 Tryz.runUnderlying2 rfl (r := (((X / 4294967296 ^ (j + i) % 4294967296) : Nat) : Int)) (by rw [IntKind.wrap_i64]; omega)) rfl ?_; clear h ac wo; intro ac wo h
    refine rd0 h (r_move rfl) rfl ?_; clear h ac wo; intro ac wo h
    refine rd0 h (r_sub rfl rfl (r := ((((X / 4294967296 ^ (j + i) % 4294967296) : Nat) : Int) - (((bw (X / 4294967296 ^ j + 4294967296 ^ (dn b + 1)) (g * (b * 2 ^ s)) i) : Nat) : Int))) (wsub1 (Nat.mod_lt _ (by decide)) hbl)) rfl ?_; clear h ac wo; intro ac wo h
    refine rd0 h (r_move rfl) rfl ?_; clear h ac wo; intro ac wo h
    refine rd0 h (r_convInt Tryz.runUnderlying234 Tryz.runUnderlying291 rfl (r := ((g * (b * 2 ^ s) / 4294967296 ^ i % 4294967296 : Nat) : Int)) (by rw [IntKind.wrap_u32', hpr.1]; omega)) rfl ?_; clear h ac wo; intro ac wo h
    refine rd0 h (r_convInt Tryz.runUnderlying291 Tryz.runUnderlying2 rfl (r := ((g * (b * 2 ^ s) / 4294967296 ^ i % 4294967296 : Nat) : Int)) (by rw [IntKind.wrap_i64]; omega)) rfl ?_; clear h ac wo; intro ac wo h
    refine rd0 h (r_sub rfl rfl (r := (((((X / 4294967296 ^ (j + i) % 4294967296) : Nat) : Int) - (((bw (X / 4294967296 ^ j + 4294967296 ^ (dn b + 1)) (g * (b * 2 ^ s)) i) : Nat) : Int)) - ((g * (b * 2 ^ s) / 4294967296 ^ i % 4294967296 : Nat) : Int))) (wsub2 (Nat.mod_lt _ (by decide)) hbl (Nat.mod_lt _ (by decide)))) rfl ?_; clear h ac wo; intro ac wo h
    refine rd0 h (r_assign rfl) rfl ?_; clear h ac wo; intro ac wo h
    refine w_nil ?_
    refine hK41 _ _ ?_
    refine c_rs fun K42 hK42 => ?_
    refine rd0 h (r_move rfl) rfl ?_; clear h ac wo; intro ac wo h
    refine rd0 h (r_shr rfl rfl (r := (((mc 0 g (b * 2 ^ s) (i + 1)) : Nat) : Int)) (by decide) (by decide) (by rw [show (2 : Int) ^ ((32 : Int)).toNat = 4294967296 from rfl]; rw [hpr.2]; omega)) rfl ?_; clear h ac wo; intro ac wo h
    refine rd0 h (r_assign rfl) rfl ?_; clear h ac wo; intro ac wo h
    refine w_nil ?_
    refine hK42 _ _ ?_
    refine c_rs fun K43 hK43 => ?_
    refine rd0 h (r_assign rfl (v := (.int .i64 0))) rfl ?_; clear h ac wo; intro ac wo h
    refine w_nil ?_
    refine hK43 _ _ ?_
    refine c_seq fun K44 hK44 => ?_
    refine c_rs fun K45 hK45 => ?_
    refine rd0 h (r_move rfl) rfl ?_; clear h ac wo; intro ac wo h
    refine rd0 h (r_lss rfl rfl) rfl ?_; clear h ac wo; intro ac wo h
    refine w_nil ?_
    refine hK45 _ _ ?_
    refine c_if (b := (decide ((((((X / 4294967296 ^ (j + i) % 4294967296) : Nat) : Int) - (((bw (X / 4294967296 ^ j + 4294967296 ^ (dn b + 1)) (g * (b * 2 ^ s)) i) : Nat) : Int)) - ((g * (b * 2 ^ s) / 4294967296 ^ i % 4294967296 : Nat) : Int)) < 0))) h rfl (fun hc8 => ?_) (fun hc8 => ?_)
    · skip
      have hd8 := of_decide_eq_true hc8
      have hsb := Hid.mk (D.sub_lt hgd.2 (i := i) (Nat.le_of_lt hlt) (sub_lt0 hd8))
      refine c_r ?_
      refine rd0 h (r_move rfl) rfl ?_; clear h ac wo; intro ac wo h
      refine rd0 h (r_add rfl rfl (r := ((((((X / 4294967296 ^ (j + i) % 4294967296) : Nat) : Int) - (((bw (X / 4294967296 ^ j + 4294967296 ^ (dn b + 1)) (g * (b * 2 ^ s)) i) : Nat) : Int)) - ((g * (b * 2 ^ s) / 4294967296 ^ i % 4294967296 : Nat) : Int)) + 4294967296)) (wsub3 (Nat.mod_lt _ (by decide)) hbl (Nat.mod_lt _ (by decide)))) rfl ?_; clear h ac wo; intro ac wo h
      refine rd0 h (r_assign rfl) rfl ?_; clear h ac wo; intro ac wo h
      refine rd0 h (r_assign rfl (v := (.int .i64 1))) rfl ?_; clear h ac wo; intro ac wo h
      refine w_nil ?_
      refine hK44 _ _ ?_
      refine c_r ?_
      refine rd0 h (r_move rfl) rfl ?_; clear h ac wo; intro ac wo h
      refine rd0 h (r_move rfl) rfl ?_; clear h ac wo; intro ac wo h
      refine rd0 h (r_move rfl) rfl ?_; clear h ac wo; intro ac wo h
      refine rd0 h (r_add rfl rfl (r := (((j + i) : Nat) : Int)) (by rw [IntKind.wrap_i64]; omega)) rfl ?_; clear h ac wo; intro ac wo h
      refine rd0 h (r_move rfl) rfl ?_; clear h ac wo; intro ac wo h
      refine rd0 h (r_convInt Tryz.runUnderlying2 Tryz.runUnderlying291 rfl (r := (((X / 4294967296 ^ j + 4294967296 ^ (dn b + 1) - g * (b * 2 ^ s)) / 4294967296 ^ i % 4294967296 : Nat) : Int)) (by first | exact wcon1 (Nat.mod_lt _ (by decide)) hbl (Nat.mod_lt _ (by decide)) hd8 hsb.out.2 | exact wcon2 (Nat.mod_lt _ (by decide)) hbl (Nat.mod_lt _ (by decide)) hd8 hsb.out.2)) rfl ?_; clear h ac wo; intro ac wo h
      refine rd0 h (r_ia (i := (j + i)) Tryz.runUnderlying289 Tryz.sizeOf291 rfl rfl (h.dnn 2 rfl (by omega)) (by omega)) rfl ?_; clear h ac wo; intro ac wo h
      refine up h 2 rfl (s_stR (k := 0) (u' := ((X / 4294967296 ^ j + 4294967296 ^ (dn b + 1) - g * (b * 2 ^ s)) / 4294967296 ^ i % 4294967296)) Tryz.sizeOf291 (mx_get (by omega)) rfl rfl rfl rfl rfl rfl rfl rfl) ?_; clear h ac wo; intro ac wo h
      replace h := h.rowEq 2 rfl (win_set (Nat.mod_lt _ (Bpos j)))
      refine w_nil ?_
      refine b_norm ?_
      refine hK38 _ _ ?_
      refine c_r ?_
      refine rd0 h (r_add rfl rfl (r := ((i + 1 : Nat) : Int)) (by rw [IntKind.wrap_i64]; omega)) rfl ?_; clear h ac wo; intro ac wo h
      refine rd0 h (r_move rfl) rfl ?_; clear h ac wo; intro ac wo h
      refine w_nil ?_
      exact next_round ⟨_, (by omega), i + 1, rfl, (by omega), (h.pick [0, 1, 2, 3, 4] (by decide)).sub ⟨rfl, rfl, rfl, rfl, rfl, rfl, rfl, rfl, rfl, (by rw [hsb.out.1]; rfl), rfl, trivial⟩⟩
    · skip
      have hd8 := of_decide_eq_false hc8
      have hsb := Hid.mk (D.sub_ge hgd.2 (i := i) (Nat.le_of_lt hlt) (sub_ge0 hd8))
      refine c_skip ?_
      refine hK44 _ _ ?_
      refine c_r ?_
      refine rd0 h (r_move rfl) rfl ?_; clear h ac wo; intro ac wo h
      refine rd0 h (r_move rfl) rfl ?_; clear h ac wo; intro ac wo h
      refine rd0 h (r_move rfl) rfl ?_; clear h ac wo; intro ac wo h
      refine rd0 h (r_add rfl rfl (r := (((j + i) : Nat) : Int)) (by rw [IntKind.wrap_i64]; omega)) rfl ?_; clear h ac wo; intro ac wo h
      refine rd0 h (r_move rfl) rfl ?_; clear h ac wo; intro ac wo h
      refine rd0 h (r_convInt Tryz.runUnderlying2 Tryz.runUnderlying291 rfl (r := (((X / 4294967296 ^ j + 4294967296 ^ (dn b + 1) - g * (b * 2 ^ s)) / 4294967296 ^ i % 4294967296 : Nat) : Int)) (by first | exact wcon1 (Nat.mod_lt _ (by decide)) hbl (Nat.mod_lt _ (by decide)) hd8 hsb.out.2 | exact wcon2 (Nat.mod_lt _ (by decide)) hbl (Nat.mod_lt _ (by decide)) hd8 hsb.out.2)) rfl ?_; clear h ac wo; intro ac wo h
      refine rd0 h (r_ia (i := (j + i)) Tryz.runUnderlying289 Tryz.sizeOf291 rfl rfl (h.dnn 2 rfl (by omega)) (by omega)) rfl ?_; clear h ac wo; intro ac wo h
      refine up h 2 rfl (s_stR (k := 0) (u' := ((X / 4294967296 ^ j + 4294967296 ^ (dn b + 1) - g * (b * 2 ^ s)) / 4294967296 ^ i % 4294967296)) Tryz.sizeOf291 (mx_get (by omega)) rfl rfl rfl rfl rfl rfl rfl rfl) ?_; clear h ac wo; intro ac wo h
      replace h := h.rowEq 2 rfl (win_set (Nat.mod_lt _ (Bpos j)))
      refine w_nil ?_
      refine b_norm ?_
      refine hK38 _ _ ?_
      refine c_r ?_
      refine rd0 h (r_add rfl rfl (r := ((i + 1 : Nat) : Int)) (by rw [IntKind.wrap_i64]; omega)) rfl ?_; clear h ac wo; intro ac wo h
      refine rd0 h (r_move rfl) rfl ?_; clear h ac wo; intro ac wo h
      refine w_nil ?_
      exact next_round ⟨_, (by omega), i + 1, rfl, (by omega), (h.pick [0, 1, 2, 3, 4] (by decide)).sub ⟨rfl, rfl, rfl, rfl, rfl, rfl, rfl, rfl, rfl, (by rw [hsb.out.1]; rfl), rfl, trivial⟩⟩
  · skip
    have hd7 := of_decide_eq_false hc7
    refine c_exit ?_
    have hie : i = dn b := by omega
    subst hie
    exact hK34 _ _ ((h.pick [0, 1, 2, 3, 4] (by decide)).sub ⟨rfl, rfl, rfl, rfl, rfl, rfl, rfl, rfl, rfl, trivial⟩)
end Go.Sx
