/- A part of the proof that the law PiecesRules answers true at every input and leaves its arguments as they were. -/
import Derived.Test.YtnkaneggnjallaaGreatDoorProg
import Derived.Test.YtnkaneggnjallaaGreatDoorGbase
set_option linter.unusedVariables false
set_option linter.unusedSimpArgs false
namespace Go.Sx
open Go Go.RowKit Go.Proofs
set_option maxRecDepth 100000
theorem ig_div_cut3 {w0 : World} {a b s j X g Z : Nat} {sv3 : Value} {sv5 : Value} {sv6 : Value} {sv8 : Value} {sv9 : Value} (hda : dn a ≤ 17592186044416) (hdb : dn b ≤ 17592186044416) (hdl : dn b ≤ dn a) (hn2 : 2 ≤ dn b) (hs31 : s ≤ 31) (hs32 : s ≤ 32) (hYn : b * 2 ^ s < 4294967296 ^ dn b) (hYh : 4294967296 ^ dn b ≤ 2 * (b * 2 ^ s)) (hJ : j + 1 ≤ dn a + 1 - dn b) (D : DS X (b * 2 ^ s) (dn b) j) (hge : (X / 4294967296 ^ j / (b * 2 ^ s)) ≤ g) (hgd : g ≤ (X / 4294967296 ^ j / (b * 2 ^ s)) + 1 ∧ g < 4294967296) {ac : Act} {wo : World} (h : St w0 304 [(9, sv8), (12, (.int .i64 ((s : Nat) : Int))), (13, sv6), (14, (.int .i64 (((dn b) : Nat) : Int))), (15, sv9), (16, (.int .i64 ((j : Nat) : Int))), (18, (.int .u64 ((g : Nat) : Int))), (24, (.int .i64 (((((X / 4294967296 ^ (j + dn b) % 4294967296) : Nat) : Int) - (((bw (X / 4294967296 ^ j + 4294967296 ^ (dn b + 1)) (g * (b * 2 ^ s)) (dn b)) : Nat) : Int)) - ((g * (b * 2 ^ s) / 4294967296 ^ (dn b) % 4294967296 : Nat) : Int))))] [.row (α := Nat) 291 sv9 (dgs (dn a + 1 - dn b) Z), .row (α := Nat) 291 sv8 (dgs (dn b) (b * 2 ^ s)), .row (α := Nat) 291 sv6 (dgs (dn a + 1) (((X / 4294967296 ^ j + 4294967296 ^ (dn b + 1) - g * (b * 2 ^ s)) % 4294967296 ^ (dn b + 1)) * 4294967296 ^ j + X % 4294967296 ^ j)), .row (α := Nat) 291 sv5 (dgs (dn a) a), .row (α := Nat) 291 sv3 (dgs (dn b) b)] ac wo) {K48 : Act → World → Prop} {Q : Exit → Act → World → Prop} (hK48 : ∀ a_ w_, (St w0 304 [(9, sv8), (12, (.int .i64 ((s : Nat) : Int))), (13, sv6), (14, (.int .i64 (((dn b) : Nat) : Int))), (15, sv9), (16, (.int .i64 ((j : Nat) : Int))), (18, (.int .u64 (((X / 4294967296 ^ j / (b * 2 ^ s)) : Nat) : Int)))] [.row (α := Nat) 291 sv9 (dgs (dn a + 1 - dn b) Z), .row (α := Nat) 291 sv8 (dgs (dn b) (b * 2 ^ s)), .row (α := Nat) 291 sv6 (dgs (dn a + 1) (nextX X (b * 2 ^ s) j)), .row (α := Nat) 291 sv5 (dgs (dn a) a), .row (α := Nat) 291 sv3 (dgs (dn b) b)] a_ w_) → K48 a_ w_) : (subc [1, 1, 1, 1, 1, 1, 1, 1, 1, 1, 0, 1, 0, 0, 1, 0, 0, 1, 1, 1, 1, 1, 1, 1, 0] (Tryz.f194.body.getD .skip)).wp Tryz.prog (Exit.then K48 Q) ac wo := by
  have hsn := D.sign_neg hgd.2
  have hsp := D.sign_pos hgd.2
  have hbl := bw_le (X / 4294967296 ^ j + 4294967296 ^ (dn b + 1)) (g * (b * 2 ^ s)) (dn b)
  refine c_rs fun K49 hK49 => ?_
  refine rd0 h (r_move rfl) rfl ?_; clear h ac wo; intro ac wo h
  refine rd0 h (r_lss rfl rfl) rfl ?_; clear h ac wo; intro ac wo h
  refine w_nil ?_
  refine hK49 _ _ ?_
  refine c_if (b := (decide ((((((X / 4294967296 ^ (j + dn b) % 4294967296) : Nat) : Int) - (((bw (X / 4294967296 ^ j + 4294967296 ^ (dn b + 1)) (g * (b * 2 ^ s)) (dn b)) : Nat) : Int)) - ((g * (b * 2 ^ s) / 4294967296 ^ (dn b) % 4294967296 : Nat) : Int)) < 0))) h rfl (fun hc9 => ?_) (fun hc9 => ?_)
  · skip
    have hd9 := of_decide_eq_true hc9
    have hneg := hsn (by omega)
    have hgn := D.guess_neg hgd.1 hneg
    have hg1 : 1 ≤ g := by rw [hgn]; exact Nat.succ_le_succ (Nat.zero_le _)
    refine c_rs fun K50 hK50 => ?_
    refine rd0 h (r_move rfl) rfl ?_; clear h ac wo; intro ac wo h
    refine rd0 h (r_sub rfl rfl (r := (((g - 1) : Nat) : Int)) (by rw [IntKind.wrap_u64]; omega)) rfl ?_; clear h ac wo; intro ac wo h
    refine rd0 h (r_assign rfl) rfl ?_; clear h ac wo; intro ac wo h
    refine w_nil ?_
    refine hK50 _ _ ?_
    refine c_rs fun K51 hK51 => ?_
    refine rd0 h (r_assign rfl (v := (.int .u64 0))) rfl ?_; clear h ac wo; intro ac wo h
    refine w_nil ?_
    refine hK51 _ _ ?_
    refine c_seq fun K52 hK52 => ?_
    refine c_rs fun K53 hK53 => ?_
    refine rd0 h (r_move rfl) rfl ?_; clear h ac wo; intro ac wo h
    refine rd0 h (r_move rfl (v := (.int .i64 0))) rfl ?_; clear h ac wo; intro ac wo h
    refine w_nil ?_
    refine hK53 _ _ ?_
    refine c_block ?_
    replace h := h.rowEq 2 rfl (by show _ = dgs _ (mx _ j _); rw [win_start2 (Nat.mod_lt _ (Bpos j))] : (dgs (dn a + 1) (((X / 4294967296 ^ j + 4294967296 ^ (dn b + 1) - g * (b * 2 ^ s)) % 4294967296 ^ (dn b + 1)) * 4294967296 ^ j + X % 4294967296 ^ j)) = (dgs (dn a + 1) (mx (((X / 4294967296 ^ j + 4294967296 ^ (dn b + 1) - g * (b * 2 ^ s)) % 4294967296 ^ (dn b + 1)) * 4294967296 ^ j + X % 4294967296 ^ j) (j + 0) ((((X / 4294967296 ^ j + 4294967296 ^ (dn b + 1) - g * (b * 2 ^ s)) % 4294967296 ^ (dn b + 1)) + (b * 2 ^ s)) * 4294967296 ^ j + X % 4294967296 ^ j))))
    refine wp_loop_ghost (fun n_ a_ w_ => ∃ (i : Nat), n_ = dn b - i ∧ (i ≤ dn b) ∧ St w0 304 [(9, sv8), (12, (.int .i64 ((s : Nat) : Int))), (13, sv6), (14, (.int .i64 (((dn b) : Nat) : Int))), (15, sv9), (16, (.int .i64 ((j : Nat) : Int))), (18, (.int .u64 (((g - 1) : Nat) : Int))), (230, (.int .i64 (((dn b) : Nat) : Int))), (231, (.int .i64 ((i : Nat) : Int))), (25, (.int .u64 (((cy ((X / 4294967296 ^ j + 4294967296 ^ (dn b + 1) - g * (b * 2 ^ s)) % 4294967296 ^ (dn b + 1)) (b * 2 ^ s) i) : Nat) : Int)))] [.row (α := Nat) 291 sv9 (dgs (dn a + 1 - dn b) Z), .row (α := Nat) 291 sv8 (dgs (dn b) (b * 2 ^ s)), .row (α := Nat) 291 sv6 (dgs (dn a + 1) (mx (((X / 4294967296 ^ j + 4294967296 ^ (dn b + 1) - g * (b * 2 ^ s)) % 4294967296 ^ (dn b + 1)) * 4294967296 ^ j + X % 4294967296 ^ j) (j + i) ((((X / 4294967296 ^ j + 4294967296 ^ (dn b + 1) - g * (b * 2 ^ s)) % 4294967296 ^ (dn b + 1)) + (b * 2 ^ s)) * 4294967296 ^ j + X % 4294967296 ^ j))), .row (α := Nat) 291 sv5 (dgs (dn a) a), .row (α := Nat) 291 sv3 (dgs (dn b) b)] a_ w_) _ ⟨0, rfl, (by omega), (h.pick [0, 1, 2, 3, 4] (by decide)).sub ⟨rfl, rfl, rfl, rfl, rfl, rfl, rfl, rfl, rfl, (by rw [cy_zero]; rfl), trivial⟩⟩ ?_
    clear h ac wo; rintro _ ac wo ⟨i, rfl, hi, h⟩
    refine c_rs fun K54 hK54 => ?_
    refine rd0 h (r_lss rfl rfl) rfl ?_; clear h ac wo; intro ac wo h
    refine w_nil ?_
    refine hK54 _ _ ?_
    refine c_seq fun K55 hK55 => ?_
    refine c_if (b := (decide (((i : Nat) : Int) < (((dn b) : Nat) : Int)))) h rfl (fun hc10 => ?_) (fun hc10 => ?_)
    · skip
      have hd10 := of_decide_eq_true hc10
      refine c_skip ?_
      refine hK55 _ _ ?_
      refine c_seq fun K56 hK56 => ?_
      refine c_block ?_
      refine c_rs fun K57 hK57 => ?_
      refine rd0 h (r_move rfl) rfl ?_; clear h ac wo; intro ac wo h
      refine rd0 h (r_assign rfl) rfl ?_; clear h ac wo; intro ac wo h
      refine w_nil ?_
      refine hK57 _ _ ?_
      refine c_seq fun K58 hK58 => ?_
      have hcy := cy_le ((X / 4294967296 ^ j + 4294967296 ^ (dn b + 1) - g * (b * 2 ^ s)) % 4294967296 ^ (dn b + 1)) (b * 2 ^ s) i
      have hdig := cy_digit ((X / 4294967296 ^ j + 4294967296 ^ (dn b + 1) - g * (b * 2 ^ s)) % 4294967296 ^ (dn b + 1)) (b * 2 ^ s) i
      have hnx := cy_next ((X / 4294967296 ^ j + 4294967296 ^ (dn b + 1) - g * (b * 2 ^ s)) % 4294967296 ^ (dn b + 1)) (b * 2 ^ s) i
      refine draws mixed [⟨.det (.int .u64 (((cy ((X / 4294967296 ^ j + 4294967296 ^ (dn b + 1) - g * (b * 2 ^ s)) % 4294967296 ^ (dn b + 1)) (b * 2 ^ s) i) : Nat) : Int)), []⟩, ⟨.det sv6, []⟩, ⟨.det (.int .i64 ((i : Nat) : Int)), []⟩, ⟨.det (.int .i64 ((j : Nat) : Int)), []⟩, ⟨.det (.int .i64 (((j + i) : Nat) : Int)), []⟩, ⟨.det (sel sv6 ((j + i) * 1)), []⟩, ⟨.det (.int .u32 (((((X / 4294967296 ^ j + 4294967296 ^ (dn b + 1) - g * (b * 2 ^ s)) % 4294967296 ^ (dn b + 1)) / 4294967296 ^ i % 4294967296) : Nat) : Int)), [2]⟩, ⟨.det (.int .u64 (((((X / 4294967296 ^ j + 4294967296 ^ (dn b + 1) - g * (b * 2 ^ s)) % 4294967296 ^ (dn b + 1)) / 4294967296 ^ i % 4294967296) : Nat) : Int)), []⟩, ⟨.det sv8, []⟩, ⟨.det (.int .i64 ((i : Nat) : Int)), []⟩, ⟨.det (sel sv8 (i * 1)), []⟩, ⟨.det (.int .u32 ((((b * 2 ^ s) / 4294967296 ^ i % 4294967296) : Nat) : Int)), [1]⟩, ⟨.det (.int .u64 ((((b * 2 ^ s) / 4294967296 ^ i % 4294967296) : Nat) : Int)), []⟩, ⟨.det (.int .u64 (((((X / 4294967296 ^ j + 4294967296 ^ (dn b + 1) - g * (b * 2 ^ s)) % 4294967296 ^ (dn b + 1)) / 4294967296 ^ i % 4294967296) + ((b * 2 ^ s) / 4294967296 ^ i % 4294967296) : Nat) : Int)), []⟩, ⟨.det (.int .u64 (((cy ((X / 4294967296 ^ j + 4294967296 ^ (dn b + 1) - g * (b * 2 ^ s)) % 4294967296 ^ (dn b + 1)) (b * 2 ^ s) i) + ((((X / 4294967296 ^ j + 4294967296 ^ (dn b + 1) - g * (b * 2 ^ s)) % 4294967296 ^ (dn b + 1)) / 4294967296 ^ i % 4294967296) + ((b * 2 ^ s) / 4294967296 ^ i % 4294967296)) : Nat) : Int)), []⟩, ⟨.det (.int .u64 (((cy ((X / 4294967296 ^ j + 4294967296 ^ (dn b + 1) - g * (b * 2 ^ s)) % 4294967296 ^ (dn b + 1)) (b * 2 ^ s) i) + ((((X / 4294967296 ^ j + 4294967296 ^ (dn b + 1) - g * (b * 2 ^ s)) % 4294967296 ^ (dn b + 1)) / 4294967296 ^ i % 4294967296) + ((b * 2 ^ s) / 4294967296 ^ i % 4294967296)) : Nat) : Int)), []⟩] [⟨.row (α := Nat) 291 sv9 (dgs (dn a + 1 - dn b) Z), []⟩, ⟨.row (α := Nat) 291 sv8 (dgs (dn b) (b * 2 ^ s)), []⟩, ⟨.row (α := Nat) 291 sv6 (dgs (dn a + 1) (mx (((X / 4294967296 ^ j + 4294967296 ^ (dn b + 1) - g * (b * 2 ^ s)) % 4294967296 ^ (dn b + 1)) * 4294967296 ^ j + X % 4294967296 ^ j) (j + i) ((((X / 4294967296 ^ j + 4294967296 ^ (dn b + 1) - g * (b * 2 ^ s)) % 4294967296 ^ (dn b + 1)) + (b * 2 ^ s)) * 4294967296 ^ j + X % 4294967296 ^ j))), []⟩, ⟨.row (α := Nat) 291 sv5 (dgs (dn a) a), []⟩, ⟨.row (α := Nat) 291 sv3 (dgs (dn b) b), []⟩] h rfl (by kernel_rfl) ⟨?_, ?_, ?_, ?_, ?_, ?_, ?_, ?_, ?_, ?_, ?_, ?_, ?_, ?_, ?_, ?_, trivial⟩ ?_
      · intro ξ hφ; exact ob_r0 (r_move rfl)
      · intro ξ hφ; exact ob_r0 (r_move rfl)
      · intro ξ hφ; exact ob_r0 (r_move rfl)
      · intro ξ hφ; exact ob_r0 (r_move rfl)
      · intro ξ hφ; exact ob_r0 (r_add rfl rfl (r := (((j + i) : Nat) : Int)) (by rw [IntKind.wrap_i64]; omega))
      · intro ξ hφ; exact ob_r0 (r_ia (i := (j + i)) Tryz.runUnderlying289 Tryz.sizeOf291 rfl rfl (h.dnn 2 rfl (by omega)) (by omega))
      · intro ξ hφ; exact ob_r [.row (α := Nat) 291 sv6 (dgs (dn a + 1) (mx (((X / 4294967296 ^ j + 4294967296 ^ (dn b + 1) - g * (b * 2 ^ s)) % 4294967296 ^ (dn b + 1)) * 4294967296 ^ j + X % 4294967296 ^ j) (j + i) ((((X / 4294967296 ^ j + 4294967296 ^ (dn b + 1) - g * (b * 2 ^ s)) % 4294967296 ^ (dn b + 1)) + (b * 2 ^ s)) * 4294967296 ^ j + X % 4294967296 ^ j)))] rfl rfl (r_ldR (k := 0) Tryz.isAgg291 Tryz.sizeOf291 (win_get (Nat.mod_lt _ (Bpos j)) (by omega)) rfl rfl rfl rfl (v := (.int .u32 (((((X / 4294967296 ^ j + 4294967296 ^ (dn b + 1) - g * (b * 2 ^ s)) % 4294967296 ^ (dn b + 1)) / 4294967296 ^ i % 4294967296) : Nat) : Int))) rfl)
      · intro ξ hφ; exact ob_r0 (r_convInt Tryz.runUnderlying291 Tryz.runUnderlying234 rfl (r := (((((X / 4294967296 ^ j + 4294967296 ^ (dn b + 1) - g * (b * 2 ^ s)) % 4294967296 ^ (dn b + 1)) / 4294967296 ^ i % 4294967296) : Nat) : Int)) (by rw [IntKind.wrap_u64]; omega))
      · intro ξ hφ; exact ob_r0 (r_move rfl)
      · intro ξ hφ; exact ob_r0 (r_move rfl)
      · intro ξ hφ; exact ob_r0 (r_ia (i := i) Tryz.runUnderlying289 Tryz.sizeOf291 rfl rfl (h.dnn 1 rfl (by omega)) (by omega))
      · intro ξ hφ; exact ob_r [.row (α := Nat) 291 sv8 (dgs (dn b) (b * 2 ^ s))] rfl rfl (r_ldR (k := 0) Tryz.isAgg291 Tryz.sizeOf291 (dgs_get (n := (dn b)) (by omega)) rfl rfl rfl rfl (v := (.int .u32 ((((b * 2 ^ s) / 4294967296 ^ i % 4294967296) : Nat) : Int))) rfl)
      · intro ξ hφ; exact ob_r0 (r_convInt Tryz.runUnderlying291 Tryz.runUnderlying234 rfl (r := ((((b * 2 ^ s) / 4294967296 ^ i % 4294967296) : Nat) : Int)) (by rw [IntKind.wrap_u64]; omega))
      · intro ξ hφ; exact ob_r0 (r_add rfl rfl (r := (((((X / 4294967296 ^ j + 4294967296 ^ (dn b + 1) - g * (b * 2 ^ s)) % 4294967296 ^ (dn b + 1)) / 4294967296 ^ i % 4294967296) + ((b * 2 ^ s) / 4294967296 ^ i % 4294967296) : Nat) : Int)) (by rw [IntKind.wrap_u64]; omega))
      · intro ξ hφ; exact ob_r0 (r_add rfl rfl (r := (((cy ((X / 4294967296 ^ j + 4294967296 ^ (dn b + 1) - g * (b * 2 ^ s)) % 4294967296 ^ (dn b + 1)) (b * 2 ^ s) i) + ((((X / 4294967296 ^ j + 4294967296 ^ (dn b + 1) - g * (b * 2 ^ s)) % 4294967296 ^ (dn b + 1)) / 4294967296 ^ i % 4294967296) + ((b * 2 ^ s) / 4294967296 ^ i % 4294967296)) : Nat) : Int)) (by rw [IntKind.wrap_u64]; omega))
      · intro ξ hφ; exact ob_r0 (r_assign rfl)
      clear h ac wo; intro ξ ac wo hφ h
      replace h : St w0 304 [(9, sv8), (12, (.int .i64 ((s : Nat) : Int))), (13, sv6), (14, (.int .i64 (((dn b) : Nat) : Int))), (15, sv9), (16, (.int .i64 ((j : Nat) : Int))), (18, (.int .u64 (((g - 1) : Nat) : Int))), (230, (.int .i64 (((dn b) : Nat) : Int))), (231, (.int .i64 ((i : Nat) : Int))), (25, (.int .u64 (((cy ((X / 4294967296 ^ j + 4294967296 ^ (dn b + 1) - g * (b * 2 ^ s)) % 4294967296 ^ (dn b + 1)) (b * 2 ^ s) i) + ((((X / 4294967296 ^ j + 4294967296 ^ (dn b + 1) - g * (b * 2 ^ s)) % 4294967296 ^ (dn b + 1)) / 4294967296 ^ i % 4294967296) + ((b * 2 ^ s) / 4294967296 ^ i % 4294967296)) : Nat) : Int))), (26, (.int .i64 ((i : Nat) : Int)))] [.row (α := Nat) 291 sv9 (dgs (dn a + 1 - dn b) Z), .row (α := Nat) 291 sv8 (dgs (dn b) (b * 2 ^ s)), .row (α := Nat) 291 sv6 (dgs (dn a + 1) (mx (((X / 4294967296 ^ j + 4294967296 ^ (dn b + 1) - g * (b * 2 ^ s)) % 4294967296 ^ (dn b + 1)) * 4294967296 ^ j + X % 4294967296 ^ j) (j + i) ((((X / 4294967296 ^ j + 4294967296 ^ (dn b + 1) - g * (b * 2 ^ s)) % 4294967296 ^ (dn b + 1)) + (b * 2 ^ s)) * 4294967296 ^ j + X % 4294967296 ^ j))), .row (α := Nat) 291 sv5 (dgs (dn a) a), .row (α := Nat) 291 sv3 (dgs (dn b) b)] ac wo := h.sub ⟨rfl, rfl, rfl, rfl, rfl, rfl, rfl, rfl, rfl, rfl, rfl, trivial⟩
      clear hφ ξ
      refine hK58 _ _ ?_
      refine c_r ?_
      refine rd0 h (r_move rfl) rfl ?_; clear h ac wo; intro ac wo h
      refine rd0 h (r_move rfl) rfl ?_; clear h ac wo; intro ac wo h
      refine rd0 h (r_move rfl) rfl ?_; clear h ac wo; intro ac wo h
      refine rd0 h (r_add rfl rfl (r := (((j + i) : Nat) : Int)) (by rw [IntKind.wrap_i64]; omega)) rfl ?_; clear h ac wo; intro ac wo h
      refine rd0 h (r_move rfl) rfl ?_; clear h ac wo; intro ac wo h
      refine rd0 h (r_convInt Tryz.runUnderlying234 Tryz.runUnderlying291 rfl (r := (((((X / 4294967296 ^ j + 4294967296 ^ (dn b + 1) - g * (b * 2 ^ s)) % 4294967296 ^ (dn b + 1)) + (b * 2 ^ s)) / 4294967296 ^ i % 4294967296 : Nat) : Int)) (by rw [IntKind.wrap_u32', hdig]; omega)) rfl ?_; clear h ac wo; intro ac wo h
      refine rd0 h (r_move rfl) rfl ?_; clear h ac wo; intro ac wo h
      refine rd0 h (r_shr rfl rfl (r := (((cy ((X / 4294967296 ^ j + 4294967296 ^ (dn b + 1) - g * (b * 2 ^ s)) % 4294967296 ^ (dn b + 1)) (b * 2 ^ s) (i + 1)) : Nat) : Int)) (by decide) (by decide) (by rw [show (2 : Int) ^ ((32 : Int)).toNat = 4294967296 from rfl]; rw [hnx]; omega)) rfl ?_; clear h ac wo; intro ac wo h
      refine rd0 h (r_ia (i := (j + i)) Tryz.runUnderlying289 Tryz.sizeOf291 rfl rfl (h.dnn 2 rfl (by omega)) (by omega)) rfl ?_; clear h ac wo; intro ac wo h
      refine up h 2 rfl (s_stR (k := 0) (u' := ((((X / 4294967296 ^ j + 4294967296 ^ (dn b + 1) - g * (b * 2 ^ s)) % 4294967296 ^ (dn b + 1)) + (b * 2 ^ s)) / 4294967296 ^ i % 4294967296)) Tryz.sizeOf291 (win_get (Nat.mod_lt _ (Bpos j)) (by omega)) rfl rfl rfl rfl rfl rfl rfl rfl) ?_; clear h ac wo; intro ac wo h
      replace h := h.rowEq 2 rfl (win_set (Nat.mod_lt _ (Bpos j)))
      refine rd0 h (r_assign rfl) rfl ?_; clear h ac wo; intro ac wo h
      refine w_nil ?_
      refine b_norm ?_
      refine hK56 _ _ ?_
      refine c_r ?_
      refine rd0 h (r_add rfl rfl (r := ((i + 1 : Nat) : Int)) (by rw [IntKind.wrap_i64]; omega)) rfl ?_; clear h ac wo; intro ac wo h
      refine rd0 h (r_move rfl) rfl ?_; clear h ac wo; intro ac wo h
      refine w_nil ?_
      exact next_round ⟨_, (by omega), i + 1, rfl, (by omega), (h.pick [0, 1, 2, 3, 4] (by decide)).sub ⟨rfl, rfl, rfl, rfl, rfl, rfl, rfl, rfl, rfl, rfl, trivial⟩⟩
    · skip
      have hd10 := of_decide_eq_false hc10
      refine c_exit ?_
      refine hK52 _ _ ?_
      refine c_r ?_
      have hie : i = dn b := by omega
      subst hie
      have hcy := cy_le ((X / 4294967296 ^ j + 4294967296 ^ (dn b + 1) - g * (b * 2 ^ s)) % 4294967296 ^ (dn b + 1)) (b * 2 ^ s) (dn b)
      have hdig := cy_digit ((X / 4294967296 ^ j + 4294967296 ^ (dn b + 1) - g * (b * 2 ^ s)) % 4294967296 ^ (dn b + 1)) (b * 2 ^ s) (dn b)
      have hyz := dig_zero hYn (Nat.le_refl (dn b))
      refine rd0 h (r_move rfl) rfl ?_; clear h ac wo; intro ac wo h
      refine rd0 h (r_move rfl) rfl ?_; clear h ac wo; intro ac wo h
      refine rd0 h (r_move rfl) rfl ?_; clear h ac wo; intro ac wo h
      refine rd0 h (r_add rfl rfl (r := ((j + (dn b) : Nat) : Int)) (by rw [IntKind.wrap_i64]; omega)) rfl ?_; clear h ac wo; intro ac wo h
      refine rd0 h (r_ia (i := (j + (dn b))) Tryz.runUnderlying289 Tryz.sizeOf291 rfl rfl (h.dnn 2 rfl (by omega)) (by omega)) rfl ?_; clear h ac wo; intro ac wo h
      refine rd1 h 2 rfl (r_ldR (k := 0) Tryz.isAgg291 Tryz.sizeOf291 (win_get (Nat.mod_lt _ (Bpos j)) (by omega)) rfl rfl rfl rfl (v := (.int .u32 (((((X / 4294967296 ^ j + 4294967296 ^ (dn b + 1) - g * (b * 2 ^ s)) % 4294967296 ^ (dn b + 1)) / 4294967296 ^ (dn b) % 4294967296) : Nat) : Int))) rfl) rfl ?_; clear h ac wo; intro ac wo h
      refine rd0 h (r_move rfl) rfl ?_; clear h ac wo; intro ac wo h
      refine rd0 h (r_convInt Tryz.runUnderlying234 Tryz.runUnderlying291 rfl (r := (((cy ((X / 4294967296 ^ j + 4294967296 ^ (dn b + 1) - g * (b * 2 ^ s)) % 4294967296 ^ (dn b + 1)) (b * 2 ^ s) (dn b)) : Nat) : Int)) (by rw [IntKind.wrap_u32']; omega)) rfl ?_; clear h ac wo; intro ac wo h
      refine rd0 h (r_add rfl rfl (r := ((((((X / 4294967296 ^ j + 4294967296 ^ (dn b + 1) - g * (b * 2 ^ s)) % 4294967296 ^ (dn b + 1)) + (b * 2 ^ s)) / 4294967296 ^ (dn b) % 4294967296) : Nat) : Int)) (by rw [IntKind.wrap_u32', hdig, hyz]; omega)) rfl ?_; clear h ac wo; intro ac wo h
      refine rd0 h (r_ia (i := (j + (dn b))) Tryz.runUnderlying289 Tryz.sizeOf291 rfl rfl (h.dnn 2 rfl (by omega)) (by omega)) rfl ?_; clear h ac wo; intro ac wo h
      refine up h 2 rfl (s_stR (k := 0) (u' := ((((X / 4294967296 ^ j + 4294967296 ^ (dn b + 1) - g * (b * 2 ^ s)) % 4294967296 ^ (dn b + 1)) + (b * 2 ^ s)) / 4294967296 ^ (dn b) % 4294967296)) Tryz.sizeOf291 (win_get (Nat.mod_lt _ (Bpos j)) (by omega)) rfl rfl rfl rfl rfl rfl rfl rfl) ?_; clear h ac wo; intro ac wo h
      replace h := h.rowEq 2 rfl (D.set_neg hgd.1 hneg)
      refine w_nil ?_
      exact hK48 _ _ ((h.pick [0, 1, 2, 3, 4] (by decide)).sub ⟨rfl, rfl, rfl, rfl, rfl, rfl, (congrArg (fun x : Nat => some (Value.int .u64 (x : Int))) (show (g - 1) = (X / 4294967296 ^ j / (b * 2 ^ s)) from by rw [hgn, Nat.add_sub_cancel])), trivial⟩)
  · skip
    have hd9 := of_decide_eq_false hc9
    have hpos := hsp (by omega)
    have hgn := D.guess_pos hge hpos
    replace h := h.rowEq 2 rfl (D.set_pos hgd.2 hge hpos : (dgs (dn a + 1) (((X / 4294967296 ^ j + 4294967296 ^ (dn b + 1) - g * (b * 2 ^ s)) % 4294967296 ^ (dn b + 1)) * 4294967296 ^ j + X % 4294967296 ^ j)) = (dgs (dn a + 1) (nextX X (b * 2 ^ s) j)))
    refine c_skip ?_
    exact hK48 _ _ ((h.pick [0, 1, 2, 3, 4] (by decide)).sub ⟨rfl, rfl, rfl, rfl, rfl, rfl, (congrArg (fun x : Nat => some (Value.int .u64 (x : Int))) (show g = (X / 4294967296 ^ j / (b * 2 ^ s)) from hgn)), trivial⟩)
end Go.Sx
