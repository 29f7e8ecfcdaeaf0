/- A part of the proof that the law PiecesRules answers true at every input and leaves its arguments as they were. -/
import Derived.Test.YtnkaneggnjallaaGreatDoorProg
import Derived.Test.YtnkaneggnjallaaGreatDoorGdiva
import Derived.Test.YtnkaneggnjallaaGreatDoorGdivb
import Derived.Test.YtnkaneggnjallaaGreatDoorGdivc
set_option linter.unusedVariables false
set_option linter.unusedSimpArgs false
namespace Go.Sx
open Go Go.RowKit Go.Proofs
set_option maxRecDepth 100000
def ig_div (a b : Nat) : Nat × Nat := (a / b, a % b)
theorem ig_div_ct (a : Nat) (b : Nat) (k : Nat) (hk : k ≤ 40) (za : SzB k a) (zb : SzB k b) (hb : 0 < b) (w0 : World) : Calls Tryz.prog 194 #[(.string (bs a)), (.string (bs b))] w0 (RetP w0 (.tuple #[(.string (bs ((ig_div a b).1))), (.string (bs ((ig_div a b).2)))]) (SzB k ((ig_div a b).1) ∧ SzB k ((ig_div a b).2))) := by
  refine enter (N := 304) (args := [(.string (bs a)), (.string (bs b))]) Tryz.func194 rfl rfl ?_; intro ac h
  have hda := SzB_dn za
  have hdb := SzB_dn zb
  refine c_rs fun K1 hK1 => ?_
  refine rd0 h (r_assign rfl (v := (.string (bs 0)))) rfl ?_; clear h ac; intro ac wo h
  refine rd0 h (r_assign rfl (v := (.string (bs 0)))) rfl ?_; clear h ac wo; intro ac wo h
  refine w_nil ?_
  refine hK1 _ _ ?_
  refine c_seq fun K2 hK2 => ?_
  refine c_rs fun K3 hK3 => ?_
  refine rd0 h (r_move rfl) rfl ?_; clear h ac wo; intro ac wo h
  refine rd0 h (r_move rfl) rfl ?_; clear h ac wo; intro ac wo h
  refine clp h Tryz.call193 (vs := [(.string (bs a)), (.string (bs b))]) rfl (ig_words_ct a b) rfl ?_; clear h ac wo; intro ac wo h
  refine rd0 h (r_move rfl) rfl ?_; clear h ac wo; intro ac wo h
  refine rd0 h (r_extract (vs := [(.int .u64 (((ig_words a b).1 : Nat) : Int)), (.int .u64 (((ig_words a b).2.1 : Nat) : Int)), (.bool ((ig_words a b).2.2))]) rfl rfl) rfl ?_; clear h ac wo; intro ac wo h
  refine rd0 h (r_extract (vs := [(.int .u64 (((ig_words a b).1 : Nat) : Int)), (.int .u64 (((ig_words a b).2.1 : Nat) : Int)), (.bool ((ig_words a b).2.2))]) rfl rfl) rfl ?_; clear h ac wo; intro ac wo h
  refine rd0 h (r_extract (vs := [(.int .u64 (((ig_words a b).1 : Nat) : Int)), (.int .u64 (((ig_words a b).2.1 : Nat) : Int)), (.bool ((ig_words a b).2.2))]) rfl rfl) rfl ?_; clear h ac wo; intro ac wo h
  refine rd0 h (r_assign rfl) rfl ?_; clear h ac wo; intro ac wo h
  refine rd0 h (r_assign rfl) rfl ?_; clear h ac wo; intro ac wo h
  refine rd0 h (r_assign rfl) rfl ?_; clear h ac wo; intro ac wo h
  refine w_nil ?_
  refine hK3 _ _ ?_
  refine c_rs fun K4 hK4 => ?_
  refine rd0 h (r_move rfl) rfl ?_; clear h ac wo; intro ac wo h
  refine w_nil ?_
  refine hK4 _ _ ?_
  refine c_if (b := (ig_words a b).2.2) h rfl (fun hc1 => ?_) (fun hc1 => ?_)
  · skip
    obtain ⟨ha6, hb6, hw⟩ := words_yes hc1
    simp only [hw] at h
    refine c_seq fun K5 hK5 => ?_
    refine draws mixed [⟨.det (.int .u64 ((a : Nat) : Int)), []⟩, ⟨.det (.int .u64 ((b : Nat) : Int)), []⟩, ⟨.det (.int .u64 (((a / b) : Nat) : Int)), []⟩, ⟨.det (.string (bs (ig_magnitude (a / b)))), []⟩, ⟨.det (.int .u64 ((a : Nat) : Int)), []⟩, ⟨.det (.int .u64 ((b : Nat) : Int)), []⟩, ⟨.det (.int .u64 (((a % b) : Nat) : Int)), []⟩, ⟨.det (.string (bs (ig_magnitude (a % b)))), []⟩, ⟨.det (.string (bs (ig_magnitude (a / b)))), []⟩, ⟨.det (.string (bs (ig_magnitude (a % b)))), []⟩] [] h rfl (by kernel_rfl) ⟨?_, ?_, ?_, ?_, ?_, ?_, ?_, ?_, ?_, ?_, trivial⟩ ?_
    · intro ξ hφ; exact ob_r0 (r_move rfl)
    · intro ξ hφ; exact ob_r0 (r_move rfl)
    · intro ξ hφ; exact ob_r0 (r_quo rfl rfl (r := (((a / b) : Nat) : Int)) (by omega) (by rw [Int.tdiv_eq_ediv_of_nonneg (Int.natCast_nonneg _)]; exact wrap_nat64 (n := a / b) (Nat.lt_of_le_of_lt (Nat.div_le_self _ _) (by omega))))
    · intro ξ hφ; exact ob_s (s_clp Tryz.call173 (vs := [(.int .u64 (((a / b) : Nat) : Int))]) rfl (ig_magnitude_ct (a / b) (by have := Nat.div_le_self a b; omega)))
    · intro ξ hφ; exact ob_r0 (r_move rfl)
    · intro ξ hφ; exact ob_r0 (r_move rfl)
    · intro ξ hφ; exact ob_r0 (r_rem rfl rfl (r := (((a % b) : Nat) : Int)) (by omega) (by rw [Int.tmod_eq_emod_of_nonneg (Int.natCast_nonneg _)]; rfl))
    · intro ξ hφ; exact ob_s (s_clp Tryz.call173 (vs := [(.int .u64 (((a % b) : Nat) : Int))]) rfl (ig_magnitude_ct (a % b) (by have := Nat.mod_le a b; omega)))
    · intro ξ hφ; exact ob_r0 (r_assign rfl)
    · intro ξ hφ; exact ob_r0 (r_assign rfl)
    clear h ac wo; intro ξ ac wo hφ h
    replace h : St w0 304 [(4, (.string (bs (ig_magnitude (a / b))))), (5, (.string (bs (ig_magnitude (a % b)))))] [] ac wo := h.sub ⟨rfl, rfl, trivial⟩
    clear hφ ξ
    refine hK5 _ _ ?_
    refine c_ret ?_
    have hd : ig_div a b = ((ig_magnitude (a / b)), (ig_magnitude (a % b))) := rfl
    exact ret (rs := [.tmp 4, .tmp 5]) h rfl (.tmp rfl (.tmp rfl .nil)) rfl (h.retP (by rw [hd] <;> rfl) ⟨SzB_mono za (Nat.div_le_self _ _), SzB_mono za (Nat.mod_le _ _)⟩)
  · skip
    refine c_skip ?_
    refine hK2 _ _ ?_
    refine c_seq fun K6 hK6 => ?_
    refine c_rs fun K7 hK7 => ?_
    refine rd0 h (r_move rfl) rfl ?_; clear h ac wo; intro ac wo h
    refine rd0 h (r_move rfl) rfl ?_; clear h ac wo; intro ac wo h
    have p2 := Calls_pr ((ig_compare_ct a b) w0)
    refine clp h Tryz.call191 (vs := [(.string (bs a)), (.string (bs b))]) rfl (ig_compare_ct a b) rfl ?_; clear h ac wo; intro ac wo h
    refine rd0 h (r_lss rfl rfl) rfl ?_; clear h ac wo; intro ac wo h
    refine w_nil ?_
    refine hK7 _ _ ?_
    refine c_if (b := (decide ((ig_compare a b) < 0))) h rfl (fun hc2 => ?_) (fun hc2 => ?_)
    · skip
      have hd2 := of_decide_eq_true hc2
      have hlt := cmp_neg_t hc2
      refine c_rs fun K8 hK8 => ?_
      refine rd0 h (r_move rfl) rfl ?_; clear h ac wo; intro ac wo h
      refine rd0 h (r_assign rfl (v := (.string (bs 0)))) rfl ?_; clear h ac wo; intro ac wo h
      refine rd0 h (r_assign rfl) rfl ?_; clear h ac wo; intro ac wo h
      refine w_nil ?_
      refine hK8 _ _ ?_
      refine c_ret ?_
      have hd : ig_div a b = (0, a) := (by unfold ig_div; rw [Nat.div_eq_of_lt hlt, Nat.mod_eq_of_lt hlt])
      exact ret (rs := [.tmp 4, .tmp 5]) h rfl (.tmp rfl (.tmp rfl .nil)) rfl (h.retP (by rw [hd] <;> rfl) ⟨SzB_mono za (Nat.div_le_self _ _), SzB_mono za (Nat.mod_le _ _)⟩)
    · skip
      have hd2 := of_decide_eq_false hc2
      have hle := cmp_neg_f hc2
      have hdl := dn_mono hle
      have hd1 := dn_ge hb
      refine c_skip ?_
      refine hK6 _ _ ?_
      refine c_rs fun K9 hK9 => ?_
      refine rd0 h (r_move rfl) rfl ?_; clear h ac wo; intro ac wo h
      refine clr (xs := (dgs (dn b) b)) h Tryz.call214 (vs := [(.string (bs b))]) rfl (fun w_ hB_ hS_ => (ig_digits_ct b (SzB_len zb)) w_) rfl ?_; clear h ac wo; intro sv3 ac wo hpsv3 h
      refine rd0 h (r_assign rfl) rfl ?_; clear h ac wo; intro ac wo h
      refine w_nil ?_
      refine hK9 _ _ ?_
      refine c_seq fun K10 hK10 => ?_
      refine c_rs fun K11 hK11 => ?_
      refine rd0 h (r_move rfl) rfl ?_; clear h ac wo; intro ac wo h
      refine rd0 h (r_len Tryz.runUnderlying289 rfl (h.dsl 0 rfl)) rfl ?_; clear h ac wo; intro ac wo h
      refine rd0 h (r_eql rfl rfl) rfl ?_; clear h ac wo; intro ac wo h
      refine w_nil ?_
      refine hK11 _ _ ?_
      refine c_if (b := ((((dn b) : Nat) : Int) == 1)) h rfl (fun hc3 => ?_) (fun hc3 => ?_)
      · skip
        have hd3 := eq_of_beq hc3
        have h1b := dgs_one (b := b) (by omega)
        refine c_rs fun K12 hK12 => ?_
        refine rd0 h (r_move rfl) rfl ?_; clear h ac wo; intro ac wo h
        refine clr (xs := (dgs (dn a) a)) h Tryz.call214 (vs := [(.string (bs a))]) rfl (fun w_ hB_ hS_ => (ig_digits_ct a (SzB_len za)) w_) rfl ?_; clear h ac wo; intro sv4 ac wo hpsv4 h
        refine rd0 h (r_assign rfl) rfl ?_; clear h ac wo; intro ac wo h
        refine w_nil ?_
        refine hK12 _ _ ?_
        refine c_rs fun K13 hK13 => ?_
        refine rd0 h (r_move rfl) rfl ?_; clear h ac wo; intro ac wo h
        refine rd0 h (r_move rfl) rfl ?_; clear h ac wo; intro ac wo h
        refine rd0 h (r_ia (i := 0) Tryz.runUnderlying289 Tryz.sizeOf291 rfl rfl (h.dnn 1 rfl (by omega)) (by omega)) rfl ?_; clear h ac wo; intro ac wo h
        refine rd1 h 1 rfl (r_ldR (k := 0) Tryz.isAgg291 Tryz.sizeOf291 h1b.1 rfl rfl rfl rfl (v := (.int .u32 ((b : Nat) : Int))) rfl) rfl ?_; clear h ac wo; intro ac wo h
        refine clx h 0 rfl Tryz.call219 (vs := [sv4, (.int .u32 ((b : Nat) : Int))]) rfl (fun w_ B_ hb_ hs_ => ig_nat_short_ct (dn a) a sv4 b (dn_lt a) hb h1b.2 (by omega) w0 w_ B_ hb_ hs_) rfl ?_; clear h ac wo; intro ac wo h
        refine rd0 h (r_assign rfl) rfl ?_; clear h ac wo; intro ac wo h
        refine w_nil ?_
        refine hK13 _ _ ?_
        refine c_rs fun K14 hK14 => ?_
        refine rd0 h (r_move rfl) rfl ?_; clear h ac wo; intro ac wo h
        refine clq h Tryz.call215 (vs := [sv4]) rfl (fun w_ hB_ hS_ => ig_nat_bytes_ct (dn a) (a / b) sv4 (Nat.lt_of_le_of_lt (Nat.div_le_self _ _) (dn_lt a)) (by omega) w_ (row_view hS_ 0 rfl)) rfl ?_; clear h ac wo; intro ac wo h
        refine rd0 h (r_move rfl) rfl ?_; clear h ac wo; intro ac wo h
        refine rd0 h (r_convInt Tryz.runUnderlying291 Tryz.runUnderlying234 rfl (r := ((a % b : Nat) : Int)) (by rw [IntKind.wrap_u64]; have := Nat.mod_lt a hb; omega)) rfl ?_; clear h ac wo; intro ac wo h
        refine clp h Tryz.call173 (vs := [(.int .u64 ((a % b : Nat) : Int))]) rfl (ig_magnitude_ct (a % b) (by have := Nat.mod_lt a hb; omega)) rfl ?_; clear h ac wo; intro ac wo h
        refine rd0 h (r_assign rfl) rfl ?_; clear h ac wo; intro ac wo h
        refine rd0 h (r_assign rfl) rfl ?_; clear h ac wo; intro ac wo h
        refine w_nil ?_
        refine hK14 _ _ ?_
        refine c_ret ?_
        have hd : ig_div a b = ((a / b), (ig_magnitude (a % b))) := rfl
        exact ret (rs := [.tmp 4, .tmp 5]) h rfl (.tmp rfl (.tmp rfl .nil)) rfl (h.retP (by rw [hd] <;> rfl) ⟨SzB_mono za (Nat.div_le_self _ _), SzB_mono za (Nat.mod_le _ _)⟩)
      · skip
        have hd3 := ne_of_beq_false hc3
        have hn2 : 2 ≤ dn b := by omega
        refine c_skip ?_
        refine hK10 _ _ ?_
        refine c_rs fun K15 hK15 => ?_
        refine rd0 h (r_move rfl) rfl ?_; clear h ac wo; intro ac wo h
        refine rd0 h (r_move rfl) rfl ?_; clear h ac wo; intro ac wo h
        refine rd0 h (r_len Tryz.runUnderlying289 rfl (h.dsl 0 rfl)) rfl ?_; clear h ac wo; intro ac wo h
        refine rd0 h (r_sub rfl rfl (r := (((dn b - 1) : Nat) : Int)) (by rw [IntKind.wrap_i64]; omega)) rfl ?_; clear h ac wo; intro ac wo h
        refine rd0 h (r_ia (i := (dn b - 1)) Tryz.runUnderlying289 Tryz.sizeOf291 rfl rfl (h.dnn 0 rfl (by omega)) (by omega)) rfl ?_; clear h ac wo; intro ac wo h
        refine rd1 h 0 rfl (r_ldR (k := 0) Tryz.isAgg291 Tryz.sizeOf291 (dgs_get (n := (dn b)) (by omega)) rfl rfl rfl rfl (v := (.int .u32 (((b / 4294967296 ^ (dn b - 1) % 4294967296) : Nat) : Int))) rfl) rfl ?_; clear h ac wo; intro ac wo h
        refine clp h Tryz.call220 (vs := [(.int .u32 (((b / 4294967296 ^ (dn b - 1) % 4294967296) : Nat) : Int))]) rfl (lz32 (b / 4294967296 ^ (dn b - 1) % 4294967296) (Nat.mod_lt _ (by decide))) rfl ?_; clear h ac wo; intro ac wo h
        refine rd0 h (r_assign rfl) rfl ?_; clear h ac wo; intro ac wo h
        refine w_nil ?_
        refine hK15 _ _ ?_
        refine c_rs fun K16 hK16 => ?_
        obtain ⟨s, hs⟩ : ∃ s, s = 32 - Lib.bitLen (b / 4294967296 ^ (dn b - 1) % 4294967296) := ⟨_, rfl⟩
        rw [← hs] at h
        obtain ⟨hs31, hYn, hYh⟩ := norm_facts hb hs
        have hs32 : s ≤ 32 := by omega
        refine rd0 h (r_move rfl) rfl ?_; clear h ac wo; intro ac wo h
        refine clr (xs := (dgs (dn a) a)) h Tryz.call214 (vs := [(.string (bs a))]) rfl (fun w_ hB_ hS_ => (ig_digits_ct a (SzB_len za)) w_) rfl ?_; clear h ac wo; intro sv5 ac wo hpsv5 h
        refine rd0 h (r_move rfl) rfl ?_; clear h ac wo; intro ac wo h
        refine clr (xs := (dgs ((dn a) + 1) (a * 2 ^ s))) h Tryz.call221 (vs := [sv5, (.int .i64 ((s : Nat) : Int))]) rfl (fun w_ hB_ hS_ => ig_nat_shifted_ct (dn a) a sv5 s (dn_lt a) hs31 (by omega) w_ (row_view hS_ 0 rfl)) rfl ?_; clear h ac wo; intro sv6 ac wo hpsv6 h
        refine rd0 h (r_assign rfl) rfl ?_; clear h ac wo; intro ac wo h
        refine w_nil ?_
        refine hK16 _ _ ?_
        refine c_rs fun K17 hK17 => ?_
        refine rd0 h (r_move rfl) rfl ?_; clear h ac wo; intro ac wo h
        refine rd0 h (r_move rfl) rfl ?_; clear h ac wo; intro ac wo h
        refine clr (xs := (dgs ((dn b) + 1) (b * 2 ^ s))) h Tryz.call221 (vs := [sv3, (.int .i64 ((s : Nat) : Int))]) rfl (fun w_ hB_ hS_ => ig_nat_shifted_ct (dn b) b sv3 s (dn_lt b) hs31 (by omega) w_ (row_view hS_ 2 rfl)) rfl ?_; clear h ac wo; intro sv7 ac wo hpsv7 h
        refine rd0 h (r_move rfl) rfl ?_; clear h ac wo; intro ac wo h
        refine rd0 h (r_len Tryz.runUnderlying289 rfl (h.dsl 3 rfl)) rfl ?_; clear h ac wo; intro ac wo h
        refine up1 h 0 rfl (s_cut (n := (dn b)) Tryz.runUnderlying289 Tryz.sizeOf291 rfl rfl (by rw [dgs_length]; omega)) rfl ?_; clear h ac wo; intro sv8 ac wo slsv8 h
        replace h := h.rowEq 0 rfl (dgs_take (by omega))
        refine rd0 h (r_assign rfl) rfl ?_; clear h ac wo; intro ac wo h
        refine w_nil ?_
        refine hK17 _ _ ?_
        refine c_rs fun K18 hK18 => ?_
        refine rd0 h (r_move rfl) rfl ?_; clear h ac wo; intro ac wo h
        refine rd0 h (r_len Tryz.runUnderlying289 rfl (h.dsl 0 rfl)) rfl ?_; clear h ac wo; intro ac wo h
        refine rd0 h (r_assign rfl) rfl ?_; clear h ac wo; intro ac wo h
        refine w_nil ?_
        refine hK18 _ _ ?_
        refine c_rs fun K19 hK19 => ?_
        refine rd0 h (r_move rfl) rfl ?_; clear h ac wo; intro ac wo h
        refine rd0 h (r_len Tryz.runUnderlying289 rfl (h.dsl 1 rfl)) rfl ?_; clear h ac wo; intro ac wo h
        refine rd0 h (r_move rfl) rfl ?_; clear h ac wo; intro ac wo h
        refine rd0 h (r_sub rfl rfl (r := (((dn a + 1 - dn b) : Nat) : Int)) (by rw [IntKind.wrap_i64]; omega)) rfl ?_; clear h ac wo; intro ac wo h
        refine nw h (s_make (n := (dn a + 1 - dn b)) ((0 : Nat)) rfl slt289 rfl rfl rfl (by omega) (by omega)) rfl ?_; clear h ac wo; intro sv9 ac wo nnsv9 h
        replace h := h.rowEq 0 rfl ((dgs_zero _).symm)
        refine rd0 h (r_assign rfl) rfl ?_; clear h ac wo; intro ac wo h
        refine w_nil ?_
        refine hK19 _ _ ?_
        refine c_seq fun K20 hK20 => ?_
        refine c_rs fun K21 hK21 => ?_
        refine rd0 h (r_move rfl) rfl ?_; clear h ac wo; intro ac wo h
        refine rd0 h (r_len Tryz.runUnderlying289 rfl (h.dsl 0 rfl)) rfl ?_; clear h ac wo; intro ac wo h
        refine rd0 h (r_sub rfl rfl (r := ((((dn a + 1 - dn b) : Nat) : Int) - 1)) (by rw [IntKind.wrap_i64]; omega)) rfl ?_; clear h ac wo; intro ac wo h
        refine rd0 h (r_assign rfl) rfl ?_; clear h ac wo; intro ac wo h
        refine w_nil ?_
        refine hK21 _ _ ?_
        refine c_block ?_
        refine wp_loop_ghost (fun n_ a_ w_ => ∃ (J : Nat) (X : Nat) (Z : Nat), n_ = 1 * J ∧ (J ≤ dn a + 1 - dn b) ∧ (X < (b * 2 ^ s) * 4294967296 ^ J) ∧ (X + (b * 2 ^ s) * Z = a * 2 ^ s) ∧ (Z % 4294967296 ^ J = 0) ∧ St w0 304 [(9, sv8), (12, (.int .i64 ((s : Nat) : Int))), (13, sv6), (14, (.int .i64 (((dn b) : Nat) : Int))), (15, sv9), (16, (.int .i64 (((J : Nat) : Int) - 1)))] [.row (α := Nat) 291 sv9 (dgs (dn a + 1 - dn b) Z), .row (α := Nat) 291 sv8 (dgs (dn b) (b * 2 ^ s)), .row (α := Nat) 291 sv6 (dgs (dn a + 1) X), .row (α := Nat) 291 sv5 (dgs (dn a) a), .row (α := Nat) 291 sv3 (dgs (dn b) b)] a_ w_) _ ⟨(dn a + 1 - dn b), (a * 2 ^ s), 0, rfl, (Nat.le_refl _), (div_start hle hs31 hYh), (by simp), (Nat.zero_mod _), (h.pick [0, 1, 2, 3, 4] (by decide)).sub ⟨rfl, rfl, rfl, rfl, rfl, rfl, trivial⟩⟩ ?_
        clear h ac wo; rintro _ ac wo ⟨J, X, Z, rfl, hJ, hXl, hsum, hZ, h⟩
        refine c_seq fun K22 hK22 => ?_
        refine c_rs fun K23 hK23 => ?_
        refine rd0 h (r_move rfl) rfl ?_; clear h ac wo; intro ac wo h
        refine rd0 h (r_geq rfl rfl) rfl ?_; clear h ac wo; intro ac wo h
        refine w_nil ?_
        refine hK23 _ _ ?_
        refine c_if (b := (decide ((((J : Nat) : Int) - 1) ≥ 0))) h rfl (fun hc4 => ?_) (fun hc4 => ?_)
        · skip
          have hd4 := of_decide_eq_true hc4
          obtain ⟨j, rfl⟩ : ∃ j, J = j + 1 := ⟨J - 1, by omega⟩
          rw [show (((j + 1 : Nat) : Int) - 1) = ((j : Nat) : Int) by omega] at h
          have D : DS X (b * 2 ^ s) (dn b) j := ⟨hn2, hXl, hYn, hYh⟩
          have hv1 := D.v1_lt
          have hv1h := D.v1_hi
          have hhi := D.hi_lt
          refine c_skip ?_
          refine hK22 _ _ ?_
          refine c_seq fun K24 hK24 => ?_
          refine c_block ?_
          refine c_seq fun K25 hK25 => ?_
          refine draws mixed [⟨.det sv6, []⟩, ⟨.det (.int .i64 ((j : Nat) : Int)), []⟩, ⟨.det (.int .i64 (((dn b) : Nat) : Int)), []⟩, ⟨.det (.int .i64 ((j + (dn b) : Nat) : Int)), []⟩, ⟨.det (sel sv6 ((j + (dn b)) * 1)), []⟩, ⟨.det (.int .u32 (((X / 4294967296 ^ (j + (dn b)) % 4294967296) : Nat) : Int)), [2]⟩, ⟨.det (.int .u64 (((X / 4294967296 ^ (j + (dn b)) % 4294967296) : Nat) : Int)), []⟩, ⟨.det (.int .u64 (((X / 4294967296 ^ (j + dn b) % 4294967296 * 2 ^ 32) : Nat) : Int)), []⟩, ⟨.det sv6, []⟩, ⟨.det (.int .i64 ((j : Nat) : Int)), []⟩, ⟨.det (.int .i64 (((dn b) : Nat) : Int)), []⟩, ⟨.det (.int .i64 ((j + (dn b) : Nat) : Int)), []⟩, ⟨.det (.int .i64 (((j + dn b - 1) : Nat) : Int)), []⟩, ⟨.det (sel sv6 ((j + dn b - 1) * 1)), []⟩, ⟨.det (.int .u32 (((X / 4294967296 ^ (j + dn b - 1) % 4294967296) : Nat) : Int)), [2]⟩, ⟨.det (.int .u64 (((X / 4294967296 ^ (j + dn b - 1) % 4294967296) : Nat) : Int)), []⟩, ⟨.det (.int .u64 (((X / 4294967296 ^ (j + dn b - 1)) : Nat) : Int)), []⟩, ⟨.det (.int .u64 (((X / 4294967296 ^ (j + dn b - 1)) : Nat) : Int)), []⟩] [⟨.row (α := Nat) 291 sv9 (dgs (dn a + 1 - dn b) Z), []⟩, ⟨.row (α := Nat) 291 sv8 (dgs (dn b) (b * 2 ^ s)), []⟩, ⟨.row (α := Nat) 291 sv6 (dgs (dn a + 1) X), []⟩, ⟨.row (α := Nat) 291 sv5 (dgs (dn a) a), []⟩, ⟨.row (α := Nat) 291 sv3 (dgs (dn b) b), []⟩] h rfl (by kernel_rfl) ⟨?_, ?_, ?_, ?_, ?_, ?_, ?_, ?_, ?_, ?_, ?_, ?_, ?_, ?_, ?_, ?_, ?_, ?_, trivial⟩ ?_
          · intro ξ hφ; exact ob_r0 (r_move rfl)
          · intro ξ hφ; exact ob_r0 (r_move rfl)
          · intro ξ hφ; exact ob_r0 (r_move rfl)
          · intro ξ hφ; exact ob_r0 (r_add rfl rfl (r := ((j + (dn b) : Nat) : Int)) (by rw [IntKind.wrap_i64]; omega))
          · intro ξ hφ; exact ob_r0 (r_ia (i := (j + (dn b))) Tryz.runUnderlying289 Tryz.sizeOf291 rfl rfl (h.dnn 2 rfl (by omega)) (by omega))
          · intro ξ hφ; exact ob_r [.row (α := Nat) 291 sv6 (dgs (dn a + 1) X)] rfl rfl (r_ldR (k := 0) Tryz.isAgg291 Tryz.sizeOf291 (dgs_get (n := (dn a + 1)) (by omega)) rfl rfl rfl rfl (v := (.int .u32 (((X / 4294967296 ^ (j + (dn b)) % 4294967296) : Nat) : Int))) rfl)
          · intro ξ hφ; exact ob_r0 (r_convInt Tryz.runUnderlying291 Tryz.runUnderlying234 rfl (r := (((X / 4294967296 ^ (j + (dn b)) % 4294967296) : Nat) : Int)) (by rw [IntKind.wrap_u64]; omega))
          · intro ξ hφ; exact ob_r0 (r_shl rfl rfl (r := (((X / 4294967296 ^ (j + dn b) % 4294967296 * 2 ^ 32) : Nat) : Int)) (by decide) (by decide) (wshl64 rfl (by omega)))
          · intro ξ hφ; exact ob_r0 (r_move rfl)
          · intro ξ hφ; exact ob_r0 (r_move rfl)
          · intro ξ hφ; exact ob_r0 (r_move rfl)
          · intro ξ hφ; exact ob_r0 (r_add rfl rfl (r := ((j + (dn b) : Nat) : Int)) (by rw [IntKind.wrap_i64]; omega))
          · intro ξ hφ; exact ob_r0 (r_sub rfl rfl (r := (((j + dn b - 1) : Nat) : Int)) (by rw [IntKind.wrap_i64]; omega))
          · intro ξ hφ; exact ob_r0 (r_ia (i := (j + dn b - 1)) Tryz.runUnderlying289 Tryz.sizeOf291 rfl rfl (h.dnn 2 rfl (by omega)) (by omega))
          · intro ξ hφ; exact ob_r [.row (α := Nat) 291 sv6 (dgs (dn a + 1) X)] rfl rfl (r_ldR (k := 0) Tryz.isAgg291 Tryz.sizeOf291 (dgs_get (n := (dn a + 1)) (by omega)) rfl rfl rfl rfl (v := (.int .u32 (((X / 4294967296 ^ (j + dn b - 1) % 4294967296) : Nat) : Int))) rfl)
          · intro ξ hφ; exact ob_r0 (r_convInt Tryz.runUnderlying291 Tryz.runUnderlying234 rfl (r := (((X / 4294967296 ^ (j + dn b - 1) % 4294967296) : Nat) : Int)) (by rw [IntKind.wrap_u64]; omega))
          · intro ξ hφ; exact ob_r0 (r_or' rfl rfl (r := (((X / 4294967296 ^ (j + dn b - 1)) : Nat) : Int)) (Eq.trans (bits_or_nat (k := 32) _ _ (by omega) (Nat.mod_lt _ (by decide)) (by omega)) (congrArg (fun x : Nat => (x : Int)) D.hi_two.symm)))
          · intro ξ hφ; exact ob_r0 (r_assign rfl)
          clear h ac wo; intro ξ ac wo hφ h
          replace h : St w0 304 [(9, sv8), (12, (.int .i64 ((s : Nat) : Int))), (13, sv6), (14, (.int .i64 (((dn b) : Nat) : Int))), (15, sv9), (16, (.int .i64 ((j : Nat) : Int))), (17, (.int .u64 (((X / 4294967296 ^ (j + dn b - 1)) : Nat) : Int)))] [.row (α := Nat) 291 sv9 (dgs (dn a + 1 - dn b) Z), .row (α := Nat) 291 sv8 (dgs (dn b) (b * 2 ^ s)), .row (α := Nat) 291 sv6 (dgs (dn a + 1) X), .row (α := Nat) 291 sv5 (dgs (dn a) a), .row (α := Nat) 291 sv3 (dgs (dn b) b)] ac wo := h.sub ⟨rfl, rfl, rfl, rfl, rfl, rfl, rfl, trivial⟩
          clear hφ ξ
          refine hK25 _ _ ?_
          refine c_seq fun K26 hK26 => ?_
          refine draws mixed [⟨.det (.int .u64 (((X / 4294967296 ^ (j + dn b - 1)) : Nat) : Int)), []⟩, ⟨.det sv8, []⟩, ⟨.det (.int .i64 (((dn b) : Nat) : Int)), []⟩, ⟨.det (.int .i64 (((dn b - 1) : Nat) : Int)), []⟩, ⟨.det (sel sv8 ((dn b - 1) * 1)), []⟩, ⟨.det (.int .u32 ((((b * 2 ^ s) / 4294967296 ^ (dn b - 1)) : Nat) : Int)), [1]⟩, ⟨.det (.int .u64 ((((b * 2 ^ s) / 4294967296 ^ (dn b - 1)) : Nat) : Int)), []⟩, ⟨.det (.int .u64 ((((X / 4294967296 ^ (j + dn b - 1)) / ((b * 2 ^ s) / 4294967296 ^ (dn b - 1))) : Nat) : Int)), []⟩, ⟨.det (.int .u64 (((X / 4294967296 ^ (j + dn b - 1)) : Nat) : Int)), []⟩, ⟨.det sv8, []⟩, ⟨.det (.int .i64 (((dn b) : Nat) : Int)), []⟩, ⟨.det (.int .i64 (((dn b - 1) : Nat) : Int)), []⟩, ⟨.det (sel sv8 ((dn b - 1) * 1)), []⟩, ⟨.det (.int .u32 ((((b * 2 ^ s) / 4294967296 ^ (dn b - 1)) : Nat) : Int)), [1]⟩, ⟨.det (.int .u64 ((((b * 2 ^ s) / 4294967296 ^ (dn b - 1)) : Nat) : Int)), []⟩, ⟨.det (.int .u64 ((((X / 4294967296 ^ (j + dn b - 1)) % ((b * 2 ^ s) / 4294967296 ^ (dn b - 1))) : Nat) : Int)), []⟩, ⟨.det (.int .u64 ((((X / 4294967296 ^ (j + dn b - 1)) / ((b * 2 ^ s) / 4294967296 ^ (dn b - 1))) : Nat) : Int)), []⟩, ⟨.det (.int .u64 ((((X / 4294967296 ^ (j + dn b - 1)) % ((b * 2 ^ s) / 4294967296 ^ (dn b - 1))) : Nat) : Int)), []⟩] [⟨.row (α := Nat) 291 sv9 (dgs (dn a + 1 - dn b) Z), []⟩, ⟨.row (α := Nat) 291 sv8 (dgs (dn b) (b * 2 ^ s)), []⟩, ⟨.row (α := Nat) 291 sv6 (dgs (dn a + 1) X), []⟩, ⟨.row (α := Nat) 291 sv5 (dgs (dn a) a), []⟩, ⟨.row (α := Nat) 291 sv3 (dgs (dn b) b), []⟩] h rfl (by kernel_rfl) ⟨?_, ?_, ?_, ?_, ?_, ?_, ?_, ?_, ?_, ?_, ?_, ?_, ?_, ?_, ?_, ?_, ?_, ?_, trivial⟩ ?_
          · intro ξ hφ; exact ob_r0 (r_move rfl)
          · intro ξ hφ; exact ob_r0 (r_move rfl)
          · intro ξ hφ; exact ob_r0 (r_move rfl)
          · intro ξ hφ; exact ob_r0 (r_sub rfl rfl (r := (((dn b - 1) : Nat) : Int)) (by rw [IntKind.wrap_i64]; omega))
          · intro ξ hφ; exact ob_r0 (r_ia (i := (dn b - 1)) Tryz.runUnderlying289 Tryz.sizeOf291 rfl rfl (h.dnn 1 rfl (by omega)) (by omega))
          · intro ξ hφ; exact ob_r [.row (α := Nat) 291 sv8 (dgs (dn b) (b * 2 ^ s))] rfl rfl (r_ldR (k := 0) Tryz.isAgg291 Tryz.sizeOf291 D.y_top rfl rfl rfl rfl (v := (.int .u32 ((((b * 2 ^ s) / 4294967296 ^ (dn b - 1)) : Nat) : Int))) rfl)
          · intro ξ hφ; exact ob_r0 (r_convInt Tryz.runUnderlying291 Tryz.runUnderlying234 rfl (r := ((((b * 2 ^ s) / 4294967296 ^ (dn b - 1)) : Nat) : Int)) (by rw [IntKind.wrap_u64]; omega))
          · intro ξ hφ; exact ob_r0 (r_quo rfl rfl (r := ((((X / 4294967296 ^ (j + dn b - 1)) / ((b * 2 ^ s) / 4294967296 ^ (dn b - 1))) : Nat) : Int)) (nz_nat hv1h) (by rw [Int.tdiv_eq_ediv_of_nonneg (Int.natCast_nonneg _)]; exact wrap_nat64 (n := (X / 4294967296 ^ (j + dn b - 1)) / ((b * 2 ^ s) / 4294967296 ^ (dn b - 1))) (Nat.lt_of_le_of_lt (Nat.div_le_self _ _) (by omega))))
          · intro ξ hφ; exact ob_r0 (r_move rfl)
          · intro ξ hφ; exact ob_r0 (r_move rfl)
          · intro ξ hφ; exact ob_r0 (r_move rfl)
          · intro ξ hφ; exact ob_r0 (r_sub rfl rfl (r := (((dn b - 1) : Nat) : Int)) (by rw [IntKind.wrap_i64]; omega))
          · intro ξ hφ; exact ob_r0 (r_ia (i := (dn b - 1)) Tryz.runUnderlying289 Tryz.sizeOf291 rfl rfl (h.dnn 1 rfl (by omega)) (by omega))
          · intro ξ hφ; exact ob_r [.row (α := Nat) 291 sv8 (dgs (dn b) (b * 2 ^ s))] rfl rfl (r_ldR (k := 0) Tryz.isAgg291 Tryz.sizeOf291 D.y_top rfl rfl rfl rfl (v := (.int .u32 ((((b * 2 ^ s) / 4294967296 ^ (dn b - 1)) : Nat) : Int))) rfl)
          · intro ξ hφ; exact ob_r0 (r_convInt Tryz.runUnderlying291 Tryz.runUnderlying234 rfl (r := ((((b * 2 ^ s) / 4294967296 ^ (dn b - 1)) : Nat) : Int)) (by rw [IntKind.wrap_u64]; omega))
          · intro ξ hφ; exact ob_r0 (r_rem rfl rfl (r := ((((X / 4294967296 ^ (j + dn b - 1)) % ((b * 2 ^ s) / 4294967296 ^ (dn b - 1))) : Nat) : Int)) (nz_nat hv1h) (by rw [Int.tmod_eq_emod_of_nonneg (Int.natCast_nonneg _)]; rfl))
          · intro ξ hφ; exact ob_r0 (r_assign rfl)
          · intro ξ hφ; exact ob_r0 (r_assign rfl)
          clear h ac wo; intro ξ ac wo hφ h
          replace h : St w0 304 [(9, sv8), (12, (.int .i64 ((s : Nat) : Int))), (13, sv6), (14, (.int .i64 (((dn b) : Nat) : Int))), (15, sv9), (16, (.int .i64 ((j : Nat) : Int))), (18, (.int .u64 ((((X / 4294967296 ^ (j + dn b - 1)) / ((b * 2 ^ s) / 4294967296 ^ (dn b - 1))) : Nat) : Int))), (19, (.int .u64 ((((X / 4294967296 ^ (j + dn b - 1)) % ((b * 2 ^ s) / 4294967296 ^ (dn b - 1))) : Nat) : Int)))] [.row (α := Nat) 291 sv9 (dgs (dn a + 1 - dn b) Z), .row (α := Nat) 291 sv8 (dgs (dn b) (b * 2 ^ s)), .row (α := Nat) 291 sv6 (dgs (dn a + 1) X), .row (α := Nat) 291 sv5 (dgs (dn a) a), .row (α := Nat) 291 sv3 (dgs (dn b) b)] ac wo := h.sub ⟨rfl, rfl, rfl, rfl, rfl, rfl, rfl, rfl, trivial⟩
          clear hφ ξ
          refine hK26 _ _ ?_
          refine c_mid (fun a_ w_ => ∃ (g : Nat), ((X / 4294967296 ^ j / (b * 2 ^ s)) ≤ g) ∧ (g ≤ (X / 4294967296 ^ j / (b * 2 ^ s)) + 1 ∧ g < 4294967296) ∧ St w0 304 [(9, sv8), (12, (.int .i64 ((s : Nat) : Int))), (13, sv6), (14, (.int .i64 (((dn b) : Nat) : Int))), (15, sv9), (16, (.int .i64 ((j : Nat) : Int))), (18, (.int .u64 ((g : Nat) : Int)))] [.row (α := Nat) 291 sv9 (dgs (dn a + 1 - dn b) Z), .row (α := Nat) 291 sv8 (dgs (dn b) (b * 2 ^ s)), .row (α := Nat) 291 sv6 (dgs (dn a + 1) X), .row (α := Nat) 291 sv5 (dgs (dn a) a), .row (α := Nat) 291 sv3 (dgs (dn b) b)] a_ w_) (fun K27 hK27 => ?_) ?_
          · skip
            exact ig_div_cut1 hda hdb hdl hn2 hs31 hs32 hYn hYh hJ D (h.sub ⟨rfl, rfl, rfl, rfl, rfl, rfl, rfl, rfl, trivial⟩) hK27
          · skip
            clear h ac wo; intro ac wo h
            obtain ⟨g, hge, hgd, h⟩ := h
            refine c_rs fun K33 hK33 => ?_
            refine rd0 h (r_assign rfl (v := (.int .i64 0))) rfl ?_; clear h ac wo; intro ac wo h
            refine rd0 h (r_assign rfl (v := (.int .u64 0))) rfl ?_; clear h ac wo; intro ac wo h
            refine w_nil ?_
            refine hK33 _ _ ?_
            refine c_mid (fun a_ w_ => St w0 304 [(9, sv8), (12, (.int .i64 ((s : Nat) : Int))), (13, sv6), (14, (.int .i64 (((dn b) : Nat) : Int))), (15, sv9), (16, (.int .i64 ((j : Nat) : Int))), (18, (.int .u64 ((g : Nat) : Int))), (20, (.int .i64 (((bw (X / 4294967296 ^ j + 4294967296 ^ (dn b + 1)) (g * (b * 2 ^ s)) (dn b)) : Nat) : Int))), (21, (.int .u64 (((mc 0 g (b * 2 ^ s) (dn b)) : Nat) : Int)))] [.row (α := Nat) 291 sv9 (dgs (dn a + 1 - dn b) Z), .row (α := Nat) 291 sv8 (dgs (dn b) (b * 2 ^ s)), .row (α := Nat) 291 sv6 (dgs (dn a + 1) (mx X (j + (dn b)) ((X / 4294967296 ^ j + 4294967296 ^ (dn b + 1) - g * (b * 2 ^ s)) * 4294967296 ^ j + X % 4294967296 ^ j))), .row (α := Nat) 291 sv5 (dgs (dn a) a), .row (α := Nat) 291 sv3 (dgs (dn b) b)] a_ w_) (fun K34 hK34 => ?_) ?_
            · skip
              exact ig_div_cut2 hda hdb hdl hn2 hs31 hs32 hYn hYh hJ D hge hgd (h.sub ⟨rfl, rfl, rfl, rfl, rfl, rfl, rfl, rfl, rfl, trivial⟩) hK34
            · skip
              clear h ac wo; intro ac wo h
              refine c_rs fun K46 hK46 => ?_
              have hsb := Hid.mk (D.sub_step hgd.2 (i := dn b) (Nat.le_refl _))
              have hbl := bw_le (X / 4294967296 ^ j + 4294967296 ^ (dn b + 1)) (g * (b * 2 ^ s)) (dn b)
              have hpt := D.prod_top hgd.2
              have hsn := D.sign_neg hgd.2
              have hsp := D.sign_pos hgd.2
              refine rd0 h (r_move rfl) rfl ?_; clear h ac wo; intro ac wo h
              refine rd0 h (r_move rfl) rfl ?_; clear h ac wo; intro ac wo h
              refine rd0 h (r_move rfl) rfl ?_; clear h ac wo; intro ac wo h
              refine rd0 h (r_add rfl rfl (r := ((j + (dn b) : Nat) : Int)) (by rw [IntKind.wrap_i64]; omega)) rfl ?_; clear h ac wo; intro ac wo h
              refine rd0 h (r_ia (i := (j + (dn b))) Tryz.runUnderlying289 Tryz.sizeOf291 rfl rfl (h.dnn 2 rfl (by omega)) (by omega)) rfl ?_; clear h ac wo; intro ac wo h
              refine rd1 h 2 rfl (r_ldR (k := 0) Tryz.isAgg291 Tryz.sizeOf291 (mx_get (by omega)) rfl rfl rfl rfl (v := (.int .u32 (((X / 4294967296 ^ (j + dn b) % 4294967296) : Nat) : Int))) rfl) rfl ?_; clear h ac wo; intro ac wo h
              refine rd0 h (r_convInt Tryz.runUnderlying291 Tryz.runUnderlying2 rfl (r := (((X / 4294967296 ^ (j + dn b) % 4294967296) : Nat) : Int)) (by rw [IntKind.wrap_i64]; omega)) rfl ?_; clear h ac wo; intro ac wo h
              refine rd0 h (r_move rfl) rfl ?_; clear h ac wo; intro ac wo h
              refine rd0 h (r_sub rfl rfl (r := ((((X / 4294967296 ^ (j + dn b) % 4294967296) : Nat) : Int) - (((bw (X / 4294967296 ^ j + 4294967296 ^ (dn b + 1)) (g * (b * 2 ^ s)) (dn b)) : Nat) : Int))) (wsub1 (Nat.mod_lt _ (by decide)) hbl)) rfl ?_; clear h ac wo; intro ac wo h
              refine rd0 h (r_move rfl) rfl ?_; clear h ac wo; intro ac wo h
              refine rd0 h (r_convInt Tryz.runUnderlying234 Tryz.runUnderlying2 rfl (r := ((g * (b * 2 ^ s) / 4294967296 ^ (dn b) % 4294967296 : Nat) : Int)) (by rw [hpt, IntKind.wrap_i64]; omega)) rfl ?_; clear h ac wo; intro ac wo h
              refine rd0 h (r_sub rfl rfl (r := (((((X / 4294967296 ^ (j + dn b) % 4294967296) : Nat) : Int) - (((bw (X / 4294967296 ^ j + 4294967296 ^ (dn b + 1)) (g * (b * 2 ^ s)) (dn b)) : Nat) : Int)) - ((g * (b * 2 ^ s) / 4294967296 ^ (dn b) % 4294967296 : Nat) : Int))) (wsub2 (Nat.mod_lt _ (by decide)) hbl (Nat.mod_lt _ (by decide)))) rfl ?_; clear h ac wo; intro ac wo h
              refine rd0 h (r_assign rfl) rfl ?_; clear h ac wo; intro ac wo h
              refine w_nil ?_
              refine hK46 _ _ ?_
              refine c_rs fun K47 hK47 => ?_
              refine rd0 h (r_move rfl) rfl ?_; clear h ac wo; intro ac wo h
              refine rd0 h (r_move rfl) rfl ?_; clear h ac wo; intro ac wo h
              refine rd0 h (r_move rfl) rfl ?_; clear h ac wo; intro ac wo h
              refine rd0 h (r_add rfl rfl (r := ((j + (dn b) : Nat) : Int)) (by rw [IntKind.wrap_i64]; omega)) rfl ?_; clear h ac wo; intro ac wo h
              refine rd0 h (r_move rfl) rfl ?_; clear h ac wo; intro ac wo h
              refine rd0 h (r_convInt Tryz.runUnderlying2 Tryz.runUnderlying291 rfl (r := (((X / 4294967296 ^ j + 4294967296 ^ (dn b + 1) - g * (b * 2 ^ s)) / 4294967296 ^ (dn b) % 4294967296 : Nat) : Int)) (wcon3 (Nat.mod_lt _ (by decide)) hbl (Nat.mod_lt _ (by decide)) hsb.out.2)) rfl ?_; clear h ac wo; intro ac wo h
              refine rd0 h (r_ia (i := (j + (dn b))) Tryz.runUnderlying289 Tryz.sizeOf291 rfl rfl (h.dnn 2 rfl (by omega)) (by omega)) rfl ?_; clear h ac wo; intro ac wo h
              refine up h 2 rfl (s_stR (k := 0) (u' := ((X / 4294967296 ^ j + 4294967296 ^ (dn b + 1) - g * (b * 2 ^ s)) / 4294967296 ^ (dn b) % 4294967296)) Tryz.sizeOf291 (mx_get (by omega)) rfl rfl rfl rfl rfl rfl rfl rfl) ?_; clear h ac wo; intro ac wo h
              replace h := h.rowEq 2 rfl (D.set_top)
              refine w_nil ?_
              refine hK47 _ _ ?_
              refine c_mid (fun a_ w_ => St w0 304 [(9, sv8), (12, (.int .i64 ((s : Nat) : Int))), (13, sv6), (14, (.int .i64 (((dn b) : Nat) : Int))), (15, sv9), (16, (.int .i64 ((j : Nat) : Int))), (18, (.int .u64 (((X / 4294967296 ^ j / (b * 2 ^ s)) : Nat) : Int)))] [.row (α := Nat) 291 sv9 (dgs (dn a + 1 - dn b) Z), .row (α := Nat) 291 sv8 (dgs (dn b) (b * 2 ^ s)), .row (α := Nat) 291 sv6 (dgs (dn a + 1) (nextX X (b * 2 ^ s) j)), .row (α := Nat) 291 sv5 (dgs (dn a) a), .row (α := Nat) 291 sv3 (dgs (dn b) b)] a_ w_) (fun K48 hK48 => ?_) ?_
              · skip
                exact ig_div_cut3 hda hdb hdl hn2 hs31 hs32 hYn hYh hJ D hge hgd (h.sub ⟨rfl, rfl, rfl, rfl, rfl, rfl, rfl, rfl, trivial⟩) hK48
              · skip
                clear h ac wo; intro ac wo h
                refine c_r ?_
                refine rd0 h (r_move rfl) rfl ?_; clear h ac wo; intro ac wo h
                refine rd0 h (r_move rfl) rfl ?_; clear h ac wo; intro ac wo h
                refine rd0 h (r_move rfl) rfl ?_; clear h ac wo; intro ac wo h
                refine rd0 h (r_convInt Tryz.runUnderlying234 Tryz.runUnderlying291 rfl (r := (((X / 4294967296 ^ j / (b * 2 ^ s)) : Nat) : Int)) (wrap_nat32 D.q_lt)) rfl ?_; clear h ac wo; intro ac wo h
                refine rd0 h (r_ia (i := j) Tryz.runUnderlying289 Tryz.sizeOf291 rfl rfl (h.dnn 0 rfl (by omega)) (by omega)) rfl ?_; clear h ac wo; intro ac wo h
                refine up h 0 rfl (s_stR (k := 0) (u' := (X / 4294967296 ^ j / (b * 2 ^ s))) Tryz.sizeOf291 (dgs_get (n := (dn a + 1 - dn b)) (by omega)) rfl rfl rfl rfl rfl rfl rfl rfl) ?_; clear h ac wo; intro ac wo h
                replace h := h.rowEq 0 rfl (dgs_add0 (q_digit hZ) D.q_lt)
                refine w_nil ?_
                refine b_norm ?_
                refine hK24 _ _ ?_
                refine c_r ?_
                refine rd0 h (r_move rfl) rfl ?_; clear h ac wo; intro ac wo h
                refine rd0 h (r_sub rfl rfl (r := (((j : Nat) : Int) - 1)) (by rw [IntKind.wrap_i64]; omega)) rfl ?_; clear h ac wo; intro ac wo h
                refine rd0 h (r_assign rfl) rfl ?_; clear h ac wo; intro ac wo h
                refine w_nil ?_
                exact next_round ⟨_, (by omega), j, (nextX X (b * 2 ^ s) j), (Z + (X / 4294967296 ^ j / (b * 2 ^ s)) * 4294967296 ^ j), rfl, (by omega), (nextX_lt D.pos), (by rw [nextX_sum]; exact hsum), (nextq_mod hZ), (h.pick [0, 1, 2, 3, 4] (by decide)).sub ⟨rfl, rfl, rfl, rfl, rfl, rfl, trivial⟩⟩
        · skip
          have hd4 := of_decide_eq_false hc4
          have hJ0 : J = 0 := by omega
          subst hJ0
          rw [Nat.pow_zero, Nat.mul_one] at hXl
          obtain ⟨hq, hr⟩ := div_end hb hXl hsum
          refine c_exit ?_
          refine hK20 _ _ ?_
          refine c_rs fun K59 hK59 => ?_
          refine rd0 h (r_move rfl) rfl ?_; clear h ac wo; intro ac wo h
          refine nw h (s_make (n := (dn b)) ((0 : Nat)) rfl slt289 rfl rfl rfl (by omega) (by omega)) rfl ?_; clear h ac wo; intro sv10 ac wo nnsv10 h
          refine rd0 h (r_assign rfl) rfl ?_; clear h ac wo; intro ac wo h
          refine w_nil ?_
          refine hK59 _ _ ?_
          refine c_seq fun K60 hK60 => ?_
          refine c_rs fun K61 hK61 => ?_
          refine rd0 h (r_move rfl) rfl ?_; clear h ac wo; intro ac wo h
          refine rd0 h (r_move rfl (v := (.int .i64 0))) rfl ?_; clear h ac wo; intro ac wo h
          refine w_nil ?_
          refine hK61 _ _ ?_
          refine c_block ?_
          replace h := h.rowEq 0 rfl (by rw [mx_zero]; exact (dgs_zero _).symm : (List.replicate (dn b) (0 : Nat)) = (dgs (dn b) (mx 0 0 (X / 2 ^ s))))
          refine wp_loop_ghost (fun n_ a_ w_ => ∃ (i : Nat), n_ = dn b - i ∧ (i ≤ dn b) ∧ St w0 304 [(12, (.int .i64 ((s : Nat) : Int))), (13, sv6), (15, sv9), (27, sv10), (276, (.int .i64 (((dn b) : Nat) : Int))), (277, (.int .i64 ((i : Nat) : Int)))] [.row (α := Nat) 291 sv10 (dgs (dn b) (mx 0 i (X / 2 ^ s))), .row (α := Nat) 291 sv9 (dgs (dn a + 1 - dn b) Z), .row (α := Nat) 291 sv8 (dgs (dn b) (b * 2 ^ s)), .row (α := Nat) 291 sv6 (dgs (dn a + 1) X), .row (α := Nat) 291 sv5 (dgs (dn a) a), .row (α := Nat) 291 sv3 (dgs (dn b) b)] a_ w_) _ ⟨0, rfl, (by omega), (h.pick [0, 1, 2, 3, 4, 5] (by decide)).sub ⟨rfl, rfl, rfl, rfl, rfl, rfl, trivial⟩⟩ ?_
          clear h ac wo; rintro _ ac wo ⟨i, rfl, hi, h⟩
          refine c_rs fun K62 hK62 => ?_
          refine rd0 h (r_lss rfl rfl) rfl ?_; clear h ac wo; intro ac wo h
          refine w_nil ?_
          refine hK62 _ _ ?_
          refine c_seq fun K63 hK63 => ?_
          refine c_if (b := (decide (((i : Nat) : Int) < (((dn b) : Nat) : Int)))) h rfl (fun hc11 => ?_) (fun hc11 => ?_)
          · skip
            have hd11 := of_decide_eq_true hc11
            refine c_skip ?_
            refine hK63 _ _ ?_
            refine c_seq fun K64 hK64 => ?_
            refine c_block ?_
            refine c_rs fun K65 hK65 => ?_
            refine rd0 h (r_move rfl) rfl ?_; clear h ac wo; intro ac wo h
            refine rd0 h (r_assign rfl) rfl ?_; clear h ac wo; intro ac wo h
            refine w_nil ?_
            refine hK65 _ _ ?_
            refine draws mixed [⟨.det sv10, []⟩, ⟨.det (.int .i64 ((i : Nat) : Int)), []⟩, ⟨.det sv6, []⟩, ⟨.det (.int .i64 ((i : Nat) : Int)), []⟩, ⟨.det (.int .i64 ((i + 1 : Nat) : Int)), []⟩, ⟨.det (sel sv6 ((i + 1) * 1)), []⟩, ⟨.det (.int .u32 (((X / 4294967296 ^ (i + 1) % 4294967296) : Nat) : Int)), [3]⟩, ⟨.det (.int .u64 (((X / 4294967296 ^ (i + 1) % 4294967296) : Nat) : Int)), []⟩, ⟨.det (.int .u64 (((X / 4294967296 ^ (i + 1) % 4294967296 * 2 ^ 32) : Nat) : Int)), []⟩, ⟨.det sv6, []⟩, ⟨.det (.int .i64 ((i : Nat) : Int)), []⟩, ⟨.det (sel sv6 (i * 1)), []⟩, ⟨.det (.int .u32 (((X / 4294967296 ^ i % 4294967296) : Nat) : Int)), [3]⟩, ⟨.det (.int .u64 (((X / 4294967296 ^ i % 4294967296) : Nat) : Int)), []⟩, ⟨.det (.int .u64 (((X / 4294967296 ^ (i + 1) % 4294967296 * 4294967296 + X / 4294967296 ^ i % 4294967296) : Nat) : Int)), []⟩, ⟨.det (.int .i64 ((s : Nat) : Int)), []⟩, ⟨.det (.int .u64 ((((X / 4294967296 ^ (i + 1) % 4294967296 * 4294967296 + X / 4294967296 ^ i % 4294967296) / 2 ^ s) : Nat) : Int)), []⟩, ⟨.det (.int .u32 ((X / 2 ^ s / 4294967296 ^ i % 4294967296 : Nat) : Int)), []⟩, ⟨.det (sel sv10 (i * 1)), []⟩, ⟨.det undef, [0]⟩] [⟨.row (α := Nat) 291 sv10 (dgs (dn b) (mx 0 i (X / 2 ^ s))), [(19, .con (.row (α := Nat) 291 sv10 ((dgs (dn b) (mx 0 i (X / 2 ^ s))).set i (X / 2 ^ s / 4294967296 ^ i % 4294967296))))]⟩, ⟨.row (α := Nat) 291 sv9 (dgs (dn a + 1 - dn b) Z), []⟩, ⟨.row (α := Nat) 291 sv8 (dgs (dn b) (b * 2 ^ s)), []⟩, ⟨.row (α := Nat) 291 sv6 (dgs (dn a + 1) X), []⟩, ⟨.row (α := Nat) 291 sv5 (dgs (dn a) a), []⟩, ⟨.row (α := Nat) 291 sv3 (dgs (dn b) b), []⟩] h rfl (by kernel_rfl) ⟨?_, ?_, ?_, ?_, ?_, ?_, ?_, ?_, ?_, ?_, ?_, ?_, ?_, ?_, ?_, ?_, ?_, ?_, ?_, ?_, trivial⟩ ?_
            · intro ξ hφ; exact ob_r0 (r_move rfl)
            · intro ξ hφ; exact ob_r0 (r_move rfl)
            · intro ξ hφ; exact ob_r0 (r_move rfl)
            · intro ξ hφ; exact ob_r0 (r_move rfl)
            · intro ξ hφ; exact ob_r0 (r_add rfl rfl (r := ((i + 1 : Nat) : Int)) (by rw [IntKind.wrap_i64]; omega))
            · intro ξ hφ; exact ob_r0 (r_ia (i := (i + 1)) Tryz.runUnderlying289 Tryz.sizeOf291 rfl rfl (h.dnn 3 rfl (by omega)) (by omega))
            · intro ξ hφ; exact ob_r [.row (α := Nat) 291 sv6 (dgs (dn a + 1) X)] rfl rfl (r_ldR (k := 0) Tryz.isAgg291 Tryz.sizeOf291 (dgs_get (n := (dn a + 1)) (by omega)) rfl rfl rfl rfl (v := (.int .u32 (((X / 4294967296 ^ (i + 1) % 4294967296) : Nat) : Int))) rfl)
            · intro ξ hφ; exact ob_r0 (r_convInt Tryz.runUnderlying291 Tryz.runUnderlying234 rfl (r := (((X / 4294967296 ^ (i + 1) % 4294967296) : Nat) : Int)) (by rw [IntKind.wrap_u64]; omega))
            · intro ξ hφ; exact ob_r0 (r_shl rfl rfl (r := (((X / 4294967296 ^ (i + 1) % 4294967296 * 2 ^ 32) : Nat) : Int)) (by decide) (by decide) (wshl64 rfl (by omega)))
            · intro ξ hφ; exact ob_r0 (r_move rfl)
            · intro ξ hφ; exact ob_r0 (r_move rfl)
            · intro ξ hφ; exact ob_r0 (r_ia (i := i) Tryz.runUnderlying289 Tryz.sizeOf291 rfl rfl (h.dnn 3 rfl (by omega)) (by omega))
            · intro ξ hφ; exact ob_r [.row (α := Nat) 291 sv6 (dgs (dn a + 1) X)] rfl rfl (r_ldR (k := 0) Tryz.isAgg291 Tryz.sizeOf291 (dgs_get (n := (dn a + 1)) (by omega)) rfl rfl rfl rfl (v := (.int .u32 (((X / 4294967296 ^ i % 4294967296) : Nat) : Int))) rfl)
            · intro ξ hφ; exact ob_r0 (r_convInt Tryz.runUnderlying291 Tryz.runUnderlying234 rfl (r := (((X / 4294967296 ^ i % 4294967296) : Nat) : Int)) (by rw [IntKind.wrap_u64]; omega))
            · intro ξ hφ; exact ob_r0 (r_or' rfl rfl (r := (((X / 4294967296 ^ (i + 1) % 4294967296 * 4294967296 + X / 4294967296 ^ i % 4294967296) : Nat) : Int)) (bits_or_nat (k := 32) _ _ (by omega) (Nat.mod_lt _ (by decide)) (by omega)))
            · intro ξ hφ; exact ob_r0 (r_move rfl)
            · intro ξ hφ; exact ob_r0 (r_shr rfl rfl (r := ((((X / 4294967296 ^ (i + 1) % 4294967296 * 4294967296 + X / 4294967296 ^ i % 4294967296) / 2 ^ s) : Nat) : Int)) (by omega) (by simp [IntKind.bits] <;> omega) (shr_nat rfl))
            · intro ξ hφ; exact ob_r0 (r_convInt Tryz.runUnderlying234 Tryz.runUnderlying291 rfl (r := ((X / 2 ^ s / 4294967296 ^ i % 4294967296 : Nat) : Int)) (by rw [shr_digit hs32 i, IntKind.wrap_u32']; omega))
            · intro ξ hφ; exact ob_r0 (r_ia (i := i) Tryz.runUnderlying289 Tryz.sizeOf291 rfl rfl (h.dnn 0 rfl (by omega)) (by omega))
            · intro ξ hφ; exact ob_u [.row (α := Nat) 291 sv10 (dgs (dn b) (mx 0 i (X / 2 ^ s)))] [.row (α := Nat) 291 sv10 ((dgs (dn b) (mx 0 i (X / 2 ^ s))).set i (X / 2 ^ s / 4294967296 ^ i % 4294967296))] rfl rfl (s_stR (k := 0) (u' := (X / 2 ^ s / 4294967296 ^ i % 4294967296)) Tryz.sizeOf291 (mx_get (by omega)) rfl rfl rfl rfl rfl rfl rfl rfl)
            clear h ac wo; intro ξ ac wo hφ h
            replace h : St w0 304 [(12, (.int .i64 ((s : Nat) : Int))), (13, sv6), (15, sv9), (27, sv10), (276, (.int .i64 (((dn b) : Nat) : Int))), (277, (.int .i64 ((i : Nat) : Int)))] [.row (α := Nat) 291 sv10 ((dgs (dn b) (mx 0 i (X / 2 ^ s))).set i (X / 2 ^ s / 4294967296 ^ i % 4294967296)), .row (α := Nat) 291 sv9 (dgs (dn a + 1 - dn b) Z), .row (α := Nat) 291 sv8 (dgs (dn b) (b * 2 ^ s)), .row (α := Nat) 291 sv6 (dgs (dn a + 1) X), .row (α := Nat) 291 sv5 (dgs (dn a) a), .row (α := Nat) 291 sv3 (dgs (dn b) b)] ac wo := h.sub ⟨rfl, rfl, rfl, rfl, rfl, rfl, trivial⟩
            clear hφ ξ
            refine b_norm ?_
            refine hK64 _ _ ?_
            refine c_r ?_
            refine rd0 h (r_add rfl rfl (r := ((i + 1 : Nat) : Int)) (by rw [IntKind.wrap_i64]; omega)) rfl ?_; clear h ac wo; intro ac wo h
            refine rd0 h (r_move rfl) rfl ?_; clear h ac wo; intro ac wo h
            refine w_nil ?_
            replace h := h.rowEq 0 rfl (mx_set : ((dgs (dn b) (mx 0 i (X / 2 ^ s))).set i (X / 2 ^ s / 4294967296 ^ i % 4294967296)) = (dgs (dn b) (mx 0 (i + 1) (X / 2 ^ s))))
            exact next_round ⟨_, (by omega), i + 1, rfl, (by omega), (h.pick [0, 1, 2, 3, 4, 5] (by decide)).sub ⟨rfl, rfl, rfl, rfl, rfl, rfl, trivial⟩⟩
          · skip
            have hd11 := of_decide_eq_false hc11
            refine c_exit ?_
            refine hK60 _ _ ?_
            refine c_rs fun K66 hK66 => ?_
            have hie : i = dn b := by omega
            subst hie
            have hRl : X / 2 ^ s < 4294967296 ^ dn b := by rw [hr]; exact Nat.lt_trans (Nat.mod_lt _ hb) (dn_lt b)
            replace h := h.rowEq 0 rfl (by rw [mx_all (Bpos _) hRl] : (dgs (dn b) (mx 0 (dn b) (X / 2 ^ s))) = (dgs (dn b) (X / 2 ^ s)))
            have hZl : Z < 4294967296 ^ (dn a + 1 - dn b) := by
              rw [hq]
              have h1 := div_start hle hs31 hYh
              rw [Nat.div_lt_iff_lt_mul hb]
              rw [Nat.mul_right_comm] at h1
              have h2 := Nat.lt_of_mul_lt_mul_right h1
              rwa [Nat.mul_comm] at h2
            refine rd0 h (r_move rfl) rfl ?_; clear h ac wo; intro ac wo h
            refine clq h Tryz.call215 (vs := [sv9]) rfl (fun w_ hB_ hS_ => ig_nat_bytes_ct (dn a + 1 - dn b) Z sv9 hZl (by omega) w_ (row_view hS_ 1 rfl)) rfl ?_; clear h ac wo; intro ac wo h
            refine rd0 h (r_move rfl) rfl ?_; clear h ac wo; intro ac wo h
            refine clq h Tryz.call215 (vs := [sv10]) rfl (fun w_ hB_ hS_ => ig_nat_bytes_ct (dn b) (X / 2 ^ s) sv10 hRl (by omega) w_ (row_view hS_ 0 rfl)) rfl ?_; clear h ac wo; intro ac wo h
            refine rd0 h (r_assign rfl) rfl ?_; clear h ac wo; intro ac wo h
            refine rd0 h (r_assign rfl) rfl ?_; clear h ac wo; intro ac wo h
            refine w_nil ?_
            refine hK66 _ _ ?_
            refine c_ret ?_
            have hd : ig_div a b = (Z, (X / 2 ^ s)) := (by unfold ig_div; rw [hq, hr])
            exact ret (rs := [.tmp 4, .tmp 5]) h rfl (.tmp rfl (.tmp rfl .nil)) rfl (h.retP (by rw [hd] <;> rfl) ⟨SzB_mono za (Nat.div_le_self _ _), SzB_mono za (Nat.mod_le _ _)⟩)
end Go.Sx
