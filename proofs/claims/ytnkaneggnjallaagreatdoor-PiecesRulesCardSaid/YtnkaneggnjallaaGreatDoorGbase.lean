/- A part of the proof that the law PiecesRules answers true at every input and leaves its arguments as they were. -/
import Derived.Test.YtnkaneggnjallaaGreatDoorProg
import Derived.Test.YtnkaneggnjallaaGreatDoorExt
set_option linter.unusedVariables false
set_option linter.unusedSimpArgs false
namespace Go.Sx
open Go Go.RowKit Go.Proofs
set_option maxRecDepth 100000
theorem mixed : Tryz.prog.follows .mixedOrders = true := by kernel_rfl
theorem bld38 : BuildF Tryz.prog 38 [.bool false, .string ⟨#[]⟩] [(0, 1), (1, 1)] := BuildF.of Tryz.zeroValue38 rfl Tryz.runUnderlying38 (by intro w; simp [Tryz.sizeOf4, Tryz.sizeOf9])
theorem bld40 : BuildF Tryz.prog 40 [.bool false, .string ⟨#[]⟩, .bool false, .string ⟨#[]⟩] [(0, 2), (2, 2)] := BuildF.of Tryz.zeroValue40 rfl Tryz.runUnderlying40 (by intro w; simp [Tryz.sizeOf38])
theorem bld42 : BuildF Tryz.prog 42 [.bool false, .string ⟨#[]⟩, .bool false, .string ⟨#[]⟩, .bool false, .string ⟨#[]⟩, .bool false, .string ⟨#[]⟩, .bool false, .string ⟨#[]⟩, .bool false, .string ⟨#[]⟩, .bool false, .string ⟨#[]⟩, .bool false, .string ⟨#[]⟩] [(0, 4), (4, 4), (8, 4), (12, 4)] := BuildF.of Tryz.zeroValue42 rfl Tryz.runUnderlying42 (by intro w; simp [Tryz.sizeOf40])
theorem bld53 : BuildF Tryz.prog 53 [.bool false, .string ⟨#[]⟩, .bool false, .string ⟨#[]⟩, .bool false, .string ⟨#[]⟩, .bool false, .string ⟨#[]⟩, .bool false] [(0, 4), (4, 4), (8, 1)] := BuildF.of Tryz.zeroValue53 rfl Tryz.runUnderlying53 (by intro w; simp [Tryz.sizeOf4, Tryz.sizeOf40])
theorem bld55 : BuildF Tryz.prog 55 [.bool false, .string ⟨#[]⟩, .bool false, .string ⟨#[]⟩, .bool false, .string ⟨#[]⟩, .bool false, .string ⟨#[]⟩, .bool false, .bool false, .string ⟨#[]⟩, .bool false, .string ⟨#[]⟩, .bool false, .string ⟨#[]⟩, .bool false, .string ⟨#[]⟩, .bool false, .bool false, .bool false] [(0, 9), (9, 9), (18, 1), (19, 1)] := BuildF.of Tryz.zeroValue55 rfl Tryz.runUnderlying55 (by intro w; simp [Tryz.sizeOf4, Tryz.sizeOf53])
theorem bld69 : BuildF Tryz.prog 69 [.bool false, .string ⟨#[]⟩, .bool false, .string ⟨#[]⟩, .bool false, .string ⟨#[]⟩, .bool false, .string ⟨#[]⟩, .bool false, .string ⟨#[]⟩, .bool false, .string ⟨#[]⟩] [(0, 4), (4, 4), (8, 4)] := BuildF.of Tryz.zeroValue69 rfl Tryz.runUnderlying69 (by intro w; simp [Tryz.sizeOf40])
theorem bld87 : BuildF Tryz.prog 87 [.bool false, .string ⟨#[]⟩, .bool false, .string ⟨#[]⟩, .bool false, .string ⟨#[]⟩, .bool false, .string ⟨#[]⟩, .bool false, .bool false, .string ⟨#[]⟩, .bool false, .string ⟨#[]⟩, .bool false, .string ⟨#[]⟩, .bool false, .string ⟨#[]⟩, .bool false, .bool false, .bool false, .bool false, .string ⟨#[]⟩, .bool false, .string ⟨#[]⟩, .bool false, .string ⟨#[]⟩, .bool false, .string ⟨#[]⟩, .bool false, .string ⟨#[]⟩, .bool false, .string ⟨#[]⟩] [(0, 20), (20, 12)] := BuildF.of Tryz.zeroValue87 rfl Tryz.runUnderlying87 (by intro w; simp [Tryz.sizeOf55, Tryz.sizeOf69])
theorem slt256 : SlT Tryz.prog 256 3 1 8 [.int .i64 0] := ⟨Tryz.underlying256, Tryz.t3, _, Tryz.type3, rfl, rfl, rfl, rfl, rfl, by decide, by decide⟩
theorem slt269 : SlT Tryz.prog 269 5 1 1 [.int .u8 0] := ⟨Tryz.underlying269, Tryz.t5, _, Tryz.type5, rfl, rfl, rfl, rfl, rfl, by decide, by decide⟩
theorem slt289 : SlT Tryz.prog 289 291 1 4 [.int .u32 0] := ⟨Tryz.underlying289, Tryz.t291, _, Tryz.type291, rfl, rfl, rfl, rfl, rfl, by decide, by decide⟩
def ig_made (neg : Bool) (mag : Nat) : GI :=
  (⟨(neg && (!(decide (mag = 0)))), mag⟩ : GI)
theorem ig_made_ct (neg : Bool) (mag : Nat) (k : Nat) (hk : k ≤ 40) (zmag : SzB k mag) (w0 : World) : Calls Tryz.prog 172 #[(.bool neg), (.string (bs mag))] w0 (RetP w0 (vI (ig_made neg mag)) (SzI k (ig_made neg mag))) := by
  refine enter (N := 12) (args := [(.bool neg), (.string (bs mag))]) Tryz.func172 rfl rfl ?_; intro ac h
  refine c_rs fun K1 hK1 => ?_
  refine al h (cI (⟨false, 0⟩ : GI)) Tryz.zeroValue38 rfl rfl ?_; clear h ac; intro b1 ac wo h
  refine w_nil ?_
  refine hK1 _ _ ?_
  refine c_rs fun K2 hK2 => ?_
  refine rd0 h (r_move rfl) rfl ?_; clear h ac wo; intro ac wo h
  refine rd0 h (r_move rfl) rfl ?_; clear h ac wo; intro ac wo h
  refine gd (j := 1) (c := true) (b := neg) (g := neg) h rfl rfl g_t (fun hg => (Rd.of_nil (r_move rfl)).step) rfl ?_; clear h ac wo; intro ac wo h
  refine gd (j := 1) (c := true) (b := neg) (g := neg) h rfl rfl g_t (fun hg => (Rd.of_nil (r_neqBs (gv_ev rfl hg) rfl (m := mag) (n := 0))).step) rfl ?_; clear h ac wo; intro ac wo h
  refine rd0 h (r_and rfl (fun e => (gv_ev rfl e))) rfl ?_; clear h ac wo; intro ac wo h
  refine rd0 h (r_move rfl) rfl ?_; clear h ac wo; intro ac wo h
  refine rd0 h (r_build (parts := [(0, .tmp 9), (1, .tmp 10)]) (vs := [(.bool (neg && (!(decide (mag = 0))))), (.string (bs mag))]) bld38 rfl rfl (v := (vI (⟨(neg && (!(decide (mag = 0)))), mag⟩ : GI))) rfl) rfl ?_; clear h ac wo; intro ac wo h
  refine st h 0 (cI (⟨(neg && (!(decide (mag = 0)))), mag⟩ : GI)) rfl Tryz.sizeOf38 rfl rfl rfl rfl rfl rfl rfl ?_; clear h ac wo; intro ac wo h
  refine w_nil ?_
  refine hK2 _ _ ?_
  refine c_ret ?_
  have hd : ig_made neg mag = (⟨(neg && (!(decide (mag = 0)))), mag⟩ : GI) := rfl
  exact ret (rs := [.cell 4 38]) h rfl (.cell (v := (vI (⟨(neg && (!(decide (mag = 0)))), mag⟩ : GI))) rfl (i := 0) rfl Tryz.isAgg38 Tryz.sizeOf38 rfl rfl rfl .nil) rfl (h.retP (by rw [hd] <;> rfl) (by rw [hd]; exact zmag))
theorem ig_word_ct (m : Nat) (w0 : World) : Calls Tryz.prog 218 #[(.string (bs m))] w0 (RetP w0 (.tuple #[(.int .u64 (((ig_word m).1 : Nat) : Int)), (.bool ((ig_word m).2))]) (True)) := by
  refine enter (N := 23) (args := [(.string (bs m))]) Tryz.func218 rfl rfl ?_; intro ac h
  refine c_rs fun K1 hK1 => ?_
  refine rd0 h (r_assign rfl (v := (.int .u64 0))) rfl ?_; clear h ac; intro ac wo h
  refine rd0 h (r_assign rfl (v := (.bool false))) rfl ?_; clear h ac wo; intro ac wo h
  refine w_nil ?_
  refine hK1 _ _ ?_
  refine c_seq fun K2 hK2 => ?_
  refine c_rs fun K3 hK3 => ?_
  refine rd0 h (r_move rfl) rfl ?_; clear h ac wo; intro ac wo h
  refine rd0 h (r_lenS Tryz.runUnderlying9 rfl) rfl ?_; clear h ac wo; intro ac wo h
  refine rd0 h (r_gtr rfl rfl) rfl ?_; clear h ac wo; intro ac wo h
  refine w_nil ?_
  refine hK3 _ _ ?_
  refine c_if (b := (decide (((bs m).size : Int) > 8))) h rfl (fun hc1 => ?_) (fun hc1 => ?_)
  · skip
    have hd1 := of_decide_eq_true hc1
    refine c_rs fun K4 hK4 => ?_
    refine rd0 h (r_assign rfl (v := (.int .u64 0))) rfl ?_; clear h ac wo; intro ac wo h
    refine rd0 h (r_assign rfl (v := (.bool false))) rfl ?_; clear h ac wo; intro ac wo h
    refine w_nil ?_
    refine hK4 _ _ ?_
    refine c_ret ?_
    have hd : ig_word m = (0, false) := word_no (by rw [bs_size] at hd1; omega)
    exact ret (rs := [.tmp 2, .tmp 3]) h rfl (.tmp rfl (.tmp rfl .nil)) rfl (h.retP (by rw [hd] <;> rfl) trivial)
  · skip
    have hd1 := of_decide_eq_false hc1
    refine c_skip ?_
    refine hK2 _ _ ?_
    refine c_rs fun K5 hK5 => ?_
    refine rd0 h (r_assign rfl (v := (.int .u64 0))) rfl ?_; clear h ac wo; intro ac wo h
    refine w_nil ?_
    refine hK5 _ _ ?_
    refine c_seq fun K6 hK6 => ?_
    refine c_rs fun K7 hK7 => ?_
    refine rd0 h (r_move rfl) rfl ?_; clear h ac wo; intro ac wo h
    refine rd0 h (r_lenS Tryz.runUnderlying9 rfl) rfl ?_; clear h ac wo; intro ac wo h
    refine rd0 h (r_move rfl (v := (.int .i64 0))) rfl ?_; clear h ac wo; intro ac wo h
    refine w_nil ?_
    refine hK7 _ _ ?_
    refine c_block ?_
    have h8 : (le m).length ≤ 8 := by rw [bs_size] at hd1; omega
    have hm := le_lt m
    have h0 : m / 256 ^ ((le m).length - 0) = 0 := Nat.div_eq_of_lt (by simpa using hm)
    refine wp_loop_ghost (fun n_ a_ w_ => ∃ (i : Nat), n_ = (le m).length - i ∧ (i ≤ (le m).length) ∧ St w0 23 [(0, (.string (bs m))), (2, (.int .u64 0)), (3, (.bool false)), (8, (.bool (decide (((bs m).size : Int) > 8)))), (10, (.int .i64 ((bs m).size : Int))), (11, (.int .i64 (i : Int))), (4, (.int .u64 ((m / 256 ^ ((le m).length - i) : Nat) : Int)))] [] a_ w_) _ ⟨0, rfl, (by omega), (h.pick [] (by decide)).sub ⟨rfl, rfl, rfl, rfl, rfl, rfl, (congrArg (fun x : Nat => some (Value.int .u64 (x : Int))) h0.symm), trivial⟩⟩ ?_
    clear h ac wo; rintro _ ac wo ⟨i, rfl, hi, h⟩
    refine c_rs fun K8 hK8 => ?_
    refine rd0 h (r_lss rfl rfl) rfl ?_; clear h ac wo; intro ac wo h
    refine w_nil ?_
    refine hK8 _ _ ?_
    refine c_seq fun K9 hK9 => ?_
    refine c_if (b := (decide ((i : Int) < ((bs m).size : Int)))) h rfl (fun hc2 => ?_) (fun hc2 => ?_)
    · skip
      have hd2 := of_decide_eq_true hc2
      refine c_skip ?_
      refine hK9 _ _ ?_
      refine c_seq fun K10 hK10 => ?_
      refine c_block ?_
      refine c_rs fun K11 hK11 => ?_
      refine rd0 h (r_move rfl) rfl ?_; clear h ac wo; intro ac wo h
      refine rd0 h (r_assign rfl) rfl ?_; clear h ac wo; intro ac wo h
      refine w_nil ?_
      refine hK11 _ _ ?_
      refine c_r ?_
      have hlt : i < (le m).length := by rw [bs_size] at hd2; omega
      have hub := Nat.lt_of_lt_of_le (pv_lt m (le m).length i hm (by omega)) (Nat.pow_le_pow_right (n := 256) (by decide) (show i ≤ 7 by omega))
      have hbg := bs_get (n := m) (i := i) (by rw [bs_size]; omega)
      refine rd0 h (r_move rfl) rfl ?_; clear h ac wo; intro ac wo h
      refine rd0 h (r_shl rfl rfl (r := ((m / 256 ^ ((le m).length - i) * 2 ^ 8 : Nat) : Int)) (by omega) (by first | decide | (simp [IntKind.bits] <;> omega)) (wshl64 rfl (by omega))) rfl ?_; clear h ac wo; intro ac wo h
      refine rd0 h (r_move rfl) rfl ?_; clear h ac wo; intro ac wo h
      refine rd0 h (r_move rfl) rfl ?_; clear h ac wo; intro ac wo h
      refine rd0 h (r_indexS (i := i) Tryz.runUnderlying9 rfl rfl (by rw [bs_size]; omega)) rfl ?_; clear h ac wo; intro ac wo h
      refine rd0 h (r_convInt Tryz.runUnderlying5 Tryz.runUnderlying234 rfl (r := (((bs m)[i]'(by rw [bs_size]; omega)).toNat : Int)) (by rw [IntKind.wrap_u64]; omega)) rfl ?_; clear h ac wo; intro ac wo h
      refine rd0 h (r_or' rfl rfl (r := ((m / 256 ^ ((le m).length - i) * 256 + m / 256 ^ ((le m).length - 1 - i) % 256 : Nat) : Int)) (by rw [hbg, bits_or_nat (k := 8) _ _ (by omega) (by omega) (by omega)])) rfl ?_; clear h ac wo; intro ac wo h
      refine rd0 h (r_assign rfl) rfl ?_; clear h ac wo; intro ac wo h
      refine w_nil ?_
      refine b_norm ?_
      refine hK10 _ _ ?_
      refine c_r ?_
      refine rd0 h (r_add rfl rfl (r := ((i + 1 : Nat) : Int)) (by rw [IntKind.wrap_i64]; omega)) rfl ?_; clear h ac wo; intro ac wo h
      refine rd0 h (r_move rfl) rfl ?_; clear h ac wo; intro ac wo h
      refine w_nil ?_
      rw [be_step m (le m).length i (by rw [bs_size] at hd2; omega)] at h
      exact next_round ⟨_, (by rw [bs_size] at hd2; omega), i + 1, rfl, (by rw [bs_size] at hd2; omega), (h.pick [] (by decide)).sub ⟨rfl, rfl, rfl, rfl, rfl, rfl, rfl, trivial⟩⟩
    · skip
      have hd2 := of_decide_eq_false hc2
      refine c_exit ?_
      refine hK6 _ _ ?_
      refine c_rs fun K12 hK12 => ?_
      refine rd0 h (r_move rfl) rfl ?_; clear h ac wo; intro ac wo h
      refine rd0 h (r_assign rfl) rfl ?_; clear h ac wo; intro ac wo h
      refine rd0 h (r_assign rfl (v := (.bool true))) rfl ?_; clear h ac wo; intro ac wo h
      refine w_nil ?_
      refine hK12 _ _ ?_
      refine c_ret ?_
      have hd : ig_word m = ((m / 256 ^ ((le m).length - i)), true) := (by rw [word_yes (by omega), show (le m).length - i = 0 by rw [bs_size] at hd2; omega]; simp)
      exact ret (rs := [.tmp 2, .tmp 3]) h rfl (.tmp rfl (.tmp rfl .nil)) rfl (h.retP (by rw [hd] <;> rfl) trivial)
def ig_words (a : Nat) (b : Nat) : Nat × Nat × Bool :=
  ((ig_word a).1, (ig_word b).1, ((ig_word a).2 && (ig_word b).2))
theorem ig_words_ct (a : Nat) (b : Nat) (w0 : World) : Calls Tryz.prog 193 #[(.string (bs a)), (.string (bs b))] w0 (RetP w0 (.tuple #[(.int .u64 (((ig_words a b).1 : Nat) : Int)), (.int .u64 (((ig_words a b).2.1 : Nat) : Int)), (.bool ((ig_words a b).2.2))]) (True)) := by
  refine enter (N := 24) (args := [(.string (bs a)), (.string (bs b))]) Tryz.func193 rfl rfl ?_; intro ac h
  refine c_rs fun K1 hK1 => ?_
  refine rd0 h (r_assign rfl (v := (.int .u64 0))) rfl ?_; clear h ac; intro ac wo h
  refine rd0 h (r_assign rfl (v := (.int .u64 0))) rfl ?_; clear h ac wo; intro ac wo h
  refine rd0 h (r_assign rfl (v := (.bool false))) rfl ?_; clear h ac wo; intro ac wo h
  refine w_nil ?_
  refine hK1 _ _ ?_
  refine c_rs fun K2 hK2 => ?_
  refine rd0 h (r_move rfl) rfl ?_; clear h ac wo; intro ac wo h
  refine clp h Tryz.call218 (vs := [(.string (bs a))]) rfl (ig_word_ct a) rfl ?_; clear h ac wo; intro ac wo h
  refine rd0 h (r_move rfl) rfl ?_; clear h ac wo; intro ac wo h
  refine rd0 h (r_extract (vs := [(.int .u64 (((ig_word a).1 : Nat) : Int)), (.bool ((ig_word a).2))]) rfl rfl) rfl ?_; clear h ac wo; intro ac wo h
  refine rd0 h (r_extract (vs := [(.int .u64 (((ig_word a).1 : Nat) : Int)), (.bool ((ig_word a).2))]) rfl rfl) rfl ?_; clear h ac wo; intro ac wo h
  refine rd0 h (r_assign rfl) rfl ?_; clear h ac wo; intro ac wo h
  refine rd0 h (r_assign rfl) rfl ?_; clear h ac wo; intro ac wo h
  refine w_nil ?_
  refine hK2 _ _ ?_
  refine c_rs fun K3 hK3 => ?_
  refine rd0 h (r_move rfl) rfl ?_; clear h ac wo; intro ac wo h
  refine clp h Tryz.call218 (vs := [(.string (bs b))]) rfl (ig_word_ct b) rfl ?_; clear h ac wo; intro ac wo h
  refine rd0 h (r_move rfl) rfl ?_; clear h ac wo; intro ac wo h
  refine rd0 h (r_extract (vs := [(.int .u64 (((ig_word b).1 : Nat) : Int)), (.bool ((ig_word b).2))]) rfl rfl) rfl ?_; clear h ac wo; intro ac wo h
  refine rd0 h (r_extract (vs := [(.int .u64 (((ig_word b).1 : Nat) : Int)), (.bool ((ig_word b).2))]) rfl rfl) rfl ?_; clear h ac wo; intro ac wo h
  refine rd0 h (r_assign rfl) rfl ?_; clear h ac wo; intro ac wo h
  refine rd0 h (r_assign rfl) rfl ?_; clear h ac wo; intro ac wo h
  refine w_nil ?_
  refine hK3 _ _ ?_
  refine c_rs fun K4 hK4 => ?_
  refine rd0 h (r_move rfl) rfl ?_; clear h ac wo; intro ac wo h
  refine rd0 h (r_move rfl) rfl ?_; clear h ac wo; intro ac wo h
  refine rd0 h (r_move rfl) rfl ?_; clear h ac wo; intro ac wo h
  refine rd0 h (r_move rfl) rfl ?_; clear h ac wo; intro ac wo h
  refine gd (j := 3) (c := true) (b := (ig_word a).2) (g := (ig_word a).2) h rfl rfl g_t (fun hg => (Rd.of_nil (r_move rfl)).step) rfl ?_; clear h ac wo; intro ac wo h
  refine rd0 h (r_and rfl (fun e => (gv_ev rfl e))) rfl ?_; clear h ac wo; intro ac wo h
  refine rd0 h (r_assign rfl) rfl ?_; clear h ac wo; intro ac wo h
  refine rd0 h (r_assign rfl) rfl ?_; clear h ac wo; intro ac wo h
  refine rd0 h (r_assign rfl) rfl ?_; clear h ac wo; intro ac wo h
  refine w_nil ?_
  refine hK4 _ _ ?_
  refine c_ret ?_
  have hd : ig_words a b = ((ig_word a).1, (ig_word b).1, ((ig_word a).2 && (ig_word b).2)) := rfl
  exact ret (rs := [.tmp 4, .tmp 5, .tmp 6]) h rfl (.tmp rfl (.tmp rfl (.tmp rfl .nil))) rfl (h.retP (by rw [hd] <;> rfl) trivial)
theorem words_yes {a b : Nat} (h : (ig_words a b).2.2 = true) : a < 18446744073709551616 ∧ b < 18446744073709551616 ∧ ig_words a b = (a, b, true) := by
  unfold ig_words at *
  rw [words_eq a, words_eq b] at *
  split at h <;> split at h <;> simp_all
theorem ig_magnitude_ct (u : Nat) (hu : u < 18446744073709551616) (w0 : World) : Calls Tryz.prog 173 #[(.int .u64 ((u : Nat) : Int))] w0 (RetP w0 (.string (bs (ig_magnitude u))) (True)) := by
  refine enter (N := 30) (args := [(.int .u64 ((u : Nat) : Int))]) Tryz.func173 rfl rfl ?_; intro ac h
  refine c_rs fun K1 hK1 => ?_
  refine rd0 h (r_assign rfl (v := (.string (bs 0)))) rfl ?_; clear h ac; intro ac wo h
  refine w_nil ?_
  refine hK1 _ _ ?_
  refine c_seq fun K2 hK2 => ?_
  refine c_rs fun K3 hK3 => ?_
  refine rd0 h (r_move rfl) rfl ?_; clear h ac wo; intro ac wo h
  refine rd0 h (r_eql rfl rfl) rfl ?_; clear h ac wo; intro ac wo h
  refine w_nil ?_
  refine hK3 _ _ ?_
  refine c_if (b := (((u : Nat) : Int) == 0)) h rfl (fun hc1 => ?_) (fun hc1 => ?_)
  · skip
    have hd1 := eq_of_beq hc1
    refine c_rs fun K4 hK4 => ?_
    refine rd0 h (r_assign rfl (v := (.string (bs 0)))) rfl ?_; clear h ac wo; intro ac wo h
    refine w_nil ?_
    refine hK4 _ _ ?_
    refine c_ret ?_
    have hd : ig_magnitude u = 0 := (by unfold ig_magnitude; omega)
    exact ret (rs := [.tmp 2]) h rfl (.tmp rfl .nil) rfl (h.retP (by rw [hd] <;> rfl) trivial)
  · skip
    have hd1 := ne_of_beq_false hc1
    refine c_skip ?_
    refine hK2 _ _ ?_
    refine c_rs fun K5 hK5 => ?_
    refine rd0 h (r_move rfl) rfl ?_; clear h ac wo; intro ac wo h
    refine clp h Tryz.call197 (vs := [(.int .u64 ((u : Nat) : Int))]) rfl (Len64_ct u (by assumption)) rfl ?_; clear h ac wo; intro ac wo h
    refine rd0 h (r_add rfl rfl (r := (((Lib.bitLen u) + 7 : Nat) : Int)) (by have := bitLen_le64 hu; rw [IntKind.wrap_i64]; omega)) rfl ?_; clear h ac wo; intro ac wo h
    refine rd0 h (r_quo rfl rfl (r := (((le u).length : Nat) : Int)) (by first | decide | omega) (by have h1 := bitLen_le64 hu; have h2 := bitLen_bytes u hu; rw [Int.tdiv_eq_ediv_of_nonneg (by omega), IntKind.wrap_i64]; omega)) rfl ?_; clear h ac wo; intro ac wo h
    refine rd0 h (r_assign rfl) rfl ?_; clear h ac wo; intro ac wo h
    refine w_nil ?_
    refine hK5 _ _ ?_
    refine c_rs fun K6 hK6 => ?_
    refine al h (flat (List.replicate 8 (0 : UInt8))) Tryz.zeroValue268 rfl rfl ?_; clear h ac wo; intro b1 ac wo h
    refine w_nil ?_
    refine hK6 _ _ ?_
    refine c_seq fun K7 hK7 => ?_
    refine c_rs fun K8 hK8 => ?_
    refine rd0 h (r_move rfl) rfl ?_; clear h ac wo; intro ac wo h
    refine rd0 h (r_move rfl (v := (.int .i64 0))) rfl ?_; clear h ac wo; intro ac wo h
    refine w_nil ?_
    refine hK8 _ _ ?_
    refine c_block ?_
    have hL : (le u).length ≤ 8 := (le_length_le 8 u).2 hu
    have hp : 0 < u := by omega
    have hLp : 0 < (le u).length := by rw [le_pos hp]; simp
    refine wp_loop_ghost (fun n_ a_ w_ => ∃ (i : Nat) (bl : List UInt8), n_ = (le u).length - i ∧ (i ≤ (le u).length) ∧ (Mag u (le u).length i bl) ∧ St w0 30 [(0, (.int .u64 ((u : Nat) : Int))), (2, (.string (bs 0))), (7, (.bool (((u : Nat) : Int) == 0))), (3, (.int .i64 (((le u).length : Nat) : Int))), (4, (ptr b1 0)), (12, (.int .i64 (((le u).length : Nat) : Int))), (13, (.int .i64 ((i : Nat) : Int)))] [.blk b1 (flat bl) 268] a_ w_) _ ⟨0, (List.replicate 8 (0 : UInt8)), rfl, (by omega), (Mag.zero _ _), (h.pick [0] (by decide)).sub ⟨rfl, rfl, rfl, rfl, rfl, rfl, rfl, trivial⟩⟩ ?_
    clear h ac wo; rintro _ ac wo ⟨i, bl, rfl, hi, hM, h⟩
    refine c_rs fun K9 hK9 => ?_
    refine rd0 h (r_lss rfl rfl) rfl ?_; clear h ac wo; intro ac wo h
    refine w_nil ?_
    refine hK9 _ _ ?_
    refine c_seq fun K10 hK10 => ?_
    refine c_if (b := (decide (((i : Nat) : Int) < (((le u).length : Nat) : Int)))) h rfl (fun hc2 => ?_) (fun hc2 => ?_)
    · skip
      have hd2 := of_decide_eq_true hc2
      refine c_skip ?_
      refine hK10 _ _ ?_
      refine c_seq fun K11 hK11 => ?_
      refine c_block ?_
      refine c_rs fun K12 hK12 => ?_
      refine rd0 h (r_move rfl) rfl ?_; clear h ac wo; intro ac wo h
      refine rd0 h (r_assign rfl) rfl ?_; clear h ac wo; intro ac wo h
      refine w_nil ?_
      refine hK12 _ _ ?_
      refine c_r ?_
      have hlt : i < (le u).length := by omega
      refine rd0 h (r_move rfl) rfl ?_; clear h ac wo; intro ac wo h
      refine rd0 h (r_sub rfl rfl (r := (((le u).length - 1 : Nat) : Int)) (by rw [IntKind.wrap_i64]; omega)) rfl ?_; clear h ac wo; intro ac wo h
      refine rd0 h (r_move rfl) rfl ?_; clear h ac wo; intro ac wo h
      refine rd0 h (r_sub rfl rfl (r := (((le u).length - 1 - i : Nat) : Int)) (by rw [IntKind.wrap_i64]; omega)) rfl ?_; clear h ac wo; intro ac wo h
      refine rd0 h (r_move rfl) rfl ?_; clear h ac wo; intro ac wo h
      refine rd0 h (r_move rfl) rfl ?_; clear h ac wo; intro ac wo h
      refine rd0 h (r_mul rfl rfl (r := ((8 * i : Nat) : Int)) (by rw [IntKind.wrap_i64]; omega)) rfl ?_; clear h ac wo; intro ac wo h
      refine rd0 h (r_shr rfl rfl (r := ((u / 256 ^ i : Nat) : Int)) (by omega) (by simp [IntKind.bits] <;> omega) (by rw [show (((8 * i : Nat) : Int)).toNat = 8 * i by omega, pow256]; simp)) rfl ?_; clear h ac wo; intro ac wo h
      refine rd0 h (r_convInt Tryz.runUnderlying234 Tryz.runUnderlying5 rfl (r := ((UInt8.ofNat (u / 256 ^ i % 256)).toNat : Int)) (by rw [IntKind.wrap_u8, UInt8.toNat_ofNat']; omega)) rfl ?_; clear h ac wo; intro ac wo h
      refine rd0 h (r_iaA (i := ((le u).length - 1 - i)) Tryz.runUnderlying268 Tryz.sizeOf5 rfl rfl (by omega)) rfl ?_; clear h ac wo; intro ac wo h
      refine up h 0 rfl (s_stA Tryz.sizeOf5 rfl rfl rfl (by rw [hM.1]; omega)) ?_; clear h ac wo; intro ac wo h
      refine w_nil ?_
      refine b_norm ?_
      refine hK11 _ _ ?_
      refine c_r ?_
      refine rd0 h (r_add rfl rfl (r := ((i + 1 : Nat) : Int)) (by rw [IntKind.wrap_i64]; omega)) rfl ?_; clear h ac wo; intro ac wo h
      refine rd0 h (r_move rfl) rfl ?_; clear h ac wo; intro ac wo h
      refine w_nil ?_
      exact next_round ⟨_, (by omega), i + 1, _, rfl, (by omega), (hM.next (by omega) hL), (h.pick [0] (by decide)).sub ⟨rfl, rfl, rfl, rfl, rfl, rfl, rfl, trivial⟩⟩
    · skip
      have hd2 := of_decide_eq_false hc2
      refine c_exit ?_
      refine hK7 _ _ ?_
      refine c_rs fun K13 hK13 => ?_
      have hie : i = (le u).length := by omega
      subst hie
      refine rd0 h (r_move rfl) rfl ?_; clear h ac wo; intro ac wo h
      refine rd0 h (r_sliceA (n := (le u).length) Tryz.runUnderlying268 Tryz.sizeOf5 rfl rfl hL) rfl ?_; clear h ac wo; intro ac wo h
      refine rd1 h 0 rfl (r_strA (l := (le u).reverse) Tryz.underlying269 Tryz.underlying5 Tryz.underlying9 rfl (hM.flat rfl hL) (by simp)) rfl ?_; clear h ac wo; intro ac wo h
      refine rd0 h (r_assign rfl) rfl ?_; clear h ac wo; intro ac wo h
      refine w_nil ?_
      refine hK13 _ _ ?_
      refine c_ret ?_
      have hd : ig_magnitude u = u := rfl
      exact ret (rs := [.tmp 2]) h rfl (.tmp rfl .nil) rfl (h.retP (by rw [hd] <;> rfl) trivial)
theorem ig_digits_ct (m : Nat) (hm : (le m).length ≤ 70368744177664) (w0 : World) : Calls Tryz.prog 214 #[(.string (bs m))] w0 (RetR w0 291 (ig_digits m) (True)) := by
  refine enter (N := 38) (args := [(.string (bs m))]) Tryz.func214 rfl rfl ?_; intro ac h
  refine c_rs fun K1 hK1 => ?_
  refine rd0 h (r_assign rfl (v := (.slice none 0 0))) rfl ?_; clear h ac; intro ac wo h
  refine w_nil ?_
  refine hK1 _ _ ?_
  refine c_rs fun K2 hK2 => ?_
  refine rd0 h (r_move rfl) rfl ?_; clear h ac wo; intro ac wo h
  refine rd0 h (r_lenS Tryz.runUnderlying9 rfl) rfl ?_; clear h ac wo; intro ac wo h
  refine rd0 h (r_add rfl rfl (r := (((bs m).size + 3 : Nat) : Int)) (by rw [bs_size, IntKind.wrap_i64]; omega)) rfl ?_; clear h ac wo; intro ac wo h
  refine rd0 h (r_quo rfl rfl (r := ((dn m : Nat) : Int)) (by first | decide | omega) (by rw [Int.tdiv_eq_ediv_of_nonneg (by omega), IntKind.wrap_i64, bs_size]; unfold dn; omega)) rfl ?_; clear h ac wo; intro ac wo h
  refine nw h (s_make (n := (dn m)) ((0 : Nat)) rfl slt289 rfl rfl rfl (by unfold dn; omega) (by unfold dn; omega)) rfl ?_; clear h ac wo; intro sv1 ac wo nnsv1 h
  refine rd0 h (r_assign rfl) rfl ?_; clear h ac wo; intro ac wo h
  refine w_nil ?_
  refine hK2 _ _ ?_
  refine c_seq fun K3 hK3 => ?_
  refine c_rs fun K4 hK4 => ?_
  refine rd0 h (r_move rfl) rfl ?_; clear h ac wo; intro ac wo h
  refine rd0 h (r_lenS Tryz.runUnderlying9 rfl) rfl ?_; clear h ac wo; intro ac wo h
  refine rd0 h (r_move rfl (v := (.int .i64 0))) rfl ?_; clear h ac wo; intro ac wo h
  refine w_nil ?_
  refine hK4 _ _ ?_
  refine c_block ?_
  have hz0 : List.replicate (dn m) 0 = dgs (dn m) (m % 256 ^ 0) := by rw [show m % 256 ^ 0 = 0 by simp [Nat.mod_one]]; exact (dgs_zero _).symm
  rw [hz0] at h
  refine wp_loop_ghost (fun n_ a_ w_ => ∃ (i : Nat), n_ = (le m).length - i ∧ (i ≤ (le m).length) ∧ St w0 38 [(0, (.string (bs m))), (2, (.slice none 0 0)), (3, sv1), (12, (.int .i64 ((bs m).size : Int))), (13, (.int .i64 ((i : Nat) : Int)))] [.row (α := Nat) 291 sv1 (dgs (dn m) (m % 256 ^ i))] a_ w_) _ ⟨0, rfl, (by omega), (h.pick [0] (by decide)).sub ⟨rfl, rfl, rfl, rfl, rfl, trivial⟩⟩ ?_
  clear h ac wo; rintro _ ac wo ⟨i, rfl, hi, h⟩
  refine c_rs fun K5 hK5 => ?_
  refine rd0 h (r_lss rfl rfl) rfl ?_; clear h ac wo; intro ac wo h
  refine w_nil ?_
  refine hK5 _ _ ?_
  refine c_seq fun K6 hK6 => ?_
  refine c_if (b := (decide (((i : Nat) : Int) < ((bs m).size : Int)))) h rfl (fun hc1 => ?_) (fun hc1 => ?_)
  · skip
    have hd1 := of_decide_eq_true hc1
    refine c_skip ?_
    refine hK6 _ _ ?_
    refine c_seq fun K7 hK7 => ?_
    refine c_block ?_
    refine c_rs fun K8 hK8 => ?_
    refine rd0 h (r_move rfl) rfl ?_; clear h ac wo; intro ac wo h
    refine rd0 h (r_assign rfl) rfl ?_; clear h ac wo; intro ac wo h
    refine w_nil ?_
    refine hK8 _ _ ?_
    refine c_rs fun K9 hK9 => ?_
    refine rd0 h (r_move rfl) rfl ?_; clear h ac wo; intro ac wo h
    refine rd0 h (r_lenS Tryz.runUnderlying9 rfl) rfl ?_; clear h ac wo; intro ac wo h
    refine rd0 h (r_sub rfl rfl (r := (((bs m).size - 1 : Nat) : Int)) (by rw [bs_size] at hd1 ⊢; rw [IntKind.wrap_i64]; omega)) rfl ?_; clear h ac wo; intro ac wo h
    refine rd0 h (r_move rfl) rfl ?_; clear h ac wo; intro ac wo h
    refine rd0 h (r_sub rfl rfl (r := (((le m).length - 1 - i : Nat) : Int)) (by rw [bs_size] at hd1 ⊢; rw [IntKind.wrap_i64]; omega)) rfl ?_; clear h ac wo; intro ac wo h
    refine rd0 h (r_assign rfl) rfl ?_; clear h ac wo; intro ac wo h
    refine w_nil ?_
    refine hK9 _ _ ?_
    have hlt : i < (le m).length := by rw [bs_size] at hd1; omega
    have hq : i / 4 < dn m := by unfold dn; omega
    have hu : (dgs (dn m) (m % 256 ^ i))[i / 4]? = some (m % 256 ^ i / 4294967296 ^ (i / 4) % 4294967296) := dgs_get hq
    have hbg := bs_get (n := m) (i := (le m).length - 1 - i) (by rw [bs_size]; omega)
    rw [show (le m).length - 1 - ((le m).length - 1 - i) = i by omega] at hbg
    have hbs := byte_shift m i
    refine draws mixed [⟨.det sv1, []⟩, ⟨.det (.int .i64 ((i : Nat) : Int)), []⟩, ⟨.det (.int .i64 ((i / 4 : Nat) : Int)), []⟩, ⟨.det (sel sv1 ((i / 4) * 1)), []⟩, ⟨.det (.int .u32 (((m % 256 ^ i / 4294967296 ^ (i / 4) % 4294967296) : Nat) : Int)), [0]⟩, ⟨.det (.string (bs m)), []⟩, ⟨.det (.int .i64 (((le m).length - 1 - i : Nat) : Int)), []⟩, ⟨.det (.int .u8 (((bs m)[((le m).length - 1 - i)]'(by rw [bs_size]; omega)).toNat : Int)), []⟩, ⟨.det (.int .u32 (((m / 256 ^ i % 256) : Nat) : Int)), []⟩, ⟨.det (.int .i64 ((i : Nat) : Int)), []⟩, ⟨.det (.int .i64 ((i % 4 : Nat) : Int)), []⟩, ⟨.det (.int .i64 ((8 * (i % 4) : Nat) : Int)), []⟩, ⟨.det (.int .u32 (((m / 256 ^ i % 256 * 2 ^ (8 * (i % 4))) : Nat) : Int)), []⟩, ⟨.det (.int .u32 (((m % 256 ^ i / 4294967296 ^ (i / 4) % 4294967296) + (m / 256 ^ i % 256 * 2 ^ (8 * (i % 4))) : Nat) : Int)), []⟩, ⟨.det (sel sv1 ((i / 4) * 1)), []⟩, ⟨.det undef, [0]⟩] [⟨.row (α := Nat) 291 sv1 (dgs (dn m) (m % 256 ^ i)), [(15, .con (.row (α := Nat) 291 sv1 ((dgs (dn m) (m % 256 ^ i)).set (i / 4) ((m % 256 ^ i / 4294967296 ^ (i / 4) % 4294967296) + (m / 256 ^ i % 256 * 2 ^ (8 * (i % 4)))))))]⟩] h rfl (by kernel_rfl) ⟨?_, ?_, ?_, ?_, ?_, ?_, ?_, ?_, ?_, ?_, ?_, ?_, ?_, ?_, ?_, ?_, trivial⟩ ?_
    · intro ξ hφ; exact ob_r0 (r_move rfl)
    · intro ξ hφ; exact ob_r0 (r_move rfl)
    · intro ξ hφ; exact ob_r0 (r_quo rfl rfl (r := ((i / 4 : Nat) : Int)) (by first | decide | omega) (by rw [Int.tdiv_eq_ediv_of_nonneg (by omega), IntKind.wrap_i64]; omega))
    · intro ξ hφ; exact ob_r0 (r_ia (i := (i / 4)) Tryz.runUnderlying289 Tryz.sizeOf291 rfl rfl (h.dnn 0 rfl (by omega)) hq)
    · intro ξ hφ; exact ob_r [.row (α := Nat) 291 sv1 (dgs (dn m) (m % 256 ^ i))] rfl rfl (r_ldR (k := 0) Tryz.isAgg291 Tryz.sizeOf291 hu rfl rfl rfl rfl (v := (.int .u32 (((m % 256 ^ i / 4294967296 ^ (i / 4) % 4294967296) : Nat) : Int))) rfl)
    · intro ξ hφ; exact ob_r0 (r_move rfl)
    · intro ξ hφ; exact ob_r0 (r_move rfl)
    · intro ξ hφ; exact ob_r0 (r_indexS (i := ((le m).length - 1 - i)) Tryz.runUnderlying9 rfl rfl (by rw [bs_size]; omega))
    · intro ξ hφ; exact ob_r0 (r_convInt Tryz.runUnderlying5 Tryz.runUnderlying291 rfl (r := (((m / 256 ^ i % 256) : Nat) : Int)) (by rw [hbg, IntKind.wrap_u32]; omega))
    · intro ξ hφ; exact ob_r0 (r_move rfl)
    · intro ξ hφ; exact ob_r0 (r_rem rfl rfl (r := ((i % 4 : Nat) : Int)) (by first | decide | omega) (by rw [Int.tmod_eq_emod_of_nonneg (by omega)]; omega))
    · intro ξ hφ; exact ob_r0 (r_mul rfl rfl (r := ((8 * (i % 4) : Nat) : Int)) (by first | (rw [IntKind.wrap_i64]; omega) | exact wrap_sgn (by omega) (by omega)))
    · intro ξ hφ; exact ob_r0 (r_shl rfl rfl (r := (((m / 256 ^ i % 256 * 2 ^ (8 * (i % 4))) : Nat) : Int)) (by omega) (by simp [IntKind.bits] <;> omega) (wshl32 (by omega) hbs.1))
    · intro ξ hφ; exact ob_r0 (r_or' rfl rfl (r := (((m % 256 ^ i / 4294967296 ^ (i / 4) % 4294967296) + (m / 256 ^ i % 256 * 2 ^ (8 * (i % 4))) : Nat) : Int)) (bits_or32_nat _ _ (digit_low m i).1 hbs.1 (Nat.mod_lt _ (by decide))))
    · intro ξ hφ; exact ob_r0 (r_ia (i := (i / 4)) Tryz.runUnderlying289 Tryz.sizeOf291 rfl rfl (h.dnn 0 rfl (by omega)) hq)
    · intro ξ hφ; exact ob_u [.row (α := Nat) 291 sv1 (dgs (dn m) (m % 256 ^ i))] [.row (α := Nat) 291 sv1 ((dgs (dn m) (m % 256 ^ i)).set (i / 4) ((m % 256 ^ i / 4294967296 ^ (i / 4) % 4294967296) + (m / 256 ^ i % 256 * 2 ^ (8 * (i % 4)))))] rfl rfl (s_stR (k := 0) (u' := ((m % 256 ^ i / 4294967296 ^ (i / 4) % 4294967296) + (m / 256 ^ i % 256 * 2 ^ (8 * (i % 4))))) Tryz.sizeOf291 hu rfl rfl rfl rfl rfl rfl rfl rfl)
    clear h ac wo; intro ξ ac wo hφ h
    replace h : St w0 38 [(0, (.string (bs m))), (2, (.slice none 0 0)), (3, sv1), (12, (.int .i64 ((bs m).size : Int))), (13, (.int .i64 ((i : Nat) : Int))), (14, (.bool (decide (((i : Nat) : Int) < ((bs m).size : Int))))), (4, (.int .i64 ((i : Nat) : Int))), (5, (.int .i64 (((le m).length - 1 - i : Nat) : Int)))] [.row (α := Nat) 291 sv1 ((dgs (dn m) (m % 256 ^ i)).set (i / 4) ((m % 256 ^ i / 4294967296 ^ (i / 4) % 4294967296) + (m / 256 ^ i % 256 * 2 ^ (8 * (i % 4)))))] ac wo := h.sub ⟨rfl, rfl, rfl, rfl, rfl, rfl, rfl, rfl, trivial⟩
    clear hφ ξ
    refine b_norm ?_
    refine hK7 _ _ ?_
    refine c_r ?_
    refine rd0 h (r_add rfl rfl (r := ((i + 1 : Nat) : Int)) (by rw [IntKind.wrap_i64]; omega)) rfl ?_; clear h ac wo; intro ac wo h
    refine rd0 h (r_move rfl) rfl ?_; clear h ac wo; intro ac wo h
    refine w_nil ?_
    rw [dig_next] at h
    exact next_round ⟨_, (by omega), i + 1, rfl, (by omega), (h.pick [0] (by decide)).sub ⟨rfl, rfl, rfl, rfl, rfl, trivial⟩⟩
  · skip
    have hd1 := of_decide_eq_false hc1
    refine c_exit ?_
    refine hK3 _ _ ?_
    refine c_rs fun K10 hK10 => ?_
    refine rd0 h (r_move rfl) rfl ?_; clear h ac wo; intro ac wo h
    refine rd0 h (r_assign rfl) rfl ?_; clear h ac wo; intro ac wo h
    refine w_nil ?_
    refine hK10 _ _ ?_
    refine c_ret ?_
    have hd : ig_digits m = (dgs (dn m) (m % 256 ^ i)) := (by rw [show i = (le m).length by rw [bs_size] at hd1; omega, Nat.mod_eq_of_lt (le_lt m)]; rfl)
    exact ret (rs := [.tmp 2]) h rfl (.tmp rfl .nil) rfl (by rw [hd]; exact h.retR 0 rfl trivial)
theorem ig_nat_trim_ct (nx vx : Nat) (xv : Value) (hv : vx < 4294967296 ^ nx) (w0 : World) (hxv : View w0 xv (dgs nx vx)) : Calls Tryz.prog 241 #[xv] w0 (RetP w0 (cutv xv (dn vx)) (True)) := by
  refine enter (N := 21) (args := [xv]) Tryz.func241 rfl rfl ?_; intro ac h
  have hml := dlen_le hxv; simp only [maxLen] at hml
  refine c_rs fun K1 hK1 => ?_
  refine rd0 h (r_assign rfl (v := (.slice none 0 0))) rfl ?_; clear h ac; intro ac wo h
  refine w_nil ?_
  refine hK1 _ _ ?_
  refine c_seq fun K2 hK2 => ?_
  refine c_block ?_
  refine wp_loop_ghost (fun n_ a_ w_ => ∃ (m : Nat), n_ = 1 * m ∧ (m ≤ nx) ∧ (vx < 4294967296 ^ m) ∧ St w0 21 [(2, (.slice none 0 0)), (0, (cutv xv m))] [] a_ w_) _ ⟨nx, rfl, (Nat.le_refl _), hv, (h.pick [] (by decide)).sub ⟨rfl, (congrArg some (cutv_self hxv.dsl).symm), trivial⟩⟩ ?_
  clear h ac wo; rintro _ ac wo ⟨m, rfl, hn, hvn, h⟩
  have hcv := hxv.cutn hn
  refine c_seq fun K3 hK3 => ?_
  refine c_rs fun K4 hK4 => ?_
  refine rd0 h (r_move rfl) rfl ?_; clear h ac wo; intro ac wo h
  refine rd0 h (r_len Tryz.runUnderlying289 rfl hcv.dsl) rfl ?_; clear h ac wo; intro ac wo h
  refine rd0 h (r_gtr rfl rfl) rfl ?_; clear h ac wo; intro ac wo h
  refine rd0 h (r_move rfl) rfl ?_; clear h ac wo; intro ac wo h
  refine gd (j := 3) (c := true) (b := (decide (((m : Nat) : Int) > 0))) (g := (decide (((m : Nat) : Int) > 0))) h rfl rfl g_t (fun hg => (Rd.of_nil (r_move rfl)).step) rfl ?_; clear h ac wo; intro ac wo h
  refine gd (j := 3) (c := true) (b := (decide (((m : Nat) : Int) > 0))) (g := (decide (((m : Nat) : Int) > 0))) h rfl rfl g_t (fun hg => (Rd.of_nil (r_move rfl)).step) rfl ?_; clear h ac wo; intro ac wo h
  refine gd (j := 3) (c := true) (b := (decide (((m : Nat) : Int) > 0))) (g := (decide (((m : Nat) : Int) > 0))) h rfl rfl g_t (fun hg => (Rd.of_nil (r_len Tryz.runUnderlying289 (gv_ev rfl hg) hcv.dsl)).step) rfl ?_; clear h ac wo; intro ac wo h
  refine gd (j := 3) (c := true) (b := (decide (((m : Nat) : Int) > 0))) (g := (decide (((m : Nat) : Int) > 0))) h rfl rfl g_t (fun hg => (Rd.of_nil (r_sub (gv_ev rfl hg) rfl (r := ((m - 1 : Nat) : Int)) (by simp only [Bool.and_eq_true, decide_eq_true_eq, beq_iff_eq, Bool.true_and, Bool.not_eq_true', decide_eq_false_iff_not] at hg; rw [IntKind.wrap_i64]; omega))).step) rfl ?_; clear h ac wo; intro ac wo h
  refine gd (j := 3) (c := true) (b := (decide (((m : Nat) : Int) > 0))) (g := (decide (((m : Nat) : Int) > 0))) h rfl rfl g_t (fun hg => (Rd.of_nil (r_ia (i := (m - 1)) Tryz.runUnderlying289 Tryz.sizeOf291 (gv_ev rfl hg) (gv_ev rfl hg) (hcv.dnn (by simp only [Bool.and_eq_true, decide_eq_true_eq, beq_iff_eq, Bool.true_and, Bool.not_eq_true', decide_eq_false_iff_not] at hg; omega)) (by simp only [Bool.and_eq_true, decide_eq_true_eq, beq_iff_eq, Bool.true_and, Bool.not_eq_true', decide_eq_false_iff_not] at hg; omega))).step) rfl ?_; clear h ac wo; intro ac wo h
  refine gd (j := 3) (c := true) (b := (decide (((m : Nat) : Int) > 0))) (g := (decide (((m : Nat) : Int) > 0))) h rfl rfl g_t (fun hg => (Rd.of_nil (r_ldV (k := 0) Tryz.isAgg291 Tryz.sizeOf291 hcv (dgs_get (n := m) (by simp only [Bool.and_eq_true, decide_eq_true_eq, beq_iff_eq, Bool.true_and, Bool.not_eq_true', decide_eq_false_iff_not] at hg; omega)) (gv_ev rfl hg) rfl rfl rfl (v := (.int .u32 (((vx / 4294967296 ^ (m - 1) % 4294967296) : Nat) : Int))) rfl)).step) rfl ?_; clear h ac wo; intro ac wo h
  refine gd (j := 3) (c := true) (b := (decide (((m : Nat) : Int) > 0))) (g := (decide (((m : Nat) : Int) > 0))) h rfl rfl g_t (fun hg => (Rd.of_nil (r_eql (gv_ev rfl hg) rfl)).step) rfl ?_; clear h ac wo; intro ac wo h
  refine rd0 h (r_and rfl (fun e => (gv_ev rfl e))) rfl ?_; clear h ac wo; intro ac wo h
  refine w_nil ?_
  refine hK4 _ _ ?_
  refine c_if (b := ((decide (((m : Nat) : Int) > 0)) && ((((vx / 4294967296 ^ (m - 1) % 4294967296) : Nat) : Int) == 0))) h rfl (fun hc1 => ?_) (fun hc1 => ?_)
  · skip
    have hq := hc1
    simp only [Bool.and_eq_true, Bool.and_eq_false_iff, decide_eq_true_eq, decide_eq_false_iff_not, beq_iff_eq, beq_eq_false_iff_ne, ne_eq] at hq
    refine c_skip ?_
    refine hK3 _ _ ?_
    refine c_block ?_
    refine c_r ?_
    refine rd0 h (r_move rfl) rfl ?_; clear h ac wo; intro ac wo h
    refine rd0 h (r_move rfl) rfl ?_; clear h ac wo; intro ac wo h
    refine rd0 h (r_len Tryz.runUnderlying289 rfl hcv.dsl) rfl ?_; clear h ac wo; intro ac wo h
    refine rd0 h (r_sub rfl rfl (r := ((m - 1 : Nat) : Int)) (by rw [IntKind.wrap_i64]; omega)) rfl ?_; clear h ac wo; intro ac wo h
    refine rd0 h (r_cut (n := (m - 1)) Tryz.runUnderlying289 Tryz.sizeOf291 rfl rfl hcv (by rw [dgs_length]; omega)) rfl ?_; clear h ac wo; intro ac wo h
    refine rd0 h (r_assign rfl) rfl ?_; clear h ac wo; intro ac wo h
    refine w_nil ?_
    refine b_norm ?_
    exact next_round ⟨_, (by omega), m - 1, rfl, (by omega), (trim_next hvn (by omega) (by omega)), (h.pick [] (by decide)).sub ⟨rfl, (congrArg some (cutv_cut hxv.dsl)), trivial⟩⟩
  · skip
    have hq := hc1
    simp only [Bool.and_eq_true, Bool.and_eq_false_iff, decide_eq_true_eq, decide_eq_false_iff_not, beq_iff_eq, beq_eq_false_iff_ne, ne_eq] at hq
    have hdn : dn vx = m := trim_done hvn (by omega)
    refine c_exit ?_
    refine hK2 _ _ ?_
    refine c_rs fun K5 hK5 => ?_
    refine rd0 h (r_move rfl) rfl ?_; clear h ac wo; intro ac wo h
    refine rd0 h (r_assign rfl) rfl ?_; clear h ac wo; intro ac wo h
    refine w_nil ?_
    refine hK5 _ _ ?_
    refine c_ret ?_
    exact ret (rs := [.tmp 2]) h rfl (.tmp rfl .nil) rfl (h.retP (by rw [hdn]; rfl) trivial)
theorem ig_nat_bytes_ct (nx vx : Nat) (xv : Value) (hv : vx < 4294967296 ^ nx) (hb : nx ≤ 35184372088832) (w0 : World) (hxv : View w0 xv (dgs nx vx)) : Calls Tryz.prog 215 #[xv] w0 (RetP w0 (.string (bs vx)) (True)) := by
  refine enter (N := 46) (args := [xv]) Tryz.func215 rfl rfl ?_; intro ac h
  have hml := (dn_le vx nx).2 hv
  refine c_rs fun K1 hK1 => ?_
  refine rd0 h (r_assign rfl (v := (.string (bs 0)))) rfl ?_; clear h ac; intro ac wo h
  refine w_nil ?_
  refine hK1 _ _ ?_
  refine c_rs fun K2 hK2 => ?_
  refine rd0 h (r_move rfl) rfl ?_; clear h ac wo; intro ac wo h
  refine clq h Tryz.call241 (vs := [xv]) rfl (fun w_ hB_ hS_ => ig_nat_trim_ct nx vx xv hv w_ (hxv.below hB_)) rfl ?_; clear h ac wo; intro ac wo h
  refine rd0 h (r_assign rfl) rfl ?_; clear h ac wo; intro ac wo h
  refine w_nil ?_
  refine hK2 _ _ ?_
  refine c_seq fun K3 hK3 => ?_
  refine c_rs fun K4 hK4 => ?_
  refine rd0 h (r_move rfl) rfl ?_; clear h ac wo; intro ac wo h
  refine rd0 h (r_len Tryz.runUnderlying289 rfl (hxv.cutd hv).dsl) rfl ?_; clear h ac wo; intro ac wo h
  refine rd0 h (r_eql rfl rfl) rfl ?_; clear h ac wo; intro ac wo h
  refine w_nil ?_
  refine hK4 _ _ ?_
  refine c_if (b := ((((dn vx) : Nat) : Int) == 0)) h rfl (fun hc1 => ?_) (fun hc1 => ?_)
  · skip
    have hd1 := eq_of_beq hc1
    refine c_rs fun K5 hK5 => ?_
    refine rd0 h (r_assign rfl (v := (.string (bs 0)))) rfl ?_; clear h ac wo; intro ac wo h
    refine w_nil ?_
    refine hK5 _ _ ?_
    refine c_ret ?_
    have hd : vx = 0 := (by have := (dn_le vx 0).1 (by omega); rw [Nat.pow_zero] at this; omega)
    exact ret (rs := [.tmp 2]) h rfl (.tmp rfl .nil) rfl (h.retP (by rw [hd] <;> rfl) trivial)
  · skip
    have hd1 := ne_of_beq_false hc1
    refine c_skip ?_
    refine hK3 _ _ ?_
    refine c_rs fun K6 hK6 => ?_
    refine rd0 h (r_move rfl) rfl ?_; clear h ac wo; intro ac wo h
    refine rd0 h (r_len Tryz.runUnderlying289 rfl (hxv.cutd hv).dsl) rfl ?_; clear h ac wo; intro ac wo h
    refine rd0 h (r_mul rfl rfl (r := (((4 * dn vx) : Nat) : Int)) (by first | (rw [IntKind.wrap_i64]; omega) | exact wrap_sgn (by omega) (by omega))) rfl ?_; clear h ac wo; intro ac wo h
    refine nw h (s_make (n := (4 * dn vx)) ((0 : UInt8)) rfl slt269 rfl rfl rfl (by omega) (by omega)) rfl ?_; clear h ac wo; intro sv1 ac wo nnsv1 h
    refine rd0 h (r_assign rfl) rfl ?_; clear h ac wo; intro ac wo h
    refine w_nil ?_
    refine hK6 _ _ ?_
    refine c_seq fun K7 hK7 => ?_
    refine c_rs fun K8 hK8 => ?_
    refine rd0 h (r_move rfl) rfl ?_; clear h ac wo; intro ac wo h
    refine rd0 h (r_len Tryz.runUnderlying289 rfl (hxv.cutd hv).dsl) rfl ?_; clear h ac wo; intro ac wo h
    refine rd0 h (r_move rfl (v := (.int .i64 0))) rfl ?_; clear h ac wo; intro ac wo h
    refine w_nil ?_
    refine hK8 _ _ ?_
    refine c_block ?_
    rw [bz_zero _ vx] at h
    refine wp_loop_ghost (fun n_ a_ w_ => ∃ (i : Nat), n_ = dn vx - i ∧ (i ≤ dn vx) ∧ St w0 46 [(0, (cutv xv (dn vx))), (2, (.string (bs 0))), (11, (.bool ((((dn vx) : Nat) : Int) == 0))), (3, sv1), (16, (cutv xv (dn vx))), (17, (.int .i64 (((dn vx) : Nat) : Int))), (18, (.int .i64 ((i : Nat) : Int)))] [.row (α := UInt8) 5 sv1 (bz (4 * dn vx) (4 * i) vx)] a_ w_) _ ⟨0, rfl, (by omega), (h.pick [0] (by decide)).sub ⟨rfl, rfl, rfl, rfl, rfl, rfl, rfl, trivial⟩⟩ ?_
    clear h ac wo; rintro _ ac wo ⟨i, rfl, hi, h⟩
    refine c_rs fun K9 hK9 => ?_
    refine rd0 h (r_lss rfl rfl) rfl ?_; clear h ac wo; intro ac wo h
    refine w_nil ?_
    refine hK9 _ _ ?_
    refine c_seq fun K10 hK10 => ?_
    refine c_if (b := (decide (((i : Nat) : Int) < (((dn vx) : Nat) : Int)))) h rfl (fun hc2 => ?_) (fun hc2 => ?_)
    · skip
      have hd2 := of_decide_eq_true hc2
      refine c_skip ?_
      refine hK10 _ _ ?_
      refine c_seq fun K11 hK11 => ?_
      refine c_block ?_
      refine c_rs fun K12 hK12 => ?_
      refine rd0 h (r_move rfl) rfl ?_; clear h ac wo; intro ac wo h
      refine rd0 h (r_ia (i := i) Tryz.runUnderlying289 Tryz.sizeOf291 rfl rfl ((hxv.cutd hv).dnn (by omega)) (by omega)) rfl ?_; clear h ac wo; intro ac wo h
      refine rd0 h (r_ldV (k := 0) Tryz.isAgg291 Tryz.sizeOf291 (hxv.cutd hv) (dgs_get (n := (dn vx)) (by omega)) rfl rfl rfl rfl (v := (.int .u32 (((vx / 4294967296 ^ i % 4294967296) : Nat) : Int))) rfl) rfl ?_; clear h ac wo; intro ac wo h
      refine rd0 h (r_assign rfl) rfl ?_; clear h ac wo; intro ac wo h
      refine rd0 h (r_assign rfl) rfl ?_; clear h ac wo; intro ac wo h
      refine w_nil ?_
      refine hK12 _ _ ?_
      refine c_rs fun K13 hK13 => ?_
      refine rd0 h (r_move rfl (v := (.int .i64 0))) rfl ?_; clear h ac wo; intro ac wo h
      refine w_nil ?_
      refine hK13 _ _ ?_
      refine c_block ?_
      refine wp_loop_ghost (fun n_ a_ w_ => ∃ (k : Nat), n_ = 4 - k ∧ (k ≤ 4) ∧ St w0 46 [(0, (cutv xv (dn vx))), (2, (.string (bs 0))), (11, (.bool ((((dn vx) : Nat) : Int) == 0))), (3, sv1), (16, (cutv xv (dn vx))), (17, (.int .i64 (((dn vx) : Nat) : Int))), (18, (.int .i64 ((i : Nat) : Int))), (19, (.bool (decide (((i : Nat) : Int) < (((dn vx) : Nat) : Int))))), (4, (.int .i64 ((i : Nat) : Int))), (5, (.int .u32 (((vx / 4294967296 ^ i % 4294967296) : Nat) : Int))), (23, (.int .i64 ((k : Nat) : Int)))] [.row (α := UInt8) 5 sv1 (bz (4 * dn vx) (4 * i + k) vx)] a_ w_) _ ⟨0, rfl, (by omega), (h.pick [0] (by decide)).sub ⟨rfl, rfl, rfl, rfl, rfl, rfl, rfl, rfl, rfl, rfl, rfl, trivial⟩⟩ ?_
      clear h ac wo; rintro _ ac wo ⟨k, rfl, hk, h⟩
      refine c_rs fun K14 hK14 => ?_
      refine rd0 h (r_lss rfl rfl) rfl ?_; clear h ac wo; intro ac wo h
      refine w_nil ?_
      refine hK14 _ _ ?_
      refine c_seq fun K15 hK15 => ?_
      refine c_if (b := (decide (((k : Nat) : Int) < 4))) h rfl (fun hc3 => ?_) (fun hc3 => ?_)
      · skip
        have hd3 := of_decide_eq_true hc3
        refine c_skip ?_
        refine hK15 _ _ ?_
        refine c_seq fun K16 hK16 => ?_
        refine c_block ?_
        refine c_rs fun K17 hK17 => ?_
        refine rd0 h (r_move rfl) rfl ?_; clear h ac wo; intro ac wo h
        refine rd0 h (r_assign rfl) rfl ?_; clear h ac wo; intro ac wo h
        refine w_nil ?_
        refine hK17 _ _ ?_
        refine c_r ?_
        refine rd0 h (r_move rfl) rfl ?_; clear h ac wo; intro ac wo h
        refine rd0 h (r_move rfl) rfl ?_; clear h ac wo; intro ac wo h
        refine rd0 h (r_len Tryz.runUnderlying269 rfl nnsv1.sl) rfl ?_; clear h ac wo; intro ac wo h
        refine rd0 h (r_sub rfl rfl (r := ((4 * dn vx - 1 : Nat) : Int)) (by rw [IntKind.wrap_i64]; omega)) rfl ?_; clear h ac wo; intro ac wo h
        refine rd0 h (r_move rfl) rfl ?_; clear h ac wo; intro ac wo h
        refine rd0 h (r_mul rfl rfl (r := ((4 * i : Nat) : Int)) (by first | (rw [IntKind.wrap_i64]; omega) | exact wrap_sgn (by omega) (by omega))) rfl ?_; clear h ac wo; intro ac wo h
        refine rd0 h (r_sub rfl rfl (r := ((4 * dn vx - 1 - 4 * i : Nat) : Int)) (by rw [IntKind.wrap_i64]; omega)) rfl ?_; clear h ac wo; intro ac wo h
        refine rd0 h (r_move rfl) rfl ?_; clear h ac wo; intro ac wo h
        refine rd0 h (r_sub rfl rfl (r := (((4 * dn vx - 1 - (4 * i + k)) : Nat) : Int)) (by rw [IntKind.wrap_i64]; omega)) rfl ?_; clear h ac wo; intro ac wo h
        refine rd0 h (r_move rfl) rfl ?_; clear h ac wo; intro ac wo h
        refine rd0 h (r_move rfl) rfl ?_; clear h ac wo; intro ac wo h
        refine rd0 h (r_mul rfl rfl (r := ((8 * k : Nat) : Int)) (by first | (rw [IntKind.wrap_i64]; omega) | exact wrap_sgn (by omega) (by omega))) rfl ?_; clear h ac wo; intro ac wo h
        refine rd0 h (r_shr rfl rfl (r := (((vx / 4294967296 ^ i % 4294967296 / 256 ^ k) : Nat) : Int)) (by omega) (by simp [IntKind.bits] <;> omega) (by rw [show (((8 * k : Nat) : Int)).toNat = 8 * k by omega, pow256]; simp)) rfl ?_; clear h ac wo; intro ac wo h
        refine rd0 h (r_convInt Tryz.runUnderlying291 Tryz.runUnderlying5 rfl (r := ((UInt8.ofNat ((vx / 4294967296 ^ i % 4294967296 / 256 ^ k) % 256)).toNat : Int)) (by rw [IntKind.wrap_u8, UInt8.toNat_ofNat']; omega)) rfl ?_; clear h ac wo; intro ac wo h
        refine rd0 h (r_ia (i := (4 * dn vx - 1 - (4 * i + k))) Tryz.runUnderlying269 Tryz.sizeOf5 rfl rfl nnsv1 (by omega)) rfl ?_; clear h ac wo; intro ac wo h
        refine up h 0 rfl (s_stR (k := 0) (u' := (UInt8.ofNat ((vx / 4294967296 ^ i % 4294967296 / 256 ^ k) % 256))) Tryz.sizeOf5 (bz_get (by omega)) rfl rfl rfl rfl rfl rfl rfl rfl) ?_; clear h ac wo; intro ac wo h
        replace h := h.rowEq 0 rfl (bz_next (by omega) (by rw [digit_byte _ _ _ (by omega)]))
        refine w_nil ?_
        refine b_norm ?_
        refine hK16 _ _ ?_
        refine c_r ?_
        refine rd0 h (r_add rfl rfl (r := ((k + 1 : Nat) : Int)) (by rw [IntKind.wrap_i64]; omega)) rfl ?_; clear h ac wo; intro ac wo h
        refine rd0 h (r_move rfl) rfl ?_; clear h ac wo; intro ac wo h
        refine w_nil ?_
        exact next_round ⟨_, (by omega), k + 1, rfl, (by omega), (h.pick [0] (by decide)).sub ⟨rfl, rfl, rfl, rfl, rfl, rfl, rfl, rfl, rfl, rfl, rfl, trivial⟩⟩
      · skip
        have hd3 := of_decide_eq_false hc3
        refine c_exit ?_
        refine hK11 _ _ ?_
        refine c_r ?_
        rw [show 4 * i + k = 4 * (i + 1) by omega] at h
        refine rd0 h (r_add rfl rfl (r := ((i + 1 : Nat) : Int)) (by rw [IntKind.wrap_i64]; omega)) rfl ?_; clear h ac wo; intro ac wo h
        refine rd0 h (r_move rfl) rfl ?_; clear h ac wo; intro ac wo h
        refine w_nil ?_
        exact next_round ⟨_, (by omega), i + 1, rfl, (by omega), (h.pick [0] (by decide)).sub ⟨rfl, rfl, rfl, rfl, rfl, rfl, rfl, trivial⟩⟩
    · skip
      have hd2 := of_decide_eq_false hc2
      refine c_exit ?_
      refine hK7 _ _ ?_
      refine c_rs fun K18 hK18 => ?_
      have hie : i = dn vx := by omega
      subst hie
      have h256 : vx < 256 ^ (4 * dn vx) := dn_pow.1 (dn_lt vx)
      refine rd0 h (r_move rfl) rfl ?_; clear h ac wo; intro ac wo h
      refine rd1 h 0 rfl (r_str Tryz.underlying269 Tryz.underlying5 Tryz.underlying9 rfl) rfl ?_; clear h ac wo; intro ac wo h
      refine clp h Tryz.call242 (vs := [(.string ⟨(bz (4 * dn vx) (4 * dn vx) vx).toArray⟩), (.string ⟨#[0]⟩)]) rfl (tl_bs h256) rfl ?_; clear h ac wo; intro ac wo h
      refine rd0 h (r_assign rfl) rfl ?_; clear h ac wo; intro ac wo h
      refine w_nil ?_
      refine hK18 _ _ ?_
      refine c_ret ?_
      have hd : vx = vx := rfl
      exact ret (rs := [.tmp 2]) h rfl (.tmp rfl .nil) rfl (h.retP (by rw [hd] <;> rfl) trivial)
def cmp_isNaN_int (x : Int) : Bool :=
  (x != x)
theorem cmp_isNaN_int_ct (x : Int) (w0 : World) : Calls Tryz.prog 186 #[(.int .i64 x)] w0 (RetP w0 (.bool (cmp_isNaN_int x)) (True)) := by
  refine enter (N := 6) (args := [(.int .i64 x)]) Tryz.func186 rfl rfl ?_; intro ac h
  refine c_rs fun K1 hK1 => ?_
  refine rd0 h (r_assign rfl (v := (.bool false))) rfl ?_; clear h ac; intro ac wo h
  refine w_nil ?_
  refine hK1 _ _ ?_
  refine c_rs fun K2 hK2 => ?_
  refine rd0 h (r_move rfl) rfl ?_; clear h ac wo; intro ac wo h
  refine rd0 h (r_move rfl) rfl ?_; clear h ac wo; intro ac wo h
  refine rd0 h (r_neq rfl rfl) rfl ?_; clear h ac wo; intro ac wo h
  refine rd0 h (r_assign rfl) rfl ?_; clear h ac wo; intro ac wo h
  refine w_nil ?_
  refine hK2 _ _ ?_
  refine c_ret ?_
  have hd : cmp_isNaN_int x = (x != x) := rfl
  exact ret (rs := [.tmp 2]) h rfl (.tmp rfl .nil) rfl (h.retP (by rw [hd] <;> rfl) trivial)
def cmpInt (x : Int) (y : Int) : Int :=
  bif (cmp_isNaN_int x) then
    bif (cmp_isNaN_int y) then
      0
    else
      (-1)
  else
    bif (cmp_isNaN_int y) then
      1
    else
      bif (decide (x < y)) then
        (-1)
      else
        bif (decide (x > y)) then
          1
        else
          0
theorem cmpInt_ct (x : Int) (y : Int) (w0 : World) : Calls Tryz.prog 149 #[(.int .i64 x), (.int .i64 y)] w0 (RetP w0 (.int .i64 (cmpInt x y)) ((-1 ≤ (cmpInt x y) ∧ (cmpInt x y) ≤ 1))) := by
  refine enter (N := 20) (args := [(.int .i64 x), (.int .i64 y)]) Tryz.func149 rfl rfl ?_; intro ac h
  refine c_rs fun K1 hK1 => ?_
  refine rd0 h (r_assign rfl (v := (.int .i64 0))) rfl ?_; clear h ac; intro ac wo h
  refine w_nil ?_
  refine hK1 _ _ ?_
  refine c_rs fun K2 hK2 => ?_
  refine rd0 h (r_move rfl) rfl ?_; clear h ac wo; intro ac wo h
  refine clp h Tryz.call186 (vs := [(.int .i64 x)]) rfl (cmp_isNaN_int_ct x) rfl ?_; clear h ac wo; intro ac wo h
  refine rd0 h (r_assign rfl) rfl ?_; clear h ac wo; intro ac wo h
  refine w_nil ?_
  refine hK2 _ _ ?_
  refine c_rs fun K3 hK3 => ?_
  refine rd0 h (r_move rfl) rfl ?_; clear h ac wo; intro ac wo h
  refine clp h Tryz.call186 (vs := [(.int .i64 y)]) rfl (cmp_isNaN_int_ct y) rfl ?_; clear h ac wo; intro ac wo h
  refine rd0 h (r_assign rfl) rfl ?_; clear h ac wo; intro ac wo h
  refine w_nil ?_
  refine hK3 _ _ ?_
  refine c_seq fun K4 hK4 => ?_
  refine c_rs fun K5 hK5 => ?_
  refine rd0 h (r_move rfl) rfl ?_; clear h ac wo; intro ac wo h
  refine w_nil ?_
  refine hK5 _ _ ?_
  refine c_if (b := (cmp_isNaN_int x)) h rfl (fun hc1 => ?_) (fun hc1 => ?_)
  · skip
    refine c_seq fun K6 hK6 => ?_
    refine c_rs fun K7 hK7 => ?_
    refine rd0 h (r_move rfl) rfl ?_; clear h ac wo; intro ac wo h
    refine w_nil ?_
    refine hK7 _ _ ?_
    refine c_if (b := (cmp_isNaN_int y)) h rfl (fun hc2 => ?_) (fun hc2 => ?_)
    · skip
      refine c_rs fun K8 hK8 => ?_
      refine rd0 h (r_assign rfl (v := (.int .i64 0))) rfl ?_; clear h ac wo; intro ac wo h
      refine w_nil ?_
      refine hK8 _ _ ?_
      refine c_ret ?_
      have hd : cmpInt x y = 0 := (Eq.trans (cT hc1) (cT hc2))
      exact ret (rs := [.tmp 4]) h rfl (.tmp rfl .nil) rfl (h.retP (by rw [hd] <;> rfl) (by rw [hd]; exact by first | omega | exact sgn_mul (by omega) (by omega)))
    · skip
      refine c_skip ?_
      refine hK6 _ _ ?_
      refine c_rs fun K9 hK9 => ?_
      refine rd0 h (r_assign rfl (v := (.int .i64 (-1)))) rfl ?_; clear h ac wo; intro ac wo h
      refine w_nil ?_
      refine hK9 _ _ ?_
      refine c_ret ?_
      have hd : cmpInt x y = (-1) := (Eq.trans (cT hc1) (cF hc2))
      exact ret (rs := [.tmp 4]) h rfl (.tmp rfl .nil) rfl (h.retP (by rw [hd] <;> rfl) (by rw [hd]; exact by first | omega | exact sgn_mul (by omega) (by omega)))
  · skip
    refine c_skip ?_
    refine hK4 _ _ ?_
    refine c_seq fun K10 hK10 => ?_
    refine c_rs fun K11 hK11 => ?_
    refine rd0 h (r_move rfl) rfl ?_; clear h ac wo; intro ac wo h
    refine w_nil ?_
    refine hK11 _ _ ?_
    refine c_if (b := (cmp_isNaN_int y)) h rfl (fun hc3 => ?_) (fun hc3 => ?_)
    · skip
      refine c_rs fun K12 hK12 => ?_
      refine rd0 h (r_assign rfl (v := (.int .i64 1))) rfl ?_; clear h ac wo; intro ac wo h
      refine w_nil ?_
      refine hK12 _ _ ?_
      refine c_ret ?_
      have hd : cmpInt x y = 1 := (Eq.trans (cF hc1) (cT hc3))
      exact ret (rs := [.tmp 4]) h rfl (.tmp rfl .nil) rfl (h.retP (by rw [hd] <;> rfl) (by rw [hd]; exact by first | omega | exact sgn_mul (by omega) (by omega)))
    · skip
      refine c_skip ?_
      refine hK10 _ _ ?_
      refine c_seq fun K13 hK13 => ?_
      refine c_rs fun K14 hK14 => ?_
      refine rd0 h (r_move rfl) rfl ?_; clear h ac wo; intro ac wo h
      refine rd0 h (r_move rfl) rfl ?_; clear h ac wo; intro ac wo h
      refine rd0 h (r_lss rfl rfl) rfl ?_; clear h ac wo; intro ac wo h
      refine w_nil ?_
      refine hK14 _ _ ?_
      refine c_if (b := (decide (x < y))) h rfl (fun hc4 => ?_) (fun hc4 => ?_)
      · skip
        have hd4 := of_decide_eq_true hc4
        refine c_rs fun K15 hK15 => ?_
        refine rd0 h (r_assign rfl (v := (.int .i64 (-1)))) rfl ?_; clear h ac wo; intro ac wo h
        refine w_nil ?_
        refine hK15 _ _ ?_
        refine c_ret ?_
        have hd : cmpInt x y = (-1) := (Eq.trans (cF hc1) (Eq.trans (cF hc3) (cT hc4)))
        exact ret (rs := [.tmp 4]) h rfl (.tmp rfl .nil) rfl (h.retP (by rw [hd] <;> rfl) (by rw [hd]; exact by first | omega | exact sgn_mul (by omega) (by omega)))
      · skip
        have hd4 := of_decide_eq_false hc4
        refine c_skip ?_
        refine hK13 _ _ ?_
        refine c_seq fun K16 hK16 => ?_
        refine c_rs fun K17 hK17 => ?_
        refine rd0 h (r_move rfl) rfl ?_; clear h ac wo; intro ac wo h
        refine rd0 h (r_move rfl) rfl ?_; clear h ac wo; intro ac wo h
        refine rd0 h (r_gtr rfl rfl) rfl ?_; clear h ac wo; intro ac wo h
        refine w_nil ?_
        refine hK17 _ _ ?_
        refine c_if (b := (decide (x > y))) h rfl (fun hc5 => ?_) (fun hc5 => ?_)
        · skip
          have hd5 := of_decide_eq_true hc5
          refine c_rs fun K18 hK18 => ?_
          refine rd0 h (r_assign rfl (v := (.int .i64 1))) rfl ?_; clear h ac wo; intro ac wo h
          refine w_nil ?_
          refine hK18 _ _ ?_
          refine c_ret ?_
          have hd : cmpInt x y = 1 := (Eq.trans (cF hc1) (Eq.trans (cF hc3) (Eq.trans (cF hc4) (cT hc5))))
          exact ret (rs := [.tmp 4]) h rfl (.tmp rfl .nil) rfl (h.retP (by rw [hd] <;> rfl) (by rw [hd]; exact by first | omega | exact sgn_mul (by omega) (by omega)))
        · skip
          have hd5 := of_decide_eq_false hc5
          refine c_skip ?_
          refine hK16 _ _ ?_
          refine c_rs fun K19 hK19 => ?_
          refine rd0 h (r_assign rfl (v := (.int .i64 0))) rfl ?_; clear h ac wo; intro ac wo h
          refine w_nil ?_
          refine hK19 _ _ ?_
          refine c_ret ?_
          have hd : cmpInt x y = 0 := (Eq.trans (cF hc1) (Eq.trans (cF hc3) (Eq.trans (cF hc4) (cF hc5))))
          exact ret (rs := [.tmp 4]) h rfl (.tmp rfl .nil) rfl (h.retP (by rw [hd] <;> rfl) (by rw [hd]; exact by first | omega | exact sgn_mul (by omega) (by omega)))
theorem cmpInt_eq (x y : Int) : cmpInt x y = if x < y then -1 else if x > y then 1 else 0 := by
  unfold cmpInt cmp_isNaN_int
  by_cases h1 : x < y
  · simp [h1]
  · by_cases h2 : y < x
    · simp [h1, h2]
    · simp [h1, h2]
theorem ig_compare_le (a b : Nat) : -1 ≤ ig_compare a b ∧ ig_compare a b ≤ 1 := by
  unfold ig_compare
  cases Nat.blt a b <;> cases Nat.beq a b <;> simp
theorem cmp_all (a b : Nat) : or2 (cmpInt ((bs a).size : Int) ((bs b).size : Int)) (Lib.compareBytes (bs a).data.toList (bs b).data.toList) = ig_compare a b := by
  rw [cmpInt_eq, ← cmp_bytes]
  congr 1
  simp
theorem cmp_Or_int_ct (u v : Int) (xv : Value) (w0 : World) (hxv : View w0 xv [u, v]) : Calls Tryz.prog 148 #[xv] w0 (RetP w0 (.int .i64 (or2 u v)) (True)) := by
  refine enter (N := 18) (args := [xv]) Tryz.func148 rfl rfl ?_; intro ac h
  refine c_rs fun K1 hK1 => ?_
  refine rd0 h (r_assign rfl (v := (.int .i64 0))) rfl ?_; clear h ac; intro ac wo h
  refine w_nil ?_
  refine hK1 _ _ ?_
  refine c_rs fun K2 hK2 => ?_
  refine rd0 h (r_assign rfl (v := (.int .i64 0))) rfl ?_; clear h ac wo; intro ac wo h
  refine w_nil ?_
  refine hK2 _ _ ?_
  refine c_seq fun K3 hK3 => ?_
  refine c_rs fun K4 hK4 => ?_
  refine rd0 h (r_move rfl) rfl ?_; clear h ac wo; intro ac wo h
  refine rd0 h (r_len Tryz.runUnderlying256 rfl hxv.sl) rfl ?_; clear h ac wo; intro ac wo h
  refine rd0 h (r_move rfl (v := (.int .i64 0))) rfl ?_; clear h ac wo; intro ac wo h
  refine w_nil ?_
  refine hK4 _ _ ?_
  refine c_block ?_
  refine wp_loop_ghost (fun n_ a_ w_ => ∃ (i : Nat), n_ = 2 - i ∧ (i ≤ 2) ∧ (0 < i → u = 0) ∧ (1 < i → v = 0) ∧ St w0 18 [(0, xv), (3, (.int .i64 0)), (6, xv), (7, (.int .i64 ((2 : Nat) : Int))), (8, (.int .i64 ((i : Nat) : Int)))] [] a_ w_) _ ⟨0, rfl, (by omega), (fun h => absurd h (by decide)), (fun h => absurd h (by decide)), (h.pick [] (by decide)).sub ⟨rfl, rfl, rfl, rfl, rfl, trivial⟩⟩ ?_
  clear h ac wo; rintro _ ac wo ⟨i, rfl, hi, hu, hv, h⟩
  refine c_rs fun K5 hK5 => ?_
  refine rd0 h (r_lss rfl rfl) rfl ?_; clear h ac wo; intro ac wo h
  refine w_nil ?_
  refine hK5 _ _ ?_
  refine c_seq fun K6 hK6 => ?_
  refine c_if (b := (decide (((i : Nat) : Int) < ((2 : Nat) : Int)))) h rfl (fun hc1 => ?_) (fun hc1 => ?_)
  · skip
    have hd1 := of_decide_eq_true hc1
    refine c_skip ?_
    refine hK6 _ _ ?_
    refine c_seq fun K7 hK7 => ?_
    refine c_block ?_
    refine c_rs fun K8 hK8 => ?_
    refine rd0 h (r_ia (i := i) Tryz.runUnderlying256 Tryz.sizeOf3 rfl rfl (show NN xv 2 from hxv.nn (i := 0) (by simp)) (by omega)) rfl ?_; clear h ac wo; intro ac wo h
    refine rd0 h (r_ldV (k := 0) Tryz.isAgg3 Tryz.sizeOf3 hxv (two_get (by omega)) rfl rfl rfl rfl (v := (.int .i64 (if i = 0 then u else v))) rfl) rfl ?_; clear h ac wo; intro ac wo h
    refine rd0 h (r_assign rfl) rfl ?_; clear h ac wo; intro ac wo h
    refine w_nil ?_
    refine hK8 _ _ ?_
    refine c_rs fun K9 hK9 => ?_
    refine rd0 h (r_move rfl) rfl ?_; clear h ac wo; intro ac wo h
    refine rd0 h (r_move rfl) rfl ?_; clear h ac wo; intro ac wo h
    refine rd0 h (r_neq rfl rfl) rfl ?_; clear h ac wo; intro ac wo h
    refine w_nil ?_
    refine hK9 _ _ ?_
    refine c_if (b := ((if i = 0 then u else v) != 0)) h rfl (fun hc2 => ?_) (fun hc2 => ?_)
    · skip
      have hd2 := hc2; simp only [bne_iff_ne, ne_eq] at hd2
      refine c_rs fun K10 hK10 => ?_
      refine rd0 h (r_move rfl) rfl ?_; clear h ac wo; intro ac wo h
      refine rd0 h (r_assign rfl) rfl ?_; clear h ac wo; intro ac wo h
      refine w_nil ?_
      refine hK10 _ _ ?_
      refine c_ret ?_
      have hd : or2 u v = (if i = 0 then u else v) := (by unfold or2; split at hd2 <;> split <;> simp_all)
      exact ret (rs := [.tmp 2]) h rfl (.tmp rfl .nil) rfl (h.retP (by rw [hd] <;> rfl) trivial)
    · skip
      have hq := hc2; simp only [bne_eq_false_iff_eq] at hq
      refine c_skip ?_
      refine b_norm ?_
      refine hK7 _ _ ?_
      refine c_r ?_
      refine rd0 h (r_add rfl rfl (r := ((i + 1 : Nat) : Int)) (by rw [IntKind.wrap_i64]; omega)) rfl ?_; clear h ac wo; intro ac wo h
      refine rd0 h (r_move rfl) rfl ?_; clear h ac wo; intro ac wo h
      refine w_nil ?_
      exact next_round ⟨_, (by omega), i + 1, rfl, (by omega), (by intro _; split at hq <;> omega), (by intro _; split at hq <;> omega), (h.pick [] (by decide)).sub ⟨rfl, rfl, rfl, rfl, rfl, trivial⟩⟩
  · skip
    have hd1 := of_decide_eq_false hc1
    refine c_exit ?_
    refine hK3 _ _ ?_
    refine c_rs fun K11 hK11 => ?_
    refine rd0 h (r_move rfl) rfl ?_; clear h ac wo; intro ac wo h
    refine rd0 h (r_assign rfl) rfl ?_; clear h ac wo; intro ac wo h
    refine w_nil ?_
    refine hK11 _ _ ?_
    refine c_ret ?_
    have hd : or2 u v = 0 := (by rw [hu (by omega), hv (by omega)]; rfl)
    exact ret (rs := [.tmp 2]) h rfl (.tmp rfl .nil) rfl (h.retP (by rw [hd] <;> rfl) trivial)
theorem ig_compare_ct (a : Nat) (b : Nat) (w0 : World) : Calls Tryz.prog 191 #[(.string (bs a)), (.string (bs b))] w0 (RetP w0 (.int .i64 (ig_compare a b)) ((-1 ≤ (ig_compare a b) ∧ (ig_compare a b) ≤ 1))) := by
  refine enter (N := 15) (args := [(.string (bs a)), (.string (bs b))]) Tryz.func191 rfl rfl ?_; intro ac h
  refine c_rs fun K1 hK1 => ?_
  refine rd0 h (r_assign rfl (v := (.int .i64 0))) rfl ?_; clear h ac; intro ac wo h
  refine w_nil ?_
  refine hK1 _ _ ?_
  refine c_rs fun K2 hK2 => ?_
  refine rd0 h (r_move rfl) rfl ?_; clear h ac wo; intro ac wo h
  refine rd0 h (r_lenS Tryz.runUnderlying9 rfl) rfl ?_; clear h ac wo; intro ac wo h
  refine rd0 h (r_move rfl) rfl ?_; clear h ac wo; intro ac wo h
  refine rd0 h (r_lenS Tryz.runUnderlying9 rfl) rfl ?_; clear h ac wo; intro ac wo h
  have p2 := Calls_pr ((cmpInt_ct ((bs a).size : Int) ((bs b).size : Int)) w0)
  refine clp h Tryz.call149 (vs := [(.int .i64 ((bs a).size : Int)), (.int .i64 ((bs b).size : Int))]) rfl (cmpInt_ct ((bs a).size : Int) ((bs b).size : Int)) rfl ?_; clear h ac wo; intro ac wo h
  refine rd0 h (r_move rfl) rfl ?_; clear h ac wo; intro ac wo h
  refine rd0 h (r_move rfl) rfl ?_; clear h ac wo; intro ac wo h
  refine clp h Tryz.call217 (vs := [(.string (bs a)), (.string (bs b))]) rfl (strings_Compare_ct a b) rfl ?_; clear h ac wo; intro ac wo h
  refine nw h (s_slice2 (u := (cmpInt ((bs a).size : Int) ((bs b).size : Int))) (v := (Lib.compareBytes (bs a).data.toList (bs b).data.toList)) slt256 rfl rfl) rfl ?_; clear h ac wo; intro sv3 ac wo nnsv3 h
  refine clq h Tryz.call148 (vs := [sv3]) rfl (fun w_ hB_ hS_ => cmp_Or_int_ct (cmpInt ((bs a).size : Int) ((bs b).size : Int)) (Lib.compareBytes (bs a).data.toList (bs b).data.toList) sv3 w_ (row_view hS_ 0 rfl)) rfl ?_; clear h ac wo; intro ac wo h
  refine rd0 h (r_assign rfl) rfl ?_; clear h ac wo; intro ac wo h
  refine w_nil ?_
  refine hK2 _ _ ?_
  refine c_ret ?_
  have hd : ig_compare a b = (or2 (cmpInt ((bs a).size : Int) ((bs b).size : Int)) (Lib.compareBytes (bs a).data.toList (bs b).data.toList)) := (cmp_all a b).symm
  exact ret (rs := [.tmp 4]) h rfl (.tmp rfl .nil) rfl (h.retP (by rw [hd] <;> rfl) (by rw [hd]; exact (by rw [cmp_all]; exact ig_compare_le a b)))
theorem ig_nat_shifted_ct (nx vx : Nat) (xv : Value) (s : Nat) (hv : vx < 4294967296 ^ nx) (hs : s ≤ 31) (hb : nx ≤ 17592186044417) (w0 : World) (hxv : View w0 xv (dgs nx vx)) : Calls Tryz.prog 221 #[xv, (.int .i64 ((s : Nat) : Int))] w0 (RetR w0 291 (dgs (nx + 1) (vx * 2 ^ s)) (True)) := by
  refine enter (N := 41) (args := [xv, (.int .i64 ((s : Nat) : Int))]) Tryz.func221 rfl rfl ?_; intro ac h
  have hs32 : s ≤ 32 := by omega
  refine c_rs fun K1 hK1 => ?_
  refine rd0 h (r_assign rfl (v := (.slice none 0 0))) rfl ?_; clear h ac; intro ac wo h
  refine w_nil ?_
  refine hK1 _ _ ?_
  refine c_rs fun K2 hK2 => ?_
  refine rd0 h (r_move rfl) rfl ?_; clear h ac wo; intro ac wo h
  refine rd0 h (r_len Tryz.runUnderlying289 rfl hxv.dsl) rfl ?_; clear h ac wo; intro ac wo h
  refine rd0 h (r_add rfl rfl (r := ((nx + 1 : Nat) : Int)) (by rw [IntKind.wrap_i64]; omega)) rfl ?_; clear h ac wo; intro ac wo h
  refine nw h (s_make (n := (nx + 1)) ((0 : Nat)) rfl slt289 rfl rfl rfl (by omega) (by omega)) rfl ?_; clear h ac wo; intro sv1 ac wo nnsv1 h
  refine rd0 h (r_assign rfl) rfl ?_; clear h ac wo; intro ac wo h
  refine w_nil ?_
  refine hK2 _ _ ?_
  refine c_seq fun K3 hK3 => ?_
  refine c_rs fun K4 hK4 => ?_
  refine rd0 h (r_move rfl) rfl ?_; clear h ac wo; intro ac wo h
  refine rd0 h (r_len Tryz.runUnderlying289 rfl hxv.dsl) rfl ?_; clear h ac wo; intro ac wo h
  refine rd0 h (r_move rfl (v := (.int .i64 0))) rfl ?_; clear h ac wo; intro ac wo h
  refine w_nil ?_
  refine hK4 _ _ ?_
  refine c_block ?_
  replace h := h.rowEq 0 rfl (by rw [show vx % 4294967296 ^ 0 * 2 ^ s = 0 by simp [Nat.mod_one]]; exact (dgs_zero _).symm : (List.replicate (nx + 1) (0 : Nat)) = (dgs (nx + 1) (vx % 4294967296 ^ 0 * 2 ^ s)))
  refine wp_loop_ghost (fun n_ a_ w_ => ∃ (i : Nat), n_ = nx - i ∧ (i ≤ nx) ∧ St w0 41 [(0, xv), (1, (.int .i64 ((s : Nat) : Int))), (4, (.slice none 0 0)), (5, sv1), (13, xv), (14, (.int .i64 ((nx : Nat) : Int))), (15, (.int .i64 ((i : Nat) : Int)))] [.row (α := Nat) 291 sv1 (dgs (nx + 1) (vx % 4294967296 ^ i * 2 ^ s))] a_ w_) _ ⟨0, rfl, (by omega), (h.pick [0] (by decide)).sub ⟨rfl, rfl, rfl, rfl, rfl, rfl, rfl, trivial⟩⟩ ?_
  clear h ac wo; rintro _ ac wo ⟨i, rfl, hi, h⟩
  refine c_rs fun K5 hK5 => ?_
  refine rd0 h (r_lss rfl rfl) rfl ?_; clear h ac wo; intro ac wo h
  refine w_nil ?_
  refine hK5 _ _ ?_
  refine c_seq fun K6 hK6 => ?_
  refine c_if (b := (decide (((i : Nat) : Int) < ((nx : Nat) : Int)))) h rfl (fun hc1 => ?_) (fun hc1 => ?_)
  · skip
    have hd1 := of_decide_eq_true hc1
    refine c_skip ?_
    refine hK6 _ _ ?_
    refine c_seq fun K7 hK7 => ?_
    refine c_block ?_
    refine c_rs fun K8 hK8 => ?_
    refine rd0 h (r_move rfl) rfl ?_; clear h ac wo; intro ac wo h
    refine rd0 h (r_ia (i := i) Tryz.runUnderlying289 Tryz.sizeOf291 rfl rfl (hxv.dnn (by omega)) (by omega)) rfl ?_; clear h ac wo; intro ac wo h
    refine rd0 h (r_ldV (k := 0) Tryz.isAgg291 Tryz.sizeOf291 hxv (dgs_get (n := nx) (by omega)) rfl rfl rfl rfl (v := (.int .u32 (((vx / 4294967296 ^ i % 4294967296) : Nat) : Int))) rfl) rfl ?_; clear h ac wo; intro ac wo h
    refine rd0 h (r_assign rfl) rfl ?_; clear h ac wo; intro ac wo h
    refine rd0 h (r_assign rfl) rfl ?_; clear h ac wo; intro ac wo h
    refine w_nil ?_
    refine hK8 _ _ ?_
    refine c_rs fun K9 hK9 => ?_
    have hw : ((vx / 4294967296 ^ i % 4294967296) * 2 ^ s) < 18446744073709551616 := sh_word hs32 (Nat.mod_lt _ (by decide))
    refine rd0 h (r_move rfl) rfl ?_; clear h ac wo; intro ac wo h
    refine rd0 h (r_convInt Tryz.runUnderlying291 Tryz.runUnderlying234 rfl (r := (((vx / 4294967296 ^ i % 4294967296) : Nat) : Int)) (by rw [IntKind.wrap_u64]; omega)) rfl ?_; clear h ac wo; intro ac wo h
    refine rd0 h (r_move rfl) rfl ?_; clear h ac wo; intro ac wo h
    refine rd0 h (r_shl rfl rfl (r := ((((vx / 4294967296 ^ i % 4294967296) * 2 ^ s) : Nat) : Int)) (by omega) (by simp [IntKind.bits] <;> omega) (wshl64 rfl hw)) rfl ?_; clear h ac wo; intro ac wo h
    refine rd0 h (r_assign rfl) rfl ?_; clear h ac wo; intro ac wo h
    refine w_nil ?_
    refine hK9 _ _ ?_
    refine c_rs fun K10 hK10 => ?_
    refine rd0 h (r_move rfl) rfl ?_; clear h ac wo; intro ac wo h
    refine rd0 h (r_move rfl) rfl ?_; clear h ac wo; intro ac wo h
    refine rd0 h (r_ia (i := i) Tryz.runUnderlying289 Tryz.sizeOf291 rfl rfl (h.dnn 0 rfl (by omega)) (by omega)) rfl ?_; clear h ac wo; intro ac wo h
    refine rd1 h 0 rfl (r_ldR (k := 0) Tryz.isAgg291 Tryz.sizeOf291 (sh_get hs32 (by omega)) rfl rfl rfl rfl (v := (.int .u32 (((shc vx s i) : Nat) : Int))) rfl) rfl ?_; clear h ac wo; intro ac wo h
    refine rd0 h (r_move rfl) rfl ?_; clear h ac wo; intro ac wo h
    refine rd0 h (r_convInt Tryz.runUnderlying234 Tryz.runUnderlying291 rfl (r := ((((vx / 4294967296 ^ i % 4294967296) * 2 ^ s) % 4294967296 : Nat) : Int)) (by rw [IntKind.wrap_u32']; omega)) rfl ?_; clear h ac wo; intro ac wo h
    refine rd0 h (r_or' rfl rfl (r := ((shc vx s i + ((vx / 4294967296 ^ i % 4294967296) * 2 ^ s) % 4294967296 : Nat) : Int)) (sh_or hs32)) rfl ?_; clear h ac wo; intro ac wo h
    refine rd0 h (r_ia (i := i) Tryz.runUnderlying289 Tryz.sizeOf291 rfl rfl (h.dnn 0 rfl (by omega)) (by omega)) rfl ?_; clear h ac wo; intro ac wo h
    refine up h 0 rfl (s_stR (k := 0) (u' := (shc vx s i + ((vx / 4294967296 ^ i % 4294967296) * 2 ^ s) % 4294967296)) Tryz.sizeOf291 (sh_get hs32 (by omega)) rfl rfl rfl rfl rfl rfl rfl rfl) ?_; clear h ac wo; intro ac wo h
    replace h := h.rowEq 0 rfl (sh_set1 hs32)
    refine w_nil ?_
    refine hK10 _ _ ?_
    refine c_r ?_
    refine rd0 h (r_move rfl) rfl ?_; clear h ac wo; intro ac wo h
    refine rd0 h (r_move rfl) rfl ?_; clear h ac wo; intro ac wo h
    refine rd0 h (r_add rfl rfl (r := ((i + 1 : Nat) : Int)) (by rw [IntKind.wrap_i64]; omega)) rfl ?_; clear h ac wo; intro ac wo h
    refine rd0 h (r_move rfl) rfl ?_; clear h ac wo; intro ac wo h
    refine rd0 h (r_shr rfl rfl (r := ((((vx / 4294967296 ^ i % 4294967296) * 2 ^ s) / 4294967296 : Nat) : Int)) (by decide) (by decide) (by rw [show (2 : Int) ^ ((32 : Int)).toNat = 4294967296 from rfl]; omega)) rfl ?_; clear h ac wo; intro ac wo h
    refine rd0 h (r_convInt Tryz.runUnderlying234 Tryz.runUnderlying291 rfl (r := ((((vx / 4294967296 ^ i % 4294967296) * 2 ^ s) / 4294967296 : Nat) : Int)) (by rw [IntKind.wrap_u32']; omega)) rfl ?_; clear h ac wo; intro ac wo h
    refine rd0 h (r_ia (i := (i + 1)) Tryz.runUnderlying289 Tryz.sizeOf291 rfl rfl (h.dnn 0 rfl (by omega)) (by omega)) rfl ?_; clear h ac wo; intro ac wo h
    refine up h 0 rfl (s_stR (k := 0) (u' := (((vx / 4294967296 ^ i % 4294967296) * 2 ^ s) / 4294967296)) Tryz.sizeOf291 (dgs_get (n := nx + 1) (q := i + 1) (by omega)) rfl rfl rfl rfl rfl rfl rfl rfl) ?_; clear h ac wo; intro ac wo h
    replace h := h.rowEq 0 rfl (sh_set2 hs32)
    refine w_nil ?_
    refine b_norm ?_
    refine hK7 _ _ ?_
    refine c_r ?_
    refine rd0 h (r_add rfl rfl (r := ((i + 1 : Nat) : Int)) (by rw [IntKind.wrap_i64]; omega)) rfl ?_; clear h ac wo; intro ac wo h
    refine rd0 h (r_move rfl) rfl ?_; clear h ac wo; intro ac wo h
    refine w_nil ?_
    exact next_round ⟨_, (by omega), i + 1, rfl, (by omega), (h.pick [0] (by decide)).sub ⟨rfl, rfl, rfl, rfl, rfl, rfl, rfl, trivial⟩⟩
  · skip
    have hd1 := of_decide_eq_false hc1
    refine c_exit ?_
    refine hK3 _ _ ?_
    refine c_rs fun K11 hK11 => ?_
    refine rd0 h (r_move rfl) rfl ?_; clear h ac wo; intro ac wo h
    refine rd0 h (r_assign rfl) rfl ?_; clear h ac wo; intro ac wo h
    refine w_nil ?_
    refine hK11 _ _ ?_
    refine c_ret ?_
    have hd : dgs (nx + 1) (vx * 2 ^ s) = (dgs (nx + 1) (vx % 4294967296 ^ i * 2 ^ s)) := (by rw [show i = nx by omega, Nat.mod_eq_of_lt hv])
    exact ret (rs := [.tmp 4]) h rfl (.tmp rfl .nil) rfl (by rw [hd]; exact h.retR 0 rfl trivial)
theorem ig_nat_short_ct (nx vx : Nat) (xv : Value) (d : Nat) (hv : vx < 4294967296 ^ nx) (hd0 : 0 < d) (hdl : d < 4294967296) (hb : nx ≤ 35184372088832) (w0 w : World) (B : Asn) (hbel : Below w0.heap.size w0 w) (hsep : ∃ U, Sep w0.heap.size w [.row (α := Nat) 291 xv (dgs nx vx), B] U) : Calls Tryz.prog 219 #[xv, (.int .u32 ((d : Nat) : Int))] w (RetX w0 (.int .u32 ((vx % d : Nat) : Int)) [.row (α := Nat) 291 xv (dgs nx (vx / d)), B]) := by
  refine enterL (N := 36) (args := [xv, (.int .u32 ((d : Nat) : Int))]) Tryz.func219 rfl rfl hbel hsep ?_; intro ac h
  refine c_rs fun K1 hK1 => ?_
  refine rd0 h (r_assign rfl (v := (.int .u32 0))) rfl ?_; clear h ac; intro ac wo h
  refine w_nil ?_
  refine hK1 _ _ ?_
  refine c_rs fun K2 hK2 => ?_
  refine rd0 h (r_assign rfl (v := (.int .u64 0))) rfl ?_; clear h ac wo; intro ac wo h
  refine w_nil ?_
  refine hK2 _ _ ?_
  refine c_seq fun K3 hK3 => ?_
  refine c_rs fun K4 hK4 => ?_
  refine rd0 h (r_move rfl) rfl ?_; clear h ac wo; intro ac wo h
  refine rd0 h (r_len Tryz.runUnderlying289 rfl (h.dsl 0 rfl)) rfl ?_; clear h ac wo; intro ac wo h
  refine rd0 h (r_sub rfl rfl (r := (((nx : Nat) : Int) - 1)) (by rw [IntKind.wrap_i64]; omega)) rfl ?_; clear h ac wo; intro ac wo h
  refine rd0 h (r_assign rfl) rfl ?_; clear h ac wo; intro ac wo h
  refine w_nil ?_
  refine hK4 _ _ ?_
  refine c_block ?_
  replace h := h.rowEq 0 rfl (by rw [mx_all (Nat.lt_of_le_of_lt (Nat.div_le_self _ _) hv) hv] : (dgs nx vx) = (dgs nx (mx (vx / d) nx vx)))
  refine wp_loop_ghost (fun n_ a_ w_ => ∃ (i : Nat), n_ = 1 * i ∧ (i ≤ nx) ∧ St w0 36 [(0, xv), (1, (.int .u32 ((d : Nat) : Int))), (4, (.int .u32 0)), (6, (.int .i64 (((i : Nat) : Int) - 1))), (5, (.int .u64 (((vx / 4294967296 ^ i % d) : Nat) : Int)))] [.row (α := Nat) 291 xv (dgs nx (mx (vx / d) i vx)), B] a_ w_) _ ⟨nx, rfl, (Nat.le_refl _), (h.pick [0, 1] (by decide)).sub ⟨rfl, rfl, rfl, rfl, (by rw [Nat.div_eq_of_lt hv]; simp; rfl), trivial⟩⟩ ?_
  clear h ac wo; rintro _ ac wo ⟨i, rfl, hi, h⟩
  refine c_seq fun K5 hK5 => ?_
  refine c_rs fun K6 hK6 => ?_
  refine rd0 h (r_move rfl) rfl ?_; clear h ac wo; intro ac wo h
  refine rd0 h (r_geq rfl rfl) rfl ?_; clear h ac wo; intro ac wo h
  refine w_nil ?_
  refine hK6 _ _ ?_
  refine c_if (b := (decide ((((i : Nat) : Int) - 1) ≥ 0))) h rfl (fun hc1 => ?_) (fun hc1 => ?_)
  · skip
    have hd1 := of_decide_eq_true hc1
    obtain ⟨q, rfl⟩ : ∃ q, i = q + 1 := ⟨i - 1, by omega⟩
    rw [show (((q + 1 : Nat) : Int) - 1) = ((q : Nat) : Int) by omega] at h
    have hst := short_step (v := vx) (i := q) hd0
    have hrl : vx / 4294967296 ^ (q + 1) % d < d := Nat.mod_lt _ hd0
    refine c_skip ?_
    refine hK5 _ _ ?_
    refine c_seq fun K7 hK7 => ?_
    refine c_block ?_
    refine c_rs fun K8 hK8 => ?_
    refine rd0 h (r_move rfl) rfl ?_; clear h ac wo; intro ac wo h
    refine rd0 h (r_shl rfl rfl (r := (((vx / 4294967296 ^ (q + 1) % d) * 2 ^ 32 : Nat) : Int)) (by decide) (by decide) (wshl64 rfl (by omega))) rfl ?_; clear h ac wo; intro ac wo h
    refine rd0 h (r_move rfl) rfl ?_; clear h ac wo; intro ac wo h
    refine rd0 h (r_move rfl) rfl ?_; clear h ac wo; intro ac wo h
    refine rd0 h (r_ia (i := q) Tryz.runUnderlying289 Tryz.sizeOf291 rfl rfl (h.dnn 0 rfl (by omega)) (by omega)) rfl ?_; clear h ac wo; intro ac wo h
    refine rd1 h 0 rfl (r_ldR (k := 0) Tryz.isAgg291 Tryz.sizeOf291 (mx_get_low (by omega)) rfl rfl rfl rfl (v := (.int .u32 (((vx / 4294967296 ^ q % 4294967296) : Nat) : Int))) rfl) rfl ?_; clear h ac wo; intro ac wo h
    refine rd0 h (r_convInt Tryz.runUnderlying291 Tryz.runUnderlying234 rfl (r := (((vx / 4294967296 ^ q % 4294967296) : Nat) : Int)) (by rw [IntKind.wrap_u64]; omega)) rfl ?_; clear h ac wo; intro ac wo h
    refine rd0 h (r_or' rfl rfl (r := ((((vx / 4294967296 ^ (q + 1) % d) * 4294967296 + (vx / 4294967296 ^ q % 4294967296)) : Nat) : Int)) (bits_or_nat (k := 32) _ _ (by omega) (Nat.mod_lt _ (by decide)) (by omega))) rfl ?_; clear h ac wo; intro ac wo h
    refine rd0 h (r_assign rfl) rfl ?_; clear h ac wo; intro ac wo h
    refine w_nil ?_
    refine hK8 _ _ ?_
    refine draws mixed [⟨.det xv, []⟩, ⟨.det (.int .i64 ((q : Nat) : Int)), []⟩, ⟨.det (.int .u64 ((((vx / 4294967296 ^ (q + 1) % d) * 4294967296 + (vx / 4294967296 ^ q % 4294967296)) : Nat) : Int)), []⟩, ⟨.det (.int .u32 ((d : Nat) : Int)), []⟩, ⟨.det (.int .u64 ((d : Nat) : Int)), []⟩, ⟨.det (.int .u64 ((vx / d / 4294967296 ^ q % 4294967296 : Nat) : Int)), []⟩, ⟨.det (.int .u32 ((vx / d / 4294967296 ^ q % 4294967296 : Nat) : Int)), []⟩, ⟨.det (.int .u64 ((((vx / 4294967296 ^ (q + 1) % d) * 4294967296 + (vx / 4294967296 ^ q % 4294967296)) : Nat) : Int)), []⟩, ⟨.det (.int .u32 ((d : Nat) : Int)), []⟩, ⟨.det (.int .u64 ((d : Nat) : Int)), []⟩, ⟨.det (.int .u64 ((vx / 4294967296 ^ q % d : Nat) : Int)), []⟩, ⟨.det (sel xv (q * 1)), []⟩, ⟨.det undef, [0]⟩, ⟨.det (.int .u64 ((vx / 4294967296 ^ q % d : Nat) : Int)), []⟩] [⟨.row (α := Nat) 291 xv (dgs nx (mx (vx / d) (q + 1) vx)), [(12, .con (.row (α := Nat) 291 xv ((dgs nx (mx (vx / d) (q + 1) vx)).set q (vx / d / 4294967296 ^ q % 4294967296))))]⟩, ⟨B, []⟩] h rfl (by kernel_rfl) ⟨?_, ?_, ?_, ?_, ?_, ?_, ?_, ?_, ?_, ?_, ?_, ?_, ?_, ?_, trivial⟩ ?_
    · intro ξ hφ; exact ob_r0 (r_move rfl)
    · intro ξ hφ; exact ob_r0 (r_move rfl)
    · intro ξ hφ; exact ob_r0 (r_move rfl)
    · intro ξ hφ; exact ob_r0 (r_move rfl)
    · intro ξ hφ; exact ob_r0 (r_convInt Tryz.runUnderlying291 Tryz.runUnderlying234 rfl (r := ((d : Nat) : Int)) (by rw [IntKind.wrap_u64]; omega))
    · intro ξ hφ; exact ob_r0 (r_quo rfl rfl (r := ((vx / d / 4294967296 ^ q % 4294967296 : Nat) : Int)) (by omega) (by rw [Int.tdiv_eq_ediv_of_nonneg (by omega), show ((((vx / 4294967296 ^ (q + 1) % d) * 4294967296 + (vx / 4294967296 ^ q % 4294967296)) : Nat) : Int) / ((d : Nat) : Int) = ((vx / d / 4294967296 ^ q % 4294967296 : Nat) : Int) from by rw [← hst.1]; rfl, IntKind.wrap_u64]; omega))
    · intro ξ hφ; exact ob_r0 (r_convInt Tryz.runUnderlying234 Tryz.runUnderlying291 rfl (r := ((vx / d / 4294967296 ^ q % 4294967296 : Nat) : Int)) (by rw [IntKind.wrap_u32']; omega))
    · intro ξ hφ; exact ob_r0 (r_move rfl)
    · intro ξ hφ; exact ob_r0 (r_move rfl)
    · intro ξ hφ; exact ob_r0 (r_convInt Tryz.runUnderlying291 Tryz.runUnderlying234 rfl (r := ((d : Nat) : Int)) (by rw [IntKind.wrap_u64]; omega))
    · intro ξ hφ; exact ob_r0 (r_rem rfl rfl (r := ((vx / 4294967296 ^ q % d : Nat) : Int)) (by omega) (by rw [Int.tmod_eq_emod_of_nonneg (by omega), ← hst.2]; rfl))
    · intro ξ hφ; exact ob_r0 (r_ia (i := q) Tryz.runUnderlying289 Tryz.sizeOf291 rfl rfl (h.dnn 0 rfl (by omega)) (by omega))
    · intro ξ hφ; exact ob_u [.row (α := Nat) 291 xv (dgs nx (mx (vx / d) (q + 1) vx))] [.row (α := Nat) 291 xv ((dgs nx (mx (vx / d) (q + 1) vx)).set q (vx / d / 4294967296 ^ q % 4294967296))] rfl rfl (s_stR (k := 0) (u' := (vx / d / 4294967296 ^ q % 4294967296)) Tryz.sizeOf291 (mx_get_low (by omega)) rfl rfl rfl rfl rfl rfl rfl rfl)
    · intro ξ hφ; exact ob_r0 (r_assign rfl)
    clear h ac wo; intro ξ ac wo hφ h
    replace h : St w0 36 [(0, xv), (1, (.int .u32 ((d : Nat) : Int))), (4, (.int .u32 0)), (6, (.int .i64 ((q : Nat) : Int))), (5, (.int .u64 ((vx / 4294967296 ^ q % d : Nat) : Int)))] [.row (α := Nat) 291 xv ((dgs nx (mx (vx / d) (q + 1) vx)).set q (vx / d / 4294967296 ^ q % 4294967296)), B] ac wo := h.sub ⟨rfl, rfl, rfl, rfl, rfl, trivial⟩
    clear hφ ξ
    refine b_norm ?_
    refine hK7 _ _ ?_
    refine c_r ?_
    refine rd0 h (r_move rfl) rfl ?_; clear h ac wo; intro ac wo h
    refine rd0 h (r_sub rfl rfl (r := (((q : Nat) : Int) - 1)) (by rw [IntKind.wrap_i64]; omega)) rfl ?_; clear h ac wo; intro ac wo h
    refine rd0 h (r_assign rfl) rfl ?_; clear h ac wo; intro ac wo h
    refine w_nil ?_
    replace h := h.rowEq 0 rfl (mx_set_down : ((dgs nx (mx (vx / d) (q + 1) vx)).set q (vx / d / 4294967296 ^ q % 4294967296)) = (dgs nx (mx (vx / d) q vx)))
    exact next_round ⟨_, (by omega), q, rfl, (by omega), (h.pick [0, 1] (by decide)).sub ⟨rfl, rfl, rfl, rfl, rfl, trivial⟩⟩
  · skip
    have hd1 := of_decide_eq_false hc1
    have hi0 : i = 0 := by omega
    subst hi0
    replace h := h.rowEq 0 rfl (by rw [mx_zero] : (dgs nx (mx (vx / d) 0 vx)) = (dgs nx (vx / d)))
    have hmd : vx % d < d := Nat.mod_lt _ hd0
    refine c_exit ?_
    refine hK3 _ _ ?_
    refine c_rs fun K9 hK9 => ?_
    refine rd0 h (r_move rfl) rfl ?_; clear h ac wo; intro ac wo h
    refine rd0 h (r_convInt Tryz.runUnderlying234 Tryz.runUnderlying291 rfl (r := ((vx % d : Nat) : Int)) (by rw [IntKind.wrap_u32', Nat.pow_zero, Nat.div_one]; omega)) rfl ?_; clear h ac wo; intro ac wo h
    refine rd0 h (r_assign rfl) rfl ?_; clear h ac wo; intro ac wo h
    refine w_nil ?_
    refine hK9 _ _ ?_
    refine c_ret ?_
    exact ret (rs := [.tmp 4]) h rfl (.tmp rfl .nil) rfl (h.retX rfl)
def ig_add (a b : Nat) : Nat := a + b
theorem ig_add_ct (a : Nat) (b : Nat) (k : Nat) (hk : (k + 1) ≤ 40) (za : SzB (k + 1) a) (zb : SzB (k + 1) b) (w0 : World) : Calls Tryz.prog 190 #[(.string (bs a)), (.string (bs b))] w0 (RetP w0 (.string (bs (ig_add a b))) (SzB k (ig_add a b))) := by
  refine enter (N := 84) (args := [(.string (bs a)), (.string (bs b))]) Tryz.func190 rfl rfl ?_; intro ac h
  refine c_rs fun K1 hK1 => ?_
  refine rd0 h (r_assign rfl (v := (.string (bs 0)))) rfl ?_; clear h ac; intro ac wo h
  refine w_nil ?_
  refine hK1 _ _ ?_
  refine c_mid (fun a_ w_ => St w0 84 [(0, (.string (bs a))), (1, (.string (bs b)))] [] a_ w_) (fun K2 hK2 => ?_) ?_
  · skip
    refine c_rs fun K3 hK3 => ?_
    refine rd0 h (r_move rfl) rfl ?_; clear h ac wo; intro ac wo h
    refine rd0 h (r_move rfl) rfl ?_; clear h ac wo; intro ac wo h
    refine clp h Tryz.call193 (vs := [(.string (bs a)), (.string (bs b))]) rfl (ig_words_ct a b) rfl ?_; clear h ac wo; intro ac wo h
    refine rd0 h (r_move rfl) rfl ?_; clear h ac wo; intro ac wo h
    refine rd0 h (r_extract (vs := [(.int .u64 (((ig_words a b).1 : Nat) : Int)), (.int .u64 (((ig_words a b).2.1 : Nat) : Int)), (.bool ((ig_words a b).2.2))]) rfl rfl) rfl ?_; clear h ac wo; intro ac wo h
    refine rd0 h (r_extract (vs := [(.int .u64 (((ig_words a b).1 : Nat) : Int)), (.int .u64 (((ig_words a b).2.1 : Nat) : Int)), (.bool ((ig_words a b).2.2))]) rfl rfl) rfl ?_; clear h ac wo; intro ac wo h
    refine rd0 h (r_extract (vs := [(.int .u64 (((ig_words a b).1 : Nat) : Int)), (.int .u64 (((ig_words a b).2.1 : Nat) : Int)), (.bool ((ig_words a b).2.2))]) rfl rfl) rfl ?_; clear h ac wo; intro ac wo h
    refine rd0 h (r_assign rfl) rfl ?_; clear h ac wo; intro ac wo h
    refine rd0 h (r_assign rfl) rfl ?_; clear h ac wo; intro ac wo h
    refine rd0 h (r_assign rfl) rfl ?_; clear h ac wo; intro ac wo h
    refine w_nil ?_
    refine hK3 _ _ ?_
    refine c_rs fun K4 hK4 => ?_
    refine rd0 h (r_move rfl) rfl ?_; clear h ac wo; intro ac wo h
    refine w_nil ?_
    refine hK4 _ _ ?_
    refine c_if (b := (ig_words a b).2.2) h rfl (fun hc1 => ?_) (fun hc1 => ?_)
    · skip
      obtain ⟨ha6, hb6, hw⟩ := words_yes hc1
      simp only [hw] at h
      refine c_rs fun K5 hK5 => ?_
      refine rd0 h (r_move rfl) rfl ?_; clear h ac wo; intro ac wo h
      refine rd0 h (r_move rfl) rfl ?_; clear h ac wo; intro ac wo h
      refine rd0 h (r_ext (vs := [(.int .u64 ((a : Nat) : Int)), (.int .u64 ((b : Nat) : Int)), (.int .u64 0)]) rfl (add64 a b)) rfl ?_; clear h ac wo; intro ac wo h
      refine rd0 h (r_move rfl) rfl ?_; clear h ac wo; intro ac wo h
      refine rd0 h (r_extract (vs := [(.int .u64 ((((a + b) % 18446744073709551616) : Nat) : Int)), (.int .u64 ((((a + b) / 18446744073709551616) : Nat) : Int))]) rfl rfl) rfl ?_; clear h ac wo; intro ac wo h
      refine rd0 h (r_extract (vs := [(.int .u64 ((((a + b) % 18446744073709551616) : Nat) : Int)), (.int .u64 ((((a + b) / 18446744073709551616) : Nat) : Int))]) rfl rfl) rfl ?_; clear h ac wo; intro ac wo h
      refine rd0 h (r_assign rfl) rfl ?_; clear h ac wo; intro ac wo h
      refine rd0 h (r_assign rfl) rfl ?_; clear h ac wo; intro ac wo h
      refine w_nil ?_
      refine hK5 _ _ ?_
      refine c_rs fun K6 hK6 => ?_
      refine rd0 h (r_move rfl) rfl ?_; clear h ac wo; intro ac wo h
      refine rd0 h (r_eql rfl rfl) rfl ?_; clear h ac wo; intro ac wo h
      refine w_nil ?_
      refine hK6 _ _ ?_
      refine c_if (b := (((((a + b) / 18446744073709551616) : Nat) : Int) == 0)) h rfl (fun hc2 => ?_) (fun hc2 => ?_)
      · skip
        have hd2 := eq_of_beq hc2
        refine c_rs fun K7 hK7 => ?_
        refine rd0 h (r_move rfl) rfl ?_; clear h ac wo; intro ac wo h
        refine clp h Tryz.call173 (vs := [(.int .u64 ((((a + b) % 18446744073709551616) : Nat) : Int))]) rfl (ig_magnitude_ct ((a + b) % 18446744073709551616) (by omega)) rfl ?_; clear h ac wo; intro ac wo h
        refine rd0 h (r_assign rfl) rfl ?_; clear h ac wo; intro ac wo h
        refine w_nil ?_
        refine hK7 _ _ ?_
        refine c_ret ?_
        have hd : ig_add a b = (ig_magnitude ((a + b) % 18446744073709551616)) := (by show a + b = (a + b) % 18446744073709551616; omega)
        exact ret (rs := [.tmp 4]) h rfl (.tmp rfl .nil) rfl (h.retP (by rw [hd] <;> rfl) (SzB_add za zb))
      · skip
        have hd2 := ne_of_beq_false hc2
        refine c_skip ?_
        exact hK2 _ _ ((h.pick [] (by decide)).sub ⟨rfl, rfl, trivial⟩)
    · skip
      refine c_skip ?_
      exact hK2 _ _ ((h.pick [] (by decide)).sub ⟨rfl, rfl, trivial⟩)
  · skip
    clear h ac wo; intro ac wo h
    refine c_rs fun K8 hK8 => ?_
    refine rd0 h (r_move rfl) rfl ?_; clear h ac wo; intro ac wo h
    refine clr (xs := (dgs (dn a) a)) h Tryz.call214 (vs := [(.string (bs a))]) rfl (fun w_ hB_ hS_ => (ig_digits_ct a (SzB_len za)) w_) rfl ?_; clear h ac wo; intro sv1 ac wo hpsv1 h
    refine rd0 h (r_move rfl) rfl ?_; clear h ac wo; intro ac wo h
    refine clr (xs := (dgs (dn b) b)) h Tryz.call214 (vs := [(.string (bs b))]) rfl (fun w_ hB_ hS_ => (ig_digits_ct b (SzB_len zb)) w_) rfl ?_; clear h ac wo; intro sv2 ac wo hpsv2 h
    refine rd0 h (r_assign rfl) rfl ?_; clear h ac wo; intro ac wo h
    refine rd0 h (r_assign rfl) rfl ?_; clear h ac wo; intro ac wo h
    refine w_nil ?_
    refine hK8 _ _ ?_
    refine c_mid (fun a_ w_ => ∃ (p : Nat) (q : Nat) (sp : Value) (sq : Value), (p + q = a + b) ∧ (dn q ≤ dn p) ∧ (dn p ≤ 17592186044416) ∧ (dn q ≤ 17592186044416) ∧ St w0 84 [(0, (.string (bs a))), (1, (.string (bs b))), (10, sp), (11, sq)] [.row (α := Nat) 291 sp (dgs (dn p) p), .row (α := Nat) 291 sq (dgs (dn q) q)] a_ w_) (fun K9 hK9 => ?_) ?_
    · skip
      refine c_rs fun K10 hK10 => ?_
      refine rd0 h (r_move rfl) rfl ?_; clear h ac wo; intro ac wo h
      refine rd0 h (r_len Tryz.runUnderlying289 rfl (h.dsl 1 rfl)) rfl ?_; clear h ac wo; intro ac wo h
      refine rd0 h (r_move rfl) rfl ?_; clear h ac wo; intro ac wo h
      refine rd0 h (r_len Tryz.runUnderlying289 rfl (h.dsl 0 rfl)) rfl ?_; clear h ac wo; intro ac wo h
      refine rd0 h (r_lss rfl rfl) rfl ?_; clear h ac wo; intro ac wo h
      refine w_nil ?_
      refine hK10 _ _ ?_
      refine c_if (b := (decide ((((dn a) : Nat) : Int) < (((dn b) : Nat) : Int)))) h rfl (fun hc3 => ?_) (fun hc3 => ?_)
      · skip
        have hd3 := of_decide_eq_true hc3
        refine c_r ?_
        refine rd0 h (r_move rfl) rfl ?_; clear h ac wo; intro ac wo h
        refine rd0 h (r_move rfl) rfl ?_; clear h ac wo; intro ac wo h
        refine rd0 h (r_assign rfl) rfl ?_; clear h ac wo; intro ac wo h
        refine rd0 h (r_assign rfl) rfl ?_; clear h ac wo; intro ac wo h
        refine w_nil ?_
        exact hK9 _ _ ⟨b, a, sv2, sv1, (by omega), (by omega), (SzB_dn zb), (SzB_dn za), (h.pick [0, 1] (by decide)).sub ⟨rfl, rfl, rfl, rfl, trivial⟩⟩
      · skip
        have hd3 := of_decide_eq_false hc3
        refine c_skip ?_
        exact hK9 _ _ ⟨a, b, sv1, sv2, (by omega), (by omega), (SzB_dn za), (SzB_dn zb), (h.pick [1, 0] (by decide)).sub ⟨rfl, rfl, rfl, rfl, trivial⟩⟩
    · skip
      clear h ac wo; intro ac wo h
      obtain ⟨p, q, sp, sq, hpq, hle, hpl, hql, h⟩ := h
      refine c_rs fun K11 hK11 => ?_
      refine rd0 h (r_move rfl) rfl ?_; clear h ac wo; intro ac wo h
      refine rd0 h (r_len Tryz.runUnderlying289 rfl (h.dsl 0 rfl)) rfl ?_; clear h ac wo; intro ac wo h
      refine rd0 h (r_add rfl rfl (r := (((dn p) + 1 : Nat) : Int)) (by rw [IntKind.wrap_i64]; omega)) rfl ?_; clear h ac wo; intro ac wo h
      refine nw h (s_make (n := ((dn p) + 1)) ((0 : Nat)) rfl slt289 rfl rfl rfl (by omega) (by omega)) rfl ?_; clear h ac wo; intro sv3 ac wo nnsv3 h
      refine rd0 h (r_assign rfl) rfl ?_; clear h ac wo; intro ac wo h
      refine w_nil ?_
      refine hK11 _ _ ?_
      refine c_rs fun K12 hK12 => ?_
      refine rd0 h (r_move rfl) rfl ?_; clear h ac wo; intro ac wo h
      refine rd0 h (r_move rfl) rfl ?_; clear h ac wo; intro ac wo h
      refine up2 h 0 1 (by decide) rfl rfl (s_copy Tryz.underlying289 (by kernel_rfl) rfl rfl rfl (by rw [dgs_length, List.length_replicate]; omega)) rfl ?_; clear h ac wo; intro ac wo h
      replace h := h.rowEq 0 rfl (copy_dgs (dn_lt p) (by omega))
      refine w_nil ?_
      refine hK12 _ _ ?_
      refine c_rs fun K13 hK13 => ?_
      refine rd0 h (r_assign rfl (v := (.int .u64 0))) rfl ?_; clear h ac wo; intro ac wo h
      refine w_nil ?_
      refine hK13 _ _ ?_
      refine c_seq fun K14 hK14 => ?_
      refine c_rs fun K15 hK15 => ?_
      refine rd0 h (r_move rfl) rfl ?_; clear h ac wo; intro ac wo h
      refine rd0 h (r_len Tryz.runUnderlying289 rfl (h.dsl 0 rfl)) rfl ?_; clear h ac wo; intro ac wo h
      refine rd0 h (r_move rfl (v := (.int .i64 0))) rfl ?_; clear h ac wo; intro ac wo h
      refine w_nil ?_
      refine hK15 _ _ ?_
      refine c_block ?_
      have hz0 : dgs (dn p + 1) p = dgs (dn p + 1) (mx p 0 (p + q)) := by rw [mx_zero]
      rw [hz0] at h
      refine wp_loop_ghost (fun n_ a_ w_ => ∃ (i : Nat), n_ = dn p + 1 - i ∧ (i ≤ dn p + 1) ∧ St w0 84 [(0, (.string (bs a))), (1, (.string (bs b))), (10, sp), (11, sq), (12, sv3), (52, (.int .i64 (((dn p + 1) : Nat) : Int))), (53, (.int .i64 ((i : Nat) : Int))), (13, (.int .u64 (((cy p q i) : Nat) : Int)))] [.row (α := Nat) 291 sv3 (dgs (dn p + 1) (mx p i (p + q))), .row (α := Nat) 291 sp (dgs (dn p) p), .row (α := Nat) 291 sq (dgs (dn q) q)] a_ w_) _ ⟨0, rfl, (by omega), (h.pick [0, 1, 2] (by decide)).sub ⟨rfl, rfl, rfl, rfl, rfl, rfl, rfl, (by rw [cy_zero]; rfl), trivial⟩⟩ ?_
      clear h ac wo; rintro _ ac wo ⟨i, rfl, hi, h⟩
      refine c_rs fun K16 hK16 => ?_
      refine rd0 h (r_lss rfl rfl) rfl ?_; clear h ac wo; intro ac wo h
      refine w_nil ?_
      refine hK16 _ _ ?_
      refine c_seq fun K17 hK17 => ?_
      refine c_if (b := (decide (((i : Nat) : Int) < (((dn p + 1) : Nat) : Int)))) h rfl (fun hc4 => ?_) (fun hc4 => ?_)
      · skip
        have hd4 := of_decide_eq_true hc4
        refine c_skip ?_
        refine hK17 _ _ ?_
        refine c_seq fun K18 hK18 => ?_
        refine c_block ?_
        refine c_rs fun K19 hK19 => ?_
        refine rd0 h (r_move rfl) rfl ?_; clear h ac wo; intro ac wo h
        refine rd0 h (r_assign rfl) rfl ?_; clear h ac wo; intro ac wo h
        refine w_nil ?_
        refine hK19 _ _ ?_
        refine c_rs fun K20 hK20 => ?_
        have hlt : i < dn p + 1 := by omega
        have hcy := cy_le p q i
        have hdig := cy_digit p q i
        have hnx := cy_next p q i
        refine rd0 h (r_move rfl) rfl ?_; clear h ac wo; intro ac wo h
        refine rd0 h (r_move rfl) rfl ?_; clear h ac wo; intro ac wo h
        refine rd0 h (r_move rfl) rfl ?_; clear h ac wo; intro ac wo h
        refine rd0 h (r_ia (i := i) Tryz.runUnderlying289 Tryz.sizeOf291 rfl rfl (h.dnn 0 rfl (by omega)) (by omega)) rfl ?_; clear h ac wo; intro ac wo h
        refine rd1 h 0 rfl (r_ldR (k := 0) Tryz.isAgg291 Tryz.sizeOf291 (mx_get hlt) rfl rfl rfl rfl (v := (.int .u32 (((p / 4294967296 ^ i % 4294967296) : Nat) : Int))) rfl) rfl ?_; clear h ac wo; intro ac wo h
        refine rd0 h (r_convInt Tryz.runUnderlying291 Tryz.runUnderlying234 rfl (r := (((p / 4294967296 ^ i % 4294967296) : Nat) : Int)) (by rw [IntKind.wrap_u64]; omega)) rfl ?_; clear h ac wo; intro ac wo h
        refine rd0 h (r_add rfl rfl (r := (((cy p q i) + (p / 4294967296 ^ i % 4294967296) : Nat) : Int)) (by rw [IntKind.wrap_u64]; omega)) rfl ?_; clear h ac wo; intro ac wo h
        refine rd0 h (r_assign rfl) rfl ?_; clear h ac wo; intro ac wo h
        refine w_nil ?_
        refine hK20 _ _ ?_
        refine c_seq fun K21 hK21 => ?_
        refine c_rs fun K22 hK22 => ?_
        refine rd0 h (r_move rfl) rfl ?_; clear h ac wo; intro ac wo h
        refine rd0 h (r_move rfl) rfl ?_; clear h ac wo; intro ac wo h
        refine rd0 h (r_len Tryz.runUnderlying289 rfl (h.dsl 2 rfl)) rfl ?_; clear h ac wo; intro ac wo h
        refine rd0 h (r_lss rfl rfl) rfl ?_; clear h ac wo; intro ac wo h
        refine w_nil ?_
        refine hK22 _ _ ?_
        refine c_if (b := (decide (((i : Nat) : Int) < (((dn q) : Nat) : Int)))) h rfl (fun hc5 => ?_) (fun hc5 => ?_)
        · skip
          have hd5 := of_decide_eq_true hc5
          refine c_r ?_
          refine rd0 h (r_move rfl) rfl ?_; clear h ac wo; intro ac wo h
          refine rd0 h (r_move rfl) rfl ?_; clear h ac wo; intro ac wo h
          refine rd0 h (r_move rfl) rfl ?_; clear h ac wo; intro ac wo h
          refine rd0 h (r_ia (i := i) Tryz.runUnderlying289 Tryz.sizeOf291 rfl rfl (h.dnn 2 rfl (by omega)) (by omega)) rfl ?_; clear h ac wo; intro ac wo h
          refine rd1 h 2 rfl (r_ldR (k := 0) Tryz.isAgg291 Tryz.sizeOf291 (dgs_get (n := (dn q)) (by omega)) rfl rfl rfl rfl (v := (.int .u32 (((q / 4294967296 ^ i % 4294967296) : Nat) : Int))) rfl) rfl ?_; clear h ac wo; intro ac wo h
          refine rd0 h (r_convInt Tryz.runUnderlying291 Tryz.runUnderlying234 rfl (r := (((q / 4294967296 ^ i % 4294967296) : Nat) : Int)) (by rw [IntKind.wrap_u64]; omega)) rfl ?_; clear h ac wo; intro ac wo h
          refine rd0 h (r_add rfl rfl (r := ((((cy p q i) + (p / 4294967296 ^ i % 4294967296)) + (q / 4294967296 ^ i % 4294967296) : Nat) : Int)) (by rw [IntKind.wrap_u64]; omega)) rfl ?_; clear h ac wo; intro ac wo h
          refine rd0 h (r_assign rfl) rfl ?_; clear h ac wo; intro ac wo h
          refine w_nil ?_
          refine hK21 _ _ ?_
          refine c_r ?_
          refine rd0 h (r_move rfl) rfl ?_; clear h ac wo; intro ac wo h
          refine rd0 h (r_move rfl) rfl ?_; clear h ac wo; intro ac wo h
          refine rd0 h (r_move rfl) rfl ?_; clear h ac wo; intro ac wo h
          refine rd0 h (r_convInt Tryz.runUnderlying234 Tryz.runUnderlying291 rfl (r := (((p + q) / 4294967296 ^ i % 4294967296 : Nat) : Int)) (by rw [IntKind.wrap_u32', hdig]; omega)) rfl ?_; clear h ac wo; intro ac wo h
          refine rd0 h (r_move rfl) rfl ?_; clear h ac wo; intro ac wo h
          refine rd0 h (r_shr rfl rfl (r := ((cy p q (i + 1) : Nat) : Int)) (by decide) (by decide) (by rw [show (2 : Int) ^ ((32 : Int)).toNat = 4294967296 from rfl]; rw [hnx]; omega)) rfl ?_; clear h ac wo; intro ac wo h
          refine rd0 h (r_ia (i := i) Tryz.runUnderlying289 Tryz.sizeOf291 rfl rfl (h.dnn 0 rfl (by omega)) (by omega)) rfl ?_; clear h ac wo; intro ac wo h
          refine up h 0 rfl (s_stR (k := 0) (u' := ((p + q) / 4294967296 ^ i % 4294967296)) Tryz.sizeOf291 (mx_get hlt) rfl rfl rfl rfl rfl rfl rfl rfl) ?_; clear h ac wo; intro ac wo h
          replace h := h.rowEq 0 rfl (mx_set)
          refine rd0 h (r_assign rfl) rfl ?_; clear h ac wo; intro ac wo h
          refine w_nil ?_
          refine b_norm ?_
          refine hK18 _ _ ?_
          refine c_r ?_
          refine rd0 h (r_add rfl rfl (r := ((i + 1 : Nat) : Int)) (by rw [IntKind.wrap_i64]; omega)) rfl ?_; clear h ac wo; intro ac wo h
          refine rd0 h (r_move rfl) rfl ?_; clear h ac wo; intro ac wo h
          refine w_nil ?_
          exact next_round ⟨_, (by omega), i + 1, rfl, (by omega), (h.pick [0, 1, 2] (by decide)).sub ⟨rfl, rfl, rfl, rfl, rfl, rfl, rfl, rfl, trivial⟩⟩
        · skip
          have hd5 := of_decide_eq_false hc5
          have hq0 := dig_zero (i := i) (dn_lt q) (by omega)
          refine c_skip ?_
          refine hK21 _ _ ?_
          refine c_r ?_
          refine rd0 h (r_move rfl) rfl ?_; clear h ac wo; intro ac wo h
          refine rd0 h (r_move rfl) rfl ?_; clear h ac wo; intro ac wo h
          refine rd0 h (r_move rfl) rfl ?_; clear h ac wo; intro ac wo h
          refine rd0 h (r_convInt Tryz.runUnderlying234 Tryz.runUnderlying291 rfl (r := (((p + q) / 4294967296 ^ i % 4294967296 : Nat) : Int)) (by rw [IntKind.wrap_u32', hdig]; omega)) rfl ?_; clear h ac wo; intro ac wo h
          refine rd0 h (r_move rfl) rfl ?_; clear h ac wo; intro ac wo h
          refine rd0 h (r_shr rfl rfl (r := ((cy p q (i + 1) : Nat) : Int)) (by decide) (by decide) (by rw [show (2 : Int) ^ ((32 : Int)).toNat = 4294967296 from rfl]; rw [hnx]; omega)) rfl ?_; clear h ac wo; intro ac wo h
          refine rd0 h (r_ia (i := i) Tryz.runUnderlying289 Tryz.sizeOf291 rfl rfl (h.dnn 0 rfl (by omega)) (by omega)) rfl ?_; clear h ac wo; intro ac wo h
          refine up h 0 rfl (s_stR (k := 0) (u' := ((p + q) / 4294967296 ^ i % 4294967296)) Tryz.sizeOf291 (mx_get hlt) rfl rfl rfl rfl rfl rfl rfl rfl) ?_; clear h ac wo; intro ac wo h
          replace h := h.rowEq 0 rfl (mx_set)
          refine rd0 h (r_assign rfl) rfl ?_; clear h ac wo; intro ac wo h
          refine w_nil ?_
          refine b_norm ?_
          refine hK18 _ _ ?_
          refine c_r ?_
          refine rd0 h (r_add rfl rfl (r := ((i + 1 : Nat) : Int)) (by rw [IntKind.wrap_i64]; omega)) rfl ?_; clear h ac wo; intro ac wo h
          refine rd0 h (r_move rfl) rfl ?_; clear h ac wo; intro ac wo h
          refine w_nil ?_
          exact next_round ⟨_, (by omega), i + 1, rfl, (by omega), (h.pick [0, 1, 2] (by decide)).sub ⟨rfl, rfl, rfl, rfl, rfl, rfl, rfl, rfl, trivial⟩⟩
      · skip
        have hd4 := of_decide_eq_false hc4
        refine c_exit ?_
        refine hK14 _ _ ?_
        refine c_rs fun K23 hK23 => ?_
        have hie : i = dn p + 1 := by omega
        subst hie
        rw [mx_all (by have := dn_lt p; rw [Nat.pow_succ]; omega) (by rw [Nat.pow_succ]; have h1 := dn_lt p; have h2 := (dn_le q (dn p)).1 hle; omega)] at h
        refine rd0 h (r_move rfl) rfl ?_; clear h ac wo; intro ac wo h
        refine clq h Tryz.call215 (vs := [sv3]) rfl (fun w_ hB_ hS_ => ig_nat_bytes_ct (dn p + 1) (p + q) sv3 (by rw [Nat.pow_succ]; have h1 := dn_lt p; have h2 := (dn_le q (dn p)).1 hle; omega) (by omega) w_ (row_view hS_ 0 rfl)) rfl ?_; clear h ac wo; intro ac wo h
        refine rd0 h (r_assign rfl) rfl ?_; clear h ac wo; intro ac wo h
        refine w_nil ?_
        refine hK23 _ _ ?_
        refine c_ret ?_
        have hd : ig_add a b = (p + q) := (by show a + b = p + q; omega)
        exact ret (rs := [.tmp 4]) h rfl (.tmp rfl .nil) rfl (h.retP (by rw [hd] <;> rfl) (SzB_add za zb))
def ig_sub (a b : Nat) : Nat := a - b
theorem ig_sub_ct (a : Nat) (b : Nat) (k : Nat) (hk : k ≤ 40) (za : SzB k a) (zb : SzB k b) (hab : b ≤ a) (w0 : World) : Calls Tryz.prog 192 #[(.string (bs a)), (.string (bs b))] w0 (RetP w0 (.string (bs (ig_sub a b))) (SzB k (ig_sub a b))) := by
  refine enter (N := 71) (args := [(.string (bs a)), (.string (bs b))]) Tryz.func192 rfl rfl ?_; intro ac h
  have hda := SzB_dn za
  have hdb := SzB_dn zb
  refine c_rs fun K1 hK1 => ?_
  refine rd0 h (r_assign rfl (v := (.string (bs 0)))) rfl ?_; clear h ac; intro ac wo h
  refine w_nil ?_
  refine hK1 _ _ ?_
  refine c_seq fun K2 hK2 => ?_
  refine c_rs fun K3 hK3 => ?_
  refine rd0 h (r_move rfl) rfl ?_; clear h ac wo; intro ac wo h
  refine rd0 h (r_move rfl) rfl ?_; clear h ac wo; intro ac wo h
  refine clp h Tryz.call193 (vs := [(.string (bs a)), (.string (bs b))]) rfl (ig_words_ct a b) rfl ?_; clear h ac wo; intro ac wo h
  refine rd0 h (r_move rfl) rfl ?_; clear h ac wo; intro ac wo h
  refine rd0 h (r_extract (vs := [(.int .u64 (((ig_words a b).1 : Nat) : Int)), (.int .u64 (((ig_words a b).2.1 : Nat) : Int)), (.bool ((ig_words a b).2.2))]) rfl rfl) rfl ?_; clear h ac wo; intro ac wo h
  refine rd0 h (r_extract (vs := [(.int .u64 (((ig_words a b).1 : Nat) : Int)), (.int .u64 (((ig_words a b).2.1 : Nat) : Int)), (.bool ((ig_words a b).2.2))]) rfl rfl) rfl ?_; clear h ac wo; intro ac wo h
  refine rd0 h (r_extract (vs := [(.int .u64 (((ig_words a b).1 : Nat) : Int)), (.int .u64 (((ig_words a b).2.1 : Nat) : Int)), (.bool ((ig_words a b).2.2))]) rfl rfl) rfl ?_; clear h ac wo; intro ac wo h
  refine rd0 h (r_assign rfl) rfl ?_; clear h ac wo; intro ac wo h
  refine rd0 h (r_assign rfl) rfl ?_; clear h ac wo; intro ac wo h
  refine rd0 h (r_assign rfl) rfl ?_; clear h ac wo; intro ac wo h
  refine w_nil ?_
  refine hK3 _ _ ?_
  refine c_rs fun K4 hK4 => ?_
  refine rd0 h (r_move rfl) rfl ?_; clear h ac wo; intro ac wo h
  refine w_nil ?_
  refine hK4 _ _ ?_
  refine c_if (b := (ig_words a b).2.2) h rfl (fun hc1 => ?_) (fun hc1 => ?_)
  · skip
    obtain ⟨ha6, hb6, hw⟩ := words_yes hc1
    simp only [hw] at h
    refine c_rs fun K5 hK5 => ?_
    refine rd0 h (r_move rfl) rfl ?_; clear h ac wo; intro ac wo h
    refine rd0 h (r_move rfl) rfl ?_; clear h ac wo; intro ac wo h
    refine rd0 h (r_sub rfl rfl (r := ((a - b : Nat) : Int)) (by rw [IntKind.wrap_u64]; omega)) rfl ?_; clear h ac wo; intro ac wo h
    refine clp h Tryz.call173 (vs := [(.int .u64 ((a - b : Nat) : Int))]) rfl (ig_magnitude_ct (a - b) (by omega)) rfl ?_; clear h ac wo; intro ac wo h
    refine rd0 h (r_assign rfl) rfl ?_; clear h ac wo; intro ac wo h
    refine w_nil ?_
    refine hK5 _ _ ?_
    refine c_ret ?_
    have hd : ig_sub a b = (ig_magnitude (a - b)) := rfl
    exact ret (rs := [.tmp 4]) h rfl (.tmp rfl .nil) rfl (h.retP (by rw [hd] <;> rfl) (SzB_mono za (Nat.sub_le a b)))
  · skip
    refine c_skip ?_
    refine hK2 _ _ ?_
    refine c_rs fun K6 hK6 => ?_
    refine rd0 h (r_move rfl) rfl ?_; clear h ac wo; intro ac wo h
    refine clr (xs := (dgs (dn a) a)) h Tryz.call214 (vs := [(.string (bs a))]) rfl (fun w_ hB_ hS_ => (ig_digits_ct a (SzB_len za)) w_) rfl ?_; clear h ac wo; intro sv1 ac wo hpsv1 h
    refine rd0 h (r_move rfl) rfl ?_; clear h ac wo; intro ac wo h
    refine clr (xs := (dgs (dn b) b)) h Tryz.call214 (vs := [(.string (bs b))]) rfl (fun w_ hB_ hS_ => (ig_digits_ct b (SzB_len zb)) w_) rfl ?_; clear h ac wo; intro sv2 ac wo hpsv2 h
    refine rd0 h (r_assign rfl) rfl ?_; clear h ac wo; intro ac wo h
    refine rd0 h (r_assign rfl) rfl ?_; clear h ac wo; intro ac wo h
    refine w_nil ?_
    refine hK6 _ _ ?_
    refine c_rs fun K7 hK7 => ?_
    refine rd0 h (r_move rfl) rfl ?_; clear h ac wo; intro ac wo h
    refine rd0 h (r_len Tryz.runUnderlying289 rfl (h.dsl 1 rfl)) rfl ?_; clear h ac wo; intro ac wo h
    refine nw h (s_make (n := (dn a)) ((0 : Nat)) rfl slt289 rfl rfl rfl (by have := SzB_dn za; omega) (by have := SzB_dn za; omega)) rfl ?_; clear h ac wo; intro sv3 ac wo nnsv3 h
    refine rd0 h (r_assign rfl) rfl ?_; clear h ac wo; intro ac wo h
    refine w_nil ?_
    refine hK7 _ _ ?_
    refine c_rs fun K8 hK8 => ?_
    refine rd0 h (r_move rfl) rfl ?_; clear h ac wo; intro ac wo h
    refine rd0 h (r_move rfl) rfl ?_; clear h ac wo; intro ac wo h
    refine up2 h 0 2 (by decide) rfl rfl (s_copy Tryz.underlying289 (by kernel_rfl) rfl rfl rfl (by rw [dgs_length, List.length_replicate]; omega)) rfl ?_; clear h ac wo; intro ac wo h
    replace h := h.rowEq 0 rfl (copy_dgs (dn_lt a) (Nat.le_refl _))
    refine w_nil ?_
    refine hK8 _ _ ?_
    refine c_rs fun K9 hK9 => ?_
    refine rd0 h (r_assign rfl (v := (.int .i64 0))) rfl ?_; clear h ac wo; intro ac wo h
    refine w_nil ?_
    refine hK9 _ _ ?_
    refine c_seq fun K10 hK10 => ?_
    refine c_rs fun K11 hK11 => ?_
    refine rd0 h (r_move rfl) rfl ?_; clear h ac wo; intro ac wo h
    refine rd0 h (r_len Tryz.runUnderlying289 rfl (h.dsl 0 rfl)) rfl ?_; clear h ac wo; intro ac wo h
    refine rd0 h (r_move rfl (v := (.int .i64 0))) rfl ?_; clear h ac wo; intro ac wo h
    refine w_nil ?_
    refine hK11 _ _ ?_
    refine c_block ?_
    replace h := h.rowEq 0 rfl (by rw [mx_zero] : (dgs (dn a) a) = (dgs (dn a) (mx a 0 (a - b))))
    refine wp_loop_ghost (fun n_ a_ w_ => ∃ (i : Nat), n_ = dn a - i ∧ (i ≤ dn a) ∧ St w0 71 [(0, (.string (bs a))), (1, (.string (bs b))), (4, (.string (bs 0))), (5, (.int .u64 (((ig_words a b).1 : Nat) : Int))), (6, (.int .u64 (((ig_words a b).2.1 : Nat) : Int))), (7, (.bool ((ig_words a b).2.2))), (21, (.bool ((ig_words a b).2.2))), (8, sv1), (9, sv2), (10, sv3), (37, (.int .i64 (((dn a) : Nat) : Int))), (38, (.int .i64 ((i : Nat) : Int))), (11, (.int .i64 (((bw a b i) : Nat) : Int)))] [.row (α := Nat) 291 sv3 (dgs (dn a) (mx a i (a - b))), .row (α := Nat) 291 sv2 (dgs (dn b) b), .row (α := Nat) 291 sv1 (dgs (dn a) a)] a_ w_) _ ⟨0, rfl, (by omega), (h.pick [0, 1, 2] (by decide)).sub ⟨rfl, rfl, rfl, rfl, rfl, rfl, rfl, rfl, rfl, rfl, rfl, rfl, (by rw [bw_zero]; rfl), trivial⟩⟩ ?_
    clear h ac wo; rintro _ ac wo ⟨i, rfl, hi, h⟩
    refine c_rs fun K12 hK12 => ?_
    refine rd0 h (r_lss rfl rfl) rfl ?_; clear h ac wo; intro ac wo h
    refine w_nil ?_
    refine hK12 _ _ ?_
    refine c_seq fun K13 hK13 => ?_
    refine c_if (b := (decide (((i : Nat) : Int) < (((dn a) : Nat) : Int)))) h rfl (fun hc2 => ?_) (fun hc2 => ?_)
    · skip
      have hd2 := of_decide_eq_true hc2
      refine c_skip ?_
      refine hK13 _ _ ?_
      refine c_seq fun K14 hK14 => ?_
      refine c_block ?_
      refine c_rs fun K15 hK15 => ?_
      refine rd0 h (r_move rfl) rfl ?_; clear h ac wo; intro ac wo h
      refine rd0 h (r_assign rfl) rfl ?_; clear h ac wo; intro ac wo h
      refine w_nil ?_
      refine hK15 _ _ ?_
      refine c_rs fun K16 hK16 => ?_
      have hlt : i < dn a := by omega
      have hbl := bw_le a b i
      have hst := bw_step (i := i) rfl rfl hab
      refine rd0 h (r_move rfl) rfl ?_; clear h ac wo; intro ac wo h
      refine rd0 h (r_move rfl) rfl ?_; clear h ac wo; intro ac wo h
      refine rd0 h (r_ia (i := i) Tryz.runUnderlying289 Tryz.sizeOf291 rfl rfl (h.dnn 0 rfl (by omega)) (by omega)) rfl ?_; clear h ac wo; intro ac wo h
      refine rd1 h 0 rfl (r_ldR (k := 0) Tryz.isAgg291 Tryz.sizeOf291 (mx_get hlt) rfl rfl rfl rfl (v := (.int .u32 (((a / 4294967296 ^ i % 4294967296) : Nat) : Int))) rfl) rfl ?_; clear h ac wo; intro ac wo h
      refine rd0 h (r_convInt Tryz.runUnderlying291 Tryz.runUnderlying2 rfl (r := (((a / 4294967296 ^ i % 4294967296) : Nat) : Int)) (by rw [IntKind.wrap_i64]; omega)) rfl ?_; clear h ac wo; intro ac wo h
      refine rd0 h (r_move rfl) rfl ?_; clear h ac wo; intro ac wo h
      refine rd0 h (r_sub rfl rfl (r := ((((a / 4294967296 ^ i % 4294967296) : Nat) : Int) - (((bw a b i) : Nat) : Int))) (by rw [IntKind.wrap_i64]; omega)) rfl ?_; clear h ac wo; intro ac wo h
      refine rd0 h (r_assign rfl) rfl ?_; clear h ac wo; intro ac wo h
      refine w_nil ?_
      refine hK16 _ _ ?_
      refine c_seq fun K17 hK17 => ?_
      refine c_rs fun K18 hK18 => ?_
      refine rd0 h (r_move rfl) rfl ?_; clear h ac wo; intro ac wo h
      refine rd0 h (r_move rfl) rfl ?_; clear h ac wo; intro ac wo h
      refine rd0 h (r_len Tryz.runUnderlying289 rfl (h.dsl 1 rfl)) rfl ?_; clear h ac wo; intro ac wo h
      refine rd0 h (r_lss rfl rfl) rfl ?_; clear h ac wo; intro ac wo h
      refine w_nil ?_
      refine hK18 _ _ ?_
      refine c_if (b := (decide (((i : Nat) : Int) < (((dn b) : Nat) : Int)))) h rfl (fun hc3 => ?_) (fun hc3 => ?_)
      · skip
        have hd3 := of_decide_eq_true hc3
        refine c_r ?_
        refine rd0 h (r_move rfl) rfl ?_; clear h ac wo; intro ac wo h
        refine rd0 h (r_move rfl) rfl ?_; clear h ac wo; intro ac wo h
        refine rd0 h (r_move rfl) rfl ?_; clear h ac wo; intro ac wo h
        refine rd0 h (r_ia (i := i) Tryz.runUnderlying289 Tryz.sizeOf291 rfl rfl (h.dnn 1 rfl (by omega)) (by omega)) rfl ?_; clear h ac wo; intro ac wo h
        refine rd1 h 1 rfl (r_ldR (k := 0) Tryz.isAgg291 Tryz.sizeOf291 (dgs_get (n := (dn b)) (by omega)) rfl rfl rfl rfl (v := (.int .u32 (((b / 4294967296 ^ i % 4294967296) : Nat) : Int))) rfl) rfl ?_; clear h ac wo; intro ac wo h
        refine rd0 h (r_convInt Tryz.runUnderlying291 Tryz.runUnderlying2 rfl (r := (((b / 4294967296 ^ i % 4294967296) : Nat) : Int)) (by rw [IntKind.wrap_i64]; omega)) rfl ?_; clear h ac wo; intro ac wo h
        refine rd0 h (r_sub rfl rfl (r := (((((a / 4294967296 ^ i % 4294967296) : Nat) : Int) - (((bw a b i) : Nat) : Int)) - (((b / 4294967296 ^ i % 4294967296) : Nat) : Int))) (by rw [IntKind.wrap_i64]; omega)) rfl ?_; clear h ac wo; intro ac wo h
        refine rd0 h (r_assign rfl) rfl ?_; clear h ac wo; intro ac wo h
        refine w_nil ?_
        refine hK17 _ _ ?_
        refine c_rs fun K19 hK19 => ?_
        refine rd0 h (r_assign rfl (v := (.int .i64 0))) rfl ?_; clear h ac wo; intro ac wo h
        refine w_nil ?_
        refine hK19 _ _ ?_
        refine c_seq fun K20 hK20 => ?_
        refine c_rs fun K21 hK21 => ?_
        refine rd0 h (r_move rfl) rfl ?_; clear h ac wo; intro ac wo h
        refine rd0 h (r_lss rfl rfl) rfl ?_; clear h ac wo; intro ac wo h
        refine w_nil ?_
        refine hK21 _ _ ?_
        refine c_if (b := (decide ((((((a / 4294967296 ^ i % 4294967296) : Nat) : Int) - (((bw a b i) : Nat) : Int)) - (((b / 4294967296 ^ i % 4294967296) : Nat) : Int)) < 0))) h rfl (fun hc4 => ?_) (fun hc4 => ?_)
        · skip
          have hd4 := of_decide_eq_true hc4
          rw [if_pos (by omega), if_pos (by omega)] at hst
          refine c_r ?_
          refine rd0 h (r_move rfl) rfl ?_; clear h ac wo; intro ac wo h
          refine rd0 h (r_add rfl rfl (r := ((((((a / 4294967296 ^ i % 4294967296) : Nat) : Int) - (((bw a b i) : Nat) : Int)) - (((b / 4294967296 ^ i % 4294967296) : Nat) : Int)) + 4294967296)) (by rw [IntKind.wrap_i64]; omega)) rfl ?_; clear h ac wo; intro ac wo h
          refine rd0 h (r_assign rfl) rfl ?_; clear h ac wo; intro ac wo h
          refine rd0 h (r_assign rfl (v := (.int .i64 1))) rfl ?_; clear h ac wo; intro ac wo h
          refine w_nil ?_
          refine hK20 _ _ ?_
          refine c_r ?_
          refine rd0 h (r_move rfl) rfl ?_; clear h ac wo; intro ac wo h
          refine rd0 h (r_move rfl) rfl ?_; clear h ac wo; intro ac wo h
          refine rd0 h (r_move rfl) rfl ?_; clear h ac wo; intro ac wo h
          refine rd0 h (r_convInt Tryz.runUnderlying2 Tryz.runUnderlying291 rfl (r := (((a - b) / 4294967296 ^ i % 4294967296 : Nat) : Int)) (by rw [IntKind.wrap_u32', hst.2]; omega)) rfl ?_; clear h ac wo; intro ac wo h
          refine rd0 h (r_ia (i := i) Tryz.runUnderlying289 Tryz.sizeOf291 rfl rfl (h.dnn 0 rfl (by omega)) (by omega)) rfl ?_; clear h ac wo; intro ac wo h
          refine up h 0 rfl (s_stR (k := 0) (u' := ((a - b) / 4294967296 ^ i % 4294967296)) Tryz.sizeOf291 (mx_get hlt) rfl rfl rfl rfl rfl rfl rfl rfl) ?_; clear h ac wo; intro ac wo h
          replace h := h.rowEq 0 rfl (mx_set)
          refine w_nil ?_
          refine b_norm ?_
          refine hK14 _ _ ?_
          refine c_r ?_
          refine rd0 h (r_add rfl rfl (r := ((i + 1 : Nat) : Int)) (by rw [IntKind.wrap_i64]; omega)) rfl ?_; clear h ac wo; intro ac wo h
          refine rd0 h (r_move rfl) rfl ?_; clear h ac wo; intro ac wo h
          refine w_nil ?_
          exact next_round ⟨_, (by omega), i + 1, rfl, (by omega), (h.pick [0, 1, 2] (by decide)).sub ⟨rfl, rfl, rfl, rfl, rfl, rfl, rfl, rfl, rfl, rfl, rfl, rfl, (by rw [hst.1]; rfl), trivial⟩⟩
        · skip
          have hd4 := of_decide_eq_false hc4
          rw [if_neg (by omega), if_neg (by omega)] at hst
          refine c_skip ?_
          refine hK20 _ _ ?_
          refine c_r ?_
          refine rd0 h (r_move rfl) rfl ?_; clear h ac wo; intro ac wo h
          refine rd0 h (r_move rfl) rfl ?_; clear h ac wo; intro ac wo h
          refine rd0 h (r_move rfl) rfl ?_; clear h ac wo; intro ac wo h
          refine rd0 h (r_convInt Tryz.runUnderlying2 Tryz.runUnderlying291 rfl (r := (((a - b) / 4294967296 ^ i % 4294967296 : Nat) : Int)) (by rw [IntKind.wrap_u32', hst.2]; omega)) rfl ?_; clear h ac wo; intro ac wo h
          refine rd0 h (r_ia (i := i) Tryz.runUnderlying289 Tryz.sizeOf291 rfl rfl (h.dnn 0 rfl (by omega)) (by omega)) rfl ?_; clear h ac wo; intro ac wo h
          refine up h 0 rfl (s_stR (k := 0) (u' := ((a - b) / 4294967296 ^ i % 4294967296)) Tryz.sizeOf291 (mx_get hlt) rfl rfl rfl rfl rfl rfl rfl rfl) ?_; clear h ac wo; intro ac wo h
          replace h := h.rowEq 0 rfl (mx_set)
          refine w_nil ?_
          refine b_norm ?_
          refine hK14 _ _ ?_
          refine c_r ?_
          refine rd0 h (r_add rfl rfl (r := ((i + 1 : Nat) : Int)) (by rw [IntKind.wrap_i64]; omega)) rfl ?_; clear h ac wo; intro ac wo h
          refine rd0 h (r_move rfl) rfl ?_; clear h ac wo; intro ac wo h
          refine w_nil ?_
          exact next_round ⟨_, (by omega), i + 1, rfl, (by omega), (h.pick [0, 1, 2] (by decide)).sub ⟨rfl, rfl, rfl, rfl, rfl, rfl, rfl, rfl, rfl, rfl, rfl, rfl, (by rw [hst.1]; rfl), trivial⟩⟩
      · skip
        have hd3 := of_decide_eq_false hc3
        have hq0 := dig_zero (i := i) (dn_lt b) (by omega)
        refine c_skip ?_
        refine hK17 _ _ ?_
        refine c_rs fun K22 hK22 => ?_
        refine rd0 h (r_assign rfl (v := (.int .i64 0))) rfl ?_; clear h ac wo; intro ac wo h
        refine w_nil ?_
        refine hK22 _ _ ?_
        refine c_seq fun K23 hK23 => ?_
        refine c_rs fun K24 hK24 => ?_
        refine rd0 h (r_move rfl) rfl ?_; clear h ac wo; intro ac wo h
        refine rd0 h (r_lss rfl rfl) rfl ?_; clear h ac wo; intro ac wo h
        refine w_nil ?_
        refine hK24 _ _ ?_
        refine c_if (b := (decide (((((a / 4294967296 ^ i % 4294967296) : Nat) : Int) - (((bw a b i) : Nat) : Int)) < 0))) h rfl (fun hc5 => ?_) (fun hc5 => ?_)
        · skip
          have hd5 := of_decide_eq_true hc5
          rw [if_pos (by omega), if_pos (by omega)] at hst
          refine c_r ?_
          refine rd0 h (r_move rfl) rfl ?_; clear h ac wo; intro ac wo h
          refine rd0 h (r_add rfl rfl (r := (((((a / 4294967296 ^ i % 4294967296) : Nat) : Int) - (((bw a b i) : Nat) : Int)) + 4294967296)) (by rw [IntKind.wrap_i64]; omega)) rfl ?_; clear h ac wo; intro ac wo h
          refine rd0 h (r_assign rfl) rfl ?_; clear h ac wo; intro ac wo h
          refine rd0 h (r_assign rfl (v := (.int .i64 1))) rfl ?_; clear h ac wo; intro ac wo h
          refine w_nil ?_
          refine hK23 _ _ ?_
          refine c_r ?_
          refine rd0 h (r_move rfl) rfl ?_; clear h ac wo; intro ac wo h
          refine rd0 h (r_move rfl) rfl ?_; clear h ac wo; intro ac wo h
          refine rd0 h (r_move rfl) rfl ?_; clear h ac wo; intro ac wo h
          refine rd0 h (r_convInt Tryz.runUnderlying2 Tryz.runUnderlying291 rfl (r := (((a - b) / 4294967296 ^ i % 4294967296 : Nat) : Int)) (by rw [IntKind.wrap_u32', hst.2]; omega)) rfl ?_; clear h ac wo; intro ac wo h
          refine rd0 h (r_ia (i := i) Tryz.runUnderlying289 Tryz.sizeOf291 rfl rfl (h.dnn 0 rfl (by omega)) (by omega)) rfl ?_; clear h ac wo; intro ac wo h
          refine up h 0 rfl (s_stR (k := 0) (u' := ((a - b) / 4294967296 ^ i % 4294967296)) Tryz.sizeOf291 (mx_get hlt) rfl rfl rfl rfl rfl rfl rfl rfl) ?_; clear h ac wo; intro ac wo h
          replace h := h.rowEq 0 rfl (mx_set)
          refine w_nil ?_
          refine b_norm ?_
          refine hK14 _ _ ?_
          refine c_r ?_
          refine rd0 h (r_add rfl rfl (r := ((i + 1 : Nat) : Int)) (by rw [IntKind.wrap_i64]; omega)) rfl ?_; clear h ac wo; intro ac wo h
          refine rd0 h (r_move rfl) rfl ?_; clear h ac wo; intro ac wo h
          refine w_nil ?_
          exact next_round ⟨_, (by omega), i + 1, rfl, (by omega), (h.pick [0, 1, 2] (by decide)).sub ⟨rfl, rfl, rfl, rfl, rfl, rfl, rfl, rfl, rfl, rfl, rfl, rfl, (by rw [hst.1]; rfl), trivial⟩⟩
        · skip
          have hd5 := of_decide_eq_false hc5
          rw [if_neg (by omega), if_neg (by omega)] at hst
          refine c_skip ?_
          refine hK23 _ _ ?_
          refine c_r ?_
          refine rd0 h (r_move rfl) rfl ?_; clear h ac wo; intro ac wo h
          refine rd0 h (r_move rfl) rfl ?_; clear h ac wo; intro ac wo h
          refine rd0 h (r_move rfl) rfl ?_; clear h ac wo; intro ac wo h
          refine rd0 h (r_convInt Tryz.runUnderlying2 Tryz.runUnderlying291 rfl (r := (((a - b) / 4294967296 ^ i % 4294967296 : Nat) : Int)) (by rw [IntKind.wrap_u32', hst.2]; omega)) rfl ?_; clear h ac wo; intro ac wo h
          refine rd0 h (r_ia (i := i) Tryz.runUnderlying289 Tryz.sizeOf291 rfl rfl (h.dnn 0 rfl (by omega)) (by omega)) rfl ?_; clear h ac wo; intro ac wo h
          refine up h 0 rfl (s_stR (k := 0) (u' := ((a - b) / 4294967296 ^ i % 4294967296)) Tryz.sizeOf291 (mx_get hlt) rfl rfl rfl rfl rfl rfl rfl rfl) ?_; clear h ac wo; intro ac wo h
          replace h := h.rowEq 0 rfl (mx_set)
          refine w_nil ?_
          refine b_norm ?_
          refine hK14 _ _ ?_
          refine c_r ?_
          refine rd0 h (r_add rfl rfl (r := ((i + 1 : Nat) : Int)) (by rw [IntKind.wrap_i64]; omega)) rfl ?_; clear h ac wo; intro ac wo h
          refine rd0 h (r_move rfl) rfl ?_; clear h ac wo; intro ac wo h
          refine w_nil ?_
          exact next_round ⟨_, (by omega), i + 1, rfl, (by omega), (h.pick [0, 1, 2] (by decide)).sub ⟨rfl, rfl, rfl, rfl, rfl, rfl, rfl, rfl, rfl, rfl, rfl, rfl, (by rw [hst.1]; rfl), trivial⟩⟩
    · skip
      have hd2 := of_decide_eq_false hc2
      refine c_exit ?_
      refine hK10 _ _ ?_
      refine c_rs fun K25 hK25 => ?_
      have hie : i = dn a := by omega
      subst hie
      rw [mx_all (dn_lt a) (by have := dn_lt a; omega)] at h
      refine rd0 h (r_move rfl) rfl ?_; clear h ac wo; intro ac wo h
      refine clq h Tryz.call215 (vs := [sv3]) rfl (fun w_ hB_ hS_ => ig_nat_bytes_ct (dn a) (a - b) sv3 (by have := dn_lt a; omega) (by have := SzB_dn za; omega) w_ (row_view hS_ 0 rfl)) rfl ?_; clear h ac wo; intro ac wo h
      refine rd0 h (r_assign rfl) rfl ?_; clear h ac wo; intro ac wo h
      refine w_nil ?_
      refine hK25 _ _ ?_
      refine c_ret ?_
      have hd : ig_sub a b = (a - b) := rfl
      exact ret (rs := [.tmp 4]) h rfl (.tmp rfl .nil) rfl (h.retP (by rw [hd] <;> rfl) (SzB_mono za (Nat.sub_le a b)))
def ig_mul (a b : Nat) : Nat := a * b
theorem ig_mul_ct (a : Nat) (b : Nat) (k : Nat) (hk : (k + 1) ≤ 40) (za : SzB (k + 1) a) (zb : SzB (k + 1) b) (w0 : World) : Calls Tryz.prog 189 #[(.string (bs a)), (.string (bs b))] w0 (RetP w0 (.string (bs (ig_mul a b))) (SzB k (ig_mul a b))) := by
  refine enter (N := 97) (args := [(.string (bs a)), (.string (bs b))]) Tryz.func189 rfl rfl ?_; intro ac h
  have hda := SzB_dn1 za
  have hdb := SzB_dn1 zb
  refine c_rs fun K1 hK1 => ?_
  refine rd0 h (r_assign rfl (v := (.string (bs 0)))) rfl ?_; clear h ac; intro ac wo h
  refine w_nil ?_
  refine hK1 _ _ ?_
  refine c_mid (fun a_ w_ => St w0 97 [(0, (.string (bs a))), (1, (.string (bs b)))] [] a_ w_) (fun K2 hK2 => ?_) ?_
  · skip
    refine c_rs fun K3 hK3 => ?_
    refine rd0 h (r_move rfl) rfl ?_; clear h ac wo; intro ac wo h
    refine rd0 h (r_move rfl) rfl ?_; clear h ac wo; intro ac wo h
    refine clp h Tryz.call193 (vs := [(.string (bs a)), (.string (bs b))]) rfl (ig_words_ct a b) rfl ?_; clear h ac wo; intro ac wo h
    refine rd0 h (r_move rfl) rfl ?_; clear h ac wo; intro ac wo h
    refine rd0 h (r_extract (vs := [(.int .u64 (((ig_words a b).1 : Nat) : Int)), (.int .u64 (((ig_words a b).2.1 : Nat) : Int)), (.bool ((ig_words a b).2.2))]) rfl rfl) rfl ?_; clear h ac wo; intro ac wo h
    refine rd0 h (r_extract (vs := [(.int .u64 (((ig_words a b).1 : Nat) : Int)), (.int .u64 (((ig_words a b).2.1 : Nat) : Int)), (.bool ((ig_words a b).2.2))]) rfl rfl) rfl ?_; clear h ac wo; intro ac wo h
    refine rd0 h (r_extract (vs := [(.int .u64 (((ig_words a b).1 : Nat) : Int)), (.int .u64 (((ig_words a b).2.1 : Nat) : Int)), (.bool ((ig_words a b).2.2))]) rfl rfl) rfl ?_; clear h ac wo; intro ac wo h
    refine rd0 h (r_assign rfl) rfl ?_; clear h ac wo; intro ac wo h
    refine rd0 h (r_assign rfl) rfl ?_; clear h ac wo; intro ac wo h
    refine rd0 h (r_assign rfl) rfl ?_; clear h ac wo; intro ac wo h
    refine w_nil ?_
    refine hK3 _ _ ?_
    refine c_rs fun K4 hK4 => ?_
    refine rd0 h (r_move rfl) rfl ?_; clear h ac wo; intro ac wo h
    refine w_nil ?_
    refine hK4 _ _ ?_
    refine c_if (b := (ig_words a b).2.2) h rfl (fun hc1 => ?_) (fun hc1 => ?_)
    · skip
      obtain ⟨ha6, hb6, hw⟩ := words_yes hc1
      simp only [hw] at h
      refine c_rs fun K5 hK5 => ?_
      refine rd0 h (r_move rfl) rfl ?_; clear h ac wo; intro ac wo h
      refine rd0 h (r_move rfl) rfl ?_; clear h ac wo; intro ac wo h
      refine clp h Tryz.call213 (vs := [(.int .u64 ((a : Nat) : Int)), (.int .u64 ((b : Nat) : Int))]) rfl (mul64 a b (by omega) (by omega)) rfl ?_; clear h ac wo; intro ac wo h
      refine rd0 h (r_move rfl) rfl ?_; clear h ac wo; intro ac wo h
      refine rd0 h (r_extract (vs := [(.int .u64 (((a * b / 18446744073709551616) : Nat) : Int)), (.int .u64 (((a * b % 18446744073709551616) : Nat) : Int))]) rfl rfl) rfl ?_; clear h ac wo; intro ac wo h
      refine rd0 h (r_extract (vs := [(.int .u64 (((a * b / 18446744073709551616) : Nat) : Int)), (.int .u64 (((a * b % 18446744073709551616) : Nat) : Int))]) rfl rfl) rfl ?_; clear h ac wo; intro ac wo h
      refine rd0 h (r_assign rfl) rfl ?_; clear h ac wo; intro ac wo h
      refine rd0 h (r_assign rfl) rfl ?_; clear h ac wo; intro ac wo h
      refine w_nil ?_
      refine hK5 _ _ ?_
      refine c_rs fun K6 hK6 => ?_
      refine rd0 h (r_move rfl) rfl ?_; clear h ac wo; intro ac wo h
      refine rd0 h (r_eql rfl rfl) rfl ?_; clear h ac wo; intro ac wo h
      refine w_nil ?_
      refine hK6 _ _ ?_
      refine c_if (b := ((((a * b / 18446744073709551616) : Nat) : Int) == 0)) h rfl (fun hc2 => ?_) (fun hc2 => ?_)
      · skip
        have hd2 := eq_of_beq hc2
        refine c_rs fun K7 hK7 => ?_
        refine rd0 h (r_move rfl) rfl ?_; clear h ac wo; intro ac wo h
        refine clp h Tryz.call173 (vs := [(.int .u64 (((a * b % 18446744073709551616) : Nat) : Int))]) rfl (ig_magnitude_ct (a * b % 18446744073709551616) (by omega)) rfl ?_; clear h ac wo; intro ac wo h
        refine rd0 h (r_assign rfl) rfl ?_; clear h ac wo; intro ac wo h
        refine w_nil ?_
        refine hK7 _ _ ?_
        refine c_ret ?_
        have hd : ig_mul a b = (ig_magnitude (a * b % 18446744073709551616)) := (by show a * b = a * b % 18446744073709551616; omega)
        exact ret (rs := [.tmp 4]) h rfl (.tmp rfl .nil) rfl (h.retP (by rw [hd] <;> rfl) (SzB_mul za zb))
      · skip
        have hd2 := ne_of_beq_false hc2
        refine c_skip ?_
        exact hK2 _ _ ((h.pick [] (by decide)).sub ⟨rfl, rfl, trivial⟩)
    · skip
      refine c_skip ?_
      exact hK2 _ _ ((h.pick [] (by decide)).sub ⟨rfl, rfl, trivial⟩)
  · skip
    clear h ac wo; intro ac wo h
    refine c_rs fun K8 hK8 => ?_
    refine rd0 h (r_move rfl) rfl ?_; clear h ac wo; intro ac wo h
    refine clr (xs := (dgs (dn a) a)) h Tryz.call214 (vs := [(.string (bs a))]) rfl (fun w_ hB_ hS_ => (ig_digits_ct a (SzB_len za)) w_) rfl ?_; clear h ac wo; intro sv1 ac wo hpsv1 h
    refine rd0 h (r_move rfl) rfl ?_; clear h ac wo; intro ac wo h
    refine clr (xs := (dgs (dn b) b)) h Tryz.call214 (vs := [(.string (bs b))]) rfl (fun w_ hB_ hS_ => (ig_digits_ct b (SzB_len zb)) w_) rfl ?_; clear h ac wo; intro sv2 ac wo hpsv2 h
    refine rd0 h (r_assign rfl) rfl ?_; clear h ac wo; intro ac wo h
    refine rd0 h (r_assign rfl) rfl ?_; clear h ac wo; intro ac wo h
    refine w_nil ?_
    refine hK8 _ _ ?_
    refine c_rs fun K9 hK9 => ?_
    refine rd0 h (r_move rfl) rfl ?_; clear h ac wo; intro ac wo h
    refine rd0 h (r_len Tryz.runUnderlying289 rfl (h.dsl 1 rfl)) rfl ?_; clear h ac wo; intro ac wo h
    refine rd0 h (r_move rfl) rfl ?_; clear h ac wo; intro ac wo h
    refine rd0 h (r_len Tryz.runUnderlying289 rfl (h.dsl 0 rfl)) rfl ?_; clear h ac wo; intro ac wo h
    refine rd0 h (r_add rfl rfl (r := (((dn a) + (dn b) : Nat) : Int)) (by have := SzB_dn za; have := SzB_dn zb; rw [IntKind.wrap_i64]; omega)) rfl ?_; clear h ac wo; intro ac wo h
    refine rd0 h (r_add rfl rfl (r := ((((dn a) + (dn b)) + 1 : Nat) : Int)) (by have := SzB_dn za; have := SzB_dn zb; rw [IntKind.wrap_i64]; omega)) rfl ?_; clear h ac wo; intro ac wo h
    refine nw h (s_make (n := (((dn a) + (dn b)) + 1)) ((0 : Nat)) rfl slt289 rfl rfl rfl (by have := SzB_dn1 za; have := SzB_dn1 zb; omega) (by have := SzB_dn1 za; have := SzB_dn1 zb; omega)) rfl ?_; clear h ac wo; intro sv3 ac wo nnsv3 h
    refine rd0 h (r_assign rfl) rfl ?_; clear h ac wo; intro ac wo h
    refine w_nil ?_
    refine hK9 _ _ ?_
    refine c_seq fun K10 hK10 => ?_
    refine c_rs fun K11 hK11 => ?_
    refine rd0 h (r_move rfl) rfl ?_; clear h ac wo; intro ac wo h
    refine rd0 h (r_len Tryz.runUnderlying289 rfl (h.dsl 2 rfl)) rfl ?_; clear h ac wo; intro ac wo h
    refine rd0 h (r_move rfl (v := (.int .i64 0))) rfl ?_; clear h ac wo; intro ac wo h
    refine w_nil ?_
    refine hK11 _ _ ?_
    refine c_block ?_
    replace h := h.rowEq 0 rfl (by rw [show a % 4294967296 ^ 0 * b = 0 by simp [Nat.mod_one]]; exact (dgs_zero _).symm : (List.replicate (((dn a) + (dn b)) + 1) (0 : Nat)) = (dgs (dn a + dn b + 1) (a % 4294967296 ^ 0 * b)))
    refine wp_loop_ghost (fun n_ a_ w_ => ∃ (i : Nat), n_ = dn a - i ∧ (i ≤ dn a) ∧ St w0 97 [(0, (.string (bs a))), (1, (.string (bs b))), (10, sv1), (11, sv2), (12, sv3), (46, sv1), (47, (.int .i64 (((dn a) : Nat) : Int))), (48, (.int .i64 ((i : Nat) : Int)))] [.row (α := Nat) 291 sv3 (dgs (dn a + dn b + 1) (a % 4294967296 ^ i * b)), .row (α := Nat) 291 sv2 (dgs (dn b) b), .row (α := Nat) 291 sv1 (dgs (dn a) a)] a_ w_) _ ⟨0, rfl, (by omega), (h.pick [0, 1, 2] (by decide)).sub ⟨rfl, rfl, rfl, rfl, rfl, rfl, rfl, rfl, trivial⟩⟩ ?_
    clear h ac wo; rintro _ ac wo ⟨i, rfl, hi, h⟩
    refine c_rs fun K12 hK12 => ?_
    refine rd0 h (r_lss rfl rfl) rfl ?_; clear h ac wo; intro ac wo h
    refine w_nil ?_
    refine hK12 _ _ ?_
    refine c_seq fun K13 hK13 => ?_
    refine c_if (b := (decide (((i : Nat) : Int) < (((dn a) : Nat) : Int)))) h rfl (fun hc3 => ?_) (fun hc3 => ?_)
    · skip
      have hd3 := of_decide_eq_true hc3
      refine c_skip ?_
      refine hK13 _ _ ?_
      refine c_seq fun K14 hK14 => ?_
      refine c_block ?_
      refine c_rs fun K15 hK15 => ?_
      refine rd0 h (r_move rfl) rfl ?_; clear h ac wo; intro ac wo h
      refine rd0 h (r_ia (i := i) Tryz.runUnderlying289 Tryz.sizeOf291 rfl rfl (h.dnn 2 rfl (by omega)) (by omega)) rfl ?_; clear h ac wo; intro ac wo h
      refine rd1 h 2 rfl (r_ldR (k := 0) Tryz.isAgg291 Tryz.sizeOf291 (dgs_get (n := (dn a)) (by omega)) rfl rfl rfl rfl (v := (.int .u32 (((a / 4294967296 ^ i % 4294967296) : Nat) : Int))) rfl) rfl ?_; clear h ac wo; intro ac wo h
      refine rd0 h (r_assign rfl) rfl ?_; clear h ac wo; intro ac wo h
      refine rd0 h (r_assign rfl) rfl ?_; clear h ac wo; intro ac wo h
      refine w_nil ?_
      refine hK15 _ _ ?_
      refine c_rs fun K16 hK16 => ?_
      refine rd0 h (r_assign rfl (v := (.int .u64 0))) rfl ?_; clear h ac wo; intro ac wo h
      refine w_nil ?_
      refine hK16 _ _ ?_
      refine c_seq fun K17 hK17 => ?_
      refine c_rs fun K18 hK18 => ?_
      refine rd0 h (r_move rfl) rfl ?_; clear h ac wo; intro ac wo h
      refine rd0 h (r_len Tryz.runUnderlying289 rfl (h.dsl 1 rfl)) rfl ?_; clear h ac wo; intro ac wo h
      refine rd0 h (r_move rfl (v := (.int .i64 0))) rfl ?_; clear h ac wo; intro ac wo h
      refine w_nil ?_
      refine hK18 _ _ ?_
      refine c_block ?_
      have hlt : i < dn a := by omega
      replace h := h.rowEq 0 rfl (by show _ = dgs _ (mx (a % 4294967296 ^ i * b) i (a % 4294967296 ^ (i + 1) * b)); rw [pp_next, mx_start] : (dgs (dn a + dn b + 1) (a % 4294967296 ^ i * b)) = (dgs (dn a + dn b + 1) (mx (a % 4294967296 ^ i * b) (i + 0) (a % 4294967296 ^ (i + 1) * b))))
      refine wp_loop_ghost (fun n_ a_ w_ => ∃ (k : Nat), n_ = dn b - k ∧ (k ≤ dn b) ∧ St w0 97 [(0, (.string (bs a))), (1, (.string (bs b))), (10, sv1), (11, sv2), (12, sv3), (46, sv1), (47, (.int .i64 (((dn a) : Nat) : Int))), (48, (.int .i64 ((i : Nat) : Int))), (49, (.bool (decide (((i : Nat) : Int) < (((dn a) : Nat) : Int))))), (13, (.int .i64 ((i : Nat) : Int))), (14, (.int .u32 (((a / 4294967296 ^ i % 4294967296) : Nat) : Int))), (54, (.int .i64 (((dn b) : Nat) : Int))), (55, (.int .i64 ((k : Nat) : Int))), (15, (.int .u64 (((mc (a % 4294967296 ^ i * b / 4294967296 ^ i) (a / 4294967296 ^ i % 4294967296) b k) : Nat) : Int)))] [.row (α := Nat) 291 sv3 (dgs (dn a + dn b + 1) (mx (a % 4294967296 ^ i * b) (i + k) (a % 4294967296 ^ (i + 1) * b))), .row (α := Nat) 291 sv2 (dgs (dn b) b), .row (α := Nat) 291 sv1 (dgs (dn a) a)] a_ w_) _ ⟨0, rfl, (by omega), (h.pick [0, 1, 2] (by decide)).sub ⟨rfl, rfl, rfl, rfl, rfl, rfl, rfl, rfl, rfl, rfl, rfl, rfl, rfl, (by rw [mc_zero]; rfl), trivial⟩⟩ ?_
      clear h ac wo; rintro _ ac wo ⟨k, rfl, hk, h⟩
      refine c_rs fun K19 hK19 => ?_
      refine rd0 h (r_lss rfl rfl) rfl ?_; clear h ac wo; intro ac wo h
      refine w_nil ?_
      refine hK19 _ _ ?_
      refine c_seq fun K20 hK20 => ?_
      refine c_if (b := (decide (((k : Nat) : Int) < (((dn b) : Nat) : Int)))) h rfl (fun hc4 => ?_) (fun hc4 => ?_)
      · skip
        have hd4 := of_decide_eq_true hc4
        refine c_skip ?_
        refine hK20 _ _ ?_
        refine c_seq fun K21 hK21 => ?_
        refine c_block ?_
        refine c_rs fun K22 hK22 => ?_
        refine rd0 h (r_move rfl) rfl ?_; clear h ac wo; intro ac wo h
        refine rd0 h (r_assign rfl) rfl ?_; clear h ac wo; intro ac wo h
        refine w_nil ?_
        refine hK22 _ _ ?_
        refine c_seq fun K23 hK23 => ?_
        have hlk : i + k < dn a + dn b + 1 := by omega
        have hcl : (mc (a % 4294967296 ^ i * b / 4294967296 ^ i) (a / 4294967296 ^ i % 4294967296) b k) < 4294967296 := mc_lt (Nat.mod_lt _ (by decide))
        have hdig := pp_digit a b i k
        have hnx := pp_carry a b i k
        have hml := dig_mul_le (x := (a / 4294967296 ^ i % 4294967296)) (y := b / 4294967296 ^ k % 4294967296) (Nat.mod_lt _ (by decide)) (Nat.mod_lt _ (by decide))
        refine draws mixed [⟨.det (.int .u64 (((mc (a % 4294967296 ^ i * b / 4294967296 ^ i) (a / 4294967296 ^ i % 4294967296) b k) : Nat) : Int)), []⟩, ⟨.det sv3, []⟩, ⟨.det (.int .i64 ((i : Nat) : Int)), []⟩, ⟨.det (.int .i64 ((k : Nat) : Int)), []⟩, ⟨.det (.int .i64 ((i + k : Nat) : Int)), []⟩, ⟨.det (sel sv3 ((i + k) * 1)), []⟩, ⟨.det (.int .u32 ((((a % 4294967296 ^ i * b) / 4294967296 ^ (i + k) % 4294967296) : Nat) : Int)), [0]⟩, ⟨.det (.int .u64 ((((a % 4294967296 ^ i * b) / 4294967296 ^ (i + k) % 4294967296) : Nat) : Int)), []⟩, ⟨.det (.int .u32 (((a / 4294967296 ^ i % 4294967296) : Nat) : Int)), []⟩, ⟨.det (.int .u64 (((a / 4294967296 ^ i % 4294967296) : Nat) : Int)), []⟩, ⟨.det sv2, []⟩, ⟨.det (.int .i64 ((k : Nat) : Int)), []⟩, ⟨.det (sel sv2 (k * 1)), []⟩, ⟨.det (.int .u32 (((b / 4294967296 ^ k % 4294967296) : Nat) : Int)), [1]⟩, ⟨.det (.int .u64 (((b / 4294967296 ^ k % 4294967296) : Nat) : Int)), []⟩, ⟨.det (.int .u64 (((a / 4294967296 ^ i % 4294967296) * (b / 4294967296 ^ k % 4294967296) : Nat) : Int)), []⟩, ⟨.det (.int .u64 ((((a % 4294967296 ^ i * b) / 4294967296 ^ (i + k) % 4294967296) + ((a / 4294967296 ^ i % 4294967296) * (b / 4294967296 ^ k % 4294967296)) : Nat) : Int)), []⟩, ⟨.det (.int .u64 (((mc (a % 4294967296 ^ i * b / 4294967296 ^ i) (a / 4294967296 ^ i % 4294967296) b k) + (((a % 4294967296 ^ i * b) / 4294967296 ^ (i + k) % 4294967296) + ((a / 4294967296 ^ i % 4294967296) * (b / 4294967296 ^ k % 4294967296))) : Nat) : Int)), []⟩, ⟨.det (.int .u64 (((mc (a % 4294967296 ^ i * b / 4294967296 ^ i) (a / 4294967296 ^ i % 4294967296) b k) + (((a % 4294967296 ^ i * b) / 4294967296 ^ (i + k) % 4294967296) + ((a / 4294967296 ^ i % 4294967296) * (b / 4294967296 ^ k % 4294967296))) : Nat) : Int)), []⟩] [⟨.row (α := Nat) 291 sv3 (dgs (dn a + dn b + 1) (mx (a % 4294967296 ^ i * b) (i + k) (a % 4294967296 ^ (i + 1) * b))), []⟩, ⟨.row (α := Nat) 291 sv2 (dgs (dn b) b), []⟩, ⟨.row (α := Nat) 291 sv1 (dgs (dn a) a), []⟩] h rfl (by kernel_rfl) ⟨?_, ?_, ?_, ?_, ?_, ?_, ?_, ?_, ?_, ?_, ?_, ?_, ?_, ?_, ?_, ?_, ?_, ?_, ?_, trivial⟩ ?_
        · intro ξ hφ; exact ob_r0 (r_move rfl)
        · intro ξ hφ; exact ob_r0 (r_move rfl)
        · intro ξ hφ; exact ob_r0 (r_move rfl)
        · intro ξ hφ; exact ob_r0 (r_move rfl)
        · intro ξ hφ; exact ob_r0 (r_add rfl rfl (r := ((i + k : Nat) : Int)) (by have := SzB_dn za; have := SzB_dn zb; rw [IntKind.wrap_i64]; omega))
        · intro ξ hφ; exact ob_r0 (r_ia (i := (i + k)) Tryz.runUnderlying289 Tryz.sizeOf291 rfl rfl (h.dnn 0 rfl (by omega)) (by omega))
        · intro ξ hφ; exact ob_r [.row (α := Nat) 291 sv3 (dgs (dn a + dn b + 1) (mx (a % 4294967296 ^ i * b) (i + k) (a % 4294967296 ^ (i + 1) * b)))] rfl rfl (r_ldR (k := 0) Tryz.isAgg291 Tryz.sizeOf291 (mx_get hlk) rfl rfl rfl rfl (v := (.int .u32 ((((a % 4294967296 ^ i * b) / 4294967296 ^ (i + k) % 4294967296) : Nat) : Int))) rfl)
        · intro ξ hφ; exact ob_r0 (r_convInt Tryz.runUnderlying291 Tryz.runUnderlying234 rfl (r := ((((a % 4294967296 ^ i * b) / 4294967296 ^ (i + k) % 4294967296) : Nat) : Int)) (by rw [IntKind.wrap_u64]; omega))
        · intro ξ hφ; exact ob_r0 (r_move rfl)
        · intro ξ hφ; exact ob_r0 (r_convInt Tryz.runUnderlying291 Tryz.runUnderlying234 rfl (r := (((a / 4294967296 ^ i % 4294967296) : Nat) : Int)) (by rw [IntKind.wrap_u64]; omega))
        · intro ξ hφ; exact ob_r0 (r_move rfl)
        · intro ξ hφ; exact ob_r0 (r_move rfl)
        · intro ξ hφ; exact ob_r0 (r_ia (i := k) Tryz.runUnderlying289 Tryz.sizeOf291 rfl rfl (h.dnn 1 rfl (by omega)) (by omega))
        · intro ξ hφ; exact ob_r [.row (α := Nat) 291 sv2 (dgs (dn b) b)] rfl rfl (r_ldR (k := 0) Tryz.isAgg291 Tryz.sizeOf291 (dgs_get (n := (dn b)) (by omega)) rfl rfl rfl rfl (v := (.int .u32 (((b / 4294967296 ^ k % 4294967296) : Nat) : Int))) rfl)
        · intro ξ hφ; exact ob_r0 (r_convInt Tryz.runUnderlying291 Tryz.runUnderlying234 rfl (r := (((b / 4294967296 ^ k % 4294967296) : Nat) : Int)) (by rw [IntKind.wrap_u64]; omega))
        · intro ξ hφ; exact ob_r0 (r_mul rfl rfl (r := (((a / 4294967296 ^ i % 4294967296) * (b / 4294967296 ^ k % 4294967296) : Nat) : Int)) (by rw [IntKind.wrap_u64]; omega))
        · intro ξ hφ; exact ob_r0 (r_add rfl rfl (r := ((((a % 4294967296 ^ i * b) / 4294967296 ^ (i + k) % 4294967296) + ((a / 4294967296 ^ i % 4294967296) * (b / 4294967296 ^ k % 4294967296)) : Nat) : Int)) (by rw [IntKind.wrap_u64]; omega))
        · intro ξ hφ; exact ob_r0 (r_add rfl rfl (r := (((mc (a % 4294967296 ^ i * b / 4294967296 ^ i) (a / 4294967296 ^ i % 4294967296) b k) + (((a % 4294967296 ^ i * b) / 4294967296 ^ (i + k) % 4294967296) + ((a / 4294967296 ^ i % 4294967296) * (b / 4294967296 ^ k % 4294967296))) : Nat) : Int)) (by rw [IntKind.wrap_u64]; omega))
        · intro ξ hφ; exact ob_r0 (r_assign rfl)
        clear h ac wo; intro ξ ac wo hφ h
        replace h : St w0 97 [(0, (.string (bs a))), (1, (.string (bs b))), (10, sv1), (11, sv2), (12, sv3), (46, sv1), (47, (.int .i64 (((dn a) : Nat) : Int))), (48, (.int .i64 ((i : Nat) : Int))), (49, (.bool (decide (((i : Nat) : Int) < (((dn a) : Nat) : Int))))), (13, (.int .i64 ((i : Nat) : Int))), (14, (.int .u32 (((a / 4294967296 ^ i % 4294967296) : Nat) : Int))), (54, (.int .i64 (((dn b) : Nat) : Int))), (55, (.int .i64 ((k : Nat) : Int))), (15, (.int .u64 (((mc (a % 4294967296 ^ i * b / 4294967296 ^ i) (a / 4294967296 ^ i % 4294967296) b k) + (((a % 4294967296 ^ i * b) / 4294967296 ^ (i + k) % 4294967296) + ((a / 4294967296 ^ i % 4294967296) * (b / 4294967296 ^ k % 4294967296))) : Nat) : Int))), (56, (.bool (decide (((k : Nat) : Int) < (((dn b) : Nat) : Int))))), (16, (.int .i64 ((k : Nat) : Int)))] [.row (α := Nat) 291 sv3 (dgs (dn a + dn b + 1) (mx (a % 4294967296 ^ i * b) (i + k) (a % 4294967296 ^ (i + 1) * b))), .row (α := Nat) 291 sv2 (dgs (dn b) b), .row (α := Nat) 291 sv1 (dgs (dn a) a)] ac wo := h.sub ⟨rfl, rfl, rfl, rfl, rfl, rfl, rfl, rfl, rfl, rfl, rfl, rfl, rfl, rfl, rfl, rfl, trivial⟩
        clear hφ ξ
        refine hK23 _ _ ?_
        refine c_r ?_
        refine rd0 h (r_move rfl) rfl ?_; clear h ac wo; intro ac wo h
        refine rd0 h (r_move rfl) rfl ?_; clear h ac wo; intro ac wo h
        refine rd0 h (r_move rfl) rfl ?_; clear h ac wo; intro ac wo h
        refine rd0 h (r_add rfl rfl (r := ((i + k : Nat) : Int)) (by have := SzB_dn za; have := SzB_dn zb; rw [IntKind.wrap_i64]; omega)) rfl ?_; clear h ac wo; intro ac wo h
        refine rd0 h (r_move rfl) rfl ?_; clear h ac wo; intro ac wo h
        refine rd0 h (r_convInt Tryz.runUnderlying234 Tryz.runUnderlying291 rfl (r := (((a % 4294967296 ^ (i + 1) * b) / 4294967296 ^ (i + k) % 4294967296 : Nat) : Int)) (by rw [IntKind.wrap_u32', hdig]; omega)) rfl ?_; clear h ac wo; intro ac wo h
        refine rd0 h (r_move rfl) rfl ?_; clear h ac wo; intro ac wo h
        refine rd0 h (r_shr rfl rfl (r := (((mc (a % 4294967296 ^ i * b / 4294967296 ^ i) (a / 4294967296 ^ i % 4294967296) b (k + 1)) : Nat) : Int)) (by decide) (by decide) (by rw [show (2 : Int) ^ ((32 : Int)).toNat = 4294967296 from rfl]; rw [hnx]; omega)) rfl ?_; clear h ac wo; intro ac wo h
        refine rd0 h (r_ia (i := (i + k)) Tryz.runUnderlying289 Tryz.sizeOf291 rfl rfl (h.dnn 0 rfl (by omega)) (by omega)) rfl ?_; clear h ac wo; intro ac wo h
        refine up h 0 rfl (s_stR (k := 0) (u' := ((a % 4294967296 ^ (i + 1) * b) / 4294967296 ^ (i + k) % 4294967296)) Tryz.sizeOf291 (mx_get hlk) rfl rfl rfl rfl rfl rfl rfl rfl) ?_; clear h ac wo; intro ac wo h
        replace h := h.rowEq 0 rfl (mx_set)
        refine rd0 h (r_assign rfl) rfl ?_; clear h ac wo; intro ac wo h
        refine w_nil ?_
        refine b_norm ?_
        refine hK21 _ _ ?_
        refine c_r ?_
        refine rd0 h (r_add rfl rfl (r := ((k + 1 : Nat) : Int)) (by have := SzB_dn zb; rw [IntKind.wrap_i64]; omega)) rfl ?_; clear h ac wo; intro ac wo h
        refine rd0 h (r_move rfl) rfl ?_; clear h ac wo; intro ac wo h
        refine w_nil ?_
        exact next_round ⟨_, (by omega), k + 1, rfl, (by omega), (h.pick [0, 1, 2] (by decide)).sub ⟨rfl, rfl, rfl, rfl, rfl, rfl, rfl, rfl, rfl, rfl, rfl, rfl, rfl, rfl, trivial⟩⟩
      · skip
        have hd4 := of_decide_eq_false hc4
        refine c_exit ?_
        refine hK17 _ _ ?_
        refine c_r ?_
        have hke : k = dn b := by omega
        subst hke
        have hlk : i + dn b < dn a + dn b + 1 := by omega
        have hlast := pp_last (a := a) (i := i) (dn_lt b)
        refine rd0 h (r_move rfl) rfl ?_; clear h ac wo; intro ac wo h
        refine rd0 h (r_move rfl) rfl ?_; clear h ac wo; intro ac wo h
        refine rd0 h (r_move rfl) rfl ?_; clear h ac wo; intro ac wo h
        refine rd0 h (r_len Tryz.runUnderlying289 rfl (h.dsl 1 rfl)) rfl ?_; clear h ac wo; intro ac wo h
        refine rd0 h (r_add rfl rfl (r := ((i + (dn b) : Nat) : Int)) (by have := SzB_dn za; have := SzB_dn zb; rw [IntKind.wrap_i64]; omega)) rfl ?_; clear h ac wo; intro ac wo h
        refine rd0 h (r_move rfl) rfl ?_; clear h ac wo; intro ac wo h
        refine rd0 h (r_convInt Tryz.runUnderlying234 Tryz.runUnderlying291 rfl (r := (((a % 4294967296 ^ (i + 1) * b) / 4294967296 ^ (i + dn b) % 4294967296 : Nat) : Int)) (by rw [hlast, IntKind.wrap_u32']; omega)) rfl ?_; clear h ac wo; intro ac wo h
        refine rd0 h (r_ia (i := (i + (dn b))) Tryz.runUnderlying289 Tryz.sizeOf291 rfl rfl (h.dnn 0 rfl (by omega)) (by omega)) rfl ?_; clear h ac wo; intro ac wo h
        refine up h 0 rfl (s_stR (k := 0) (u' := ((a % 4294967296 ^ (i + 1) * b) / 4294967296 ^ (i + dn b) % 4294967296)) Tryz.sizeOf291 (mx_get hlk) rfl rfl rfl rfl rfl rfl rfl rfl) ?_; clear h ac wo; intro ac wo h
        replace h := h.rowEq 0 rfl (by rw [mx_set, mx_all (Nat.lt_of_lt_of_le (pp_lt (a := a) (i := i) (dn_lt b)) (Nat.pow_le_pow_right (by decide) (by omega))) (Nat.lt_of_lt_of_le (pp_lt (a := a) (i := i + 1) (dn_lt b)) (Nat.pow_le_pow_right (by decide) (by omega)))])
        refine w_nil ?_
        refine b_norm ?_
        refine hK14 _ _ ?_
        refine c_r ?_
        refine rd0 h (r_add rfl rfl (r := ((i + 1 : Nat) : Int)) (by have := SzB_dn za; rw [IntKind.wrap_i64]; omega)) rfl ?_; clear h ac wo; intro ac wo h
        refine rd0 h (r_move rfl) rfl ?_; clear h ac wo; intro ac wo h
        refine w_nil ?_
        exact next_round ⟨_, (by omega), i + 1, rfl, (by omega), (h.pick [0, 1, 2] (by decide)).sub ⟨rfl, rfl, rfl, rfl, rfl, rfl, rfl, rfl, trivial⟩⟩
    · skip
      have hd3 := of_decide_eq_false hc3
      refine c_exit ?_
      refine hK10 _ _ ?_
      refine c_rs fun K24 hK24 => ?_
      have hie : i = dn a := by omega
      subst hie
      rw [Nat.mod_eq_of_lt (dn_lt a)] at h
      refine rd0 h (r_move rfl) rfl ?_; clear h ac wo; intro ac wo h
      refine clq h Tryz.call215 (vs := [sv3]) rfl (fun w_ hB_ hS_ => ig_nat_bytes_ct (dn a + dn b + 1) (a * b) sv3 (by have := pp_lt (a := a) (i := dn a) (dn_lt b); rw [Nat.mod_eq_of_lt (dn_lt a)] at this; exact Nat.lt_of_lt_of_le this (Nat.pow_le_pow_right (by decide) (by omega))) (by have := SzB_dn1 za; have := SzB_dn1 zb; omega) w_ (row_view hS_ 0 rfl)) rfl ?_; clear h ac wo; intro ac wo h
      refine rd0 h (r_assign rfl) rfl ?_; clear h ac wo; intro ac wo h
      refine w_nil ?_
      refine hK24 _ _ ?_
      refine c_ret ?_
      have hd : ig_mul a b = (a * b) := rfl
      exact ret (rs := [.tmp 4]) h rfl (.tmp rfl .nil) rfl (h.retP (by rw [hd] <;> rfl) (SzB_mul za zb))
def ig_FromInt (n : Int) : GI := ⟨decide (n < 0), n.natAbs⟩
theorem ig_FromInt_ct (n : Int) (k : Nat) (hk : k ≤ 40) (hn : -9223372036854775808 ≤ n ∧ n ≤ 9223372036854775807) (w0 : World) : Calls Tryz.prog 113 #[(.int .i64 n)] w0 (RetP w0 (vI (ig_FromInt n)) (SzI k (ig_FromInt n))) := by
  refine enter (N := 15) (args := [(.int .i64 n)]) Tryz.func113 rfl rfl ?_; intro ac h
  have hsz : SzB k n.natAbs := Nat.le_trans (Nat.mul_le_mul ((le_length_le 8 n.natAbs).2 (by simp; omega)) (Nat.pow_le_pow_right (by decide) (by omega : k ≤ 40))) (by decide)
  refine c_rs fun K1 hK1 => ?_
  refine al h (cI (⟨false, 0⟩ : GI)) Tryz.zeroValue38 rfl rfl ?_; clear h ac; intro b1 ac wo h
  refine w_nil ?_
  refine hK1 _ _ ?_
  refine c_rs fun K2 hK2 => ?_
  refine rd0 h (r_move rfl) rfl ?_; clear h ac wo; intro ac wo h
  refine rd0 h (r_convInt Tryz.runUnderlying3 Tryz.runUnderlying234 rfl (r := ((if n < 0 then 18446744073709551616 - n.natAbs else n.natAbs : Nat) : Int)) (by rw [IntKind.wrap_u64]; split <;> omega)) rfl ?_; clear h ac wo; intro ac wo h
  refine rd0 h (r_assign rfl) rfl ?_; clear h ac wo; intro ac wo h
  refine w_nil ?_
  refine hK2 _ _ ?_
  refine c_seq fun K3 hK3 => ?_
  refine c_rs fun K4 hK4 => ?_
  refine rd0 h (r_move rfl) rfl ?_; clear h ac wo; intro ac wo h
  refine rd0 h (r_lss rfl rfl) rfl ?_; clear h ac wo; intro ac wo h
  refine w_nil ?_
  refine hK4 _ _ ?_
  refine c_if (b := (decide (n < 0))) h rfl (fun hc1 => ?_) (fun hc1 => ?_)
  · skip
    have hd1 := of_decide_eq_true hc1
    refine c_r ?_
    refine rd0 h (r_move rfl) rfl ?_; clear h ac wo; intro ac wo h
    refine rd0 h (r_neg rfl (r := ((n.natAbs : Nat) : Int)) (by rw [if_pos hd1, IntKind.wrap_u64]; omega)) rfl ?_; clear h ac wo; intro ac wo h
    refine rd0 h (r_assign rfl) rfl ?_; clear h ac wo; intro ac wo h
    refine w_nil ?_
    refine hK3 _ _ ?_
    refine c_rs fun K5 hK5 => ?_
    refine rd0 h (r_move rfl) rfl ?_; clear h ac wo; intro ac wo h
    refine rd0 h (r_lss rfl rfl) rfl ?_; clear h ac wo; intro ac wo h
    refine rd0 h (r_move rfl) rfl ?_; clear h ac wo; intro ac wo h
    refine clp h Tryz.call173 (vs := [(.int .u64 ((n.natAbs : Nat) : Int))]) rfl (ig_magnitude_ct n.natAbs (by omega)) rfl ?_; clear h ac wo; intro ac wo h
    have s1 := Calls_pr ((ig_made_ct (decide (n < 0)) (ig_magnitude n.natAbs) k (by omega) hsz) w0)
    refine clp h Tryz.call172 (vs := [(.bool (decide (n < 0))), (.string (bs (ig_magnitude n.natAbs)))]) rfl (ig_made_ct (decide (n < 0)) (ig_magnitude n.natAbs) k (by omega) hsz) rfl ?_; clear h ac wo; intro ac wo h
    refine st h 0 (cI (ig_made (decide (n < 0)) (ig_magnitude n.natAbs))) rfl Tryz.sizeOf38 rfl rfl rfl rfl rfl rfl rfl ?_; clear h ac wo; intro ac wo h
    refine w_nil ?_
    refine hK5 _ _ ?_
    refine c_ret ?_
    have hd : ig_FromInt n = (ig_made (decide (n < 0)) (ig_magnitude n.natAbs)) := (by unfold ig_FromInt ig_made ig_magnitude; simp; omega)
    exact ret (rs := [.cell 2 38]) h rfl (.cell (v := (vI (ig_made (decide (n < 0)) (ig_magnitude n.natAbs)))) rfl (i := 0) rfl Tryz.isAgg38 Tryz.sizeOf38 rfl rfl rfl .nil) rfl (h.retP (by rw [hd] <;> rfl) (by rw [hd]; exact s1))
  · skip
    have hd1 := of_decide_eq_false hc1
    rw [if_neg hd1] at h
    refine c_skip ?_
    refine hK3 _ _ ?_
    refine c_rs fun K6 hK6 => ?_
    refine rd0 h (r_move rfl) rfl ?_; clear h ac wo; intro ac wo h
    refine rd0 h (r_lss rfl rfl) rfl ?_; clear h ac wo; intro ac wo h
    refine rd0 h (r_move rfl) rfl ?_; clear h ac wo; intro ac wo h
    refine clp h Tryz.call173 (vs := [(.int .u64 ((n.natAbs : Nat) : Int))]) rfl (ig_magnitude_ct n.natAbs (by omega)) rfl ?_; clear h ac wo; intro ac wo h
    have s2 := Calls_pr ((ig_made_ct (decide (n < 0)) (ig_magnitude n.natAbs) k (by omega) hsz) w0)
    refine clp h Tryz.call172 (vs := [(.bool (decide (n < 0))), (.string (bs (ig_magnitude n.natAbs)))]) rfl (ig_made_ct (decide (n < 0)) (ig_magnitude n.natAbs) k (by omega) hsz) rfl ?_; clear h ac wo; intro ac wo h
    refine st h 0 (cI (ig_made (decide (n < 0)) (ig_magnitude n.natAbs))) rfl Tryz.sizeOf38 rfl rfl rfl rfl rfl rfl rfl ?_; clear h ac wo; intro ac wo h
    refine w_nil ?_
    refine hK6 _ _ ?_
    refine c_ret ?_
    have hd : ig_FromInt n = (ig_made (decide (n < 0)) (ig_magnitude n.natAbs)) := (by unfold ig_FromInt ig_made ig_magnitude; simp; omega)
    exact ret (rs := [.cell 2 38]) h rfl (.cell (v := (vI (ig_made (decide (n < 0)) (ig_magnitude n.natAbs)))) rfl (i := 0) rfl Tryz.isAgg38 Tryz.sizeOf38 rfl rfl rfl .nil) rfl (h.retP (by rw [hd] <;> rfl) (by rw [hd]; exact s2))
end Go.Sx
