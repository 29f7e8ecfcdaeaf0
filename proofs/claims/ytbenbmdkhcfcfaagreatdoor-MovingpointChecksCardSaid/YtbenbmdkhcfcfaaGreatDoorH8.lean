/- A part of the proof of movingpointChecks. -/
import Derived.Test.YtbenbmdkhcfcfaaGreatDoorProg
import Derived.Test.YtbenbmdkhcfcfaaGreatDoorAxC
import Derived.Test.YtbenbmdkhcfcfaaGreatDoorExtC
set_option linter.unusedVariables false
set_option linter.unusedSimpArgs false
open Go.Proofs.Tryz renaming sizeOf4 → zz4, sizeOf25 → zz25, sizeOf27 → zz27, underlying335 → nn335, underlying339 → nn339, isAgg25 → aa25, runUnderlying9 → uu9, runUnderlying5 → uu5, runUnderlying254 → uu254, runUnderlying334 → uu334, sizeOf5 → zz5, underlying5 → nn5, underlying9 → nn9, runUnderlying339 → uu339, sizeOf341 → zz341, isAgg341 → aa341, runUnderlying341 → uu341, runUnderlying335 → uu335, runUnderlying358 → uu358, sizeOf3 → zz3, call231 → cc231, call191 → cc191, call257 → cc257, call258 → cc258, runUnderlying2 → uu2
namespace Go.Sx
open Go Go.RowKit Go.Proofs
set_option maxRecDepth 100000
set_option maxHeartbeats 40000000
attribute [local irreducible] Code.wp wpList Rd Step ObS Ent
theorem mixed : Tryz.prog.follows .mixedOrders = true := by kernel_rfl
theorem lO : BuildF Tryz.prog 25 [.bool false, .string ⟨#[]⟩] [(0, 1), (1, 1)] := BuildF.of Tryz.zeroValue25 rfl Tryz.runUnderlying25 (by intro w; simp [zz4, Tryz.sizeOf9])
theorem kx : BuildF Tryz.prog 27 [.bool false, .string ⟨#[]⟩, .bool false, .string ⟨#[]⟩] [(0, 2), (2, 2)] := BuildF.of Tryz.zeroValue27 rfl Tryz.runUnderlying27 (by intro w; simp [zz25])
theorem rA : BuildF Tryz.prog 53 [.bool false, .string ⟨#[]⟩, .bool false, .string ⟨#[]⟩, .bool false, .string ⟨#[]⟩, .bool false, .string ⟨#[]⟩, .bool false, .string ⟨#[]⟩, .bool false, .string ⟨#[]⟩] [(0, 4), (4, 4), (8, 4)] := BuildF.of Tryz.zeroValue53 rfl Tryz.runUnderlying53 (by intro w; simp [zz27])
theorem rz : BuildF Tryz.prog 71 [.bool false, .string ⟨#[]⟩, .bool false, .string ⟨#[]⟩, .bool false, .string ⟨#[]⟩, .bool false, .string ⟨#[]⟩, .bool false] [(0, 4), (4, 4), (8, 1)] := BuildF.of Tryz.zeroValue71 rfl Tryz.runUnderlying71 (by intro w; simp [zz27, zz4])
theorem tK : BuildF Tryz.prog 79 [.bool false, .string ⟨#[]⟩, .bool false, .string ⟨#[]⟩, .bool false, .string ⟨#[]⟩, .bool false, .string ⟨#[]⟩, .bool false, .string ⟨#[]⟩, .bool false, .string ⟨#[]⟩, .bool false, .string ⟨#[]⟩, .bool false, .string ⟨#[]⟩] [(0, 4), (4, 4), (8, 4), (12, 4)] := BuildF.of Tryz.zeroValue79 rfl Tryz.runUnderlying79 (by intro w; simp [zz27])
theorem nj : BuildF Tryz.prog 86 [.bool false, .string ⟨#[]⟩, .bool false, .string ⟨#[]⟩, .bool false, .string ⟨#[]⟩, .bool false, .string ⟨#[]⟩, .bool false, .bool false, .string ⟨#[]⟩, .bool false, .string ⟨#[]⟩, .bool false, .string ⟨#[]⟩, .bool false, .string ⟨#[]⟩, .bool false, .bool false, .bool false] [(0, 9), (9, 9), (18, 1), (19, 1)] := BuildF.of Tryz.zeroValue86 rfl Tryz.runUnderlying86 (by intro w; simp [zz4, Tryz.sizeOf71])
theorem jS : BuildF Tryz.prog 199 [.bool false, .string ⟨#[]⟩, .bool false, .string ⟨#[]⟩, .bool false, .string ⟨#[]⟩, .bool false, .string ⟨#[]⟩, .bool false, .bool false, .string ⟨#[]⟩, .bool false, .string ⟨#[]⟩, .bool false, .string ⟨#[]⟩, .bool false, .string ⟨#[]⟩, .bool false, .bool false, .bool false, .bool false, .string ⟨#[]⟩, .bool false, .string ⟨#[]⟩, .bool false, .string ⟨#[]⟩, .bool false, .string ⟨#[]⟩, .bool false, .string ⟨#[]⟩, .bool false, .string ⟨#[]⟩, .bool false, .string ⟨#[]⟩, .bool false, .string ⟨#[]⟩] [(0, 20), (20, 16)] := BuildF.of Tryz.zeroValue199 rfl Tryz.runUnderlying199 (by intro w; simp [Tryz.sizeOf79, Tryz.sizeOf86])
theorem slt335 : SlT Tryz.prog 335 5 1 1 [.int .u8 0] := ⟨nn335, Tryz.t5, _, Tryz.type5, rfl, rfl, rfl, rfl, rfl, by decide, by decide⟩
theorem kO : SlT Tryz.prog 339 341 1 4 [.int .u32 0] := ⟨nn339, Tryz.t341, _, Tryz.type341, rfl, rfl, rfl, rfl, rfl, by decide, by decide⟩
theorem slt358 : SlT Tryz.prog 358 3 1 8 [.int .i64 0] := ⟨Tryz.underlying358, Tryz.t3, _, Tryz.type3, rfl, rfl, rfl, rfl, rfl, by decide, by decide⟩
def aC (neg : Bool) (mag : Nat) : GI :=
 (⟨(neg && (!(decide (mag = 0)))), mag⟩ : GI)
theorem bq (neg : Bool) (mag : Nat) (k : Nat) (hk : k ≤ 40) (zmag : SzB k mag) (w0 : World) : Calls Tryz.prog 190 #[(.bool neg), (.string (bs mag))] w0 (cq w0 (vI (aC neg mag)) (SzI k (aC neg mag))) := by
 refine enter (N := 12) (args := [(.bool neg), (.string (bs mag))]) Tryz.func190 rfl rfl ?_; intro ac h
 refine gz h <| (xa) fun b1 => (xo (hs := by exact bF lO exs rfl (v := (vI (⟨(neg && (!(decide (mag = 0)))), mag⟩ : GI))) rfl)) <| (W) ?_; clear h ac; intro ac wo h
 exact ret h rfl (.cell (v := (vI (⟨(neg && (!(decide (mag = 0)))), mag⟩ : GI))) rfl (i := 0) rfl aa25 zz25 rfl rfl rfl .nil) rfl (h.retP (by unfold aC; rfl) (by unfold aC; exact zmag))
theorem gc (m : Nat) (w0 : World) : Calls Tryz.prog 249 #[(.string (bs m))] w0 (cq w0 (.tuple #[(.int .u64 (((cG m).1 : Nat) : Int)), (.bool ((cG m).2))]) (True)) := by
 refine enter (N := 23) (args := [(.string (bs m))]) Tryz.func249 rfl rfl ?_; intro ac h
 refine gz h <| (xo (hs := by exact jd uu9 rfl)) <| (ai) ?_ ?_ <;> clear h ac <;> intro ac wo h hc1
 ·
  have hd1 := of_decide_eq_true hc1
  have hd : cG m = (0, false) := rG (by rw [dE] at hd1; omega)
  refine gz h <| (W) ?_; clear h ac wo; intro ac wo h
  exact (rt h) (h.retP (by rw [hd] <;> rfl) trivial)
 ·
  have hd1 := of_decide_eq_false hc1
  refine gz h <| (xo (hs := by exact jd uu9 rfl)) <| (W) ?_; clear h ac wo; intro ac wo h
  have h8 : (le m).length ≤ 8 := by rw [dE] at hd1; omega
  have hm := lK m
  have h0 : m / 256 ^ ((le m).length - 0) = 0 := Nat.div_eq_of_lt (by simpa using hm)
  refine wp_loop_ghost (fun n_ a_ w_ => ∃ (i : Nat), n_ = (le m).length - i ∧ (i ≤ (le m).length) ∧ St w0 23 [(0, (.string (bs m))), (10, (.int .i64 ((bs m).size : Int))), (11, (.int .i64 (i : Int))), (4, (.int .u64 ((m / 256 ^ ((le m).length - i) : Nat) : Int)))] [] a_ w_) _ ⟨0, rfl, og, (h.pick [] (by decide)).sub ⟨rfl, rfl, rfl, (congrArg (fun x : Nat => some (Value.int .u64 (x : Int))) h0.symm), trivial⟩⟩ ?_
  clear h ac wo; rintro _ ac wo ⟨i, rfl, hi, h⟩
  refine gz h <| (ai) ?_ ?_ <;> clear h ac wo <;> intro ac wo h hc2
  ·
   have hd2 := of_decide_eq_true hc2
   refine gz h <| (W) ?_; clear h ac wo; intro ac wo h
   have hlt : i < (le m).length := by rw [dE] at hd2; omega
   have hub := Nat.lt_of_lt_of_le (pv_lt m (le m).length i hm og) (Nat.pow_le_pow_right (n := 256) (by decide) (show i ≤ 7 by omega))
   have hbg := bs_get (n := m) (i := i) (by rw [dE]; omega)
   refine gz h <| (xo (hs := by exact nE rfl rfl (r := ((m / 256 ^ ((le m).length - i) * 2 ^ 8 : Nat) : Int)) og (by first | decide | (simp [IntKind.bits] <;> omega)) (lQ rfl og))) <| (xo (hs := by exact kD (i := i) uu9 rfl rfl (by rw [dE]; omega))) <| (xo (hs := by exact a8 uu5 uu254 rfl (r := (((bs m)[i]'(by rw [dE]; omega)).toNat : Int)) (by rw [IntKind.wrap_u64]; omega))) <| (xo (hs := by exact pc rfl rfl (r := ((m / 256 ^ ((le m).length - i) * 256 + m / 256 ^ ((le m).length - 1 - i) % 256 : Nat) : Int)) (by rw [hbg, gk (k := 8) _ _ og og og]))) <| (W) ?_; clear h ac wo; intro ac wo h
   rw [be_step m (le m).length i (by rw [dE] at hd2; omega)] at h
   exact aL ⟨_, (by rw [dE] at hd2; omega), i + 1, rfl, (by rw [dE] at hd2; omega), h.re []⟩
  ·
   have hd2 := of_decide_eq_false hc2
   have hd : cG m = ((m / 256 ^ ((le m).length - i)), true) := (by rw [p7 og, show (le m).length - i = 0 by rw [dE] at hd2; omega]; simp)
   refine gz h <| (W) ?_; clear h ac wo; intro ac wo h
   exact (rt h) (h.retP (by rw [hd] <;> rfl) trivial)
def ef (a : Nat) (b : Nat) : Nat × Nat × Bool :=
 ((cG a).1, (cG b).1, ((cG a).2 && (cG b).2))
theorem eB (a : Nat) (b : Nat) (w0 : World) : Calls Tryz.prog 231 #[(.string (bs a)), (.string (bs b))] w0 (cq w0 (.tuple #[(.int .u64 (((ef a b).1 : Nat) : Int)), (.int .u64 (((ef a b).2.1 : Nat) : Int)), (.bool ((ef a b).2.2))]) (True)) := by
 refine enter (N := 24) (args := [(.string (bs a)), (.string (bs b))]) Tryz.func231 rfl rfl ?_; intro ac h
 refine gz h <| (xk (gc a)) <| (xk (gc b)) <| (W) ?_; clear h ac; intro ac wo h
 exact ret h rfl (.tmp rfl (.tmp rfl (.tmp rfl .nil))) rfl (h.retP (by unfold ef; rfl) trivial)
theorem iE {a b : Nat} (h : (ef a b).2.2 = true) : a < 18446744073709551616 ∧ b < 18446744073709551616 ∧ ef a b = (a, b, true) := by
 unfold ef at *
 rw [mq a, mq b] at *
 split at h <;> split at h <;> simp_all
theorem bV (u : Nat) (hu : u < 18446744073709551616) (w0 : World) : Calls Tryz.prog 191 #[(.int .u64 ((u : Nat) : Int))] w0 (cq w0 (.string (bs (bk u))) (True)) := by
 refine enter (N := 30) (args := [(.int .u64 ((u : Nat) : Int))]) Tryz.func191 rfl rfl ?_; intro ac h
 refine mi fun K1 hK1 => ?_
 refine rd0 h (az rfl) rfl <| gn hK1 <| gq fun K2 hK2 => gr fun K3 hK3 => g0 (aq rfl) rfl <| g0 (pe rfl rfl) rfl <| gn hK3 ?_; clear h ac; intro ac wo h
 refine io h rfl (fun hc1 => ?_) (fun hc1 => ?_)
 ·
  have hd1 := eq_of_beq hc1
  refine gz h <| gr fun K4 hK4 => g0 (az rfl) rfl <| gn hK4 <| gT ?_; clear h ac wo; intro ac wo h
  have hd : bk u = 0 := (by unfold bk; omega)
  exact (rt h) (h.retP (by rw [hd] <;> rfl) trivial)
 ·
  have hd1 := ne_of_beq_false hc1
  refine gz h <| gS <| gx hK2 <| gr fun K5 hK5 => g0 (aq rfl) rfl <| gl Tryz.call255 rfl (Len64_ct u (by assumption)) rfl <| g0 (dq rfl rfl (r := (((Lib.bitLen u) + 7 : Nat) : Int)) (by have := lq hu; rw [IntKind.wrap_i64]; omega)) rfl <| g0 (nF rfl rfl (r := (((le u).length : Nat) : Int)) (by first | decide | omega) (by have h1 := lq hu; have h2 := iW u hu; rw [Int.tdiv_eq_ediv_of_nonneg og, IntKind.wrap_i64]; omega)) rfl <| g0 (az rfl) rfl <| gn hK5 <| gr fun K6 hK6 => ga (flat (List.replicate 8 (0 : UInt8))) Tryz.zeroValue334 rfl rfl fun b1 => gn hK6 <| gq fun K7 hK7 => gr fun K8 hK8 => g0 (aq rfl) rfl <| g0 (aq rfl) rfl <| gn hK8 <| gB ?_; clear h ac wo; intro ac wo h
  have hL : (le u).length ≤ 8 := (bR 8 u).2 hu
  have hp : 0 < u := by omega
  have hLp : 0 < (le u).length := by rw [iu hp]; simp
  refine wp_loop_ghost (fun n_ a_ w_ => ∃ (i : Nat) (bl : List UInt8), n_ = (le u).length - i ∧ (i ≤ (le u).length) ∧ (Mag u (le u).length i bl) ∧ St w0 30 [(0, (.int .u64 ((u : Nat) : Int))), (3, (.int .i64 (((le u).length : Nat) : Int))), (4, (ptr b1 0)), (12, (.int .i64 (((le u).length : Nat) : Int))), (13, (.int .i64 ((i : Nat) : Int)))] [.blk b1 (flat bl) 334] a_ w_) _ ⟨0, (List.replicate 8 (0 : UInt8)), rfl, og, (Mag.zero _ _), h.re [0]⟩ ?_
  clear h ac wo; rintro _ ac wo ⟨i, bl, rfl, hi, hM, h⟩
  refine gz h <| gr fun K9 hK9 => g0 (gp rfl rfl) rfl <| gn hK9 <| gq fun K10 hK10 => ?_; clear h ac wo; intro ac wo h
  refine io h rfl (fun hc2 => ?_) (fun hc2 => ?_)
  ·
   have hd2 := of_decide_eq_true hc2
   refine gz h <| gS <| gx hK10 <| gq fun K11 hK11 => gB <| gr fun K12 hK12 => g0 (aq rfl) rfl <| g0 (az rfl) rfl <| gn hK12 <| gR ?_; clear h ac wo; intro ac wo h
   have hlt : i < (le u).length := by omega
   refine rd0 h (aq rfl) rfl <| g0 (e7 rfl rfl (r := (((le u).length - 1 : Nat) : Int)) (by rw [IntKind.wrap_i64]; omega)) rfl <| g0 (aq rfl) rfl <| g0 (e7 rfl rfl (r := (((le u).length - 1 - i : Nat) : Int)) (by rw [IntKind.wrap_i64]; omega)) rfl <| g0 (aq rfl) rfl <| g0 (aq rfl) rfl <| g0 (jZ rfl rfl (r := ((8 * i : Nat) : Int)) (by rw [IntKind.wrap_i64]; omega)) rfl <| g0 (mA rfl rfl (r := ((u / 256 ^ i : Nat) : Int)) og (by simp [IntKind.bits] <;> omega) (by rw [show (((8 * i : Nat) : Int)).toNat = 8 * i by omega, sk]; simp)) rfl <| g0 (a8 uu254 uu5 rfl (r := ((UInt8.ofNat (u / 256 ^ i % 256)).toNat : Int)) (by rw [IntKind.wrap_u8, UInt8.toNat_ofNat']; omega)) rfl <| g0 (ks (i := ((le u).length - 1 - i)) uu334 zz5 rfl rfl og) rfl ?_; clear h ac wo; intro ac wo h
   refine up h 0 rfl (s_stA zz5 rfl rfl rfl (by rw [hM.1]; omega)) ?_; clear h ac wo; intro ac wo h
   refine gz h <| gx (fun _ _ => dW) <| gN <| gx hK11 <| gR <| g0 (dq rfl rfl (r := ((i + 1 : Nat) : Int)) (by rw [IntKind.wrap_i64]; omega)) rfl <| g0 (aq rfl) rfl <| gx (fun _ _ => dW) ?_; clear h ac wo; intro ac wo h
   exact aL ⟨_, og, i + 1, _, rfl, og, (hM.next og hL), h.re [0]⟩
  ·
   have hd2 := of_decide_eq_false hc2
   refine hG ?_
   refine hK7 _ _ ?_
   refine mi fun K13 hK13 => ?_
   have hie : i = (le u).length := by omega
   subst hie
   refine rd0 h (aq rfl) rfl <| g0 (r_sliceA (n := (le u).length) uu334 zz5 rfl rfl hL) rfl <| g1 0 rfl (r_strA (l := (le u).reverse) nn335 nn5 nn9 rfl (hM.flat rfl hL) (by simp)) rfl <| g0 (az rfl) rfl <| gn hK13 <| gT ?_; clear h ac wo; intro ac wo h
   exact (rt h) (h.retP (by unfold bk; rfl) trivial)
theorem cx (m : Nat) (hm : (le m).length ≤ 70368744177664) (w0 : World) : Calls Tryz.prog 257 #[(.string (bs m))] w0 (RetR w0 341 (jh m) (True)) := by
 refine enter (N := 38) (args := [(.string (bs m))]) Tryz.func257 rfl rfl ?_; intro ac h
 refine mi fun K1 hK1 => ?_
 refine rd0 h (az rfl) rfl <| gn hK1 <| gr fun K2 hK2 => g0 (aq rfl) rfl <| g0 (jd uu9 rfl) rfl <| g0 (dq rfl rfl (r := (((bs m).size + 3 : Nat) : Int)) (by rw [dE, IntKind.wrap_i64]; omega)) rfl <| g0 (nF rfl rfl (r := ((dn m : Nat) : Int)) (by first | decide | omega) (by rw [Int.tdiv_eq_ediv_of_nonneg og, IntKind.wrap_i64, dE]; unfold dn; omega)) rfl ?_; clear h ac; intro ac wo h
 refine nw h (ke (n := (dn m)) ((0 : Nat)) rfl kO rfl rfl rfl (by unfold dn; omega) (by unfold dn; omega)) rfl ?_; clear h ac wo; intro sv1 ac wo nnsv1 h
 refine rd0 h (az rfl) rfl <| gn hK2 <| gq fun K3 hK3 => gr fun K4 hK4 => g0 (aq rfl) rfl <| g0 (jd uu9 rfl) rfl <| g0 (aq rfl) rfl <| gn hK4 <| gB ?_; clear h ac wo; intro ac wo h
 have hz0 : List.replicate (dn m) 0 = dgs (dn m) (m % 256 ^ 0) := by rw [show m % 256 ^ 0 = 0 by simp [Nat.mod_one]]; exact (jP _).symm
 rw [hz0] at h
 refine wp_loop_ghost (fun n_ a_ w_ => ∃ (i : Nat), n_ = (le m).length - i ∧ (i ≤ (le m).length) ∧ St w0 38 [(0, (.string (bs m))), (3, sv1), (12, (.int .i64 ((bs m).size : Int))), (13, (.int .i64 ((i : Nat) : Int)))] [.row (α := Nat) 341 sv1 (dgs (dn m) (m % 256 ^ i))] a_ w_) _ ⟨0, rfl, og, h.re [0]⟩ ?_
 clear h ac wo; rintro _ ac wo ⟨i, rfl, hi, h⟩
 refine gz h <| gr fun K5 hK5 => g0 (gp rfl rfl) rfl <| gn hK5 <| gq fun K6 hK6 => ?_; clear h ac wo; intro ac wo h
 refine io h rfl (fun hc1 => ?_) (fun hc1 => ?_)
 ·
  have hd1 := of_decide_eq_true hc1
  refine gz h <| gS <| gx hK6 <| gq fun K7 hK7 => gB <| gr fun K8 hK8 => g0 (aq rfl) rfl <| g0 (az rfl) rfl <| gn hK8 <| gr fun K9 hK9 => g0 (aq rfl) rfl <| g0 (jd uu9 rfl) rfl <| g0 (e7 rfl rfl (r := (((bs m).size - 1 : Nat) : Int)) (by rw [dE] at hd1 ⊢; rw [IntKind.wrap_i64]; omega)) rfl <| g0 (aq rfl) rfl <| g0 (e7 rfl rfl (r := (((le m).length - 1 - i : Nat) : Int)) (by rw [dE] at hd1 ⊢; rw [IntKind.wrap_i64]; omega)) rfl <| g0 (az rfl) rfl <| gn hK9 ?_; clear h ac wo; intro ac wo h
  have hlt : i < (le m).length := by rw [dE] at hd1; omega
  have hq : i / 4 < dn m := by unfold dn; omega
  have hu : (dgs (dn m) (m % 256 ^ i))[i / 4]? = some (m % 256 ^ i / 4294967296 ^ (i / 4) % 4294967296) := cA hq
  have hbg := bs_get (n := m) (i := (le m).length - 1 - i) (by rw [dE]; omega)
  rw [show (le m).length - 1 - ((le m).length - 1 - i) = i by omega] at hbg
  have hbs := mj m i
  refine eV mixed [⟨.det sv1, []⟩, ⟨.det (.int .i64 ((i : Nat) : Int)), []⟩, ⟨.det (.int .i64 ((i / 4 : Nat) : Int)), []⟩, ⟨.det (sel sv1 ((i / 4) * 1)), []⟩, ⟨.det (.int .u32 (((m % 256 ^ i / 4294967296 ^ (i / 4) % 4294967296) : Nat) : Int)), [0]⟩, ⟨.det (.string (bs m)), []⟩, ⟨.det (.int .i64 (((le m).length - 1 - i : Nat) : Int)), []⟩, ⟨.det (.int .u8 (((bs m)[((le m).length - 1 - i)]'(by rw [dE]; omega)).toNat : Int)), []⟩, ⟨.det (.int .u32 (((m / 256 ^ i % 256) : Nat) : Int)), []⟩, ⟨.det (.int .i64 ((i : Nat) : Int)), []⟩, ⟨.det (.int .i64 ((i % 4 : Nat) : Int)), []⟩, ⟨.det (.int .i64 ((8 * (i % 4) : Nat) : Int)), []⟩, ⟨.det (.int .u32 (((m / 256 ^ i % 256 * 2 ^ (8 * (i % 4))) : Nat) : Int)), []⟩, ⟨.det (.int .u32 (((m % 256 ^ i / 4294967296 ^ (i / 4) % 4294967296) + (m / 256 ^ i % 256 * 2 ^ (8 * (i % 4))) : Nat) : Int)), []⟩, ⟨.det (sel sv1 ((i / 4) * 1)), []⟩, ⟨.det undef, [0]⟩] [⟨.row (α := Nat) 341 sv1 (dgs (dn m) (m % 256 ^ i)), [(15, .con (.row (α := Nat) 341 sv1 ((dgs (dn m) (m % 256 ^ i)).set (i / 4) ((m % 256 ^ i / 4294967296 ^ (i / 4) % 4294967296) + (m / 256 ^ i % 256 * 2 ^ (8 * (i % 4)))))))]⟩] h rfl (by kernel_rfl) ⟨fun _ _ => ba (aq rfl), fun _ _ => ba (aq rfl), fun _ _ => ba (nF rfl rfl (r := ((i / 4 : Nat) : Int)) (by first | decide | omega) (by rw [Int.tdiv_eq_ediv_of_nonneg og, IntKind.wrap_i64]; omega)), fun _ _ => ba (fO (i := (i / 4)) uu339 zz341 rfl rfl (h.dnn 0 rfl og) hq), fun _ _ => fY [.row (α := Nat) 341 sv1 (dgs (dn m) (m % 256 ^ i))] rfl rfl (fj (k := 0) aa341 zz341 hu rfl (Nat.add_zero _) rfl rfl (v := (.int .u32 (((m % 256 ^ i / 4294967296 ^ (i / 4) % 4294967296) : Nat) : Int))) rfl), fun _ _ => ba (aq rfl), fun _ _ => ba (aq rfl), fun _ _ => ba (kD (i := ((le m).length - 1 - i)) uu9 rfl rfl (by rw [dE]; omega)), fun _ _ => ba (a8 uu5 uu341 rfl (r := (((m / 256 ^ i % 256) : Nat) : Int)) (by rw [hbg, IntKind.wrap_u32]; omega)), fun _ _ => ba (aq rfl), fun _ _ => ba (qZ rfl rfl (r := ((i % 4 : Nat) : Int)) (by first | decide | omega) (by rw [Int.tmod_eq_emod_of_nonneg og]; omega)), fun _ _ => ba (jZ rfl rfl (r := ((8 * (i % 4) : Nat) : Int)) (by first | (rw [IntKind.wrap_i64]; omega) | exact gu og og)), fun _ _ => ba (nE rfl rfl (r := (((m / 256 ^ i % 256 * 2 ^ (8 * (i % 4))) : Nat) : Int)) og (by simp [IntKind.bits] <;> omega) (wshl32 og hbs.1)), fun _ _ => ba (pc rfl rfl (r := (((m % 256 ^ i / 4294967296 ^ (i / 4) % 4294967296) + (m / 256 ^ i % 256 * 2 ^ (8 * (i % 4))) : Nat) : Int)) (jT _ _ (oz m i).1 hbs.1 (Nat.mod_lt _ (by decide)))), fun _ _ => ba (fO (i := (i / 4)) uu339 zz341 rfl rfl (h.dnn 0 rfl og) hq), fun _ _ => kt [.row (α := Nat) 341 sv1 (dgs (dn m) (m % 256 ^ i))] [.row (α := Nat) 341 sv1 ((dgs (dn m) (m % 256 ^ i)).set (i / 4) ((m % 256 ^ i / 4294967296 ^ (i / 4) % 4294967296) + (m / 256 ^ i % 256 * 2 ^ (8 * (i % 4)))))] rfl rfl (fP (k := 0) (u' := ((m % 256 ^ i / 4294967296 ^ (i / 4) % 4294967296) + (m / 256 ^ i % 256 * 2 ^ (8 * (i % 4))))) zz341 hu rfl rfl rfl rfl rfl rfl rfl rfl), trivial⟩ ?_
  clear h ac wo; intro ξ ac wo hφ h
  replace h : St w0 38 [(0, (.string (bs m))), (3, sv1), (12, (.int .i64 ((bs m).size : Int))), (13, (.int .i64 ((i : Nat) : Int)))] [.row (α := Nat) 341 sv1 ((dgs (dn m) (m % 256 ^ i)).set (i / 4) ((m % 256 ^ i / 4294967296 ^ (i / 4) % 4294967296) + (m / 256 ^ i % 256 * 2 ^ (8 * (i % 4)))))] ac wo := h.sub ⟨rfl, rfl, rfl, rfl, trivial⟩
  clear hφ ξ
  refine gz h <| gN <| gx hK7 <| gR <| g0 (dq rfl rfl (r := ((i + 1 : Nat) : Int)) (by rw [IntKind.wrap_i64]; omega)) rfl <| g0 (aq rfl) rfl <| gx (fun _ _ => dW) ?_; clear h ac wo; intro ac wo h
  rw [dig_next] at h
  exact aL ⟨_, og, i + 1, rfl, og, h.re [0]⟩
 ·
  have hd1 := of_decide_eq_false hc1
  refine gz h <| gE <| gx hK3 <| gr fun K10 hK10 => g0 (aq rfl) rfl <| g0 (az rfl) rfl <| gn hK10 <| gT ?_; clear h ac wo; intro ac wo h
  have hd : jh m = (dgs (dn m) (m % 256 ^ i)) := (by rw [show i = (le m).length by rw [dE] at hd1; omega, Nat.mod_eq_of_lt (lK m)]; rfl)
  exact (rt h) (by rw [hd]; exact h.retR 0 rfl trivial)
theorem jp (nx vx : Nat) (xv : Value) (hv : vx < 4294967296 ^ nx) (w0 : World) (hxv : View w0 xv (dgs nx vx)) : Calls Tryz.prog 287 #[xv] w0 (cq w0 (oC xv (dn vx)) (True)) := by
 refine enter (N := 21) (args := [xv]) Tryz.func287 rfl rfl ?_; intro ac h
 have hml := dlen_le hxv; simp only [maxLen] at hml
 refine mi fun K1 hK1 => ?_
 refine rd0 h (az rfl) rfl <| gn hK1 <| gq fun K2 hK2 => gB ?_; clear h ac; intro ac wo h
 refine wp_loop_ghost (fun n_ a_ w_ => ∃ (m : Nat), n_ = 1 * m ∧ (m ≤ nx) ∧ (vx < 4294967296 ^ m) ∧ St w0 21 [(0, (oC xv m))] [] a_ w_) _ ⟨nx, rfl, (Nat.le_refl _), hv, (h.pick [] (by decide)).sub ⟨(congrArg some (tj hxv.dsl).symm), trivial⟩⟩ ?_
 clear h ac wo; rintro _ ac wo ⟨m, rfl, hn, hvn, h⟩
 have hcv := hxv.cutn hn
 refine gz h <| gq fun K3 hK3 => gr fun K4 hK4 => g0 (aq rfl) rfl <| g0 (fh uu339 rfl hcv.dsl) rfl <| g0 (r_gtr rfl rfl) rfl <| g0 (aq rfl) rfl <| ge1 rfl rfl (fun hg => (Rd.of_nil (aq rfl)).step) rfl <| ge1 rfl rfl (fun hg => (Rd.of_nil (aq rfl)).step) rfl <| ge1 rfl rfl (fun hg => (Rd.of_nil (fh uu339 (ec rfl hg) hcv.dsl)).step) rfl <| ge1 rfl rfl (fun hg => (Rd.of_nil (e7 (ec rfl hg) rfl (r := ((m - 1 : Nat) : Int)) (by simp only [Bool.and_eq_true, decide_eq_true_eq, beq_iff_eq, Bool.true_and, Bool.not_eq_true', decide_eq_false_iff_not] at hg; rw [IntKind.wrap_i64]; omega))).step) rfl <| ge1 rfl rfl (fun hg => (Rd.of_nil (fO (i := (m - 1)) uu339 zz341 (ec rfl hg) (ec rfl hg) (hcv.dnn (by simp only [Bool.and_eq_true, decide_eq_true_eq, beq_iff_eq, Bool.true_and, Bool.not_eq_true', decide_eq_false_iff_not] at hg; omega)) (by simp only [Bool.and_eq_true, decide_eq_true_eq, beq_iff_eq, Bool.true_and, Bool.not_eq_true', decide_eq_false_iff_not] at hg; omega))).step) rfl <| ge1 rfl rfl (fun hg => (Rd.of_nil (q3 (k := 0) aa341 zz341 hcv (cA (n := m) (by simp only [Bool.and_eq_true, decide_eq_true_eq, beq_iff_eq, Bool.true_and, Bool.not_eq_true', decide_eq_false_iff_not] at hg; omega)) (ec rfl hg) (Nat.add_zero _) rfl rfl (v := (.int .u32 (((vx / 4294967296 ^ (m - 1) % 4294967296) : Nat) : Int))) rfl)).step) rfl <| ge1 rfl rfl (fun hg => (Rd.of_nil (pe (ec rfl hg) rfl)).step) rfl <| g0 (r_and rfl (fun e => (ec rfl e))) rfl <| gn hK4 ?_; clear h ac wo; intro ac wo h
 refine io h rfl (fun hc1 => ?_) (fun hc1 => ?_)
 ·
  have hq := hc1
  simp only [Bool.and_eq_true, Bool.and_eq_false_iff, decide_eq_true_eq, decide_eq_false_iff_not, beq_iff_eq, beq_eq_false_iff_ne, ne_eq] at hq
  refine gz h <| gS <| gx hK3 <| gB <| gR <| g0 (aq rfl) rfl <| g0 (aq rfl) rfl <| g0 (fh uu339 rfl hcv.dsl) rfl <| g0 (e7 rfl rfl (r := ((m - 1 : Nat) : Int)) (by rw [IntKind.wrap_i64]; omega)) rfl <| g0 (r_cut (n := (m - 1)) uu339 zz341 rfl rfl hcv (by rw [bM]; omega)) rfl <| g0 (az rfl) rfl <| gx (fun _ _ => dW) <| gN ?_; clear h ac wo; intro ac wo h
  exact aL ⟨_, og, m - 1, rfl, og, (rK hvn og og), (h.pick [] (by decide)).sub ⟨(congrArg some (cutv_cut hxv.dsl)), trivial⟩⟩
 ·
  have hq := hc1
  simp only [Bool.and_eq_true, Bool.and_eq_false_iff, decide_eq_true_eq, decide_eq_false_iff_not, beq_iff_eq, beq_eq_false_iff_ne, ne_eq] at hq
  have hdn : dn vx = m := rL hvn og
  refine gz h <| gE <| gx hK2 <| gr fun K5 hK5 => g0 (aq rfl) rfl <| g0 (az rfl) rfl <| gn hK5 <| gT ?_; clear h ac wo; intro ac wo h
  exact (rt h) (h.retP (by rw [hdn]; rfl) trivial)
theorem dk (nx vx : Nat) (xv : Value) (hv : vx < 4294967296 ^ nx) (hb : nx ≤ 35184372088832) (w0 : World) (hxv : View w0 xv (dgs nx vx)) : Calls Tryz.prog 258 #[xv] w0 (cq w0 (.string (bs vx)) (True)) := by
 refine enter (N := 46) (args := [xv]) Tryz.func258 rfl rfl ?_; intro ac h
 have hml := (m6 vx nx).2 hv
 refine mi fun K1 hK1 => ?_
 refine rd0 h (az rfl) rfl <| gn hK1 <| gr fun K2 hK2 => g0 (aq rfl) rfl ?_; clear h ac; intro ac wo h
 refine clq h Tryz.call287 (vs := [xv]) rfl (fun w_ hB_ hS_ => jp nx vx xv hv w_ (hxv.below hB_)) rfl ?_; clear h ac wo; intro ac wo h
 refine rd0 h (az rfl) rfl <| gn hK2 <| gq fun K3 hK3 => gr fun K4 hK4 => g0 (aq rfl) rfl <| g0 (fh uu339 rfl (hxv.cutd hv).dsl) rfl <| g0 (pe rfl rfl) rfl <| gn hK4 ?_; clear h ac wo; intro ac wo h
 refine io h rfl (fun hc1 => ?_) (fun hc1 => ?_)
 ·
  have hd1 := eq_of_beq hc1
  refine gz h <| gr fun K5 hK5 => g0 (az rfl) rfl <| gn hK5 <| gT ?_; clear h ac wo; intro ac wo h
  have hd : vx = 0 := (by have := (m6 vx 0).1 og; rw [Nat.pow_zero] at this; omega)
  exact (rt h) (h.retP (by rw [hd] <;> rfl) trivial)
 ·
  have hd1 := ne_of_beq_false hc1
  refine gz h <| gS <| gx hK3 <| gr fun K6 hK6 => g0 (aq rfl) rfl <| g0 (fh uu339 rfl (hxv.cutd hv).dsl) rfl <| g0 (jZ rfl rfl (r := (((4 * dn vx) : Nat) : Int)) (by first | (rw [IntKind.wrap_i64]; omega) | exact gu og og)) rfl ?_; clear h ac wo; intro ac wo h
  refine nw h (ke (n := (4 * dn vx)) ((0 : UInt8)) rfl slt335 rfl rfl rfl og og) rfl ?_; clear h ac wo; intro sv1 ac wo nnsv1 h
  refine rd0 h (az rfl) rfl <| gn hK6 <| gq fun K7 hK7 => gr fun K8 hK8 => g0 (aq rfl) rfl <| g0 (fh uu339 rfl (hxv.cutd hv).dsl) rfl <| g0 (aq rfl) rfl <| gn hK8 <| gB ?_; clear h ac wo; intro ac wo h
  rw [bz_zero _ vx] at h
  refine wp_loop_ghost (fun n_ a_ w_ => ∃ (i : Nat), n_ = dn vx - i ∧ (i ≤ dn vx) ∧ St w0 46 [(3, sv1), (16, (oC xv (dn vx))), (17, (.int .i64 (((dn vx) : Nat) : Int))), (18, (.int .i64 ((i : Nat) : Int)))] [.row (α := UInt8) 5 sv1 (bz (4 * dn vx) (4 * i) vx)] a_ w_) _ ⟨0, rfl, og, h.re [0]⟩ ?_
  clear h ac wo; rintro _ ac wo ⟨i, rfl, hi, h⟩
  refine gz h <| gr fun K9 hK9 => g0 (gp rfl rfl) rfl <| gn hK9 <| gq fun K10 hK10 => ?_; clear h ac wo; intro ac wo h
  refine io h rfl (fun hc2 => ?_) (fun hc2 => ?_)
  ·
   have hd2 := of_decide_eq_true hc2
   refine gz h <| gS <| gx hK10 <| gq fun K11 hK11 => gB <| gr fun K12 hK12 => g0 (aq rfl) rfl <| g0 (fO (i := i) uu339 zz341 rfl rfl ((hxv.cutd hv).dnn og) og) rfl <| g0 (q3 (k := 0) aa341 zz341 (hxv.cutd hv) (cA (n := (dn vx)) og) rfl (Nat.add_zero _) rfl rfl (v := (.int .u32 (((vx / 4294967296 ^ i % 4294967296) : Nat) : Int))) rfl) rfl <| g0 (az rfl) rfl <| g0 (az rfl) rfl <| gn hK12 <| gr fun K13 hK13 => g0 (aq rfl) rfl <| gn hK13 <| gB ?_; clear h ac wo; intro ac wo h
   refine wp_loop_ghost (fun n_ a_ w_ => ∃ (k : Nat), n_ = 4 - k ∧ (k ≤ 4) ∧ St w0 46 [(3, sv1), (16, (oC xv (dn vx))), (17, (.int .i64 (((dn vx) : Nat) : Int))), (18, (.int .i64 ((i : Nat) : Int))), (4, (.int .i64 ((i : Nat) : Int))), (5, (.int .u32 (((vx / 4294967296 ^ i % 4294967296) : Nat) : Int))), (23, (.int .i64 ((k : Nat) : Int)))] [.row (α := UInt8) 5 sv1 (bz (4 * dn vx) (4 * i + k) vx)] a_ w_) _ ⟨0, rfl, og, h.re [0]⟩ ?_
   clear h ac wo; rintro _ ac wo ⟨k, rfl, hk, h⟩
   refine gz h <| gr fun K14 hK14 => g0 (gp rfl rfl) rfl <| gn hK14 <| gq fun K15 hK15 => ?_; clear h ac wo; intro ac wo h
   refine io h rfl (fun hc3 => ?_) (fun hc3 => ?_)
   ·
    have hd3 := of_decide_eq_true hc3
    refine gz h <| gS <| gx hK15 <| gq fun K16 hK16 => gB <| gr fun K17 hK17 => g0 (aq rfl) rfl <| g0 (az rfl) rfl <| gn hK17 <| gR <| g0 (aq rfl) rfl <| g0 (aq rfl) rfl <| g0 (fh uu335 rfl nnsv1.sl) rfl <| g0 (e7 rfl rfl (r := ((4 * dn vx - 1 : Nat) : Int)) (by rw [IntKind.wrap_i64]; omega)) rfl <| g0 (aq rfl) rfl <| g0 (jZ rfl rfl (r := ((4 * i : Nat) : Int)) (by first | (rw [IntKind.wrap_i64]; omega) | exact gu og og)) rfl <| g0 (e7 rfl rfl (r := ((4 * dn vx - 1 - 4 * i : Nat) : Int)) (by rw [IntKind.wrap_i64]; omega)) rfl <| g0 (aq rfl) rfl <| g0 (e7 rfl rfl (r := (((4 * dn vx - 1 - (4 * i + k)) : Nat) : Int)) (by rw [IntKind.wrap_i64]; omega)) rfl <| g0 (aq rfl) rfl <| g0 (aq rfl) rfl <| g0 (jZ rfl rfl (r := ((8 * k : Nat) : Int)) (by first | (rw [IntKind.wrap_i64]; omega) | exact gu og og)) rfl <| g0 (mA rfl rfl (r := (((vx / 4294967296 ^ i % 4294967296 / 256 ^ k) : Nat) : Int)) og (by simp [IntKind.bits] <;> omega) (by rw [show (((8 * k : Nat) : Int)).toNat = 8 * k by omega, sk]; simp)) rfl <| g0 (a8 uu341 uu5 rfl (r := ((UInt8.ofNat ((vx / 4294967296 ^ i % 4294967296 / 256 ^ k) % 256)).toNat : Int)) (by rw [IntKind.wrap_u8, UInt8.toNat_ofNat']; omega)) rfl <| g0 (fO (i := (4 * dn vx - 1 - (4 * i + k))) uu335 zz5 rfl rfl nnsv1 og) rfl ?_; clear h ac wo; intro ac wo h
    refine up h 0 rfl (fP (k := 0) (u' := (UInt8.ofNat ((vx / 4294967296 ^ i % 4294967296 / 256 ^ k) % 256))) zz5 (oN og) rfl rfl rfl rfl rfl rfl rfl rfl) ?_; clear h ac wo; intro ac wo h
    replace h := h.rowEq 0 rfl (bz_next og (by rw [rl _ _ _ og]))
    refine gz h <| gx (fun _ _ => dW) <| gN <| gx hK16 <| gR <| g0 (dq rfl rfl (r := ((k + 1 : Nat) : Int)) (by rw [IntKind.wrap_i64]; omega)) rfl <| g0 (aq rfl) rfl <| gx (fun _ _ => dW) ?_; clear h ac wo; intro ac wo h
    exact aL ⟨_, og, k + 1, rfl, og, h.re [0]⟩
   ·
    have hd3 := of_decide_eq_false hc3
    refine hG ?_
    refine hK11 _ _ ?_
    refine c_r ?_
    rw [show 4 * i + k = 4 * (i + 1) by omega] at h
    refine rd0 h (dq rfl rfl (r := ((i + 1 : Nat) : Int)) (by rw [IntKind.wrap_i64]; omega)) rfl <| g0 (aq rfl) rfl <| gx (fun _ _ => dW) ?_; clear h ac wo; intro ac wo h
    exact aL ⟨_, og, i + 1, rfl, og, h.re [0]⟩
  ·
   have hd2 := of_decide_eq_false hc2
   refine hG ?_
   refine hK7 _ _ ?_
   refine mi fun K18 hK18 => ?_
   have hie : i = dn vx := by omega
   subst hie
   have h256 : vx < 256 ^ (4 * dn vx) := dn_pow.1 (fm vx)
   refine rd0 h (aq rfl) rfl <| g1 0 rfl (r_str nn335 nn5 nn9 rfl) rfl <| gl Tryz.call288 rfl (tl_bs h256) rfl <| g0 (az rfl) rfl <| gn hK18 <| gT ?_; clear h ac wo; intro ac wo h
   have hd : vx = vx := rfl
   exact (rt h) (h.retP (by rw [hd] <;> rfl) trivial)
def eh (x : Int) : Bool :=
 (x != x)
theorem iy (x : Int) (w0 : World) : Calls Tryz.prog 280 #[(.int .i64 x)] w0 (cq w0 (.bool (eh x)) (True)) := by
 refine enter (N := 6) (args := [(.int .i64 x)]) Tryz.func280 rfl rfl ?_; intro ac h
 refine gz h <| (W) ?_; clear h ac; intro ac wo h
 exact (rt h) (h.retP (by unfold eh; rfl) trivial)
def bD (x : Int) (y : Int) : Int :=
 bif (eh x) then
  bif (eh y) then
   0
  else
   (-1)
 else
  bif (eh y) then
   1
  else
   bif (decide (x < y)) then
    (-1)
   else
    bif (decide (x > y)) then
     1
    else
     0
theorem g8 (x : Int) (y : Int) (w0 : World) : Calls Tryz.prog 228 #[(.int .i64 x), (.int .i64 y)] w0 (cq w0 (.int .i64 (bD x y)) ((-1 ≤ (bD x y) ∧ (bD x y) ≤ 1))) := by
 refine enter (N := 20) (args := [(.int .i64 x), (.int .i64 y)]) Tryz.func228 rfl rfl ?_; intro ac h
 refine gz h <| (xk (iy x)) <| (xk (iy y)) <| (ai) ?_ ?_ <;> clear h ac <;> intro ac wo h hc1
 ·
  refine gz h <| (ai) ?_ ?_ <;> clear h ac wo <;> intro ac wo h hc2
  ·
   have hd : bD x y = 0 := pt
   refine gz h <| (W) ?_; clear h ac wo; intro ac wo h
   exact (rt h) (h.retP (by rw [hd] <;> rfl) (by rw [hd]; exact by first | omega | exact dT og og))
  ·
   have hd : bD x y = (-1) := pt
   refine gz h <| (W) ?_; clear h ac wo; intro ac wo h
   exact (rt h) (h.retP (by rw [hd] <;> rfl) (by rw [hd]; exact by first | omega | exact dT og og))
 ·
  refine gz h <| (ai) ?_ ?_ <;> clear h ac wo <;> intro ac wo h hc3
  ·
   have hd : bD x y = 1 := pt
   refine gz h <| (W) ?_; clear h ac wo; intro ac wo h
   exact (rt h) (h.retP (by rw [hd] <;> rfl) (by rw [hd]; exact by first | omega | exact dT og og))
  ·
   refine gz h <| (ai) ?_ ?_ <;> clear h ac wo <;> intro ac wo h hc4
   ·
    have hd4 := of_decide_eq_true hc4
    have hd : bD x y = (-1) := pt
    refine gz h <| (W) ?_; clear h ac wo; intro ac wo h
    exact (rt h) (h.retP (by rw [hd] <;> rfl) (by rw [hd]; exact by first | omega | exact dT og og))
   ·
    have hd4 := of_decide_eq_false hc4
    refine gz h <| (ai) ?_ ?_ <;> clear h ac wo <;> intro ac wo h hc5
    ·
     have hd5 := of_decide_eq_true hc5
     have hd : bD x y = 1 := pt
     refine gz h <| (W) ?_; clear h ac wo; intro ac wo h
     exact (rt h) (h.retP (by rw [hd] <;> rfl) (by rw [hd]; exact by first | omega | exact dT og og))
    ·
     have hd5 := of_decide_eq_false hc5
     have hd : bD x y = 0 := pt
     refine gz h <| (W) ?_; clear h ac wo; intro ac wo h
     exact (rt h) (h.retP (by rw [hd] <;> rfl) (by rw [hd]; exact by first | omega | exact dT og og))
theorem tD (x y : Int) : bD x y = if x < y then -1 else if x > y then 1 else 0 := by
  unfold bD eh
  by_cases h1 : x < y
  · simp [h1]
  · by_cases h2 : y < x
    · simp [h1, h2]
    · simp [h1, h2]
theorem jK (a b : Nat) : -1 ≤ aY a b ∧ aY a b ≤ 1 := by
 unfold aY
 cases Nat.blt a b <;> cases Nat.beq a b <;> simp
theorem tA (a b : Nat) : or2 (bD ((bs a).size : Int) ((bs b).size : Int)) (Lib.compareBytes (bs a).data.toList (bs b).data.toList) = aY a b := by
 rw [tD, ← tz]
 congr 1
 simp
theorem nb (u v : Int) (xv : Value) (w0 : World) (hxv : View w0 xv [u, v]) : Calls Tryz.prog 227 #[xv] w0 (cq w0 (.int .i64 (or2 u v)) (True)) := by
 refine enter (N := 18) (args := [xv]) Tryz.func227 rfl rfl ?_; intro ac h
 refine mi fun K1 hK1 => ?_
 refine rd0 h (az rfl) rfl <| gn hK1 <| gr fun K2 hK2 => g0 (az rfl) rfl <| gn hK2 <| gq fun K3 hK3 => gr fun K4 hK4 => g0 (aq rfl) rfl <| g0 (fh uu358 rfl hxv.sl) rfl <| g0 (aq rfl) rfl <| gn hK4 <| gB ?_; clear h ac; intro ac wo h
 refine wp_loop_ghost (fun n_ a_ w_ => ∃ (i : Nat), n_ = 2 - i ∧ (i ≤ 2) ∧ (0 < i → u = 0) ∧ (1 < i → v = 0) ∧ St w0 18 [(3, (.int .i64 0)), (6, xv), (7, (.int .i64 ((2 : Nat) : Int))), (8, (.int .i64 ((i : Nat) : Int)))] [] a_ w_) _ ⟨0, rfl, og, (fun h => absurd h (by decide)), (fun h => absurd h (by decide)), h.re []⟩ ?_
 clear h ac wo; rintro _ ac wo ⟨i, rfl, hi, hu, hv, h⟩
 refine gz h <| gr fun K5 hK5 => g0 (gp rfl rfl) rfl <| gn hK5 <| gq fun K6 hK6 => ?_; clear h ac wo; intro ac wo h
 refine io h rfl (fun hc1 => ?_) (fun hc1 => ?_)
 ·
  have hd1 := of_decide_eq_true hc1
  refine gz h <| gS <| gx hK6 <| gq fun K7 hK7 => gB <| gr fun K8 hK8 => g0 (fO (i := i) uu358 zz3 rfl rfl (show NN xv 2 from hxv.nn (i := 0) (by simp)) og) rfl <| g0 (q3 (k := 0) Tryz.isAgg3 zz3 hxv (two_get og) rfl (Nat.add_zero _) rfl rfl (v := (.int .i64 (if i = 0 then u else v))) rfl) rfl <| g0 (az rfl) rfl <| gn hK8 <| gr fun K9 hK9 => g0 (aq rfl) rfl <| g0 (aq rfl) rfl <| g0 (r_neq rfl rfl) rfl <| gn hK9 ?_; clear h ac wo; intro ac wo h
  refine io h rfl (fun hc2 => ?_) (fun hc2 => ?_)
  ·
   have hd2 := hc2; simp only [bne_iff_ne, ne_eq] at hd2
   refine gz h <| gr fun K10 hK10 => g0 (aq rfl) rfl <| g0 (az rfl) rfl <| gn hK10 <| gT ?_; clear h ac wo; intro ac wo h
   have hd : or2 u v = (if i = 0 then u else v) := (by unfold or2; split at hd2 <;> split <;> simp_all)
   exact (rt h) (h.retP (by rw [hd] <;> rfl) trivial)
  ·
   have hq := hc2; simp only [bne_eq_false_iff_eq] at hq
   refine gz h <| gS <| gN <| gx hK7 <| gR <| g0 (dq rfl rfl (r := ((i + 1 : Nat) : Int)) (by rw [IntKind.wrap_i64]; omega)) rfl <| g0 (aq rfl) rfl <| gx (fun _ _ => dW) ?_; clear h ac wo; intro ac wo h
   exact aL ⟨_, og, i + 1, rfl, og, (by intro _; split at hq <;> omega), (by intro _; split at hq <;> omega), h.re []⟩
 ·
  have hd1 := of_decide_eq_false hc1
  refine gz h <| gE <| gx hK3 <| gr fun K11 hK11 => g0 (aq rfl) rfl <| g0 (az rfl) rfl <| gn hK11 <| gT ?_; clear h ac wo; intro ac wo h
  have hd : or2 u v = 0 := (by rw [hu og, hv og]; rfl)
  exact (rt h) (h.retP (by rw [hd] <;> rfl) trivial)
theorem dg (a : Nat) (b : Nat) (w0 : World) : Calls Tryz.prog 194 #[(.string (bs a)), (.string (bs b))] w0 (cq w0 (.int .i64 (aY a b)) ((-1 ≤ (aY a b) ∧ (aY a b) ≤ 1))) := by
 refine enter (N := 15) (args := [(.string (bs a)), (.string (bs b))]) Tryz.func194 rfl rfl ?_; intro ac h
 have p2 := am ((g8 ((bs a).size : Int) ((bs b).size : Int)) w0)
 refine gz h <| (xo (hs := by exact jd uu9 rfl)) <| (xo (hs := by exact jd uu9 rfl)) <| (xk (g8 ((bs a).size : Int) ((bs b).size : Int))) <| (xk (ju a b)) <| ?_; clear h ac; intro ac wo h
 refine nw h (s_slice2 (u := (bD ((bs a).size : Int) ((bs b).size : Int))) (v := (Lib.compareBytes (bs a).data.toList (bs b).data.toList)) slt358 rfl rfl) rfl ?_; clear h ac wo; intro sv3 ac wo nnsv3 h
 refine clq h Tryz.call227 (vs := [sv3]) rfl (fun w_ hB_ hS_ => nb (bD ((bs a).size : Int) ((bs b).size : Int)) (Lib.compareBytes (bs a).data.toList (bs b).data.toList) sv3 w_ (row_view hS_ 0 rfl)) rfl ?_; clear h ac wo; intro ac wo h
 have hd : aY a b = (or2 (bD ((bs a).size : Int) ((bs b).size : Int)) (Lib.compareBytes (bs a).data.toList (bs b).data.toList)) := (tA a b).symm
 refine gz h <| (W) ?_; clear h ac wo; intro ac wo h
 exact (rt h) (h.retP (by rw [hd] <;> rfl) (by rw [hd]; exact (by rw [tA]; exact jK a b)))
theorem fz (nx vx : Nat) (xv : Value) (s : Nat) (hv : vx < 4294967296 ^ nx) (hs : s ≤ 31) (hb : nx ≤ 17592186044417) (w0 : World) (hxv : View w0 xv (dgs nx vx)) : Calls Tryz.prog 283 #[xv, (.int .i64 ((s : Nat) : Int))] w0 (RetR w0 341 (dgs (nx + 1) (vx * 2 ^ s)) (True)) := by
 refine enter (N := 41) (args := [xv, (.int .i64 ((s : Nat) : Int))]) Tryz.func283 rfl rfl ?_; intro ac h
 have hs32 : s ≤ 32 := by omega
 refine mi fun K1 hK1 => ?_
 refine rd0 h (az rfl) rfl <| gn hK1 <| gr fun K2 hK2 => g0 (aq rfl) rfl <| g0 (fh uu339 rfl hxv.dsl) rfl <| g0 (dq rfl rfl (r := ((nx + 1 : Nat) : Int)) (by rw [IntKind.wrap_i64]; omega)) rfl ?_; clear h ac; intro ac wo h
 refine nw h (ke (n := (nx + 1)) ((0 : Nat)) rfl kO rfl rfl rfl og og) rfl ?_; clear h ac wo; intro sv1 ac wo nnsv1 h
 refine rd0 h (az rfl) rfl <| gn hK2 <| gq fun K3 hK3 => gr fun K4 hK4 => g0 (aq rfl) rfl <| g0 (fh uu339 rfl hxv.dsl) rfl <| g0 (aq rfl) rfl <| gn hK4 <| gB ?_; clear h ac wo; intro ac wo h
 replace h := h.rowEq 0 rfl (by rw [show vx % 4294967296 ^ 0 * 2 ^ s = 0 by simp [Nat.mod_one]]; exact (jP _).symm : (List.replicate (nx + 1) (0 : Nat)) = (dgs (nx + 1) (vx % 4294967296 ^ 0 * 2 ^ s)))
 refine wp_loop_ghost (fun n_ a_ w_ => ∃ (i : Nat), n_ = nx - i ∧ (i ≤ nx) ∧ St w0 41 [(1, (.int .i64 ((s : Nat) : Int))), (5, sv1), (13, xv), (14, (.int .i64 ((nx : Nat) : Int))), (15, (.int .i64 ((i : Nat) : Int)))] [.row (α := Nat) 341 sv1 (dgs (nx + 1) (vx % 4294967296 ^ i * 2 ^ s))] a_ w_) _ ⟨0, rfl, og, h.re [0]⟩ ?_
 clear h ac wo; rintro _ ac wo ⟨i, rfl, hi, h⟩
 refine gz h <| gr fun K5 hK5 => g0 (gp rfl rfl) rfl <| gn hK5 <| gq fun K6 hK6 => ?_; clear h ac wo; intro ac wo h
 refine io h rfl (fun hc1 => ?_) (fun hc1 => ?_)
 ·
  have hd1 := of_decide_eq_true hc1
  refine gz h <| gS <| gx hK6 <| gq fun K7 hK7 => gB <| gr fun K8 hK8 => g0 (aq rfl) rfl <| g0 (fO (i := i) uu339 zz341 rfl rfl (hxv.dnn og) og) rfl <| g0 (q3 (k := 0) aa341 zz341 hxv (cA (n := nx) og) rfl (Nat.add_zero _) rfl rfl (v := (.int .u32 (((vx / 4294967296 ^ i % 4294967296) : Nat) : Int))) rfl) rfl <| g0 (az rfl) rfl <| g0 (az rfl) rfl <| gn hK8 <| gr fun K9 hK9 => ?_; clear h ac wo; intro ac wo h
  have hw : ((vx / 4294967296 ^ i % 4294967296) * 2 ^ s) < 18446744073709551616 := sh_word hs32 (Nat.mod_lt _ (by decide))
  refine rd0 h (aq rfl) rfl <| g0 (a8 uu341 uu254 rfl (r := (((vx / 4294967296 ^ i % 4294967296) : Nat) : Int)) (by rw [IntKind.wrap_u64]; omega)) rfl <| g0 (aq rfl) rfl <| g0 (nE rfl rfl (r := ((((vx / 4294967296 ^ i % 4294967296) * 2 ^ s) : Nat) : Int)) og (by simp [IntKind.bits] <;> omega) (lQ rfl hw)) rfl <| g0 (az rfl) rfl <| gn hK9 <| gr fun K10 hK10 => g0 (aq rfl) rfl <| g0 (aq rfl) rfl ?_; clear h ac wo; intro ac wo h
  refine rd0 h (fO (i := i) uu339 zz341 rfl rfl (h.dnn 0 rfl og) og) rfl <| g1 0 rfl (fj (k := 0) aa341 zz341 (sh_get hs32 og) rfl (Nat.add_zero _) rfl rfl (v := (.int .u32 (((shc vx s i) : Nat) : Int))) rfl) rfl <| g0 (aq rfl) rfl <| g0 (a8 uu254 uu341 rfl (r := ((((vx / 4294967296 ^ i % 4294967296) * 2 ^ s) % 4294967296 : Nat) : Int)) (by rw [IntKind.wrap_u32']; omega)) rfl <| g0 (pc rfl rfl (r := ((shc vx s i + ((vx / 4294967296 ^ i % 4294967296) * 2 ^ s) % 4294967296 : Nat) : Int)) (sh_or hs32)) rfl ?_; clear h ac wo; intro ac wo h
  refine rd0 h (fO (i := i) uu339 zz341 rfl rfl (h.dnn 0 rfl og) og) rfl ?_; clear h ac wo; intro ac wo h
  refine up h 0 rfl (fP (k := 0) (u' := (shc vx s i + ((vx / 4294967296 ^ i % 4294967296) * 2 ^ s) % 4294967296)) zz341 (sh_get hs32 og) rfl rfl rfl rfl rfl rfl rfl rfl) ?_; clear h ac wo; intro ac wo h
  replace h := h.rowEq 0 rfl (sh_set1 hs32)
  refine gz h <| gn hK10 <| gR <| g0 (aq rfl) rfl <| g0 (aq rfl) rfl <| g0 (dq rfl rfl (r := ((i + 1 : Nat) : Int)) (by rw [IntKind.wrap_i64]; omega)) rfl <| g0 (aq rfl) rfl <| g0 (mA rfl rfl (r := ((((vx / 4294967296 ^ i % 4294967296) * 2 ^ s) / 4294967296 : Nat) : Int)) (by decide) (by decide) (by rw [show (2 : Int) ^ ((32 : Int)).toNat = 4294967296 from rfl]; omega)) rfl <| g0 (a8 uu254 uu341 rfl (r := ((((vx / 4294967296 ^ i % 4294967296) * 2 ^ s) / 4294967296 : Nat) : Int)) (by rw [IntKind.wrap_u32']; omega)) rfl ?_; clear h ac wo; intro ac wo h
  refine rd0 h (fO (i := (i + 1)) uu339 zz341 rfl rfl (h.dnn 0 rfl og) og) rfl ?_; clear h ac wo; intro ac wo h
  refine up h 0 rfl (fP (k := 0) (u' := (((vx / 4294967296 ^ i % 4294967296) * 2 ^ s) / 4294967296)) zz341 (cA (n := nx + 1) (q := i + 1) og) rfl rfl rfl rfl rfl rfl rfl rfl) ?_; clear h ac wo; intro ac wo h
  replace h := h.rowEq 0 rfl (sh_set2 hs32)
  refine gz h <| gx (fun _ _ => dW) <| gN <| gx hK7 <| gR <| g0 (dq rfl rfl (r := ((i + 1 : Nat) : Int)) (by rw [IntKind.wrap_i64]; omega)) rfl <| g0 (aq rfl) rfl <| gx (fun _ _ => dW) ?_; clear h ac wo; intro ac wo h
  exact aL ⟨_, og, i + 1, rfl, og, h.re [0]⟩
 ·
  have hd1 := of_decide_eq_false hc1
  refine gz h <| gE <| gx hK3 <| gr fun K11 hK11 => g0 (aq rfl) rfl <| g0 (az rfl) rfl <| gn hK11 <| gT ?_; clear h ac wo; intro ac wo h
  have hd : dgs (nx + 1) (vx * 2 ^ s) = (dgs (nx + 1) (vx % 4294967296 ^ i * 2 ^ s)) := (by rw [show i = nx by omega, Nat.mod_eq_of_lt hv])
  exact (rt h) (by rw [hd]; exact h.retR 0 rfl trivial)
theorem jb (nx vx : Nat) (xv : Value) (d : Nat) (hv : vx < 4294967296 ^ nx) (hd0 : 0 < d) (hdl : d < 4294967296) (hb : nx ≤ 35184372088832) (w0 w : World) (B : Asn) (hbel : Below w0.heap.size w0 w) (hsep : ∃ U, Sep w0.heap.size w [.row (α := Nat) 341 xv (dgs nx vx), B] U) : Calls Tryz.prog 281 #[xv, (.int .u32 ((d : Nat) : Int))] w (RetX w0 (.int .u32 ((vx % d : Nat) : Int)) [.row (α := Nat) 341 xv (dgs nx (vx / d)), B]) := by
 refine ot (N := 36) (args := [xv, (.int .u32 ((d : Nat) : Int))]) Tryz.func281 rfl rfl hbel hsep ?_; intro ac h
 refine mi fun K1 hK1 => ?_
 refine rd0 h (az rfl) rfl <| gn hK1 <| gr fun K2 hK2 => g0 (az rfl) rfl <| gn hK2 <| gq fun K3 hK3 => gr fun K4 hK4 => g0 (aq rfl) rfl ?_; clear h ac; intro ac wo h
 refine rd0 h (fh uu339 rfl (h.dsl 0 rfl)) rfl <| g0 (e7 rfl rfl (r := (((nx : Nat) : Int) - 1)) (by rw [IntKind.wrap_i64]; omega)) rfl <| g0 (az rfl) rfl <| gn hK4 <| gB ?_; clear h ac wo; intro ac wo h
 replace h := h.rowEq 0 rfl (by rw [nO (Nat.lt_of_le_of_lt (Nat.div_le_self _ _) hv) hv] : (dgs nx vx) = (dgs nx (mx (vx / d) nx vx)))
 refine wp_loop_ghost (fun n_ a_ w_ => ∃ (i : Nat), n_ = 1 * i ∧ (i ≤ nx) ∧ St w0 36 [(0, xv), (1, (.int .u32 ((d : Nat) : Int))), (6, (.int .i64 (((i : Nat) : Int) - 1))), (5, (.int .u64 (((vx / 4294967296 ^ i % d) : Nat) : Int)))] [.row (α := Nat) 341 xv (dgs nx (mx (vx / d) i vx)), B] a_ w_) _ ⟨nx, rfl, (Nat.le_refl _), (h.pick [0, 1] (by decide)).sub ⟨rfl, rfl, rfl, (by rw [Nat.div_eq_of_lt hv]; simp; rfl), trivial⟩⟩ ?_
 clear h ac wo; rintro _ ac wo ⟨i, rfl, hi, h⟩
 refine gz h <| gq fun K5 hK5 => gr fun K6 hK6 => g0 (aq rfl) rfl <| g0 (sd rfl rfl) rfl <| gn hK6 ?_; clear h ac wo; intro ac wo h
 refine io h rfl (fun hc1 => ?_) (fun hc1 => ?_)
 ·
  have hd1 := of_decide_eq_true hc1
  obtain ⟨q, rfl⟩ : ∃ q, i = q + 1 := ⟨i - 1, by omega⟩
  rw [show (((q + 1 : Nat) : Int) - 1) = ((q : Nat) : Int) by omega] at h
  have hst := qR (v := vx) (i := q) hd0
  have hrl : vx / 4294967296 ^ (q + 1) % d < d := Nat.mod_lt _ hd0
  refine gz h <| gS <| gx hK5 <| gq fun K7 hK7 => gB <| gr fun K8 hK8 => g0 (aq rfl) rfl <| g0 (nE rfl rfl (r := (((vx / 4294967296 ^ (q + 1) % d) * 2 ^ 32 : Nat) : Int)) (by decide) (by decide) (lQ rfl og)) rfl <| g0 (aq rfl) rfl <| g0 (aq rfl) rfl ?_; clear h ac wo; intro ac wo h
  refine rd0 h (fO (i := q) uu339 zz341 rfl rfl (h.dnn 0 rfl og) og) rfl <| g1 0 rfl (fj (k := 0) aa341 zz341 (l5 og) rfl (Nat.add_zero _) rfl rfl (v := (.int .u32 (((vx / 4294967296 ^ q % 4294967296) : Nat) : Int))) rfl) rfl <| g0 (a8 uu341 uu254 rfl (r := (((vx / 4294967296 ^ q % 4294967296) : Nat) : Int)) (by rw [IntKind.wrap_u64]; omega)) rfl <| g0 (pc rfl rfl (r := ((((vx / 4294967296 ^ (q + 1) % d) * 4294967296 + (vx / 4294967296 ^ q % 4294967296)) : Nat) : Int)) (gk (k := 32) _ _ og (Nat.mod_lt _ (by decide)) og)) rfl <| g0 (az rfl) rfl <| gn hK8 ?_; clear h ac wo; intro ac wo h
  refine eV mixed [dv _, dv _, dv _, dv _, dv _, dv _, dv _, dv _, dv _, dv _, dv _, dv _, dw _ [0], dv _] [⟨.row (α := Nat) 341 xv (dgs nx (mx (vx / d) (q + 1) vx)), [(12, .con (.row (α := Nat) 341 xv ((dgs nx (mx (vx / d) (q + 1) vx)).set q (vx / d / 4294967296 ^ q % 4294967296))))]⟩, ⟨_, []⟩] h rfl (by kernel_rfl) ⟨fun _ _ => om rfl, fun _ _ => om rfl, fun _ _ => om rfl, fun _ _ => om rfl, fun _ _ => ba (a8 uu341 uu254 rfl (r := ((d : Nat) : Int)) (by rw [IntKind.wrap_u64]; omega)), fun _ _ => ba (nF rfl rfl (r := ((vx / d / 4294967296 ^ q % 4294967296 : Nat) : Int)) og (by rw [Int.tdiv_eq_ediv_of_nonneg og, show ((((vx / 4294967296 ^ (q + 1) % d) * 4294967296 + (vx / 4294967296 ^ q % 4294967296)) : Nat) : Int) / ((d : Nat) : Int) = ((vx / d / 4294967296 ^ q % 4294967296 : Nat) : Int) from by rw [← hst.1]; rfl, IntKind.wrap_u64]; omega)), fun _ _ => ba (a8 uu254 uu341 rfl (r := ((vx / d / 4294967296 ^ q % 4294967296 : Nat) : Int)) (by rw [IntKind.wrap_u32']; omega)), fun _ _ => om rfl, fun _ _ => om rfl, fun _ _ => ba (a8 uu341 uu254 rfl (r := ((d : Nat) : Int)) (by rw [IntKind.wrap_u64]; omega)), fun _ _ => ba (qZ rfl rfl (r := ((vx / 4294967296 ^ q % d : Nat) : Int)) og (by rw [Int.tmod_eq_emod_of_nonneg og, ← hst.2]; rfl)), fun _ _ => ba (fO (i := q) uu339 zz341 rfl rfl (h.dnn 0 rfl og) og), fun _ _ => kt _ [.row (α := Nat) 341 xv ((dgs nx (mx (vx / d) (q + 1) vx)).set q (vx / d / 4294967296 ^ q % 4294967296))] rfl rfl (fP (k := 0) (u' := (vx / d / 4294967296 ^ q % 4294967296)) zz341 (l5 og) rfl rfl rfl rfl rfl rfl rfl rfl), fun _ _ => ba (az rfl), trivial⟩ ?_
  clear h ac wo; intro ξ ac wo hφ h
  replace h : St w0 36 [(0, xv), (1, (.int .u32 ((d : Nat) : Int))), (6, (.int .i64 ((q : Nat) : Int))), (5, (.int .u64 ((vx / 4294967296 ^ q % d : Nat) : Int)))] [.row (α := Nat) 341 xv ((dgs nx (mx (vx / d) (q + 1) vx)).set q (vx / d / 4294967296 ^ q % 4294967296)), B] ac wo := h.sub ⟨rfl, rfl, rfl, rfl, trivial⟩
  clear hφ ξ
  refine gz h <| gN <| gx hK7 <| gR <| g0 (aq rfl) rfl <| g0 (e7 rfl rfl (r := (((q : Nat) : Int) - 1)) (by rw [IntKind.wrap_i64]; omega)) rfl <| g0 (az rfl) rfl <| gx (fun _ _ => dW) ?_; clear h ac wo; intro ac wo h
  replace h := h.rowEq 0 rfl (po : ((dgs nx (mx (vx / d) (q + 1) vx)).set q (vx / d / 4294967296 ^ q % 4294967296)) = (dgs nx (mx (vx / d) q vx)))
  exact aL ⟨_, og, q, rfl, og, h.re [0, 1]⟩
 ·
  have hd1 := of_decide_eq_false hc1
  have hi0 : i = 0 := by omega
  subst hi0
  replace h := h.rowEq 0 rfl (by rw [mO] : (dgs nx (mx (vx / d) 0 vx)) = (dgs nx (vx / d)))
  have hmd : vx % d < d := Nat.mod_lt _ hd0
  refine gz h <| gE <| gx hK3 <| gr fun K9 hK9 => g0 (aq rfl) rfl <| g0 (a8 uu254 uu341 rfl (r := ((vx % d : Nat) : Int)) (by rw [IntKind.wrap_u32', Nat.pow_zero, Nat.div_one]; omega)) rfl <| g0 (az rfl) rfl <| gn hK9 <| gT ?_; clear h ac wo; intro ac wo h
  exact (rt h) (h.retX rfl)
def cr (a b : Nat) : Nat := a + b
theorem fb (a : Nat) (b : Nat) (k : Nat) (hk : (k + 1) ≤ 40) (za : SzB (k + 1) a) (zb : SzB (k + 1) b) (w0 : World) : Calls Tryz.prog 193 #[(.string (bs a)), (.string (bs b))] w0 (cq w0 (.string (bs (cr a b))) (SzB k (cr a b))) := by
 refine enter (N := 84) (args := [(.string (bs a)), (.string (bs b))]) Tryz.func193 rfl rfl ?_; intro ac h
 refine mi fun K1 hK1 => ?_
 refine rd0 h (az rfl) rfl <| gn hK1 ?_; clear h ac; intro ac wo h
 refine rp (fun a_ w_ => St w0 84 [(0, (.string (bs a))), (1, (.string (bs b)))] [] a_ w_) (fun K2 hK2 => ?_) ?_
 ·
  refine gz h <| gr fun K3 hK3 => g0 (aq rfl) rfl <| g0 (aq rfl) rfl <| gl cc231 rfl (eB a b) rfl <| g0 (aq rfl) rfl <| g0 (cd rfl rfl) rfl <| g0 (cd rfl rfl) rfl <| g0 (cd rfl rfl) rfl <| g0 (az rfl) rfl <| g0 (az rfl) rfl <| g0 (az rfl) rfl <| gn hK3 <| gr fun K4 hK4 => g0 (aq rfl) rfl <| gn hK4 ?_; clear h ac wo; intro ac wo h
  refine io h rfl (fun hc1 => ?_) (fun hc1 => ?_)
  ·
   obtain ⟨ha6, hb6, hw⟩ := iE hc1
   simp only [hw] at h
   refine gz h <| gr fun K5 hK5 => g0 (aq rfl) rfl <| g0 (aq rfl) rfl <| g0 (r_ext (vs := [(.int .u64 ((a : Nat) : Int)), (.int .u64 ((b : Nat) : Int)), (.int .u64 0)]) rfl (add64 a b)) rfl <| g0 (aq rfl) rfl <| g0 (cd rfl rfl) rfl <| g0 (cd rfl rfl) rfl <| g0 (az rfl) rfl <| g0 (az rfl) rfl <| gn hK5 <| gr fun K6 hK6 => g0 (aq rfl) rfl <| g0 (pe rfl rfl) rfl <| gn hK6 ?_; clear h ac wo; intro ac wo h
   refine io h rfl (fun hc2 => ?_) (fun hc2 => ?_)
   ·
    have hd2 := eq_of_beq hc2
    refine gz h <| gr fun K7 hK7 => g0 (aq rfl) rfl <| gl cc191 rfl (bV ((a + b) % 18446744073709551616) og) rfl <| g0 (az rfl) rfl <| gn hK7 <| gT ?_; clear h ac wo; intro ac wo h
    have hd : cr a b = (bk ((a + b) % 18446744073709551616)) := (by show a + b = (a + b) % 18446744073709551616; omega)
    exact (rt h) (h.retP (by rw [hd] <;> rfl) (tU za zb))
   ·
    have hd2 := ne_of_beq_false hc2
    refine jR ?_
    exact hK2 _ _ ((h.pick [] (by decide)).sub ⟨rfl, rfl, trivial⟩)
  ·
   refine jR ?_
   exact hK2 _ _ ((h.pick [] (by decide)).sub ⟨rfl, rfl, trivial⟩)
 ·
  clear h ac wo; intro ac wo h
  refine gz h <| gr fun K8 hK8 => g0 (aq rfl) rfl ?_; clear h ac wo; intro ac wo h
  refine clr (xs := (dgs (dn a) a)) h cc257 (vs := [(.string (bs a))]) rfl (kk (cx a (gH za))) rfl ?_; clear h ac wo; intro sv1 ac wo hpsv1 h
  refine rd0 h (aq rfl) rfl ?_; clear h ac wo; intro ac wo h
  refine clr (xs := (dgs (dn b) b)) h cc257 (vs := [(.string (bs b))]) rfl (kk (cx b (gH zb))) rfl ?_; clear h ac wo; intro sv2 ac wo hpsv2 h
  refine rd0 h (az rfl) rfl <| g0 (az rfl) rfl <| gn hK8 ?_; clear h ac wo; intro ac wo h
  refine rp (fun a_ w_ => ∃ (p : Nat) (q : Nat) (sp : Value) (sq : Value), (p + q = a + b) ∧ (dn q ≤ dn p) ∧ (dn p ≤ 17592186044416) ∧ (dn q ≤ 17592186044416) ∧ St w0 84 [(10, sp), (11, sq)] [.row (α := Nat) 341 sp (dgs (dn p) p), .row (α := Nat) 341 sq (dgs (dn q) q)] a_ w_) (fun K9 hK9 => ?_) ?_
  ·
   refine gz h <| gr fun K10 hK10 => g0 (aq rfl) rfl ?_; clear h ac wo; intro ac wo h
   refine rd0 h (fh uu339 rfl (h.dsl 1 rfl)) rfl <| g0 (aq rfl) rfl ?_; clear h ac wo; intro ac wo h
   refine rd0 h (fh uu339 rfl (h.dsl 0 rfl)) rfl <| g0 (gp rfl rfl) rfl <| gn hK10 ?_; clear h ac wo; intro ac wo h
   refine io h rfl (fun hc3 => ?_) (fun hc3 => ?_)
   ·
    have hd3 := of_decide_eq_true hc3
    refine gz h <| gR <| g0 (aq rfl) rfl <| g0 (aq rfl) rfl <| g0 (az rfl) rfl <| g0 (az rfl) rfl <| gx (fun _ _ => dW) ?_; clear h ac wo; intro ac wo h
    exact hK9 _ _ ⟨b, a, sv2, sv1, og, og, (eP zb), (eP za), h.re [0, 1]⟩
   ·
    have hd3 := of_decide_eq_false hc3
    refine jR ?_
    exact hK9 _ _ ⟨a, b, sv1, sv2, og, og, (eP za), (eP zb), h.re [1, 0]⟩
  ·
   clear h ac wo; intro ac wo h
   obtain ⟨p, q, sp, sq, hpq, hle, hpl, hql, h⟩ := h
   refine gz h <| gr fun K11 hK11 => g0 (aq rfl) rfl ?_; clear h ac wo; intro ac wo h
   refine rd0 h (fh uu339 rfl (h.dsl 0 rfl)) rfl <| g0 (dq rfl rfl (r := (((dn p) + 1 : Nat) : Int)) (by rw [IntKind.wrap_i64]; omega)) rfl ?_; clear h ac wo; intro ac wo h
   refine nw h (ke (n := ((dn p) + 1)) ((0 : Nat)) rfl kO rfl rfl rfl og og) rfl ?_; clear h ac wo; intro sv3 ac wo nnsv3 h
   refine rd0 h (az rfl) rfl <| gn hK11 <| gr fun K12 hK12 => g0 (aq rfl) rfl <| g0 (aq rfl) rfl ?_; clear h ac wo; intro ac wo h
   refine up2 h 0 1 (by decide) rfl rfl (s_copy nn339 (by kernel_rfl) rfl rfl rfl (by rw [bM, List.length_replicate]; omega)) rfl ?_; clear h ac wo; intro ac wo h
   replace h := h.rowEq 0 rfl (qE (fm p) og)
   refine gz h <| gn hK12 <| gr fun K13 hK13 => g0 (az rfl) rfl <| gn hK13 <| gq fun K14 hK14 => gr fun K15 hK15 => g0 (aq rfl) rfl ?_; clear h ac wo; intro ac wo h
   refine rd0 h (fh uu339 rfl (h.dsl 0 rfl)) rfl <| g0 (aq rfl) rfl <| gn hK15 <| gB ?_; clear h ac wo; intro ac wo h
   have hz0 : dgs (dn p + 1) p = dgs (dn p + 1) (mx p 0 (p + q)) := by rw [mO]
   rw [hz0] at h
   refine wp_loop_ghost (fun n_ a_ w_ => ∃ (i : Nat), n_ = dn p + 1 - i ∧ (i ≤ dn p + 1) ∧ St w0 84 [(11, sq), (12, sv3), (52, (.int .i64 (((dn p + 1) : Nat) : Int))), (53, (.int .i64 ((i : Nat) : Int))), (13, (.int .u64 (((cy p q i) : Nat) : Int)))] [.row (α := Nat) 341 sv3 (dgs (dn p + 1) (mx p i (p + q))), .row (α := Nat) 341 sp (dgs (dn p) p), .row (α := Nat) 341 sq (dgs (dn q) q)] a_ w_) _ ⟨0, rfl, og, (h.pick [0, 1, 2] (by decide)).sub ⟨rfl, rfl, rfl, rfl, (by rw [th]; rfl), trivial⟩⟩ ?_
   clear h ac wo; rintro _ ac wo ⟨i, rfl, hi, h⟩
   refine gz h <| gr fun K16 hK16 => g0 (gp rfl rfl) rfl <| gn hK16 <| gq fun K17 hK17 => ?_; clear h ac wo; intro ac wo h
   refine io h rfl (fun hc4 => ?_) (fun hc4 => ?_)
   ·
    have hd4 := of_decide_eq_true hc4
    refine gz h <| gS <| gx hK17 <| gq fun K18 hK18 => gB <| gr fun K19 hK19 => g0 (aq rfl) rfl <| g0 (az rfl) rfl <| gn hK19 <| gr fun K20 hK20 => ?_; clear h ac wo; intro ac wo h
    have hlt : i < dn p + 1 := by omega
    have hcy := cy_le p q i
    have hdig := m8 p q i
    have hnx := ti p q i
    refine rd0 h (aq rfl) rfl <| g0 (aq rfl) rfl <| g0 (aq rfl) rfl ?_; clear h ac wo; intro ac wo h
    refine rd0 h (fO (i := i) uu339 zz341 rfl rfl (h.dnn 0 rfl og) og) rfl <| g1 0 rfl (fj (k := 0) aa341 zz341 (fu hlt) rfl (Nat.add_zero _) rfl rfl (v := (.int .u32 (((p / 4294967296 ^ i % 4294967296) : Nat) : Int))) rfl) rfl <| g0 (a8 uu341 uu254 rfl (r := (((p / 4294967296 ^ i % 4294967296) : Nat) : Int)) (by rw [IntKind.wrap_u64]; omega)) rfl <| g0 (dq rfl rfl (r := (((cy p q i) + (p / 4294967296 ^ i % 4294967296) : Nat) : Int)) (by rw [IntKind.wrap_u64]; omega)) rfl <| g0 (az rfl) rfl <| gn hK20 <| gq fun K21 hK21 => gr fun K22 hK22 => g0 (aq rfl) rfl <| g0 (aq rfl) rfl ?_; clear h ac wo; intro ac wo h
    refine rd0 h (fh uu339 rfl (h.dsl 2 rfl)) rfl <| g0 (gp rfl rfl) rfl <| gn hK22 ?_; clear h ac wo; intro ac wo h
    refine io h rfl (fun hc5 => ?_) (fun hc5 => ?_)
    ·
     have hd5 := of_decide_eq_true hc5
     refine gz h <| gR <| g0 (aq rfl) rfl <| g0 (aq rfl) rfl <| g0 (aq rfl) rfl ?_; clear h ac wo; intro ac wo h
     refine rd0 h (fO (i := i) uu339 zz341 rfl rfl (h.dnn 2 rfl og) og) rfl <| g1 2 rfl (fj (k := 0) aa341 zz341 (cA (n := (dn q)) og) rfl (Nat.add_zero _) rfl rfl (v := (.int .u32 (((q / 4294967296 ^ i % 4294967296) : Nat) : Int))) rfl) rfl <| g0 (a8 uu341 uu254 rfl (r := (((q / 4294967296 ^ i % 4294967296) : Nat) : Int)) (by rw [IntKind.wrap_u64]; omega)) rfl <| g0 (dq rfl rfl (r := ((((cy p q i) + (p / 4294967296 ^ i % 4294967296)) + (q / 4294967296 ^ i % 4294967296) : Nat) : Int)) (by rw [IntKind.wrap_u64]; omega)) rfl <| g0 (az rfl) rfl <| gn hK21 <| gR <| g0 (aq rfl) rfl <| g0 (aq rfl) rfl <| g0 (aq rfl) rfl <| g0 (a8 uu254 uu341 rfl (r := (((p + q) / 4294967296 ^ i % 4294967296 : Nat) : Int)) (by rw [IntKind.wrap_u32', hdig]; omega)) rfl <| g0 (aq rfl) rfl <| g0 (mA rfl rfl (r := ((cy p q (i + 1) : Nat) : Int)) (by decide) (by decide) (by rw [show (2 : Int) ^ ((32 : Int)).toNat = 4294967296 from rfl]; rw [hnx]; omega)) rfl ?_; clear h ac wo; intro ac wo h
     refine rd0 h (fO (i := i) uu339 zz341 rfl rfl (h.dnn 0 rfl og) og) rfl ?_; clear h ac wo; intro ac wo h
     refine up h 0 rfl (fP (k := 0) (u' := ((p + q) / 4294967296 ^ i % 4294967296)) zz341 (fu hlt) rfl rfl rfl rfl rfl rfl rfl rfl) ?_; clear h ac wo; intro ac wo h
     replace h := h.rowEq 0 rfl (jg)
     refine rd0 h (az rfl) rfl <| gx (fun _ _ => dW) <| gN <| gx hK18 <| gR <| g0 (dq rfl rfl (r := ((i + 1 : Nat) : Int)) (by rw [IntKind.wrap_i64]; omega)) rfl <| g0 (aq rfl) rfl <| gx (fun _ _ => dW) ?_; clear h ac wo; intro ac wo h
     exact aL ⟨_, og, i + 1, rfl, og, h.re [0, 1, 2]⟩
    ·
     have hd5 := of_decide_eq_false hc5
     have hq0 := m7 (i := i) (fm q) og
     refine gz h <| gS <| gx hK21 <| gR <| g0 (aq rfl) rfl <| g0 (aq rfl) rfl <| g0 (aq rfl) rfl <| g0 (a8 uu254 uu341 rfl (r := (((p + q) / 4294967296 ^ i % 4294967296 : Nat) : Int)) (by rw [IntKind.wrap_u32', hdig]; omega)) rfl <| g0 (aq rfl) rfl <| g0 (mA rfl rfl (r := ((cy p q (i + 1) : Nat) : Int)) (by decide) (by decide) (by rw [show (2 : Int) ^ ((32 : Int)).toNat = 4294967296 from rfl]; rw [hnx]; omega)) rfl ?_; clear h ac wo; intro ac wo h
     refine rd0 h (fO (i := i) uu339 zz341 rfl rfl (h.dnn 0 rfl og) og) rfl ?_; clear h ac wo; intro ac wo h
     refine up h 0 rfl (fP (k := 0) (u' := ((p + q) / 4294967296 ^ i % 4294967296)) zz341 (fu hlt) rfl rfl rfl rfl rfl rfl rfl rfl) ?_; clear h ac wo; intro ac wo h
     replace h := h.rowEq 0 rfl (jg)
     refine rd0 h (az rfl) rfl <| gx (fun _ _ => dW) <| gN <| gx hK18 <| gR <| g0 (dq rfl rfl (r := ((i + 1 : Nat) : Int)) (by rw [IntKind.wrap_i64]; omega)) rfl <| g0 (aq rfl) rfl <| gx (fun _ _ => dW) ?_; clear h ac wo; intro ac wo h
     exact aL ⟨_, og, i + 1, rfl, og, h.re [0, 1, 2]⟩
   ·
    have hd4 := of_decide_eq_false hc4
    refine hG ?_
    refine hK14 _ _ ?_
    refine mi fun K23 hK23 => ?_
    have hie : i = dn p + 1 := by omega
    subst hie
    rw [nO (by have := fm p; rw [Nat.pow_succ]; omega) (by rw [Nat.pow_succ]; have h1 := fm p; have h2 := (m6 q (dn p)).1 hle; omega)] at h
    refine rd0 h (aq rfl) rfl ?_; clear h ac wo; intro ac wo h
    refine clq h cc258 (vs := [sv3]) rfl (fun w_ hB_ hS_ => dk (dn p + 1) (p + q) sv3 (by rw [Nat.pow_succ]; have h1 := fm p; have h2 := (m6 q (dn p)).1 hle; omega) og w_ (row_view hS_ 0 rfl)) rfl ?_; clear h ac wo; intro ac wo h
    refine rd0 h (az rfl) rfl <| gn hK23 <| gT ?_; clear h ac wo; intro ac wo h
    have hd : cr a b = (p + q) := (by show a + b = p + q; omega)
    exact (rt h) (h.retP (by rw [hd] <;> rfl) (tU za zb))
def bS (a b : Nat) : Nat := a - b
theorem eE (a : Nat) (b : Nat) (k : Nat) (hk : k ≤ 40) (za : SzB k a) (zb : SzB k b) (hab : b ≤ a) (w0 : World) : Calls Tryz.prog 195 #[(.string (bs a)), (.string (bs b))] w0 (cq w0 (.string (bs (bS a b))) (SzB k (bS a b))) := by
 refine enter (N := 71) (args := [(.string (bs a)), (.string (bs b))]) Tryz.func195 rfl rfl ?_; intro ac h
 have hda := eP za
 have hdb := eP zb
 refine mi fun K1 hK1 => ?_
 refine rd0 h (az rfl) rfl <| gn hK1 <| gq fun K2 hK2 => gr fun K3 hK3 => g0 (aq rfl) rfl <| g0 (aq rfl) rfl <| gl cc231 rfl (eB a b) rfl <| g0 (aq rfl) rfl <| g0 (cd rfl rfl) rfl <| g0 (cd rfl rfl) rfl <| g0 (cd rfl rfl) rfl <| g0 (az rfl) rfl <| g0 (az rfl) rfl <| g0 (az rfl) rfl <| gn hK3 <| gr fun K4 hK4 => g0 (aq rfl) rfl <| gn hK4 ?_; clear h ac; intro ac wo h
 refine io h rfl (fun hc1 => ?_) (fun hc1 => ?_)
 ·
  obtain ⟨ha6, hb6, hw⟩ := iE hc1
  simp only [hw] at h
  refine gz h <| gr fun K5 hK5 => g0 (aq rfl) rfl <| g0 (aq rfl) rfl <| g0 (e7 rfl rfl (r := ((a - b : Nat) : Int)) (by rw [IntKind.wrap_u64]; omega)) rfl <| gl cc191 rfl (bV (a - b) og) rfl <| g0 (az rfl) rfl <| gn hK5 <| gT ?_; clear h ac wo; intro ac wo h
  exact (rt h) (h.retP (by unfold bS; rfl) (eR za (Nat.sub_le a b)))
 ·
  refine gz h <| gS <| gx hK2 <| gr fun K6 hK6 => g0 (aq rfl) rfl ?_; clear h ac wo; intro ac wo h
  refine clr (xs := (dgs (dn a) a)) h cc257 (vs := [(.string (bs a))]) rfl (kk (cx a (gH za))) rfl ?_; clear h ac wo; intro sv1 ac wo hpsv1 h
  refine rd0 h (aq rfl) rfl ?_; clear h ac wo; intro ac wo h
  refine clr (xs := (dgs (dn b) b)) h cc257 (vs := [(.string (bs b))]) rfl (kk (cx b (gH zb))) rfl ?_; clear h ac wo; intro sv2 ac wo hpsv2 h
  refine rd0 h (az rfl) rfl <| g0 (az rfl) rfl <| gn hK6 <| gr fun K7 hK7 => g0 (aq rfl) rfl ?_; clear h ac wo; intro ac wo h
  refine rd0 h (fh uu339 rfl (h.dsl 1 rfl)) rfl ?_; clear h ac wo; intro ac wo h
  refine nw h (ke (n := (dn a)) ((0 : Nat)) rfl kO rfl rfl rfl (by have := eP za; omega) (by have := eP za; omega)) rfl ?_; clear h ac wo; intro sv3 ac wo nnsv3 h
  refine rd0 h (az rfl) rfl <| gn hK7 <| gr fun K8 hK8 => g0 (aq rfl) rfl <| g0 (aq rfl) rfl ?_; clear h ac wo; intro ac wo h
  refine up2 h 0 2 (by decide) rfl rfl (s_copy nn339 (by kernel_rfl) rfl rfl rfl (by rw [bM, List.length_replicate]; omega)) rfl ?_; clear h ac wo; intro ac wo h
  replace h := h.rowEq 0 rfl (qE (fm a) (Nat.le_refl _))
  refine gz h <| gn hK8 <| gr fun K9 hK9 => g0 (az rfl) rfl <| gn hK9 <| gq fun K10 hK10 => gr fun K11 hK11 => g0 (aq rfl) rfl ?_; clear h ac wo; intro ac wo h
  refine rd0 h (fh uu339 rfl (h.dsl 0 rfl)) rfl <| g0 (aq rfl) rfl <| gn hK11 <| gB ?_; clear h ac wo; intro ac wo h
  replace h := h.rowEq 0 rfl (by rw [mO] : (dgs (dn a) a) = (dgs (dn a) (mx a 0 (a - b))))
  refine wp_loop_ghost (fun n_ a_ w_ => ∃ (i : Nat), n_ = dn a - i ∧ (i ≤ dn a) ∧ St w0 71 [(9, sv2), (10, sv3), (37, (.int .i64 (((dn a) : Nat) : Int))), (38, (.int .i64 ((i : Nat) : Int))), (11, (.int .i64 (((bw a b i) : Nat) : Int)))] [.row (α := Nat) 341 sv3 (dgs (dn a) (mx a i (a - b))), .row (α := Nat) 341 sv2 (dgs (dn b) b), .row (α := Nat) 341 sv1 (dgs (dn a) a)] a_ w_) _ ⟨0, rfl, og, (h.pick [0, 1, 2] (by decide)).sub ⟨rfl, rfl, rfl, rfl, (by rw [tG]; rfl), trivial⟩⟩ ?_
  clear h ac wo; rintro _ ac wo ⟨i, rfl, hi, h⟩
  refine gz h <| gr fun K12 hK12 => g0 (gp rfl rfl) rfl <| gn hK12 <| gq fun K13 hK13 => ?_; clear h ac wo; intro ac wo h
  refine io h rfl (fun hc2 => ?_) (fun hc2 => ?_)
  ·
   have hd2 := of_decide_eq_true hc2
   refine gz h <| gS <| gx hK13 <| gq fun K14 hK14 => gB <| gr fun K15 hK15 => g0 (aq rfl) rfl <| g0 (az rfl) rfl <| gn hK15 <| gr fun K16 hK16 => ?_; clear h ac wo; intro ac wo h
   have hlt : i < dn a := by omega
   have hbl := tI a b i
   have hst := tH (i := i) rfl rfl hab
   refine rd0 h (aq rfl) rfl <| g0 (aq rfl) rfl ?_; clear h ac wo; intro ac wo h
   refine rd0 h (fO (i := i) uu339 zz341 rfl rfl (h.dnn 0 rfl og) og) rfl <| g1 0 rfl (fj (k := 0) aa341 zz341 (fu hlt) rfl (Nat.add_zero _) rfl rfl (v := (.int .u32 (((a / 4294967296 ^ i % 4294967296) : Nat) : Int))) rfl) rfl <| g0 (a8 uu341 uu2 rfl (r := (((a / 4294967296 ^ i % 4294967296) : Nat) : Int)) (by rw [IntKind.wrap_i64]; omega)) rfl <| g0 (aq rfl) rfl <| g0 (e7 rfl rfl (r := ((((a / 4294967296 ^ i % 4294967296) : Nat) : Int) - (((bw a b i) : Nat) : Int))) (by rw [IntKind.wrap_i64]; omega)) rfl <| g0 (az rfl) rfl <| gn hK16 <| gq fun K17 hK17 => gr fun K18 hK18 => g0 (aq rfl) rfl <| g0 (aq rfl) rfl ?_; clear h ac wo; intro ac wo h
   refine rd0 h (fh uu339 rfl (h.dsl 1 rfl)) rfl <| g0 (gp rfl rfl) rfl <| gn hK18 ?_; clear h ac wo; intro ac wo h
   refine io h rfl (fun hc3 => ?_) (fun hc3 => ?_)
   ·
    have hd3 := of_decide_eq_true hc3
    refine gz h <| gR <| g0 (aq rfl) rfl <| g0 (aq rfl) rfl <| g0 (aq rfl) rfl ?_; clear h ac wo; intro ac wo h
    refine rd0 h (fO (i := i) uu339 zz341 rfl rfl (h.dnn 1 rfl og) og) rfl <| g1 1 rfl (fj (k := 0) aa341 zz341 (cA (n := (dn b)) og) rfl (Nat.add_zero _) rfl rfl (v := (.int .u32 (((b / 4294967296 ^ i % 4294967296) : Nat) : Int))) rfl) rfl <| g0 (a8 uu341 uu2 rfl (r := (((b / 4294967296 ^ i % 4294967296) : Nat) : Int)) (by rw [IntKind.wrap_i64]; omega)) rfl <| g0 (e7 rfl rfl (r := (((((a / 4294967296 ^ i % 4294967296) : Nat) : Int) - (((bw a b i) : Nat) : Int)) - (((b / 4294967296 ^ i % 4294967296) : Nat) : Int))) (by rw [IntKind.wrap_i64]; omega)) rfl <| g0 (az rfl) rfl <| gn hK17 <| gr fun K19 hK19 => g0 (az rfl) rfl <| gn hK19 <| gq fun K20 hK20 => gr fun K21 hK21 => g0 (aq rfl) rfl <| g0 (gp rfl rfl) rfl <| gn hK21 ?_; clear h ac wo; intro ac wo h
    refine io h rfl (fun hc4 => ?_) (fun hc4 => ?_)
    ·
     have hd4 := of_decide_eq_true hc4
     rw [if_pos og, if_pos og] at hst
     refine gz h <| gR <| g0 (aq rfl) rfl <| g0 (dq rfl rfl (r := ((((((a / 4294967296 ^ i % 4294967296) : Nat) : Int) - (((bw a b i) : Nat) : Int)) - (((b / 4294967296 ^ i % 4294967296) : Nat) : Int)) + 4294967296)) (by rw [IntKind.wrap_i64]; omega)) rfl <| g0 (az rfl) rfl <| g0 (az rfl) rfl <| gn hK20 <| gR <| g0 (aq rfl) rfl <| g0 (aq rfl) rfl <| g0 (aq rfl) rfl <| g0 (a8 uu2 uu341 rfl (r := (((a - b) / 4294967296 ^ i % 4294967296 : Nat) : Int)) (by rw [IntKind.wrap_u32', hst.2]; omega)) rfl ?_; clear h ac wo; intro ac wo h
     refine rd0 h (fO (i := i) uu339 zz341 rfl rfl (h.dnn 0 rfl og) og) rfl ?_; clear h ac wo; intro ac wo h
     refine up h 0 rfl (fP (k := 0) (u' := ((a - b) / 4294967296 ^ i % 4294967296)) zz341 (fu hlt) rfl rfl rfl rfl rfl rfl rfl rfl) ?_; clear h ac wo; intro ac wo h
     replace h := h.rowEq 0 rfl (jg)
     refine gz h <| gx (fun _ _ => dW) <| gN <| gx hK14 <| gR <| g0 (dq rfl rfl (r := ((i + 1 : Nat) : Int)) (by rw [IntKind.wrap_i64]; omega)) rfl <| g0 (aq rfl) rfl <| gx (fun _ _ => dW) ?_; clear h ac wo; intro ac wo h
     exact aL ⟨_, og, i + 1, rfl, og, (h.pick [0, 1, 2] (by decide)).sub ⟨rfl, rfl, rfl, rfl, (by rw [hst.1]; rfl), trivial⟩⟩
    ·
     have hd4 := of_decide_eq_false hc4
     rw [if_neg og, if_neg og] at hst
     refine gz h <| gS <| gx hK20 <| gR <| g0 (aq rfl) rfl <| g0 (aq rfl) rfl <| g0 (aq rfl) rfl <| g0 (a8 uu2 uu341 rfl (r := (((a - b) / 4294967296 ^ i % 4294967296 : Nat) : Int)) (by rw [IntKind.wrap_u32', hst.2]; omega)) rfl ?_; clear h ac wo; intro ac wo h
     refine rd0 h (fO (i := i) uu339 zz341 rfl rfl (h.dnn 0 rfl og) og) rfl ?_; clear h ac wo; intro ac wo h
     refine up h 0 rfl (fP (k := 0) (u' := ((a - b) / 4294967296 ^ i % 4294967296)) zz341 (fu hlt) rfl rfl rfl rfl rfl rfl rfl rfl) ?_; clear h ac wo; intro ac wo h
     replace h := h.rowEq 0 rfl (jg)
     refine gz h <| gx (fun _ _ => dW) <| gN <| gx hK14 <| gR <| g0 (dq rfl rfl (r := ((i + 1 : Nat) : Int)) (by rw [IntKind.wrap_i64]; omega)) rfl <| g0 (aq rfl) rfl <| gx (fun _ _ => dW) ?_; clear h ac wo; intro ac wo h
     exact aL ⟨_, og, i + 1, rfl, og, (h.pick [0, 1, 2] (by decide)).sub ⟨rfl, rfl, rfl, rfl, (by rw [hst.1]; rfl), trivial⟩⟩
   ·
    have hd3 := of_decide_eq_false hc3
    have hq0 := m7 (i := i) (fm b) og
    refine gz h <| gS <| gx hK17 <| gr fun K22 hK22 => g0 (az rfl) rfl <| gn hK22 <| gq fun K23 hK23 => gr fun K24 hK24 => g0 (aq rfl) rfl <| g0 (gp rfl rfl) rfl <| gn hK24 ?_; clear h ac wo; intro ac wo h
    refine io h rfl (fun hc5 => ?_) (fun hc5 => ?_)
    ·
     have hd5 := of_decide_eq_true hc5
     rw [if_pos og, if_pos og] at hst
     refine gz h <| gR <| g0 (aq rfl) rfl <| g0 (dq rfl rfl (r := (((((a / 4294967296 ^ i % 4294967296) : Nat) : Int) - (((bw a b i) : Nat) : Int)) + 4294967296)) (by rw [IntKind.wrap_i64]; omega)) rfl <| g0 (az rfl) rfl <| g0 (az rfl) rfl <| gn hK23 <| gR <| g0 (aq rfl) rfl <| g0 (aq rfl) rfl <| g0 (aq rfl) rfl <| g0 (a8 uu2 uu341 rfl (r := (((a - b) / 4294967296 ^ i % 4294967296 : Nat) : Int)) (by rw [IntKind.wrap_u32', hst.2]; omega)) rfl ?_; clear h ac wo; intro ac wo h
     refine rd0 h (fO (i := i) uu339 zz341 rfl rfl (h.dnn 0 rfl og) og) rfl ?_; clear h ac wo; intro ac wo h
     refine up h 0 rfl (fP (k := 0) (u' := ((a - b) / 4294967296 ^ i % 4294967296)) zz341 (fu hlt) rfl rfl rfl rfl rfl rfl rfl rfl) ?_; clear h ac wo; intro ac wo h
     replace h := h.rowEq 0 rfl (jg)
     refine gz h <| gx (fun _ _ => dW) <| gN <| gx hK14 <| gR <| g0 (dq rfl rfl (r := ((i + 1 : Nat) : Int)) (by rw [IntKind.wrap_i64]; omega)) rfl <| g0 (aq rfl) rfl <| gx (fun _ _ => dW) ?_; clear h ac wo; intro ac wo h
     exact aL ⟨_, og, i + 1, rfl, og, (h.pick [0, 1, 2] (by decide)).sub ⟨rfl, rfl, rfl, rfl, (by rw [hst.1]; rfl), trivial⟩⟩
    ·
     have hd5 := of_decide_eq_false hc5
     rw [if_neg og, if_neg og] at hst
     refine gz h <| gS <| gx hK23 <| gR <| g0 (aq rfl) rfl <| g0 (aq rfl) rfl <| g0 (aq rfl) rfl <| g0 (a8 uu2 uu341 rfl (r := (((a - b) / 4294967296 ^ i % 4294967296 : Nat) : Int)) (by rw [IntKind.wrap_u32', hst.2]; omega)) rfl ?_; clear h ac wo; intro ac wo h
     refine rd0 h (fO (i := i) uu339 zz341 rfl rfl (h.dnn 0 rfl og) og) rfl ?_; clear h ac wo; intro ac wo h
     refine up h 0 rfl (fP (k := 0) (u' := ((a - b) / 4294967296 ^ i % 4294967296)) zz341 (fu hlt) rfl rfl rfl rfl rfl rfl rfl rfl) ?_; clear h ac wo; intro ac wo h
     replace h := h.rowEq 0 rfl (jg)
     refine gz h <| gx (fun _ _ => dW) <| gN <| gx hK14 <| gR <| g0 (dq rfl rfl (r := ((i + 1 : Nat) : Int)) (by rw [IntKind.wrap_i64]; omega)) rfl <| g0 (aq rfl) rfl <| gx (fun _ _ => dW) ?_; clear h ac wo; intro ac wo h
     exact aL ⟨_, og, i + 1, rfl, og, (h.pick [0, 1, 2] (by decide)).sub ⟨rfl, rfl, rfl, rfl, (by rw [hst.1]; rfl), trivial⟩⟩
  ·
   have hd2 := of_decide_eq_false hc2
   refine hG ?_
   refine hK10 _ _ ?_
   refine mi fun K25 hK25 => ?_
   have hie : i = dn a := by omega
   subst hie
   rw [nO (fm a) (by have := fm a; omega)] at h
   refine rd0 h (aq rfl) rfl ?_; clear h ac wo; intro ac wo h
   refine clq h cc258 (vs := [sv3]) rfl (fun w_ hB_ hS_ => dk (dn a) (a - b) sv3 (by have := fm a; omega) (by have := eP za; omega) w_ (row_view hS_ 0 rfl)) rfl ?_; clear h ac wo; intro ac wo h
   refine rd0 h (az rfl) rfl <| gn hK25 <| gT ?_; clear h ac wo; intro ac wo h
   exact (rt h) (h.retP (by unfold bS; rfl) (eR za (Nat.sub_le a b)))
def dQ (a b : Nat) : Nat := a * b
theorem gF (a : Nat) (b : Nat) (k : Nat) (hk : (k + 1) ≤ 40) (za : SzB (k + 1) a) (zb : SzB (k + 1) b) (w0 : World) : Calls Tryz.prog 196 #[(.string (bs a)), (.string (bs b))] w0 (cq w0 (.string (bs (dQ a b))) (SzB k (dQ a b))) := by
 refine enter (N := 97) (args := [(.string (bs a)), (.string (bs b))]) Tryz.func196 rfl rfl ?_; intro ac h
 have hda := iY za
 have hdb := iY zb
 refine mi fun K1 hK1 => ?_
 refine rd0 h (az rfl) rfl <| gn hK1 ?_; clear h ac; intro ac wo h
 refine rp (fun a_ w_ => St w0 97 [(0, (.string (bs a))), (1, (.string (bs b)))] [] a_ w_) (fun K2 hK2 => ?_) ?_
 ·
  refine gz h <| gr fun K3 hK3 => g0 (aq rfl) rfl <| g0 (aq rfl) rfl <| gl cc231 rfl (eB a b) rfl <| g0 (aq rfl) rfl <| g0 (cd rfl rfl) rfl <| g0 (cd rfl rfl) rfl <| g0 (cd rfl rfl) rfl <| g0 (az rfl) rfl <| g0 (az rfl) rfl <| g0 (az rfl) rfl <| gn hK3 <| gr fun K4 hK4 => g0 (aq rfl) rfl <| gn hK4 ?_; clear h ac wo; intro ac wo h
  refine io h rfl (fun hc1 => ?_) (fun hc1 => ?_)
  ·
   obtain ⟨ha6, hb6, hw⟩ := iE hc1
   simp only [hw] at h
   refine gz h <| gr fun K5 hK5 => g0 (aq rfl) rfl <| g0 (aq rfl) rfl <| gl Tryz.call260 rfl (mul64 a b og og) rfl <| g0 (aq rfl) rfl <| g0 (cd rfl rfl) rfl <| g0 (cd rfl rfl) rfl <| g0 (az rfl) rfl <| g0 (az rfl) rfl <| gn hK5 <| gr fun K6 hK6 => g0 (aq rfl) rfl <| g0 (pe rfl rfl) rfl <| gn hK6 ?_; clear h ac wo; intro ac wo h
   refine io h rfl (fun hc2 => ?_) (fun hc2 => ?_)
   ·
    have hd2 := eq_of_beq hc2
    refine gz h <| gr fun K7 hK7 => g0 (aq rfl) rfl <| gl cc191 rfl (bV (a * b % 18446744073709551616) og) rfl <| g0 (az rfl) rfl <| gn hK7 <| gT ?_; clear h ac wo; intro ac wo h
    have hd : dQ a b = (bk (a * b % 18446744073709551616)) := (by show a * b = a * b % 18446744073709551616; omega)
    exact (rt h) (h.retP (by rw [hd] <;> rfl) (tT za zb))
   ·
    have hd2 := ne_of_beq_false hc2
    refine jR ?_
    exact hK2 _ _ ((h.pick [] (by decide)).sub ⟨rfl, rfl, trivial⟩)
  ·
   refine jR ?_
   exact hK2 _ _ ((h.pick [] (by decide)).sub ⟨rfl, rfl, trivial⟩)
 ·
  clear h ac wo; intro ac wo h
  refine gz h <| gr fun K8 hK8 => g0 (aq rfl) rfl ?_; clear h ac wo; intro ac wo h
  refine clr (xs := (dgs (dn a) a)) h cc257 (vs := [(.string (bs a))]) rfl (kk (cx a (gH za))) rfl ?_; clear h ac wo; intro sv1 ac wo hpsv1 h
  refine rd0 h (aq rfl) rfl ?_; clear h ac wo; intro ac wo h
  refine clr (xs := (dgs (dn b) b)) h cc257 (vs := [(.string (bs b))]) rfl (kk (cx b (gH zb))) rfl ?_; clear h ac wo; intro sv2 ac wo hpsv2 h
  refine rd0 h (az rfl) rfl <| g0 (az rfl) rfl <| gn hK8 <| gr fun K9 hK9 => g0 (aq rfl) rfl ?_; clear h ac wo; intro ac wo h
  refine rd0 h (fh uu339 rfl (h.dsl 1 rfl)) rfl <| g0 (aq rfl) rfl ?_; clear h ac wo; intro ac wo h
  refine rd0 h (fh uu339 rfl (h.dsl 0 rfl)) rfl <| g0 (dq rfl rfl (r := (((dn a) + (dn b) : Nat) : Int)) (by have := eP za; have := eP zb; rw [IntKind.wrap_i64]; omega)) rfl <| g0 (dq rfl rfl (r := ((((dn a) + (dn b)) + 1 : Nat) : Int)) (by have := eP za; have := eP zb; rw [IntKind.wrap_i64]; omega)) rfl ?_; clear h ac wo; intro ac wo h
  refine nw h (ke (n := (((dn a) + (dn b)) + 1)) ((0 : Nat)) rfl kO rfl rfl rfl (by have := iY za; have := iY zb; omega) (by have := iY za; have := iY zb; omega)) rfl ?_; clear h ac wo; intro sv3 ac wo nnsv3 h
  refine rd0 h (az rfl) rfl <| gn hK9 <| gq fun K10 hK10 => gr fun K11 hK11 => g0 (aq rfl) rfl ?_; clear h ac wo; intro ac wo h
  refine rd0 h (fh uu339 rfl (h.dsl 2 rfl)) rfl <| g0 (aq rfl) rfl <| gn hK11 <| gB ?_; clear h ac wo; intro ac wo h
  replace h := h.rowEq 0 rfl (by rw [show a % 4294967296 ^ 0 * b = 0 by simp [Nat.mod_one]]; exact (jP _).symm : (List.replicate (((dn a) + (dn b)) + 1) (0 : Nat)) = (dgs (dn a + dn b + 1) (a % 4294967296 ^ 0 * b)))
  refine wp_loop_ghost (fun n_ a_ w_ => ∃ (i : Nat), n_ = dn a - i ∧ (i ≤ dn a) ∧ St w0 97 [(11, sv2), (12, sv3), (46, sv1), (47, (.int .i64 (((dn a) : Nat) : Int))), (48, (.int .i64 ((i : Nat) : Int)))] [.row (α := Nat) 341 sv3 (dgs (dn a + dn b + 1) (a % 4294967296 ^ i * b)), .row (α := Nat) 341 sv2 (dgs (dn b) b), .row (α := Nat) 341 sv1 (dgs (dn a) a)] a_ w_) _ ⟨0, rfl, og, h.re [0, 1, 2]⟩ ?_
  clear h ac wo; rintro _ ac wo ⟨i, rfl, hi, h⟩
  refine gz h <| gr fun K12 hK12 => g0 (gp rfl rfl) rfl <| gn hK12 <| gq fun K13 hK13 => ?_; clear h ac wo; intro ac wo h
  refine io h rfl (fun hc3 => ?_) (fun hc3 => ?_)
  ·
   have hd3 := of_decide_eq_true hc3
   refine gz h <| gS <| gx hK13 <| gq fun K14 hK14 => gB <| gr fun K15 hK15 => g0 (aq rfl) rfl ?_; clear h ac wo; intro ac wo h
   refine rd0 h (fO (i := i) uu339 zz341 rfl rfl (h.dnn 2 rfl og) og) rfl <| g1 2 rfl (fj (k := 0) aa341 zz341 (cA (n := (dn a)) og) rfl (Nat.add_zero _) rfl rfl (v := (.int .u32 (((a / 4294967296 ^ i % 4294967296) : Nat) : Int))) rfl) rfl <| g0 (az rfl) rfl <| g0 (az rfl) rfl <| gn hK15 <| gr fun K16 hK16 => g0 (az rfl) rfl <| gn hK16 <| gq fun K17 hK17 => gr fun K18 hK18 => g0 (aq rfl) rfl ?_; clear h ac wo; intro ac wo h
   refine rd0 h (fh uu339 rfl (h.dsl 1 rfl)) rfl <| g0 (aq rfl) rfl <| gn hK18 <| gB ?_; clear h ac wo; intro ac wo h
   have hlt : i < dn a := by omega
   replace h := h.rowEq 0 rfl (by show _ = dgs _ (mx (a % 4294967296 ^ i * b) i (a % 4294967296 ^ (i + 1) * b)); rw [sj, mx_start] : (dgs (dn a + dn b + 1) (a % 4294967296 ^ i * b)) = (dgs (dn a + dn b + 1) (mx (a % 4294967296 ^ i * b) (i + 0) (a % 4294967296 ^ (i + 1) * b))))
   refine wp_loop_ghost (fun n_ a_ w_ => ∃ (k : Nat), n_ = dn b - k ∧ (k ≤ dn b) ∧ St w0 97 [(11, sv2), (12, sv3), (46, sv1), (47, (.int .i64 (((dn a) : Nat) : Int))), (48, (.int .i64 ((i : Nat) : Int))), (13, (.int .i64 ((i : Nat) : Int))), (14, (.int .u32 (((a / 4294967296 ^ i % 4294967296) : Nat) : Int))), (54, (.int .i64 (((dn b) : Nat) : Int))), (55, (.int .i64 ((k : Nat) : Int))), (15, (.int .u64 (((mc (a % 4294967296 ^ i * b / 4294967296 ^ i) (a / 4294967296 ^ i % 4294967296) b k) : Nat) : Int)))] [.row (α := Nat) 341 sv3 (dgs (dn a + dn b + 1) (mx (a % 4294967296 ^ i * b) (i + k) (a % 4294967296 ^ (i + 1) * b))), .row (α := Nat) 341 sv2 (dgs (dn b) b), .row (α := Nat) 341 sv1 (dgs (dn a) a)] a_ w_) _ ⟨0, rfl, og, (h.pick [0, 1, 2] (by decide)).sub ⟨rfl, rfl, rfl, rfl, rfl, rfl, rfl, rfl, rfl, (by rw [sG]; rfl), trivial⟩⟩ ?_
   clear h ac wo; rintro _ ac wo ⟨k, rfl, hk, h⟩
   refine gz h <| gr fun K19 hK19 => g0 (gp rfl rfl) rfl <| gn hK19 <| gq fun K20 hK20 => ?_; clear h ac wo; intro ac wo h
   refine io h rfl (fun hc4 => ?_) (fun hc4 => ?_)
   ·
    have hd4 := of_decide_eq_true hc4
    refine gz h <| gS <| gx hK20 <| gq fun K21 hK21 => gB <| gr fun K22 hK22 => g0 (aq rfl) rfl <| g0 (az rfl) rfl <| gn hK22 <| gq fun K23 hK23 => ?_; clear h ac wo; intro ac wo h
    have hlk : i + k < dn a + dn b + 1 := by omega
    have hcl : (mc (a % 4294967296 ^ i * b / 4294967296 ^ i) (a / 4294967296 ^ i % 4294967296) b k) < 4294967296 := mc_lt (Nat.mod_lt _ (by decide))
    have hdig := pp_digit a b i k
    have hnx := pp_carry a b i k
    have hml := kb (x := (a / 4294967296 ^ i % 4294967296)) (y := b / 4294967296 ^ k % 4294967296) (Nat.mod_lt _ (by decide)) (Nat.mod_lt _ (by decide))
    refine eV mixed [dv _, dv _, dv _, dv _, dv _, dv _, dw _ [0], dv _, dv _, dv _, dv _, dv _, dv _, dw _ [1], dv _, dv _, dv _, dv _, dv _] [⟨_, []⟩, ⟨_, []⟩, ⟨_, []⟩] h rfl (by kernel_rfl) ⟨fun _ _ => om rfl, fun _ _ => om rfl, fun _ _ => om rfl, fun _ _ => om rfl, fun _ _ => ba (dq rfl rfl (r := ((i + k : Nat) : Int)) (by have := eP za; have := eP zb; rw [IntKind.wrap_i64]; omega)), fun _ _ => ba (fO (i := (i + k)) uu339 zz341 rfl rfl (h.dnn 0 rfl og) og), fun _ _ => fY _ rfl rfl (fj (k := 0) aa341 zz341 (fu hlk) rfl (Nat.add_zero _) rfl rfl (v := (.int .u32 ((((a % 4294967296 ^ i * b) / 4294967296 ^ (i + k) % 4294967296) : Nat) : Int))) rfl), fun _ _ => ba (a8 uu341 uu254 rfl (r := ((((a % 4294967296 ^ i * b) / 4294967296 ^ (i + k) % 4294967296) : Nat) : Int)) (by rw [IntKind.wrap_u64]; omega)), fun _ _ => om rfl, fun _ _ => ba (a8 uu341 uu254 rfl (r := (((a / 4294967296 ^ i % 4294967296) : Nat) : Int)) (by rw [IntKind.wrap_u64]; omega)), fun _ _ => om rfl, fun _ _ => om rfl, fun _ _ => ba (fO (i := k) uu339 zz341 rfl rfl (h.dnn 1 rfl og) og), fun _ _ => fY _ rfl rfl (fj (k := 0) aa341 zz341 (cA (n := (dn b)) og) rfl (Nat.add_zero _) rfl rfl (v := (.int .u32 (((b / 4294967296 ^ k % 4294967296) : Nat) : Int))) rfl), fun _ _ => ba (a8 uu341 uu254 rfl (r := (((b / 4294967296 ^ k % 4294967296) : Nat) : Int)) (by rw [IntKind.wrap_u64]; omega)), fun _ _ => ba (jZ rfl rfl (r := (((a / 4294967296 ^ i % 4294967296) * (b / 4294967296 ^ k % 4294967296) : Nat) : Int)) (by rw [IntKind.wrap_u64]; omega)), fun _ _ => ba (dq rfl rfl (r := ((((a % 4294967296 ^ i * b) / 4294967296 ^ (i + k) % 4294967296) + ((a / 4294967296 ^ i % 4294967296) * (b / 4294967296 ^ k % 4294967296)) : Nat) : Int)) (by rw [IntKind.wrap_u64]; omega)), fun _ _ => ba (dq rfl rfl (r := (((mc (a % 4294967296 ^ i * b / 4294967296 ^ i) (a / 4294967296 ^ i % 4294967296) b k) + (((a % 4294967296 ^ i * b) / 4294967296 ^ (i + k) % 4294967296) + ((a / 4294967296 ^ i % 4294967296) * (b / 4294967296 ^ k % 4294967296))) : Nat) : Int)) (by rw [IntKind.wrap_u64]; omega)), fun _ _ => ba (az rfl), trivial⟩ ?_
    clear h ac wo; intro ξ ac wo hφ h
    replace h : St w0 97 [(11, sv2), (12, sv3), (46, sv1), (47, (.int .i64 (((dn a) : Nat) : Int))), (48, (.int .i64 ((i : Nat) : Int))), (13, (.int .i64 ((i : Nat) : Int))), (14, (.int .u32 (((a / 4294967296 ^ i % 4294967296) : Nat) : Int))), (54, (.int .i64 (((dn b) : Nat) : Int))), (55, (.int .i64 ((k : Nat) : Int))), (15, (.int .u64 (((mc (a % 4294967296 ^ i * b / 4294967296 ^ i) (a / 4294967296 ^ i % 4294967296) b k) + (((a % 4294967296 ^ i * b) / 4294967296 ^ (i + k) % 4294967296) + ((a / 4294967296 ^ i % 4294967296) * (b / 4294967296 ^ k % 4294967296))) : Nat) : Int))), (16, (.int .i64 ((k : Nat) : Int)))] [.row (α := Nat) 341 sv3 (dgs (dn a + dn b + 1) (mx (a % 4294967296 ^ i * b) (i + k) (a % 4294967296 ^ (i + 1) * b))), .row (α := Nat) 341 sv2 (dgs (dn b) b), .row (α := Nat) 341 sv1 (dgs (dn a) a)] ac wo := h.sub ⟨rfl, rfl, rfl, rfl, rfl, rfl, rfl, rfl, rfl, rfl, rfl, trivial⟩
    clear hφ ξ
    refine gz h <| gx hK23 <| gR <| g0 (aq rfl) rfl <| g0 (aq rfl) rfl <| g0 (aq rfl) rfl <| g0 (dq rfl rfl (r := ((i + k : Nat) : Int)) (by have := eP za; have := eP zb; rw [IntKind.wrap_i64]; omega)) rfl <| g0 (aq rfl) rfl <| g0 (a8 uu254 uu341 rfl (r := (((a % 4294967296 ^ (i + 1) * b) / 4294967296 ^ (i + k) % 4294967296 : Nat) : Int)) (by rw [IntKind.wrap_u32', hdig]; omega)) rfl <| g0 (aq rfl) rfl <| g0 (mA rfl rfl (r := (((mc (a % 4294967296 ^ i * b / 4294967296 ^ i) (a / 4294967296 ^ i % 4294967296) b (k + 1)) : Nat) : Int)) (by decide) (by decide) (by rw [show (2 : Int) ^ ((32 : Int)).toNat = 4294967296 from rfl]; rw [hnx]; omega)) rfl ?_; clear h ac wo; intro ac wo h
    refine rd0 h (fO (i := (i + k)) uu339 zz341 rfl rfl (h.dnn 0 rfl og) og) rfl ?_; clear h ac wo; intro ac wo h
    refine up h 0 rfl (fP (k := 0) (u' := ((a % 4294967296 ^ (i + 1) * b) / 4294967296 ^ (i + k) % 4294967296)) zz341 (fu hlk) rfl rfl rfl rfl rfl rfl rfl rfl) ?_; clear h ac wo; intro ac wo h
    replace h := h.rowEq 0 rfl (jg)
    refine rd0 h (az rfl) rfl <| gx (fun _ _ => dW) <| gN <| gx hK21 <| gR <| g0 (dq rfl rfl (r := ((k + 1 : Nat) : Int)) (by have := eP zb; rw [IntKind.wrap_i64]; omega)) rfl <| g0 (aq rfl) rfl <| gx (fun _ _ => dW) ?_; clear h ac wo; intro ac wo h
    exact aL ⟨_, og, k + 1, rfl, og, h.re [0, 1, 2]⟩
   ·
    have hd4 := of_decide_eq_false hc4
    refine hG ?_
    refine hK17 _ _ ?_
    refine c_r ?_
    have hke : k = dn b := by omega
    subst hke
    have hlk : i + dn b < dn a + dn b + 1 := by omega
    have hlast := pp_last (a := a) (i := i) (fm b)
    refine rd0 h (aq rfl) rfl <| g0 (aq rfl) rfl <| g0 (aq rfl) rfl ?_; clear h ac wo; intro ac wo h
    refine rd0 h (fh uu339 rfl (h.dsl 1 rfl)) rfl <| g0 (dq rfl rfl (r := ((i + (dn b) : Nat) : Int)) (by have := eP za; have := eP zb; rw [IntKind.wrap_i64]; omega)) rfl <| g0 (aq rfl) rfl <| g0 (a8 uu254 uu341 rfl (r := (((a % 4294967296 ^ (i + 1) * b) / 4294967296 ^ (i + dn b) % 4294967296 : Nat) : Int)) (by rw [hlast, IntKind.wrap_u32']; omega)) rfl ?_; clear h ac wo; intro ac wo h
    refine rd0 h (fO (i := (i + (dn b))) uu339 zz341 rfl rfl (h.dnn 0 rfl og) og) rfl ?_; clear h ac wo; intro ac wo h
    refine up h 0 rfl (fP (k := 0) (u' := ((a % 4294967296 ^ (i + 1) * b) / 4294967296 ^ (i + dn b) % 4294967296)) zz341 (fu hlk) rfl rfl rfl rfl rfl rfl rfl rfl) ?_; clear h ac wo; intro ac wo h
    replace h := h.rowEq 0 rfl (by rw [jg, nO (Nat.lt_of_lt_of_le (pp_lt (a := a) (i := i) (fm b)) (Nat.pow_le_pow_right (by decide) og)) (Nat.lt_of_lt_of_le (pp_lt (a := a) (i := i + 1) (fm b)) (Nat.pow_le_pow_right (by decide) og))])
    refine gz h <| gx (fun _ _ => dW) <| gN <| gx hK14 <| gR <| g0 (dq rfl rfl (r := ((i + 1 : Nat) : Int)) (by have := eP za; rw [IntKind.wrap_i64]; omega)) rfl <| g0 (aq rfl) rfl <| gx (fun _ _ => dW) ?_; clear h ac wo; intro ac wo h
    exact aL ⟨_, og, i + 1, rfl, og, h.re [0, 1, 2]⟩
  ·
   have hd3 := of_decide_eq_false hc3
   refine hG ?_
   refine hK10 _ _ ?_
   refine mi fun K24 hK24 => ?_
   have hie : i = dn a := by omega
   subst hie
   rw [Nat.mod_eq_of_lt (fm a)] at h
   refine rd0 h (aq rfl) rfl ?_; clear h ac wo; intro ac wo h
   refine clq h cc258 (vs := [sv3]) rfl (fun w_ hB_ hS_ => dk (dn a + dn b + 1) (a * b) sv3 (by have := pp_lt (a := a) (i := dn a) (fm b); rw [Nat.mod_eq_of_lt (fm a)] at this; exact Nat.lt_of_lt_of_le this (Nat.pow_le_pow_right (by decide) og)) (by have := iY za; have := iY zb; omega) w_ (row_view hS_ 0 rfl)) rfl ?_; clear h ac wo; intro ac wo h
   refine rd0 h (az rfl) rfl <| gn hK24 <| gT ?_; clear h ac wo; intro ac wo h
   exact (rt h) (h.retP (by unfold dQ; rfl) (tT za zb))
def aw (n : Int) : GI := ⟨decide (n < 0), n.natAbs⟩
theorem eJ (n : Int) (k : Nat) (hk : k ≤ 40) (hn : -9223372036854775808 ≤ n ∧ n ≤ 9223372036854775807) (w0 : World) : Calls Tryz.prog 93 #[(.int .i64 n)] w0 (cq w0 (vI (aw n)) (SzI k (aw n))) := by
 refine enter (N := 15) (args := [(.int .i64 n)]) Tryz.func93 rfl rfl ?_; intro ac h
 have hsz : SzB k n.natAbs := Nat.le_trans (Nat.mul_le_mul ((bR 8 n.natAbs).2 (by simp; omega)) (Nat.pow_le_pow_right (by decide) (by omega : k ≤ 40))) (by decide)
 refine gz h <| (xa) fun b1 => (xo (hs := by exact a8 Tryz.runUnderlying3 uu254 rfl (r := ((if n < 0 then 18446744073709551616 - n.natAbs else n.natAbs : Nat) : Int)) (by rw [IntKind.wrap_u64]; split <;> omega))) <| (ai) ?_ ?_ <;> clear h ac <;> intro ac wo h hc1
 ·
  have hd1 := of_decide_eq_true hc1
  have c1 := bq (decide (n < 0)) (bk n.natAbs) k og hsz
  have s1 := am (c1 w0)
  have hd : aw n = (aC (decide (n < 0)) (bk n.natAbs)) := (by unfold aw aC bk; simp; omega)
  refine gz h <| (xo (hs := by exact r_neg rfl (r := ((n.natAbs : Nat) : Int)) (by rw [if_pos hd1, IntKind.wrap_u64]; omega))) <| (xk (bV n.natAbs og)) <| (xk c1) <| (W) ?_; clear h ac wo; intro ac wo h
  exact ret h rfl (.cell (v := (vI (aC (decide (n < 0)) (bk n.natAbs)))) rfl (i := 0) rfl aa25 zz25 rfl rfl rfl .nil) rfl (h.retP (by rw [hd] <;> rfl) (by rw [hd]; exact s1))
 ·
  have hd1 := of_decide_eq_false hc1
  rw [if_neg hd1] at h
  have c2 := bq (decide (n < 0)) (bk n.natAbs) k og hsz
  have s2 := am (c2 w0)
  have hd : aw n = (aC (decide (n < 0)) (bk n.natAbs)) := (by unfold aw aC bk; simp; omega)
  refine gz h <| (xk (bV n.natAbs og)) <| (xk c2) <| (W) ?_; clear h ac wo; intro ac wo h
  exact ret h rfl (.cell (v := (vI (aC (decide (n < 0)) (bk n.natAbs)))) rfl (i := 0) rfl aa25 zz25 rfl rfl rfl .nil) rfl (h.retP (by rw [hd] <;> rfl) (by rw [hd]; exact s2))
end Go.Sx
