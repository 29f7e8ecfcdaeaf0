/- A part of the proof that the law PiecesShifts answers true at every input and leaves its arguments as they were. -/
import Derived.Laws.Concat
import Derived.Test.YtnkaneggnjallaaGreatDoorExt
import Derived.Test.YtnkaneggnjallaaGreatDoorA7
import Derived.Test.YtnkaneggnjallaaGreatDoorGarith
set_option linter.unusedVariables false
set_option linter.unusedSimpArgs false
open Go.Proofs.Tryz renaming underlying5 → nn5, underlying9 → nn9, sizeOf4 → zz4, runUnderlying9 → uu9
namespace Go.Proofs
open Go.Shelf
def Tryz.lays126_ren : Go.Shelf.Ren := ⟨fun | 126 => 259 | n => n, fun n => n, fun n => n⟩
theorem Tryz.lays126 : Go.Proofs.Lays.n126 Tryz.prog Tryz.lays126_ren := {
  mixed := by kernel_rfl
  f126 := Tryz.func259.trans (congrArg some (by kernel_rfl))
  t3 := Tryz.underlying3
  a3 := Tryz.isAgg3
  z3 := Tryz.sizeOf3
  v3 := Tryz.zeroValue3
  t5 := nn5
  a5 := Tryz.isAgg5
  z5 := Tryz.sizeOf5
  v5 := Tryz.zeroValue5
  t9 := nn9
  a9 := Tryz.isAgg9
  z9 := Tryz.sizeOf9
  v9 := Tryz.zeroValue9 }
end Go.Proofs
namespace Go.Sx
open Go Go.RowKit Go.Proofs
theorem Len8_ct (u : Nat) (hu : u < 256) (w0 : World) : Calls Tryz.prog 259 #[.int .u8 ((u : Nat) : Int)] w0 (ec w0 (.int .i64 ((Lib.bitLen u : Nat) : Int)) True) := by
  have := js (Any.bits_Len8 Tryz.lays126 (u : Int) w0 (by omega) (by omega))
  rw [Int.toNat_natCast] at this; exact this
section
variable {P : Program} {w0 : World} {F : List (Nat × Value)}
theorem r_cat0 {t tt : TypeId} {x y : Operand} {m : Nat} (hx : ev F x = some (.string (bs m))) (hy : ev F y = some (.string (bs 0))) (hm : (bs m).size ≤ 8388608) : Rd P w0 F [] (.binOp .add t x y tt) (.string (bs m)) := by
  refine dc fun o a w ho ha => ?_
  have h0 : bs m ++ bs 0 = bs m := by
    have : bs 0 = ByteArray.empty := rfl
    rw [this, ByteArray.append_empty]
  have h1 : (Op.stringOp .add (bs m) (bs 0)).run P w = .ok (.string (bs m)) w := by
    rw [run_string_add w _ _ (by omega) (by show ((bs 0).size : Int) ≤ 8388608; decide), h0]
  simp [execOp, ho, ha x _ hx, ha y _ hy, eqGuard_add, binOp_string_add, h1]
theorem r_catz {t tt : TypeId} {x y : Operand} {m z : Nat} (hz : z = 0) (hx : ev F x = some (.string (bs m))) (hy : ev F y = some (.string (bs z))) (hm : (bs m).size ≤ 8388608) : Rd P w0 F [] (.binOp .add t x y tt) (.string (bs m)) := by
  subst hz
  exact r_cat0 hx hy hm
end
theorem pH {a : Nat} (h : 0 < a ∧ a < 4) : (bs a).size = 1 := by
  obtain ⟨h0, h1⟩ := h
  have : a = 1 ∨ a = 2 ∨ a = 3 := by omega
  rcases this with rfl | rfl | rfl <;> rfl
theorem qs {a : Nat} (h : 0 < a ∧ a < 4) : qj a = a ∧ 1 ≤ Lib.bitLen (qj a) ∧ Lib.bitLen (qj a) ≤ 2 := by
  obtain ⟨h0, h1⟩ := h
  have : a = 1 ∨ a = 2 ∨ a = 3 := by omega
  rcases this with rfl | rfl | rfl <;> decide +kernel
theorem nv {a x : Nat} (h : 0 < a ∧ a < 4) (hx : x = 2 ∨ x = 1) (hc : decide (ba ((x + a / x) / 2) x ≥ 0) = false) : (x + a / x) / 2 = 2 ∨ (x + a / x) / 2 = 1 := by
  obtain ⟨h0, h1⟩ := h
  have : a = 1 ∨ a = 2 ∨ a = 3 := by omega
  rcases this with rfl | rfl | rfl <;> rcases hx with rfl | rfl <;> revert hc <;> decide +kernel
theorem root_sz {a x : Nat} (h : 0 < a ∧ a < 4) (hx : x = 2 ∨ x = 1) (hc : decide (ba ((x + a / x) / 2) x ≥ 0) = false) : SzB 29 ((x + a / x) / 2) := by
  rcases nv h hx hc with e | e <;> rw [e] <;> exact cc _ (by decide) (by decide)
theorem root_lt {a x : Nat} (h : 0 < a ∧ a < 4) (hx : x = 2 ∨ x = 1) (hc : decide (ba ((x + a / x) / 2) x ≥ 0) = false) : (x + a / x) / 2 < x := by
  obtain ⟨h0, h1⟩ := h
  have : a = 1 ∨ a = 2 ∨ a = 3 := by omega
  rcases this with rfl | rfl | rfl <;> rcases hx with rfl | rfl <;> revert hc <;> decide +kernel
end Go.Sx
namespace Go.Sx
open Go Go.RowKit Go.Proofs
set_option maxRecDepth 100000
set_option maxHeartbeats 40000000
attribute [local irreducible] aD bN ah aL bt aN aK aF cY bj ar
theorem bld203 : BuildF Tryz.prog 203 [.bool false, .string ⟨#[]⟩, .bool false, .string ⟨#[]⟩, .bool false, .string ⟨#[]⟩, .bool false, .string ⟨#[]⟩, .bool false, .bool false] [(0, 9), (9, 1)] := BuildF.of Tryz.zeroValue203 rfl Tryz.runUnderlying203 (by intro w; simp [zz4, Tryz.sizeOf53])
theorem rK : BuildF Tryz.prog 232 [.bool false, .string ⟨#[]⟩, .bool false, .string ⟨#[]⟩, .bool false, .string ⟨#[]⟩, .bool false, .string ⟨#[]⟩, .bool false, .bool false, .string ⟨#[]⟩, .bool false, .string ⟨#[]⟩, .bool false, .string ⟨#[]⟩, .bool false, .string ⟨#[]⟩, .bool false, .bool false, .bool false, .bool false, .string ⟨#[]⟩, .bool false, .string ⟨#[]⟩, .bool false, .string ⟨#[]⟩, .bool false, .string ⟨#[]⟩, .bool false, .string ⟨#[]⟩, .bool false, .string ⟨#[]⟩] [(0, 9), (9, 9), (18, 1), (19, 1), (20, 12)] := BuildF.of Tryz.zeroValue232 rfl Tryz.runUnderlying232 (by intro w; simp [zz4, Tryz.sizeOf53, Tryz.sizeOf69])
theorem oJ : BuildF Tryz.prog 73 [] [] := BuildF.of Tryz.zeroValue73 rfl Tryz.runUnderlying73 (by intro w; simp)
def eF  : Nat :=
 0
theorem kt  (w0 : World)  : Calls Tryz.prog 260 #[(.string ⟨#[0]⟩), (.int .i64 0)] w0 (ec w0 (.string (bs eF)) (SzB 30 eF)) := by
 refine enter (N := 125) (args := [(.string ⟨#[0]⟩), (.int .i64 0)]) Tryz.func260 rfl rfl ?_; intro ac h
 refine dU fun K1 hK1 => ?_
 refine rd0 h (ae rfl) rfl <| gn hK1 <| gq fun K2 hK2 => gr fun K3 hK3 => g0 (af rfl) rfl <| gn hK3 <| gB <| gr fun K4 hK4 => g0 (fj rfl rfl (m := ((0 : Nat) : Int)) (n := ((0 : Nat) : Int))) rfl <| g0 (ae rfl) rfl <| gn hK4 ?_; clear h ac; intro ac wo h
 refine c_ifT h rfl ?_ rfl
 refine gz h <| gr fun K5 hK5 => g0 (ae rfl) rfl <| gn hK5 <| gT ?_; clear h ac wo; intro ac wo h
 exact ret h rfl (.tmp rfl .nil) rfl (h.retP (by unfold eF; rfl) (by unfold eF; exact (cc 0 (by decide) (by omega))))
theorem rep0 : eF = 0 := rfl
attribute [irreducible] eF
def lM (a : Nat) (x : Nat) : Nat :=
 0
def fg (a : Nat) (x : Nat) : Nx Nat Nat :=
 bif (decide ((ba ((aW (cb x ((aW a x).1)) 2).1) x) ≥ 0)) then
  .ret x
 else
  .go (aW (cb x ((aW a x).1)) 2).1
def bX (a : Nat) : Nat :=
 fin (b9 (fun s => fg a s) (2 + 1) 2) (fun s => lM a s) (fun r => r)
theorem lL (a : Nat) (ha : 0 < a ∧ a < 4) (za : SzB 30 a) (w0 : World)  : Calls Tryz.prog 245 #[(.string (bs a))] w0 (ec w0 (.string (bs (bX a))) (SzB 29 (bX a))) := by
  refine enter (N := 50) (args := [(.string (bs a))]) Tryz.func245 rfl rfl ?_; intro ac h
  have hsz := pH ha
  have htp := qs ha
  have hla : (le a).length = 1 := by rw [← em]; exact hsz
  refine dU fun K1 hK1 => ?_
  refine rd0 h (ae rfl) rfl <| gn hK1 <| gq fun K2 hK2 => gr fun K3 hK3 => g0 (af rfl) rfl <| g0 (mF rfl rfl (m := a) (n := 0)) rfl <| gn hK3 ?_; clear h ac; intro ac wo h
  refine oG h rfl ?_ (decide_eq_false (by omega))
  refine gz h <| gS <| gx hK2 <| gr fun K4 hK4 => g0 (af rfl) rfl <| g0 (kQ uu9 rfl) rfl <| g0 (dV rfl rfl (r := 0) (by rw [hsz]; rfl)) rfl <| g0 (kz rfl rfl (r := 0) rfl) rfl <| g0 (af rfl) rfl <| g0 (oZ uu9 rfl rfl (by omega)) rfl <| gc (bL Tryz.call259 rfl) (kk (Len8_ct (qj a) (by omega))) rfl <| g0 (bM rfl rfl (r := (((Lib.bitLen (qj a)) : Nat) : Int)) (by rw [IntKind.wrap_i64]; omega)) rfl <| g0 (ae rfl) rfl <| gn hK4 <| gr fun K5 hK5 => g0 (af rfl) rfl <| g0 (bM rfl rfl (r := (((Lib.bitLen (qj a)) + 1 : Nat) : Int)) (by rw [IntKind.wrap_i64]; first | omega | grind)) rfl <| g0 (nz rfl rfl (r := 1) (by first | decide | omega) (by obtain ⟨_, h1, h2⟩ := htp; rw [Int.tdiv_eq_ediv_of_nonneg (by omega), IntKind.wrap_i64]; omega)) rfl <| g0 (ae rfl) rfl <| gn hK5 <| gq fun K6 hK6 => ?_; clear h ac wo; intro ac wo h
  have c1 := kt
  have s1 := Calls.pr (c1 w0)
  replace h := h.emps 1
  refine cv mixed [⟨.det (.int .i64 1), []⟩, ⟨.det (.int .i64 1), []⟩, ⟨.det (.int .u8 2), []⟩, ⟨.nd (.one 3 fun v => NN v 1), [0]⟩, ⟨.det (.string (bs 2)), [0]⟩, ⟨.det (.int .i64 1), []⟩, ⟨.det (.int .i64 0), []⟩, ⟨.det (.string (bs eF)), []⟩, ⟨.det (.string (bs 2)), []⟩, ⟨.det (.string (bs 2)), []⟩] [⟨.emp, [(3, .one 3 fun v => .row (α := UInt8) 5 v ([2]))]⟩] h rfl (by kernel_rfl) ⟨?_, ?_, ?_, ?_, ?_, ?_, ?_, ?_, ?_, ?_, trivial⟩ ?_
  · intro ξ hφ; exact aC (af rfl)
  · intro ξ hφ; exact aC (gC rfl rfl (r := 1) (by first | decide | omega) rfl)
  · intro ξ hφ; exact aC (ny rfl rfl (r := 2) (by omega) (by first | decide | (simp [IntKind.bits] <;> omega)) rfl)
  · intro ξ hφ; exact kR (ψ := fun v => NN v 1) (B := fun v => [.row (α := UInt8) 5 v ([2])]) [.emp] rfl (fun v _ => by simp only [ej, bB] <;> rfl) (fun v hv => by simpa [DF.one, bB] using hv) (jN (cK (α := UInt8) (xs := [.tmp 24]) (vs := [(.int .u8 2)]) [2] slt269 rfl rfl rfl (by decide)))
  · intro ξ hφ; exact cr [.row (α := UInt8) 5 (ξ 3) ([2])] rfl rfl (r_str Tryz.underlying269 nn5 nn9 rfl)
  · intro ξ hφ; exact aC (af rfl)
  · intro ξ hφ; exact aC (nz rfl rfl (r := 0) (by first | decide | omega) rfl)
  · intro ξ hφ; exact dW (dr (bL Tryz.call260 rfl) (kk c1))
  · intro ξ hφ; exact aC (r_catz rep0 rfl rfl (by decide))
  · intro ξ hφ; exact aC (ae rfl)
  clear h ac wo; intro ξ ac wo hφ h
  replace h : St w0 50 [(0, (.string (bs a))), (4, (.string (bs 2)))] [] ac wo := (h.pick [] (by decide)).sub ⟨rfl, rfl, trivial⟩
  clear hφ ξ
  refine hK6 _ _ ?_
  refine fH ?_
  obtain ⟨X1, hX1⟩ : ∃ X, b9 (fun s => fg a s) (2 + 1) 2 = X := ⟨_, rfl⟩
  refine wp_loop_ghost (fun n_ a_ w_ => ∃ (x : Nat), (x < n_) ∧ (b9 (fun s => fg a s) n_ x = X1) ∧ (SzB 29 x) ∧ (x = 2 ∨ x = 1) ∧ St w0 50 [(0, (.string (bs a))), (4, (.string (bs x)))] [] a_ w_) (2 + 1) ⟨2, (by omega), hX1, (cc 2 (by decide) (by omega)), (Or.inl rfl), (h.sub ⟨rfl, rfl, trivial⟩)⟩ ?_
  clear h ac wo; rintro n1 ac wo ⟨x, hm1, hL1, zx, hx, h⟩
  obtain ⟨m1, rfl⟩ : ∃ m, n1 = m + 1 := ⟨n1 - 1, by omega⟩
  have c2 := gk a x 29 (by omega) (SzB_le za (by omega)) zx (by omega)
  have s2 := aA (c2 w0)
  have c3 := fv x ((aW a x).1) 28 (by omega) zx s2.1
  have s3 := aA (c3 w0)
  have c4 := gk (cb x ((aW a x).1)) 2 28 (by omega) s3 (cc 2 (by decide) (by omega)) (by omega)
  have s4 := aA (c4 w0)
  refine gz h <| gB <| gr fun K7 hK7 => g0 (af rfl) rfl <| g0 (af rfl) rfl <| gc (bL Tryz.call194 rfl) (kk c2) rfl <| g0 (af rfl) rfl <| g0 (bg rfl rfl) rfl <| g0 (bg rfl rfl) rfl <| g0 (ae rfl) rfl <| g0 (ae rfl) rfl <| gn hK7 <| gr fun K8 hK8 => g0 (af rfl) rfl <| g0 (af rfl) rfl <| gc (bL Tryz.call190 rfl) (kk c3) rfl <| gc (bL Tryz.call194 rfl) (kk c4) rfl <| g0 (af rfl) rfl <| g0 (bg rfl rfl) rfl <| g0 (bg rfl rfl) rfl <| g0 (ae rfl) rfl <| g0 (ae rfl) rfl <| gn hK8 ?_; clear h ac wo; intro ac wo h
  replace h := h.sub (F' := [(0, (.string (bs a))), (4, (.string (bs x))), (7, (.string (bs ((aW (cb x ((aW a x).1)) 2).1))))]) ⟨rfl, rfl, rfl, trivial⟩
  have p6 := aA ((dq ((aW (cb x ((aW a x).1)) 2).1) x) w0)
  refine gz h <| gq fun K9 hK9 => gr fun K10 hK10 => g0 (af rfl) rfl <| g0 (af rfl) rfl <| gc (bL Tryz.call191 rfl) (kk (dq ((aW (cb x ((aW a x).1)) 2).1) x)) rfl <| g0 (mD rfl rfl) rfl <| gn hK10 ?_; clear h ac wo; intro ac wo h
  refine cO h rfl (fun hc2 => ?_) (fun hc2 => ?_)
  · skip
    have hd2 := of_decide_eq_true hc2
    refine gz h <| gr fun K11 hK11 => g0 (af rfl) rfl <| g0 (ae rfl) rfl <| gn hK11 <| gT ?_; clear h ac wo; intro ac wo h
    have hr1 := fy hL1 (show fg a x = .ret x from (cT hc2))
    have hd : bX a = x := (k9 (hX1.trans hr1))
    exact ret h rfl (.tmp rfl .nil) rfl (h.retP (by rw [hd] <;> rfl) (by rw [hd]; exact zx))
  · skip
    have hd2 := of_decide_eq_false hc2
    refine gz h <| gS <| gx hK9 <| gR <| g0 (af rfl) rfl <| g0 (ae rfl) rfl <| gx (fun _ _ => bR) <| gN ?_; clear h ac wo; intro ac wo h
    have hzn : SzB 29 ((aW (cb x ((aW a x).1)) 2).1) := root_sz ha hx hc2
    have hln : (aW (cb x ((aW a x).1)) 2).1 < x := root_lt ha hx hc2
    exact aM ⟨m1, (by omega), _, (by first | omega | assumption | grind), b0 hL1 (show fg a x = .go _ from (cF hc2)), hzn, (nv ha hx hc2), (h.pick [] (by decide)).sub ⟨rfl, rfl, trivial⟩⟩
attribute [irreducible] bX
end Go.Sx
namespace Go.Sx
def RtR (x : GR) : Prop := x.r = (⟨(⟨false, 0⟩ : GI), (⟨false, 0⟩ : GI)⟩ : GQ) ∨ x.r = ah 2
def RtV (i : Iv) : Prop := RtR i.lo ∧ RtR i.hi
theorem ro {a : GQ} (h : a.den = ⟨false, 0⟩) : 0 < (aG a).mag ∧ (aG a).mag < 4 := by
  have : aG a = rational_one := by unfold aG; rw [h]; rfl
  rw [this]; decide +kernel
theorem root_pre {x : GR} (h : RtR x) (hs : (aL x.r == 0) = false) : x.r.num.mag = 2 ∧ x.r.den = ⟨false, 0⟩ := by
  rcases h with h | h
  · rw [h] at hs; exact absurd hs (by decide +kernel)
  · rw [h]; decide +kernel
end Go.Sx
