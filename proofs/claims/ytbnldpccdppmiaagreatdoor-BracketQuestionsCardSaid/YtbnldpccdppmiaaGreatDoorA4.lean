/- A part of the proof that the law BracketQuestions/Checks answers true at every input and leaves its arguments as they were. -/
import Derived.Lib.BitFns
import Derived.Laws.Bits64
import Derived.Laws.BitsLemmas
import Derived.Test.YtbnldpccdppmiaaGreatDoorA3
import Derived.Lib.TrimByte
set_option linter.unusedVariables false
set_option linter.unusedSimpArgs false
namespace Go.Sx
open Go Go.RowKit
theorem lG : le 0 = [] := rfl
theorem nu : ∀ (f g n : Nat), n ≤ f → n ≤ g → leF f n = leF g n
  | 0, g, n, h, _ => by have : n = 0 := by omega
                        subst this; rw [jy, jy]
  | f + 1, 0, n, _, h => by have : n = 0 := by omega
                            subst this; rw [jy, jy]
  | f + 1, g + 1, n, h1, h2 => by
    unfold leF
    cases hb : Nat.beq n 0 with
    | true => rfl
    | false =>
      have hn : n ≠ 0 := fun e => by subst e; simp at hb
      simp only [cond_false]
      rw [nu f g (n / 256) (by omega) (by omega)]
theorem ky {n : Nat} (h : 0 < n) : le n = UInt8.ofNat (n % 256) :: le (n / 256) := by
  obtain ⟨m, rfl⟩ : ∃ m, n = m + 1 := ⟨n - 1, by omega⟩
  have : Nat.beq (m + 1) 0 = false := rfl
  show leF (m + 1) (m + 1) = _
  unfold leF
  rw [this]
  simp only [cond_false]
  rw [nu m ((m + 1) / 256) ((m + 1) / 256) (by omega) (by omega)]
  rfl
theorem dp : ∀ (k n : Nat), (le n).length ≤ k ↔ n < 256 ^ k
  | 0, n => by
    rcases Nat.eq_zero_or_pos n with rfl | h
    · simp [lG]
    · rw [ky h]; simp; omega
  | k + 1, n => by
    rcases Nat.eq_zero_or_pos n with rfl | h
    · simp [lG]
      exact Nat.pow_pos (by decide)
    · rw [ky h, List.length_cons, Nat.add_le_add_iff_right, dp k, Nat.pow_succ]
      omega
theorem lI {n : Nat} (h : 0 < n) : 256 ^ ((le n).length - 1) ≤ n := by
  rcases Nat.lt_or_ge n (256 ^ ((le n).length - 1)) with hlt | hge
  · have := (dp ((le n).length - 1) n).2 hlt
    have : 0 < (le n).length := by rw [ky h]; simp
    omega
  · exact hge
theorem lH (n : Nat) : n < 256 ^ (le n).length := (dp _ n).1 (Nat.le_refl _)
theorem ml : ∀ (n j : Nat), j < (le n).length → (le n)[j]? = some (UInt8.ofNat (n / 256 ^ j % 256))
  | n, j, h => by
    rcases Nat.eq_zero_or_pos n with rfl | hp
    · simp [lG] at h
    · rw [ky hp] at h ⊢
      match j with
      | 0 => simp
      | j + 1 =>
        simp only [List.length_cons] at h
        rw [List.getElem?_cons_succ, ml (n / 256) j (by omega), Nat.div_div_eq_div_mul, Nat.pow_succ, Nat.mul_comm 256]
  termination_by n => n
  decreasing_by omega
theorem d8 (n : Nat) : (bs n).size = (le n).length := by simp [bs, ByteArray.size]
theorem m5 (n : Nat) : (bs n).data.toList = (le n).reverse := by simp [bs]
theorem bs_get {n i : Nat} (h : i < (bs n).size) : (bs n)[i].toNat = n / 256 ^ ((le n).length - 1 - i) % 256 := by
  have h' : i < (le n).length := by rwa [d8] at h
  have h1 : (bs n)[i] = (le n).reverse[i]'(by simpa using h') := by
    show ((le n).reverse.toArray)[i]'(by simpa using h') = _
    rw [List.getElem_toArray]
  rw [h1, List.getElem_reverse]
  have := ml n ((le n).length - 1 - i) (by omega)
  rw [List.getElem?_eq_getElem (by omega)] at this
  simp only [Option.some.injEq] at this
  rw [this, UInt8.toNat_ofNat']
  omega
theorem pc (k : Nat) : 256 ^ k = 2 ^ (8 * k) := by rw [Nat.pow_mul]
theorem be_step (m L i : Nat) (h : i < L) : m / 256 ^ (L - i) * 256 + m / 256 ^ (L - 1 - i) % 256 = m / 256 ^ (L - (i + 1)) := by
  have e : L - i = (L - 1 - i) + 1 := by omega
  have e2 : L - (i + 1) = L - 1 - i := by omega
  rw [e, e2, Nat.pow_succ, ← Nat.div_div_eq_div_mul]
  omega
theorem pv_lt (m L i : Nat) (hL : m < 256 ^ L) (h : i ≤ L) : m / 256 ^ (L - i) < 256 ^ i := by
  rw [Nat.div_lt_iff_lt_mul (Nat.pow_pos (by decide)), ← Nat.pow_add, show i + (L - i) = L by omega]
  exact hL
theorem gF {k : Nat} (a b : Nat) (ha : a * 2 ^ k < 18446744073709551616) (hb : b < 2 ^ k) (hb' : b < 18446744073709551616) : bits .or .u64 ((a * 2 ^ k : Nat) : Int) (b : Int) = ((a * 2 ^ k + b : Nat) : Int) := by
  have h1 : (BitVec.ofInt 64 ((a * 2 ^ k : Nat) : Int)).toNat = a * 2 ^ k := by rw [BitVec.ofInt_natCast, BitVec.toNat_ofNat]; exact Nat.mod_eq_of_lt (by omega)
  have h2 : (BitVec.ofInt 64 (b : Int)).toNat = b := by rw [BitVec.ofInt_natCast, BitVec.toNat_ofNat]; exact Nat.mod_eq_of_lt (by omega)
  have h3 : (a * 2 ^ k) ||| b = a * 2 ^ k + b := by
    rw [← Nat.shiftLeft_eq, ← Nat.shiftLeft_add_eq_or_of_lt hb]
  have h4 : a * 2 ^ k + b < 18446744073709551616 := by
    rw [← h3]
    exact Nat.or_lt_two_pow (n := 64) ha (by omega)
  show IntKind.u64.wrap ((BitVec.ofInt 64 ((a * 2 ^ k : Nat) : Int) ||| BitVec.ofInt 64 (b : Int)).toNat : Int) = _
  rw [BitVec.toNat_or, h1, h2, h3, IntKind.wrap_u64]
  omega
theorem jD {k : Nat} (a b : Nat) (ha : b < 2 ^ k) (hb : a * 2 ^ k < 4294967296) (hb' : b < 4294967296) : bits .or .u32 (b : Int) ((a * 2 ^ k : Nat) : Int) = ((b + a * 2 ^ k : Nat) : Int) := by
  have h1 : (BitVec.ofInt 32 ((a * 2 ^ k : Nat) : Int)).toNat = a * 2 ^ k := by rw [BitVec.ofInt_natCast, BitVec.toNat_ofNat]; exact Nat.mod_eq_of_lt (by omega)
  have h2 : (BitVec.ofInt 32 (b : Int)).toNat = b := by rw [BitVec.ofInt_natCast, BitVec.toNat_ofNat]; exact Nat.mod_eq_of_lt (by omega)
  have h3 : b ||| (a * 2 ^ k) = b + a * 2 ^ k := by
    rw [Nat.or_comm, ← Nat.shiftLeft_eq, ← Nat.shiftLeft_add_eq_or_of_lt ha, Nat.add_comm]
  have h4 : b + a * 2 ^ k < 4294967296 := by
    rw [← h3]
    exact Nat.or_lt_two_pow (n := 32) (by omega) hb
  show IntKind.u32.wrap ((BitVec.ofInt 32 (b : Int) ||| BitVec.ofInt 32 ((a * 2 ^ k : Nat) : Int)).toNat : Int) = _
  rw [BitVec.toNat_or, h1, h2, h3, IntKind.wrap_u32]
  omega
theorem kX {a k : Nat} {n : Int} (hn : n.toNat = k) (h : a * 2 ^ k < 18446744073709551616) : IntKind.u64.wrap ((a : Int) * 2 ^ n.toNat) = ((a * 2 ^ k : Nat) : Int) := by
  have e : (a : Int) * 2 ^ n.toNat = ((a * 2 ^ k : Nat) : Int) := by rw [hn]; simp
  rw [e, IntKind.wrap_u64]; omega
theorem wshl32 {a k : Nat} {n : Int} (hn : n.toNat = k) (h : a * 2 ^ k < 4294967296) : IntKind.u32.wrap ((a : Int) * 2 ^ n.toNat) = ((a * 2 ^ k : Nat) : Int) := by
  have e : (a : Int) * 2 ^ n.toNat = ((a * 2 ^ k : Nat) : Int) := by rw [hn]; simp
  rw [e, IntKind.wrap_u32]; omega
theorem shr_nat {a k : Nat} {n : Int} (hn : n.toNat = k) : (a : Int) / 2 ^ n.toNat = ((a / 2 ^ k : Nat) : Int) := by rw [hn]; simp
def dH (m : Nat) : Nat × Bool := bif Nat.ble (le m).length 8 then (m, true) else (0, false)
theorem m9 {m : Nat} (h : (le m).length ≤ 8) : dH m = (m, true) := by
  have hb : Nat.ble (le m).length 8 = true := Nat.ble_eq_true_of_le h
  simp only [dH, hb, cond_true]
theorem oE {m : Nat} (h : ¬ (le m).length ≤ 8) : dH m = (0, false) := by
  have : Nat.ble (le m).length 8 = false := by
    cases hb : Nat.ble (le m).length 8 with
    | false => rfl
    | true => exact absurd (Nat.le_of_ble_eq_true hb) h
  simp [dH, this]
theorem iW : ∀ n : Nat, n < 18446744073709551616 → (Lib.bitLen n + 7) / 8 = (le n).length
  | n, h => by
    rcases Nat.eq_zero_or_pos n with rfl | hp
    · rfl
    · rw [ky hp, List.length_cons]
      rcases Nat.lt_or_ge n 256 with hlt | hge
      · have h1 : Lib.bitLen n ≤ 8 := Lib.bitLen_le8 ⟨n, hlt⟩
        have h2 := Lib.bitLen_half n (by omega) h
        have : n / 256 = 0 := by omega
        rw [this, lG]
        simp; omega
      · rw [Lib.bitLen_shift8 n hge h, ← iW (n / 256) (by omega)]
        omega
  termination_by n => n
  decreasing_by omega
theorem kQ {n : Nat} (h : n < 18446744073709551616) : Lib.bitLen n ≤ 64 := by
  have h1 := iW n h
  have h2 : (le n).length ≤ 8 := (dp 8 n).2 h
  omega
section
variable {P : Program} {w0 : World} {F : List (Nat × Value)}
theorem s_stA {t e : TypeId} {x y : Operand} {b i : Nat} {c : UInt8} {v : Value} {bl : List UInt8} (hz : ∀ w, (sizeOf t).run P w = .ok 1 w) (hx : ev F x = some (ptr b (0 + i * 1))) (hy : ev F y = some v) (hv : v = .int .u8 (c.toNat : Int)) (hi : i < bl.length) :
    gP P w0 F [.blk b (flat bl) e] (.store t x y) (· = undef) (fun _ => [.blk b (flat (bl.set i c)) e]) := by
  subst hv
  have hfl : (flat bl).length = bl.length := by rw [bM]; exact Nat.mul_one _
  refine eW (k := i) (us := [.int .u8 (c.toNat : Int)]) hz (by simpa using hx) hy rfl rfl rfl (Nat.ble_eq_true_of_le (by omega)) ?_
  have : ∀ (bl : List UInt8) (i : Nat), i < bl.length → spl (flat bl) i [.int .u8 (c.toNat : Int)] = flat (bl.set i c) := by
    intro bl
    induction bl with
    | nil => intro i h; simp at h
    | cons u bl ih =>
      intro i h
      match i with
      | 0 => simp [spl, flat, Cod.enc]
      | i + 1 =>
        have := ih i (by simpa using h)
        simp only [spl, flat, List.flatMap_cons, Cod.enc, List.set_cons_succ] at this ⊢
        rw [← this]
        simp [Nat.add_right_comm]
  exact this bl i hi
end
def Mag (u n i : Nat) (bl : List UInt8) : Prop := bl.length = 8 ∧ ∀ j, j < i → bl[n - 1 - j]? = some (UInt8.ofNat (u / 256 ^ j % 256))
theorem Mag.zero (u n : Nat) : Mag u n 0 (List.replicate 8 0) := ⟨by simp, fun j h => by omega⟩
theorem Mag.next {u n i : Nat} {bl : List UInt8} (h : Mag u n i bl) (hi : i < n) (hn : n ≤ 8) : Mag u n (i + 1) (bl.set (n - 1 - i) (UInt8.ofNat (u / 256 ^ i % 256))) := by
  refine ⟨by simp [h.1], fun j hj => ?_⟩
  by_cases e : j = i
  · subst e; rw [List.getElem?_set_self (by rw [h.1]; omega)]
  · rw [List.getElem?_set_ne (by omega)]; exact h.2 j (by omega)
theorem Mag.done {u n : Nat} {bl : List UInt8} (h : Mag u n n bl) (hn : n = (le u).length) (h8 : n ≤ 8) : bl.take n = (le u).reverse := by
  apply List.ext_getElem?
  intro j
  by_cases hj : j < n
  · rw [List.getElem?_take_of_lt hj]
    have h1 := h.2 (n - 1 - j) (by omega)
    rw [show n - 1 - (n - 1 - j) = j by omega] at h1
    rw [h1, List.getElem?_reverse (by omega), ← hn, ml u (n - 1 - j) (by omega)]
  · rw [List.getElem?_eq_none (by simp; omega), List.getElem?_eq_none (by simp; omega)]
theorem Mag.flat {u n : Nat} {bl : List UInt8} (h : Mag u n n bl) (hn : n = (le u).length) (h8 : n ≤ 8) : (flat bl).take n = flat (le u).reverse := by
  have h1 := h.done hn h8
  have : Sx.flat bl = Sx.flat (bl.take n) ++ Sx.flat (bl.drop n) := by rw [← fL, List.take_append_drop]
  rw [this, h1, List.take_left' (by rw [bM, List.length_reverse, ← hn]; exact Nat.mul_one _)]
def bn (u : Nat) : Nat := u
end Go.Sx
namespace Go.Sx
open Go Go.RowKit
def dgs (n v : Nat) : List Nat := (List.range n).map fun q => v / 4294967296 ^ q % 4294967296
theorem ci (n v : Nat) : (dgs n v).length = n := by simp [dgs]
theorem dl {n v q : Nat} (h : q < n) : (dgs n v)[q]? = some (v / 4294967296 ^ q % 4294967296) := by simp [dgs, h]
theorem jB (n : Nat) : dgs n 0 = List.replicate n 0 := by
  apply List.ext_getElem?
  intro q
  by_cases h : q < n
  · rw [dl h]; simp [h]
  · rw [List.getElem?_eq_none (by rw [ci]; omega), List.getElem?_eq_none (by simp; omega)]
theorem ft (k : Nat) : 0 < 4294967296 ^ k := Nat.pow_pos (by decide)
theorem pF {v s q : Nat} (h : v / 4294967296 ^ q % 4294967296 + s < 4294967296) (j : Nat) : (v + s * 4294967296 ^ q) / 4294967296 ^ j % 4294967296 = if j = q then v / 4294967296 ^ q % 4294967296 + s else v / 4294967296 ^ j % 4294967296 := by
  by_cases e : j = q
  · subst e
    rw [if_pos rfl, Nat.add_mul_div_right _ _ (ft j), Nat.add_mod, Nat.mod_eq_of_lt (show s < 4294967296 by omega), Nat.mod_eq_of_lt h]
  · rw [if_neg e]
    rcases Nat.lt_or_gt_of_ne e with hlt | hgt
    · obtain ⟨c, rfl⟩ : ∃ c, q = j + 1 + c := ⟨q - j - 1, by omega⟩
      have : s * 4294967296 ^ (j + 1 + c) = (s * 4294967296 ^ c * 4294967296) * 4294967296 ^ j := by rw [Nat.pow_add, Nat.pow_succ]; simp only [Nat.mul_comm, Nat.mul_left_comm, Nat.mul_assoc]
      rw [this, Nat.add_mul_div_right _ _ (ft j), Nat.add_mul_mod_self_right]
    · obtain ⟨c, rfl⟩ : ∃ c, j = q + 1 + c := ⟨j - q - 1, by omega⟩
      have e1 : ∀ x, x / 4294967296 ^ (q + 1 + c) = x / 4294967296 ^ q / 4294967296 / 4294967296 ^ c := by
        intro x
        rw [Nat.pow_add, Nat.pow_succ, Nat.div_div_eq_div_mul, Nat.div_div_eq_div_mul, Nat.mul_assoc]
      rw [e1, e1, Nat.add_mul_div_right _ _ (ft q)]
      have : (v / 4294967296 ^ q + s) / 4294967296 = v / 4294967296 ^ q / 4294967296 := by omega
      rw [this]
theorem m0 {n v s q : Nat} (h : v / 4294967296 ^ q % 4294967296 + s < 4294967296) : (dgs n v).set q (v / 4294967296 ^ q % 4294967296 + s) = dgs n (v + s * 4294967296 ^ q) := by
  apply List.ext_getElem?
  intro j
  by_cases hj : j < n
  · rw [dl hj, pF h]
    by_cases e : j = q
    · subst e; rw [if_pos rfl, List.getElem?_set_self (by rw [ci]; exact hj)]
    · rw [if_neg e, List.getElem?_set_ne (Ne.symm e), dl hj]
  · rw [List.getElem?_eq_none (by rw [List.length_set, ci]; omega), List.getElem?_eq_none (by rw [ci]; omega)]
def dn (m : Nat) : Nat := ((le m).length + 3) / 4
theorem lP (m k : Nat) : dn m ≤ k ↔ m < 4294967296 ^ k := by
  have : 4294967296 ^ k = 256 ^ (4 * k) := by rw [Nat.pow_mul]
  rw [this, ← dp]
  unfold dn
  omega
theorem fq (m : Nat) : m < 4294967296 ^ dn m := (lP m _).1 (Nat.le_refl _)
theorem mod_next (m i : Nat) : m % 256 ^ (i + 1) = m % 256 ^ i + (m / 256 ^ i % 256) * 256 ^ i := by
  rw [Nat.pow_succ, Nat.mod_mul, Nat.mul_comm]
theorem lB (i : Nat) : 256 ^ i = 2 ^ (8 * (i % 4)) * 4294967296 ^ (i / 4) := by
  have : 4294967296 ^ (i / 4) = 256 ^ (4 * (i / 4)) := by rw [Nat.pow_mul]
  rw [this, ← pc, ← Nat.pow_add]
  congr 1
  omega
theorem mw (m i : Nat) : m % 256 ^ i / 4294967296 ^ (i / 4) % 4294967296 < 2 ^ (8 * (i % 4)) ∧ m % 256 ^ i / 4294967296 ^ (i / 4) % 4294967296 = m % 256 ^ i / 4294967296 ^ (i / 4) := by
  have h1 : m % 256 ^ i < 256 ^ i := Nat.mod_lt _ (Nat.pow_pos (by decide))
  rw [lB i] at h1
  have h2 : m % 256 ^ i / 4294967296 ^ (i / 4) < 2 ^ (8 * (i % 4)) := by
    rw [Nat.div_lt_iff_lt_mul (ft _), lB i]
    exact h1
  have h3 : 2 ^ (8 * (i % 4)) ≤ 2 ^ 24 := Nat.pow_le_pow_right (by decide) (by omega)
  have h4 : m % 256 ^ i / 4294967296 ^ (i / 4) % 4294967296 = m % 256 ^ i / 4294967296 ^ (i / 4) := Nat.mod_eq_of_lt (Nat.lt_trans (Nat.lt_of_lt_of_le h2 h3) (by decide))
  exact ⟨by rw [h4]; exact h2, h4⟩
theorem li (m i : Nat) : m / 256 ^ i % 256 * 2 ^ (8 * (i % 4)) < 4294967296 ∧ m % 256 ^ i / 4294967296 ^ (i / 4) % 4294967296 + m / 256 ^ i % 256 * 2 ^ (8 * (i % 4)) < 4294967296 := by
  have h1 := (mw m i).1
  have h2 : m / 256 ^ i % 256 ≤ 255 := by omega
  have h3 : i % 4 < 4 := Nat.mod_lt _ (by decide)
  have key : m / 256 ^ i % 256 * 2 ^ (8 * (i % 4)) ≤ 255 * 2 ^ (8 * (i % 4)) := Nat.mul_le_mul_right _ h2
  have : i % 4 = 0 ∨ i % 4 = 1 ∨ i % 4 = 2 ∨ i % 4 = 3 := by omega
  rcases this with e | e | e | e <;> rw [e] at key h1 ⊢ <;> simp only [Nat.mul_zero, Nat.mul_one, Nat.reduceMul, Nat.reducePow] at key h1 ⊢ <;> exact ⟨by omega, by omega⟩
theorem dig_next {n m i : Nat} : (dgs n (m % 256 ^ i)).set (i / 4) (m % 256 ^ i / 4294967296 ^ (i / 4) % 4294967296 + m / 256 ^ i % 256 * 2 ^ (8 * (i % 4))) = dgs n (m % 256 ^ (i + 1)) := by
  rw [m0 (li m i).2, mod_next]
  congr 2
  rw [lB i, Nat.mul_assoc]
def jd (m : Nat) : List Nat := dgs (dn m) m
end Go.Sx
namespace Go.Sx
open Go Go.RowKit
def mx (a i t : Nat) : Nat := a / 4294967296 ^ i * 4294967296 ^ i + t % 4294967296 ^ i
theorem lD (a t : Nat) : mx a 0 t = a := by simp [mx, Nat.mod_one]
theorem mh {a i t : Nat} (ha : a < 4294967296 ^ i) (ht : t < 4294967296 ^ i) : mx a i t = t := by
  unfold mx; rw [Nat.div_eq_of_lt ha, Nat.mod_eq_of_lt ht]; simp
theorem mx_div {a i t : Nat} (j : Nat) : mx a i t / 4294967296 ^ (i + j) = a / 4294967296 ^ (i + j) := by
  unfold mx
  rw [Nat.pow_add, ← Nat.div_div_eq_div_mul, ← Nat.div_div_eq_div_mul, Nat.mul_comm, Nat.mul_add_div (ft i), Nat.div_eq_of_lt (Nat.mod_lt _ (ft i)), Nat.add_zero]
theorem i0 {a i t : Nat} {j : Nat} (h : i ≤ j) : mx a i t / 4294967296 ^ j % 4294967296 = a / 4294967296 ^ j % 4294967296 := by
  obtain ⟨c, rfl⟩ : ∃ c, j = i + c := ⟨j - i, by omega⟩
  rw [mx_div]
theorem lb {a i t : Nat} {j : Nat} (h : j < i) : mx a i t / 4294967296 ^ j % 4294967296 = t / 4294967296 ^ j % 4294967296 := by
  obtain ⟨c, rfl⟩ : ∃ c, i = j + 1 + c := ⟨i - j - 1, by omega⟩
  have h1 : ∀ x, x / 4294967296 ^ j % 4294967296 = x % 4294967296 ^ (j + 1 + c) / 4294967296 ^ j % 4294967296 := by
    intro x
    have e : 4294967296 ^ (j + 1 + c) = 4294967296 ^ j * (4294967296 * 4294967296 ^ c) := by rw [Nat.pow_add, Nat.pow_succ, Nat.mul_assoc]
    rw [e, Nat.mod_mul_right_div_self, Nat.mod_mul_right_mod]
  rw [h1 (mx _ _ _), h1 t]
  unfold mx
  rw [Nat.mul_add_mod_self_right, Nat.mod_mod]
theorem jc {n a i t : Nat} : (dgs n (mx a i t)).set i (t / 4294967296 ^ i % 4294967296) = dgs n (mx a (i + 1) t) := by
  apply List.ext_getElem?
  intro j
  by_cases hj : j < n
  · rw [dl hj]
    by_cases e : j = i
    · subst e
      rw [List.getElem?_set_self (by rw [ci]; exact hj), lb (by omega)]
    · rw [List.getElem?_set_ne (Ne.symm e), dl hj]
      rcases Nat.lt_or_gt_of_ne e with h | h
      · rw [lb h, lb (by omega)]
      · rw [i0 (by omega), i0 (by omega)]
  · rw [List.getElem?_eq_none (by rw [List.length_set, ci]; omega), List.getElem?_eq_none (by rw [ci]; omega)]
theorem nD {n k v : Nat} (h : k ≤ n) : (dgs n v).take k = dgs k v := by
  unfold dgs
  rw [← List.map_take, List.take_range, Nat.min_eq_left h]
theorem dgs_more {n k v : Nat} (h : v < 4294967296 ^ n) : dgs n v ++ List.replicate k 0 = dgs (n + k) v := by
  apply List.ext_getElem?
  intro j
  by_cases hj : j < n
  · rw [List.getElem?_append_left (by rw [ci]; exact hj), dl hj, dl (by omega)]
  · rw [List.getElem?_append_right (by rw [ci]; omega), ci]
    by_cases hk : j < n + k
    · rw [dl hk, List.getElem?_replicate, if_pos (by omega)]
      obtain ⟨c, rfl⟩ : ∃ c, j = n + c := ⟨j - n, by omega⟩
      rw [Nat.pow_add, ← Nat.div_div_eq_div_mul, Nat.div_eq_of_lt h, Nat.zero_div]
    · rw [List.getElem?_eq_none (by simp; omega), List.getElem?_eq_none (by rw [ci]; omega)]
theorem pp {v n : Nat} (h : 4294967296 ^ n ≤ v) (h' : v < 4294967296 ^ (n + 1)) : v / 4294967296 ^ n % 4294967296 ≠ 0 := by
  have h1 : v / 4294967296 ^ n < 4294967296 := by rw [Nat.div_lt_iff_lt_mul (ft n), Nat.mul_comm]; rwa [Nat.pow_succ] at h'
  have h2 : 0 < v / 4294967296 ^ n := Nat.div_pos h (ft n)
  rw [Nat.mod_eq_of_lt h1]; omega
theorem oG {v n : Nat} (h : v < 4294967296 ^ n) (hn : 0 < n) (hz : v / 4294967296 ^ (n - 1) % 4294967296 = 0) : v < 4294967296 ^ (n - 1) := by
  refine Nat.lt_of_not_le fun hle => pp hle (by rwa [show n - 1 + 1 = n by omega]) hz
theorem oH {v n : Nat} (h : v < 4294967296 ^ n) (hz : n = 0 ∨ v / 4294967296 ^ (n - 1) % 4294967296 ≠ 0) : dn v = n := by
  refine Nat.le_antisymm ((lP v n).2 h) (Nat.le_of_not_lt fun hlt => ?_)
  have h1 := fq v
  have h2 : v < 4294967296 ^ (n - 1) := Nat.lt_of_lt_of_le h1 (Nat.pow_le_pow_right (by decide) (by omega))
  rcases hz with hz | hz
  · omega
  · rw [Nat.div_eq_of_lt h2] at hz; exact hz rfl
def bz (n p v : Nat) : List UInt8 := (List.range n).map fun q => if n - 1 - q < p then UInt8.ofNat (v / 256 ^ (n - 1 - q) % 256) else 0
theorem iV (n p v : Nat) : (bz n p v).length = n := by simp [bz]
theorem mC {n p v q : Nat} (h : q < n) : (bz n p v)[q]? = some (if n - 1 - q < p then UInt8.ofNat (v / 256 ^ (n - 1 - q) % 256) else 0) := by simp [bz, h]
theorem bz_zero (n v : Nat) : List.replicate n 0 = bz n 0 v := by
  apply List.ext_getElem?
  intro q
  by_cases h : q < n
  · rw [mC h]; simp [h]
  · rw [List.getElem?_eq_none (by simp; omega), List.getElem?_eq_none (by rw [iV]; omega)]
theorem bz_next {n p v : Nat} (h : p < n) {c : UInt8} (hc : c = UInt8.ofNat (v / 256 ^ p % 256)) : (bz n p v).set (n - 1 - p) c = bz n (p + 1) v := by
  subst hc
  apply List.ext_getElem?
  intro q
  by_cases hq : q < n
  · rw [mC hq]
    by_cases e : q = n - 1 - p
    · subst e
      rw [List.getElem?_set_self (by rw [iV]; exact hq), if_pos (by omega), show n - 1 - (n - 1 - p) = p by omega]
    · rw [List.getElem?_set_ne (Ne.symm e), mC hq]
      by_cases h1 : n - 1 - q < p
      · rw [if_pos h1, if_pos (by omega)]
      · rw [if_neg h1, if_neg (by omega)]
  · rw [List.getElem?_eq_none (by rw [List.length_set, iV]; omega), List.getElem?_eq_none (by rw [iV]; omega)]
theorem oz (v i k : Nat) (hk : k < 4) : v / 4294967296 ^ i % 4294967296 / 256 ^ k % 256 = v / 256 ^ (4 * i + k) % 256 := by
  have e1 : 4294967296 ^ i = 256 ^ (4 * i) := by rw [Nat.pow_mul]
  rw [Nat.pow_add, ← e1, ← Nat.div_div_eq_div_mul]
  generalize v / 4294967296 ^ i = x
  have : k = 0 ∨ k = 1 ∨ k = 2 ∨ k = 3 := by omega
  rcases this with rfl | rfl | rfl | rfl <;> simp only [Nat.reducePow, Nat.pow_zero, Nat.pow_one, Nat.div_one] <;> omega
theorem bz_all {n v : Nat} (h : v < 256 ^ n) : bz n n v = List.replicate (n - (le v).length) 0 ++ (le v).reverse := by
  have hl := (dp n v).2 h
  apply List.ext_getElem?
  intro q
  by_cases hq : q < n
  · rw [mC hq, if_pos (by omega)]
    by_cases h1 : q < n - (le v).length
    · rw [List.getElem?_append_left (by simpa using h1), List.getElem?_replicate, if_pos h1]
      have : v < 256 ^ (n - 1 - q) := Nat.lt_of_lt_of_le (lH v) (Nat.pow_le_pow_right (by decide) (by omega))
      rw [Nat.div_eq_of_lt this]; rfl
    · rw [List.getElem?_append_right (by simpa using h1), List.length_replicate, List.getElem?_reverse (by omega), ml v _ (by omega)]
      congr 5; omega
  · rw [List.getElem?_eq_none (by rw [iV]; omega), List.getElem?_eq_none (by simp; omega)]
theorem le_last {v : Nat} (h : 0 < v) : ∃ c l, (le v).reverse = c :: l ∧ c ≠ 0 := by
  have hp : 0 < (le v).length := by rw [ky h]; simp
  have hg : (le v).reverse[0]? = some (UInt8.ofNat (v / 256 ^ ((le v).length - 1) % 256)) := by
    rw [List.getElem?_reverse hp, Nat.sub_zero, ml v _ (by omega)]
  cases hr : (le v).reverse with
  | nil => rw [hr] at hg; simp at hg
  | cons c l =>
    rw [hr] at hg
    refine ⟨c, l, rfl, ?_⟩
    have hc : c = UInt8.ofNat (v / 256 ^ ((le v).length - 1) % 256) := by simpa using hg
    rw [hc]
    have h1 := lI h
    have h2 := lH v
    have h3 : v / 256 ^ ((le v).length - 1) < 256 := by
      rw [Nat.div_lt_iff_lt_mul (Nat.pow_pos (by decide)), Nat.mul_comm, ← Nat.pow_succ, show ((le v).length - 1).succ = (le v).length by omega]
      exact h2
    have h4 : 0 < v / 256 ^ ((le v).length - 1) := Nat.div_pos h1 (Nat.pow_pos (by decide))
    intro e
    have h5 := congrArg UInt8.toNat e
    rw [UInt8.toNat_ofNat'] at h5
    have : (0 : UInt8).toNat = 0 := rfl
    rw [this] at h5
    omega
theorem bz_trim {n v : Nat} (h : v < 256 ^ n) : (⟨(Lib.trimLeftB (bz n n v) 0).toArray⟩ : ByteArray) = bs v := by
  have h0 : Lib.trimLeftB (bz n n v) 0 = (le v).reverse := by
    rw [bz_all h]
    unfold Lib.trimLeftB
    have h1 : ∀ (k : Nat) (l : List UInt8), (List.replicate k 0 ++ l).dropWhile (· == 0) = l.dropWhile (· == 0) := by
      intro k l
      induction k with
      | zero => simp
      | succ k ih => simp [List.replicate_succ, ih]
    rw [h1]
    rcases Nat.eq_zero_or_pos v with rfl | hv
    · rfl
    · obtain ⟨c, l, hl, hc⟩ := le_last hv
      rw [hl, List.dropWhile_cons_of_neg (by simpa using hc)]
  unfold bs; rw [h0]
theorem dn_pow {v n : Nat} : v < 4294967296 ^ n ↔ v < 256 ^ (4 * n) := by rw [show 4294967296 ^ n = 256 ^ (4 * n) by rw [Nat.pow_mul]]
theorem hQ {S e m : Nat} : (S + e * 4294967296 ^ m) / 4294967296 ^ m = S / 4294967296 ^ m + e ∧ (S + e * 4294967296 ^ m) / 4294967296 ^ (m + 1) = (S / 4294967296 ^ m + e) / 4294967296 := by
  have h1 : (S + e * 4294967296 ^ m) / 4294967296 ^ m = S / 4294967296 ^ m + e := Nat.add_mul_div_right _ _ (ft m)
  exact ⟨h1, by rw [Nat.pow_succ, ← Nat.div_div_eq_div_mul, h1]⟩
theorem gL (v m : Nat) : v % 4294967296 ^ (m + 1) = v % 4294967296 ^ m + (v / 4294967296 ^ m % 4294967296) * 4294967296 ^ m := by rw [Nat.pow_succ, Nat.mod_mul, Nat.mul_comm]
def cy (a b i : Nat) : Nat := (a % 4294967296 ^ i + b % 4294967296 ^ i) / 4294967296 ^ i
theorem pG (a b : Nat) : cy a b 0 = 0 := by simp [cy, Nat.mod_one]
theorem cy_le (a b i : Nat) : cy a b i ≤ 1 := by
  have h1 := Nat.mod_lt a (ft i)
  have h2 := Nat.mod_lt b (ft i)
  unfold cy
  have : (a % 4294967296 ^ i + b % 4294967296 ^ i) / 4294967296 ^ i < 2 := by rw [Nat.div_lt_iff_lt_mul (ft i)]; omega
  omega
theorem cy_sum (a b i : Nat) : (a % 4294967296 ^ (i + 1) + b % 4294967296 ^ (i + 1)) = (a % 4294967296 ^ i + b % 4294967296 ^ i) + (a / 4294967296 ^ i % 4294967296 + b / 4294967296 ^ i % 4294967296) * 4294967296 ^ i := by
  rw [gL, gL, Nat.add_mul]; omega
theorem pH (a b i : Nat) : cy a b (i + 1) = (cy a b i + (a / 4294967296 ^ i % 4294967296 + b / 4294967296 ^ i % 4294967296)) / 4294967296 := by
  unfold cy
  rw [cy_sum]
  exact hQ.2
theorem lR (a b i : Nat) : (a + b) / 4294967296 ^ i % 4294967296 = (cy a b i + (a / 4294967296 ^ i % 4294967296 + b / 4294967296 ^ i % 4294967296)) % 4294967296 := by
  have h1 : (a + b) / 4294967296 ^ i % 4294967296 = (a % 4294967296 ^ (i + 1) + b % 4294967296 ^ (i + 1)) / 4294967296 ^ i % 4294967296 := by
    have e : ∀ x, x / 4294967296 ^ i % 4294967296 = x % 4294967296 ^ (i + 1) / 4294967296 ^ i := fun x => by rw [Nat.pow_succ, Nat.mod_mul_right_div_self]
    rw [e, e (_ + _), Nat.add_mod]
  rw [h1, cy_sum, hQ.1]; rfl
def bw (a b i : Nat) : Nat := if a % 4294967296 ^ i < b % 4294967296 ^ i then 1 else 0
theorem pS (a b : Nat) : bw a b 0 = 0 := by simp [bw, Nat.mod_one]
theorem pU (a b i : Nat) : bw a b i ≤ 1 := by unfold bw; split <;> omega
theorem bw_eq (a b i : Nat) : ∃ t, a % 4294967296 ^ i + bw a b i * 4294967296 ^ i = b % 4294967296 ^ i + t ∧ t < 4294967296 ^ i := by
  have h1 := Nat.mod_lt a (ft i)
  have h2 := Nat.mod_lt b (ft i)
  unfold bw
  split
  · exact ⟨a % 4294967296 ^ i + 1 * 4294967296 ^ i - b % 4294967296 ^ i, by omega, by omega⟩
  · exact ⟨a % 4294967296 ^ i - b % 4294967296 ^ i, by omega, by omega⟩
theorem pT {a b i : Nat} {x y : Nat} (hx : a / 4294967296 ^ i % 4294967296 = x) (hy : b / 4294967296 ^ i % 4294967296 = y) (h : b ≤ a) : bw a b (i + 1) = (if x < bw a b i + y then 1 else 0) ∧ (a - b) / 4294967296 ^ i % 4294967296 = (if x < bw a b i + y then x + 4294967296 - bw a b i - y else x - bw a b i - y) := by
  obtain ⟨t, ht, htl⟩ := bw_eq a b i
  have hbl := pU a b i
  have hxl : x < 4294967296 := by rw [← hx]; exact Nat.mod_lt _ (by decide)
  have hyl : y < 4294967296 := by rw [← hy]; exact Nat.mod_lt _ (by decide)
  have ea := gL a i
  have eb := gL b i
  rw [hx] at ea
  rw [hy] at eb
  have hd : ∃ d, d < 4294967296 ∧ d + bw a b i + y = x + (if x < bw a b i + y then 1 else 0) * 4294967296 := by
    split
    · exact ⟨x + 4294967296 - bw a b i - y, by omega, by omega⟩
    · exact ⟨x - bw a b i - y, by omega, by omega⟩
  obtain ⟨d, hdl, hde⟩ := hd
  have hP := ft i
  have key : a % 4294967296 ^ (i + 1) + (if x < bw a b i + y then 1 else 0) * 4294967296 ^ (i + 1) = b % 4294967296 ^ (i + 1) + (t + d * 4294967296 ^ i) := by
    rw [ea, eb, Nat.pow_succ]
    have e1 : (d + bw a b i + y) * 4294967296 ^ i = (x + (if x < bw a b i + y then 1 else 0) * 4294967296) * 4294967296 ^ i := by rw [hde]
    simp only [Nat.add_mul] at e1
    have e2 : (if x < bw a b i + y then 1 else 0) * (4294967296 ^ i * 4294967296) = (if x < bw a b i + y then 1 else 0) * 4294967296 * 4294967296 ^ i := by rw [Nat.mul_assoc, Nat.mul_comm 4294967296]
    rw [e2]
    omega
  have hs : t + d * 4294967296 ^ i < 4294967296 ^ (i + 1) := by
    rw [Nat.pow_succ]
    have : (d + 1) * 4294967296 ^ i ≤ 4294967296 * 4294967296 ^ i := Nat.mul_le_mul_right _ (by omega)
    rw [Nat.add_mul, Nat.one_mul, Nat.mul_comm 4294967296] at this
    omega
  have hal := Nat.mod_lt a (ft (i + 1))
  have hbl' := Nat.mod_lt b (ft (i + 1))
  have hc : bw a b (i + 1) = (if x < bw a b i + y then 1 else 0) := by
    conv => lhs; unfold bw
    split at key <;> split <;> simp_all <;> omega
  refine ⟨hc, ?_⟩
  have hab : (a - b) % 4294967296 ^ (i + 1) = t + d * 4294967296 ^ i := by
    have hA := Nat.div_add_mod a (4294967296 ^ (i + 1))
    have hB := Nat.div_add_mod b (4294967296 ^ (i + 1))
    generalize 4294967296 ^ (i + 1) = M at *
    generalize a / M = A at *
    generalize b / M = C at *
    have hK : ∃ K, a - b = M * K + (t + d * 4294967296 ^ i) := by
      split at key
      · have h1 : C + 1 ≤ A := Nat.lt_of_not_le fun hle => by
          have := Nat.mul_le_mul_left M hle
          omega
        have h2 := Nat.mul_le_mul_left M h1
        refine ⟨A - (C + 1), ?_⟩
        rw [Nat.mul_sub]
        rw [Nat.mul_add] at *
        omega
      · have h1 : C ≤ A := Nat.le_of_not_lt fun hlt => by
          have := Nat.mul_le_mul_left M (show A + 1 ≤ C from hlt)
          rw [Nat.mul_add] at this
          omega
        have h2 := Nat.mul_le_mul_left M h1
        refine ⟨A - C, ?_⟩
        rw [Nat.mul_sub]
        omega
    obtain ⟨K, hK⟩ := hK
    rw [hK, Nat.mul_add_mod, Nat.mod_eq_of_lt hs]
  have e : ∀ x, x / 4294967296 ^ i % 4294967296 = x % 4294967296 ^ (i + 1) / 4294967296 ^ i := fun x => by rw [Nat.pow_succ, Nat.mod_mul_right_div_self]
  rw [e, hab, hQ.1, Nat.div_eq_of_lt htl]
  split at hde <;> split <;> omega
end Go.Sx
namespace Go.Sx
open Go Go.RowKit
def mA (sv : Value) (n : Nat) : Value := match sv with | .slice a _ c => .slice a n c | _ => undef
section
variable {P : Program} {w0 : World} {N : Nat} {F : List (Nat × Value)} {L : List Asn} {a : Act} {w : World} {ops : Array Oper} {Q : Exit → Act → World → Prop} {rest : List Oper}
  {d : Nat} {op : Op} {ty : TypeId} {pos : String} {aft : Array Edge}
theorem pA {α : Type} [Cod α] {xs : List α} {n : Nat} (hn : n ≤ xs.length) : flat (xs.take n) = (flat xs).take (n * Cod.n α) := by
  have : flat xs = flat (xs.take n) ++ flat (xs.drop n) := by rw [← fL, List.take_append_drop]
  rw [this, List.take_left' (by rw [bM, List.length_take, Nat.min_eq_left hn])]
theorem View.cut {α : Type} [Cod α] {sv : Value} {xs : List α} {n : Nat} (h : View w sv xs) (hn : n ≤ xs.length) : View w (mA sv n) (xs.take n) := by
  obtain ⟨⟨h0, hc⟩, h1⟩ := h
  have hl : (xs.take n).length = n := by rw [List.length_take]; omega
  rcases h1 with ⟨rfl, rfl⟩ | ⟨g, off, cap, cur, e, fr, rfl, hh, hx⟩
  · have : n = 0 := by simpa using hn
    subst this
    exact ⟨⟨by simp, by simp [mA, pR]⟩, .inl ⟨rfl, by simp⟩⟩
  · refine ⟨⟨by omega, ?_⟩, .inr ⟨g, off, cap, cur, e, fr, by rw [hl]; rfl, hh, fun j hj => ?_⟩⟩
    · simp only [pR, mA] at hc ⊢; omega
    · rw [pA hn] at hj ⊢
      have hj2 := hj
      rw [List.length_take] at hj2
      rw [List.getElem?_take_of_lt (by omega)]
      exact hx j (by omega)
theorem View.cap {α : Type} [Cod α] {sv : Value} {xs : List α} (h : View w sv xs) : xs.length ≤ pR sv := h.1.2
theorem r_cut {α : Type} [Cod α] {t e' : TypeId} {x y : Operand} {sv : Value} {xs : List α} {k : IntKind} {n : Nat} {w1 : World} (hu : ∀ w, (underlying t).run P w = .ok (.slice e') w) (hz : ∀ w, (sizeOf e').run P w = .ok (Cod.n α) w) (hx : ev F x = some sv) (hy : ev F y = some (.int k (n : Int))) (hv : View w1 sv xs) (hn : n ≤ xs.length) :
    Rd P w0 F [] (.slice t x none (some y) none) (mA sv n) := by
  refine dB fun o a w ho ha => ?_
  have hc := hv.cap
  obtain ⟨_, ⟨rfl, rfl⟩ | ⟨g, off, cap, cur, e, fr, rfl, _⟩⟩ := hv
  · have : n = 0 := by simpa using hn
    subst this
    simp [execOp, ho, Instr.sliceAt, Instr.slice, Instr.sliceBounds, Instr.sliceBound, asIntOf, ha x _ hx, ha y _ hy, hu w, hz w, mA]
  · simp only [pR] at hc
    have h1 : (n : Int) ≤ (cap : Int) := by omega
    by_cases hc0 : cap = 0
    · simp [execOp, ho, Instr.sliceAt, Instr.slice, Instr.sliceBounds, Instr.sliceBound, asIntOf, ha x _ hx, ha y _ hy, hu w, hz w, h1, hc0, mA]
      omega
    · simp [execOp, ho, Instr.sliceAt, Instr.slice, Instr.sliceBounds, Instr.sliceBound, asIntOf, ha x _ hx, ha y _ hy, hu w, hz w, h1, hc0, mA, Addr.add]
      omega
theorem St.rowEq {α : Type} [Cod α] {e : TypeId} {sv : Value} {xs ys : List α} (h : St w0 N F L a w) (i : Nat) (hi : L[i]? = some (Asn.row e sv xs)) (hx : xs = ys) : St w0 N F (L.set i (.row e sv ys)) a w := by
  subst hx
  obtain ⟨hl, he⟩ := List.getElem?_eq_some_iff.1 hi
  have : L.set i (.row e sv xs) = L := by rw [← he]; exact List.set_getElem_self hl
  rw [this]; exact h
theorem pd {α : Type} {L : List α} {i j : Nat} {r s : α} (r' s' : α) (hij : i ≠ j) (hi : L[i]? = some r) (hj : L[j]? = some s) : ∃ B, L.Perm (r :: s :: B) ∧ (r' :: s' :: B).Perm ((L.set i r').set j s') := by
  have hil : i < L.length := (List.getElem?_eq_some_iff.1 hi).1
  have hri : L[i] = r := (List.getElem?_eq_some_iff.1 hi).2
  have h1 := fB hil
  rw [hri] at h1
  have h2 : (((L.set j s').set i r')).Perm (r' :: (L.set j s').eraseIdx i) := by
    have := fB (L := (L.set j s').set i r') (i := i) (by simpa using hil)
    rwa [List.getElem_set_self, List.eraseIdx_set_eq] at this
  rw [List.set_comm _ _ hij]
  rcases Nat.lt_or_gt_of_ne hij with h | h
  · obtain ⟨B, h3, h4⟩ := dX s' (L := L.eraseIdx i) (i := j - 1) (r := s) (by rw [List.getElem?_eraseIdx_of_ge (by omega), show j - 1 + 1 = j by omega]; exact hj)
    refine ⟨B, h1.trans (h3.cons r), ?_⟩
    rw [List.eraseIdx_set_lt h] at h2
    exact (h4.cons r').trans h2.symm
  · obtain ⟨B, h3, h4⟩ := dX s' (L := L.eraseIdx i) (i := j) (r := s) (by rw [List.getElem?_eraseIdx_of_lt h]; exact hj)
    refine ⟨B, h1.trans (h3.cons r), ?_⟩
    rw [List.eraseIdx_set_gt h] at h2
    exact (h4.cons r').trans h2.symm
theorem up2 (h : St w0 N F L a w) (i j : Nat) (hij : i ≠ j) {r s r' s' : Asn} {v : Value} (hi : L[i]? = some r) (hj : L[j]? = some s) (hs : gP P w0 F [r, s] op (· = v) (fun _ => [r', s'])) (hd : Nat.blt d N = true)
    (k : ∀ a w, St w0 N ((d, v) :: F) ((L.set i r').set j s') a w → wpList P ops Q rest a w) : wpList P ops Q (⟨some d, op, ty, pos, aft, none⟩ :: rest) a w :=
  wpList_plain rfl fun _ hK => by
    obtain ⟨B, hp, hp'⟩ := pd r' s' hij hi hj
    refine h.gen (A := [r, s]) (B := B) hp hs _ rfl fun v' _ U hv hb hs' => ?_
    subst hv
    exact hK _ _ (k _ _ (h.put hd v' hb (U := U) (hs'.perm hp')))
theorem r_ext {f : FuncId} {args : Array Operand} {ats : Array TypeId} {vs : List Value} {v : Value} (ha : evs F args.toList = some vs) (hc : ∀ w, (callFunc f vs.toArray).run P w = .ok (.value v) w) : Rd P w0 F [] (.call ⟨.value (.func f), args, ats⟩) v :=
  dB fun o a w ho hg => by
    have h1 : args.map a.eval = vs.toArray := by
      apply Array.ext'
      simp [Array.toList_map, hg.evs ha]
    have h2 : a.eval (.func f) = .func (.func f) #[] #[] := rfl
    simp [execOp, ho, resolve, Deferred.ofValue, h1, h2, invoke, hc]
theorem e7 {id : Nat} (h : Q .normal a w) : Exit.inBlock id Q .normal a w := h
end
end Go.Sx
