/- A part of the proof that the law BracketQuestions/Checks answers true at every input and leaves its arguments as they were. -/
import Derived.Test.YtbnldpccdppmiaaGreatDoorA5
import Derived.Lib.ItoaNum
import Derived.Laws.BitsAllLaws
set_option linter.unusedVariables false
set_option linter.unusedSimpArgs false
namespace Go.Sx
open Go Go.RowKit
theorem mG {D l j m : Nat} (h : l < 4294967296 ^ j) : (D * 4294967296 ^ j + l) / 4294967296 ^ (j + m) = D / 4294967296 ^ m := by
  rw [iT, Nat.mul_comm, Nat.mul_add_div (ft j), Nat.div_eq_of_lt h, Nat.add_zero]
theorem win_mod {D l j m : Nat} (h : l < 4294967296 ^ j) : (D * 4294967296 ^ j + l) % 4294967296 ^ (j + m) = D % 4294967296 ^ m * 4294967296 ^ j + l := by
  have h1 := j0 (D * 4294967296 ^ j + l) (j + m)
  rw [mG h, g5] at h1
  have h2 := j0 D m
  rw [g5]
  have h3 : D * 4294967296 ^ j = D / 4294967296 ^ m * (4294967296 ^ j * 4294967296 ^ m) + D % 4294967296 ^ m * 4294967296 ^ j := by
    conv => lhs; rw [← h2, Nat.add_mul]
    rw [Nat.mul_assoc, Nat.mul_comm (4294967296 ^ m)]
  omega
theorem l4 {D l j X : Nat} (h : l = X % 4294967296 ^ j) : mx X j (D * 4294967296 ^ j + l) = X := by
  unfold mx
  subst h
  rw [Nat.mul_comm D, Nat.mul_add_mod, Nat.mod_mod, j0]
theorem oF {D l j m X : Nat} (hX : X < 4294967296 ^ (j + m)) (h : l < 4294967296 ^ j) : mx X (j + m) (D * 4294967296 ^ j + l) = D % 4294967296 ^ m * 4294967296 ^ j + l := by
  unfold mx
  rw [Nat.div_eq_of_lt hX, win_mod h]; simp
theorem p5 {U n i : Nat} (h : i ≤ n) : (U + 4294967296 ^ (n + 1)) / 4294967296 ^ i % 4294967296 = U / 4294967296 ^ i % 4294967296 := by
  obtain ⟨c, rfl⟩ : ∃ c, n = i + c := ⟨n - i, by omega⟩
  rw [show i + c + 1 = (c + 1) + i by omega, g5, Nat.add_mul_div_right _ _ (ft i), Nat.pow_succ, Nat.add_mul_mod_self_right]
structure DS (X Y n j : Nat) : Prop where
  n2 : 2 ≤ n
  hX : X < Y * 4294967296 ^ (j + 1)
  hY : Y < 4294967296 ^ n
  hh : 4294967296 ^ n ≤ 2 * Y
namespace DS
variable {X Y n j : Nat} (h : DS X Y n j)
include h
theorem pos : 0 < Y := by have := h.hh; have := ft n; omega
theorem hXn : X < 4294967296 ^ (j + n + 1) := by
  have h1 := h.hX
  have h2 : Y * 4294967296 ^ (j + 1) ≤ 4294967296 ^ n * 4294967296 ^ (j + 1) := Nat.mul_le_mul_right _ (Nat.le_of_lt h.hY)
  rw [show j + n + 1 = n + (j + 1) by omega, g5]
  omega
theorem hU : X / 4294967296 ^ j < Y * 4294967296 := by
  have h1 := h.hX
  have e : Y * 4294967296 ^ (j + 1) = Y * 4294967296 * 4294967296 ^ j := by rw [Nat.pow_succ, Nat.mul_comm (4294967296 ^ j) 4294967296, Nat.mul_assoc]
  rw [e] at h1
  exact (Nat.div_lt_iff_lt_mul (ft j)).2 h1
theorem hUn : X / 4294967296 ^ j < 4294967296 ^ (n + 1) := by
  have h1 := h.hU
  have h2 : Y * 4294967296 ≤ 4294967296 ^ n * 4294967296 := Nat.mul_le_mul_right _ (Nat.le_of_lt h.hY)
  rw [Nat.pow_succ]; exact Nat.lt_of_lt_of_le h1 h2
theorem q_lt : X / 4294967296 ^ j / Y < 4294967296 := by
  rw [Nat.div_lt_iff_lt_mul h.pos, Nat.mul_comm]; exact h.hU
theorem v1_hi : 2147483648 ≤ Y / 4294967296 ^ (n - 1) := by
  have hn := h.n2
  rw [Nat.le_div_iff_mul_le (ft _)]
  have h1 := h.hh
  rw [show n = (n - 1) + 1 by omega, Nat.pow_succ] at h1
  omega
theorem v1_lt : Y / 4294967296 ^ (n - 1) < 4294967296 := by
  have hn := h.n2
  rw [Nat.div_lt_iff_lt_mul (ft _), Nat.mul_comm, ← Nat.pow_succ, show (n - 1).succ = n by omega]
  exact h.hY
theorem v1_dig : Y / 4294967296 ^ (n - 1) % 4294967296 = Y / 4294967296 ^ (n - 1) := Nat.mod_eq_of_lt h.v1_lt
theorem Ytwo : Y / 4294967296 ^ (n - 2) = Y / 4294967296 ^ (n - 1) * 4294967296 + Y / 4294967296 ^ (n - 2) % 4294967296 := by
  have hn := h.n2
  have := oI (X := Y) (m := n - 2) (by rw [show n - 2 + 2 = n by omega]; exact h.hY)
  rw [show n - 2 + 1 = n - 1 by omega, h.v1_dig] at this
  exact this
theorem hi_two : X / 4294967296 ^ (j + n - 1) = X / 4294967296 ^ (j + n) % 4294967296 * 4294967296 + X / 4294967296 ^ (j + n - 1) % 4294967296 := by
  have hn := h.n2
  have := oI (X := X) (m := j + n - 1) (by rw [show j + n - 1 + 2 = j + n + 1 by omega]; exact h.hXn)
  rwa [show j + n - 1 + 1 = j + n by omega] at this
theorem U_hi : X / 4294967296 ^ (j + n - 1) = X / 4294967296 ^ j / 4294967296 ^ (n - 1) := by
  have hn := h.n2
  rw [← iT, show j + (n - 1) = j + n - 1 by omega]
theorem U3 : X / 4294967296 ^ j / 4294967296 ^ (n - 2) = X / 4294967296 ^ (j + n - 1) * 4294967296 + X / 4294967296 ^ (j + n - 2) % 4294967296 := by
  have hn := h.n2
  have e1 : X / 4294967296 ^ j / 4294967296 ^ (n - 2) = X / 4294967296 ^ (j + n - 2) := by rw [← iT, show j + (n - 2) = j + n - 2 by omega]
  have e2 : X / 4294967296 ^ (j + n - 1) = X / 4294967296 ^ (j + n - 2) / 4294967296 := by
    rw [show j + n - 1 = (j + n - 2) + 1 by omega, Nat.pow_succ, Nat.div_div_eq_div_mul]
  rw [e1, e2]; omega
theorem hi_lt : X / 4294967296 ^ (j + n - 1) < (Y / 4294967296 ^ (n - 1) + 1) * 4294967296 := by
  have hn := h.n2
  rw [h.U_hi, Nat.div_lt_iff_lt_mul (ft _)]
  have h1 := h.hU
  have h2 : Y < (Y / 4294967296 ^ (n - 1) + 1) * 4294967296 ^ (n - 1) := by
    have := j0 Y (n - 1)
    have := Nat.mod_lt Y (ft (n - 1))
    rw [Nat.add_mul]; omega
  have h3 := Nat.mul_le_mul_right 4294967296 (Nat.le_of_lt h2)
  rw [Nat.mul_assoc] at h3 ⊢
  rw [Nat.mul_comm 4294967296]
  omega
theorem guess0 : X / 4294967296 ^ j / Y ≤ X / 4294967296 ^ (j + n - 1) / (Y / 4294967296 ^ (n - 1)) := by
  have hv := h.v1_hi
  rw [Nat.le_div_iff_mul_le (by omega), h.U_hi, Nat.le_div_iff_mul_le (ft _), Nat.mul_assoc]
  calc X / 4294967296 ^ j / Y * (Y / 4294967296 ^ (n - 1) * 4294967296 ^ (n - 1)) ≤ X / 4294967296 ^ j / Y * Y := Nat.mul_le_mul_left _ (Nat.div_mul_le_self _ _)
    _ ≤ X / 4294967296 ^ j := Nat.div_mul_le_self _ _
theorem step {g r : Nat} (hg : g * (Y / 4294967296 ^ (n - 1)) + r = X / 4294967296 ^ (j + n - 1)) (hle : X / 4294967296 ^ j / Y ≤ g) (hc : 4294967296 ≤ g ∨ r * 4294967296 + X / 4294967296 ^ (j + n - 2) % 4294967296 < g * (Y / 4294967296 ^ (n - 2) % 4294967296)) :
    X / 4294967296 ^ j / Y ≤ g - 1 ∧ 1 ≤ g ∧ (g - 1) * (Y / 4294967296 ^ (n - 1)) + (r + Y / 4294967296 ^ (n - 1)) = X / 4294967296 ^ (j + n - 1) := by
  have h1 := oo (P := 4294967296 ^ (n - 2)) (U := X / 4294967296 ^ j) rfl h.pos h.q_lt (ft _) (by
    rw [← h.U3]
    have := j0 (X / 4294967296 ^ j) (n - 2)
    have := Nat.mod_lt (X / 4294967296 ^ j) (ft (n - 2))
    rw [Nat.add_mul]; omega) (by rw [← h.Ytwo]; exact Nat.div_mul_le_self _ _) hg hle hc
  refine ⟨h1.1, h1.2, ?_⟩
  obtain ⟨g', rfl⟩ : ∃ g', g = g' + 1 := ⟨g - 1, by omega⟩
  rw [Nat.add_mul] at hg
  simp only [Nat.add_sub_cancel]
  omega
theorem done {g r : Nat} (hg : g * (Y / 4294967296 ^ (n - 1)) + r = X / 4294967296 ^ (j + n - 1)) (hc : (g < 4294967296 ∧ g * (Y / 4294967296 ^ (n - 2) % 4294967296) ≤ r * 4294967296 + X / 4294967296 ^ (j + n - 2) % 4294967296) ∨ 4294967296 ≤ r) : g ≤ X / 4294967296 ^ j / Y + 1 ∧ g < 4294967296 := by
  have hn := h.n2
  have hv2 : Y / 4294967296 ^ (n - 2) % 4294967296 < 4294967296 := Nat.mod_lt _ (by decide)
  have hgB : g < 4294967296 := by
    rcases hc with hc | hc
    · exact hc.1
    · have h1 := h.hi_lt
      have h2 : g * (Y / 4294967296 ^ (n - 1)) < 4294967296 * (Y / 4294967296 ^ (n - 1)) := by rw [Nat.add_mul] at h1; rw [Nat.mul_comm 4294967296]; omega
      exact Nat.lt_of_mul_lt_mul_right h2
  have hc' : g * (Y / 4294967296 ^ (n - 2) % 4294967296) ≤ r * 4294967296 + X / 4294967296 ^ (j + n - 2) % 4294967296 := by
    rcases hc with hc | hc
    · exact hc.2
    · have h1 : g * (Y / 4294967296 ^ (n - 2) % 4294967296) ≤ 4294967296 * 4294967296 := Nat.mul_le_mul (Nat.le_of_lt hgB) (Nat.le_of_lt hv2)
      have h2 : 4294967296 * 4294967296 ≤ r * 4294967296 := Nat.mul_le_mul_right _ hc
      omega
  refine ⟨oq (P := 4294967296 ^ (n - 2)) (U := X / 4294967296 ^ j) rfl h.pos ?_ ?_ hg hgB ?_ hv2 hc', hgB⟩
  · rw [← h.U3]; exact Nat.div_mul_le_self _ _
  · rw [← h.Ytwo]
    have := j0 Y (n - 2)
    have := Nat.mod_lt Y (ft (n - 2))
    rw [Nat.add_mul]; omega
  · have h1 := h.hh
    rw [show n = (n - 2) + 1 + 1 by omega, Nat.pow_succ, Nat.pow_succ] at h1
    omega
theorem P_lt {g : Nat} (hgB : g < 4294967296) : g * Y < 4294967296 ^ (n + 1) := by
  have h1 := h.hY
  rw [Nat.pow_succ, Nat.mul_comm]
  calc Y * g ≤ Y * 4294967296 := Nat.mul_le_mul_left _ (Nat.le_of_lt hgB)
    _ < 4294967296 ^ n * 4294967296 := Nat.mul_lt_mul_of_pos_right h1 (by decide)
theorem P_le {g : Nat} (hgB : g < 4294967296) : g * Y ≤ X / 4294967296 ^ j + 4294967296 ^ (n + 1) := Nat.le_trans (Nat.le_of_lt (h.P_lt hgB)) (Nat.le_add_left _ _)
theorem sub_step {g i : Nat} (hgB : g < 4294967296) (hi : i ≤ n) : bw (X / 4294967296 ^ j + 4294967296 ^ (n + 1)) (g * Y) (i + 1) = (if X / 4294967296 ^ (j + i) % 4294967296 < bw (X / 4294967296 ^ j + 4294967296 ^ (n + 1)) (g * Y) i + g * Y / 4294967296 ^ i % 4294967296 then 1 else 0) ∧
    (X / 4294967296 ^ j + 4294967296 ^ (n + 1) - g * Y) / 4294967296 ^ i % 4294967296 = (if X / 4294967296 ^ (j + i) % 4294967296 < bw (X / 4294967296 ^ j + 4294967296 ^ (n + 1)) (g * Y) i + g * Y / 4294967296 ^ i % 4294967296 then X / 4294967296 ^ (j + i) % 4294967296 + 4294967296 - bw (X / 4294967296 ^ j + 4294967296 ^ (n + 1)) (g * Y) i - g * Y / 4294967296 ^ i % 4294967296 else X / 4294967296 ^ (j + i) % 4294967296 - bw (X / 4294967296 ^ j + 4294967296 ^ (n + 1)) (g * Y) i - g * Y / 4294967296 ^ i % 4294967296) :=
  pT (by rw [p5 hi, ← iT]) rfl (h.P_le hgB)
theorem prod_step (g i : Nat) : g * Y / 4294967296 ^ i % 4294967296 = (mc 0 g Y i + g * (Y / 4294967296 ^ i % 4294967296)) % 4294967296 ∧ mc 0 g Y (i + 1) = (mc 0 g Y i + g * (Y / 4294967296 ^ i % 4294967296)) / 4294967296 := by
  have _h := h
  have h1 := ns 0 g Y i
  have h2 := pk 0 g Y i
  simp only [Nat.zero_add, Nat.zero_div, Nat.zero_mod] at h1 h2
  exact ⟨h1, h2⟩
theorem prod_top {g : Nat} (hgB : g < 4294967296) : mc 0 g Y n = g * Y / 4294967296 ^ n % 4294967296 := by
  have h1 := pm (p := 0) (d := g) (ft n) h.hY
  have h2 := mc_lt (p := 0) (b := Y) (k := n) hgB
  rw [h1, Nat.zero_add] at h2 ⊢
  exact (Nat.mod_eq_of_lt h2).symm
theorem top_sign {g : Nat} (hgB : g < 4294967296) : bw (X / 4294967296 ^ j + 4294967296 ^ (n + 1)) (g * Y) (n + 1) = if X / 4294967296 ^ j < g * Y then 1 else 0 := by
  unfold bw
  rw [Nat.add_mod_right, Nat.mod_eq_of_lt h.hUn, Nat.mod_eq_of_lt (h.P_lt hgB)]
theorem guess_pos {g : Nat} (hle : X / 4294967296 ^ j / Y ≤ g) (hs : ¬ X / 4294967296 ^ j < g * Y) : g = X / 4294967296 ^ j / Y :=
  Nat.le_antisymm ((Nat.le_div_iff_mul_le h.pos).2 (by omega)) hle
theorem guess_neg {g : Nat} (hle : g ≤ X / 4294967296 ^ j / Y + 1) (hs : X / 4294967296 ^ j < g * Y) : g = X / 4294967296 ^ j / Y + 1 := by
  have _h := h
  have : ¬ g ≤ X / 4294967296 ^ j / Y := fun hle => by
    have := Nat.mul_le_mul_right Y hle
    have := Nat.div_mul_le_self (X / 4294967296 ^ j) Y
    omega
  omega
theorem diff_pos {g : Nat} (hgB : g < 4294967296) (hle : X / 4294967296 ^ j / Y ≤ g) (hs : ¬ X / 4294967296 ^ j < g * Y) : (X / 4294967296 ^ j + 4294967296 ^ (n + 1) - g * Y) % 4294967296 ^ (n + 1) = X / 4294967296 ^ j % Y := by
  have h1 := h.guess_pos hle hs
  have h2 := Nat.div_add_mod (X / 4294967296 ^ j) Y
  have h3 := h.hUn
  have h4 : g * Y = Y * (X / 4294967296 ^ j / Y) := by rw [h1, Nat.mul_comm]
  rw [show X / 4294967296 ^ j + 4294967296 ^ (n + 1) - g * Y = X / 4294967296 ^ j % Y + 4294967296 ^ (n + 1) by omega, Nat.add_mod_right]
  exact Nat.mod_eq_of_lt (by omega)
theorem diff_neg {g : Nat} (hle : g ≤ X / 4294967296 ^ j / Y + 1) (hs : X / 4294967296 ^ j < g * Y) : (X / 4294967296 ^ j + 4294967296 ^ (n + 1) - g * Y) % 4294967296 ^ (n + 1) + Y = X / 4294967296 ^ j % Y + 4294967296 ^ (n + 1) ∧ ((X / 4294967296 ^ j + 4294967296 ^ (n + 1) - g * Y) % 4294967296 ^ (n + 1) + Y) % 4294967296 ^ (n + 1) = X / 4294967296 ^ j % Y := by
  have h1 := h.guess_neg hle hs
  have h2 := Nat.div_add_mod (X / 4294967296 ^ j) Y
  have h3 := Nat.mod_lt (X / 4294967296 ^ j) h.pos
  have h5 := h.hY
  have h6 := ft n
  have h7 : 4294967296 ^ n < 4294967296 ^ (n + 1) := Nat.pow_lt_pow_right (by decide) (by omega)
  have h4 : g * Y = Y * (X / 4294967296 ^ j / Y) + Y := by rw [h1, Nat.add_mul, Nat.one_mul, Nat.mul_comm]
  have h8 : (X / 4294967296 ^ j + 4294967296 ^ (n + 1) - g * Y) % 4294967296 ^ (n + 1) = X / 4294967296 ^ j + 4294967296 ^ (n + 1) - g * Y := Nat.mod_eq_of_lt (by omega)
  have h9 : X / 4294967296 ^ j + 4294967296 ^ (n + 1) - g * Y + Y = X / 4294967296 ^ j % Y + 4294967296 ^ (n + 1) := by omega
  rw [h8, h9]
  refine ⟨rfl, ?_⟩
  rw [Nat.add_mod_right]
  exact Nat.mod_eq_of_lt (by omega)
end DS
def kT (X Y j : Nat) : Nat := X / 4294967296 ^ j % Y * 4294967296 ^ j + X % 4294967296 ^ j
theorem nextX_lt {X Y j : Nat} (hY : 0 < Y) : kT X Y j < Y * 4294967296 ^ j := by
  have h1 := Nat.mod_lt (X / 4294967296 ^ j) hY
  have h2 := Nat.mod_lt X (ft j)
  have h3 := Nat.mul_le_mul_right (4294967296 ^ j) (show X / 4294967296 ^ j % Y + 1 ≤ Y from h1)
  rw [Nat.add_mul] at h3
  unfold kT; omega
theorem pi (X Y j q : Nat) : kT X Y j + Y * (q + X / 4294967296 ^ j / Y * 4294967296 ^ j) = X + Y * q := by
  have h1 := j0 X j
  have h2 := Nat.div_add_mod (X / 4294967296 ^ j) Y
  have h3 : X / 4294967296 ^ j * 4294967296 ^ j = Y * (X / 4294967296 ^ j / Y * 4294967296 ^ j) + X / 4294967296 ^ j % Y * 4294967296 ^ j := by
    conv => lhs; rw [← h2]
    rw [Nat.add_mul, Nat.mul_assoc]
  unfold kT
  rw [Nat.mul_add]
  omega
theorem ph {q j c : Nat} (h : q % 4294967296 ^ (j + 1) = 0) : (q + c * 4294967296 ^ j) % 4294967296 ^ j = 0 := by
  rw [Nat.add_mul_mod_self_right]
  rw [Nat.pow_succ, Nat.mod_mul] at h
  omega
theorem q_digit {q j : Nat} (h : q % 4294967296 ^ (j + 1) = 0) : q / 4294967296 ^ j % 4294967296 = 0 := by rw [kH, h, Nat.zero_div]
end Go.Sx
namespace Go.Sx
open Go Go.RowKit
theorem nE {n v s q : Nat} (h : v / 4294967296 ^ q % 4294967296 = 0) (hs : s < 4294967296) : (dgs n v).set q s = dgs n (v + s * 4294967296 ^ q) := by
  have := m0 (n := n) (v := v) (s := s) (q := q) (by omega)
  rwa [h, Nat.zero_add] at this
theorem lY {k : Nat} (a b c : Nat) (hc : c = a * 2 ^ k) (ha : b < 2 ^ k) (hb : c < 4294967296) (hb' : b < 4294967296) : bits .or .u32 (b : Int) ((c : Nat) : Int) = ((b + c : Nat) : Int) := by
  subst hc; exact jD a b ha hb hb'
theorem po {d s : Nat} (hs : s ≤ 32) : d * 2 ^ s % 4294967296 = d % 2 ^ (32 - s) * 2 ^ s := by
  have : 4294967296 = 2 ^ (32 - s) * 2 ^ s := by rw [← Nat.pow_add, show 32 - s + s = 32 by omega]
  rw [this, Nat.mul_mod_mul_right]
def shc (v s i : Nat) : Nat := v % 4294967296 ^ i * 2 ^ s / 4294967296 ^ i
theorem oY (v s i : Nat) : shc v s i < 2 ^ s := by
  unfold shc
  rw [Nat.div_lt_iff_lt_mul (ft i), Nat.mul_comm]
  exact Nat.mul_lt_mul_of_pos_left (Nat.mod_lt _ (ft i)) (Nat.pow_pos (by decide))
theorem mJ {v s i d : Nat} (hs : s ≤ 32) : shc v s i + d * 2 ^ s % 4294967296 < 4294967296 := by
  have h1 := oY v s i
  rw [po hs]
  have h2 : d % 2 ^ (32 - s) + 1 ≤ 2 ^ (32 - s) := Nat.mod_lt _ (Nat.pow_pos (by decide))
  have h3 := Nat.mul_le_mul_right (2 ^ s) h2
  rw [Nat.add_mul, ← Nat.pow_add, show 32 - s + s = 32 by omega] at h3
  have : 2 ^ 32 = 4294967296 := rfl
  omega
theorem ls {v s i : Nat} (hs : s ≤ 32) : v % 4294967296 ^ i * 2 ^ s / 4294967296 ^ i % 4294967296 = shc v s i := by
  have h1 := oY v s i
  have h2 : 2 ^ s ≤ 2 ^ 32 := Nat.pow_le_pow_right (by decide) hs
  have : 2 ^ 32 = 4294967296 := rfl
  exact Nat.mod_eq_of_lt (show shc v s i < 4294967296 by omega)
theorem sh_get {n v s i : Nat} (hs : s ≤ 32) (hi : i < n) : (dgs n (v % 4294967296 ^ i * 2 ^ s))[i]? = some (shc v s i) := by rw [dl hi, ls hs]
theorem sh_or {v s i d : Nat} (hs : s ≤ 32) : bits .or .u32 ((shc v s i : Nat) : Int) ((d * 2 ^ s % 4294967296 : Nat) : Int) = ((shc v s i + d * 2 ^ s % 4294967296 : Nat) : Int) := by
  have h1 := mJ (v := v) (i := i) (d := d) hs
  exact lY (k := s) (d % 2 ^ (32 - s)) _ _ (po hs) (oY v s i) (by omega) (by omega)
theorem sh_word {d s : Nat} (hs : s ≤ 32) (hd : d < 4294967296) : d * 2 ^ s < 18446744073709551616 := by
  have h2 : 2 ^ s ≤ 2 ^ 32 := Nat.pow_le_pow_right (by decide) hs
  have h3 : 2 ^ 32 = 4294967296 := rfl
  rw [h3] at h2
  have := Nat.mul_le_mul (show d ≤ 4294967295 by omega) h2
  omega
theorem sh_set1 {n v s i d : Nat} (hs : s ≤ 32) : (dgs n (v % 4294967296 ^ i * 2 ^ s)).set i (shc v s i + d * 2 ^ s % 4294967296) = dgs n (v % 4294967296 ^ i * 2 ^ s + d * 2 ^ s % 4294967296 * 4294967296 ^ i) := by
  have := m0 (n := n) (v := v % 4294967296 ^ i * 2 ^ s) (s := d * 2 ^ s % 4294967296) (q := i) (by rw [ls hs]; exact mJ hs)
  rwa [ls hs] at this
theorem sh_next (v s i : Nat) : v % 4294967296 ^ (i + 1) * 2 ^ s = v % 4294967296 ^ i * 2 ^ s + v / 4294967296 ^ i % 4294967296 * 2 ^ s * 4294967296 ^ i := by
  rw [gL, Nat.add_mul, Nat.mul_right_comm]
theorem sh_zero {v s i : Nat} (hs : s ≤ 32) {d : Nat} : (v % 4294967296 ^ i * 2 ^ s + d * 2 ^ s % 4294967296 * 4294967296 ^ i) / 4294967296 ^ (i + 1) % 4294967296 = 0 := by
  rw [Nat.pow_succ, ← Nat.div_div_eq_div_mul, Nat.add_mul_div_right _ _ (ft i)]
  have h1 : v % 4294967296 ^ i * 2 ^ s / 4294967296 ^ i + d * 2 ^ s % 4294967296 < 4294967296 := mJ (v := v) (i := i) hs
  rw [Nat.div_eq_of_lt h1]
theorem sh_set2 {n v s i : Nat} (hs : s ≤ 32) : (dgs n (v % 4294967296 ^ i * 2 ^ s + v / 4294967296 ^ i % 4294967296 * 2 ^ s % 4294967296 * 4294967296 ^ i)).set (i + 1) (v / 4294967296 ^ i % 4294967296 * 2 ^ s / 4294967296) = dgs n (v % 4294967296 ^ (i + 1) * 2 ^ s) := by
  have h0 : v / 4294967296 ^ i % 4294967296 * 2 ^ s / 4294967296 < 4294967296 := by
    rw [Nat.div_lt_iff_lt_mul (by decide)]
    have h2 : 2 ^ s ≤ 2 ^ 32 := Nat.pow_le_pow_right (by decide) hs
    have h3 : 2 ^ 32 = 4294967296 := rfl
    rw [h3] at h2
    exact Nat.lt_of_le_of_lt (Nat.mul_le_mul_left _ h2) (Nat.mul_lt_mul_of_pos_right (Nat.mod_lt _ (by decide)) (by decide))
  rw [nE (sh_zero hs) h0, sh_next]
  congr 1
  have h4 := Nat.div_add_mod (v / 4294967296 ^ i % 4294967296 * 2 ^ s) 4294967296
  have h5 : v / 4294967296 ^ i % 4294967296 * 2 ^ s * 4294967296 ^ i = v / 4294967296 ^ i % 4294967296 * 2 ^ s % 4294967296 * 4294967296 ^ i + v / 4294967296 ^ i % 4294967296 * 2 ^ s / 4294967296 * 4294967296 ^ (i + 1) := by
    conv => lhs; rw [← h4]
    rw [Nat.add_mul, Nat.pow_succ, Nat.add_comm, Nat.mul_comm 4294967296, Nat.mul_assoc (_ / 4294967296), Nat.mul_comm 4294967296 (4294967296 ^ i)]
  omega
theorem oX {X s : Nat} (hs : s ≤ 32) (i : Nat) : X / 2 ^ s / 4294967296 ^ i % 4294967296 = (X / 4294967296 ^ (i + 1) % 4294967296 * 4294967296 + X / 4294967296 ^ i % 4294967296) / 2 ^ s % 4294967296 := by
  have e1 : X / 2 ^ s / 4294967296 ^ i = X / 4294967296 ^ i / 2 ^ s := by rw [Nat.div_div_eq_div_mul, Nat.div_div_eq_div_mul, Nat.mul_comm]
  have e2 : X / 4294967296 ^ (i + 1) = X / 4294967296 ^ i / 4294967296 := by rw [Nat.pow_succ, Nat.div_div_eq_div_mul]
  rw [e1, e2]
  generalize X / 4294967296 ^ i = T
  have h1 : T = T / 4294967296 / 4294967296 * (4294967296 * 2 ^ (32 - s)) * 2 ^ s + (T / 4294967296 % 4294967296 * 4294967296 + T % 4294967296) := by
    have h3 : 2 ^ (32 - s) * 2 ^ s = 4294967296 := by rw [← Nat.pow_add, show 32 - s + s = 32 by omega]
    rw [Nat.mul_assoc, Nat.mul_assoc 4294967296, h3]
    omega
  conv => lhs; rw [h1]
  rw [Nat.add_comm, Nat.add_mul_div_right _ _ (Nat.pow_pos (by decide)), Nat.mul_left_comm, Nat.add_mul_mod_self_left]
theorem mP {n a i t : Nat} : (dgs n (mx a (i + 1) t)).set i (a / 4294967296 ^ i % 4294967296) = dgs n (mx a i t) := by
  apply List.ext_getElem?
  intro j
  by_cases hj : j < n
  · rw [dl hj]
    by_cases e : j = i
    · subst e
      rw [List.getElem?_set_self (by rw [ci]; exact hj), i0 (Nat.le_refl _)]
    · rw [List.getElem?_set_ne (Ne.symm e), dl hj]
      rcases Nat.lt_or_gt_of_ne e with h | h
      · rw [lb h, lb (by omega)]
      · rw [i0 (by omega), i0 (by omega)]
  · rw [List.getElem?_eq_none (by rw [List.length_set, ci]; omega), List.getElem?_eq_none (by rw [ci]; omega)]
theorem lc {n a i t : Nat} (h : i < n) : (dgs n (mx a (i + 1) t))[i]? = some (t / 4294967296 ^ i % 4294967296) := by rw [dl h, lb (by omega)]
theorem nZ (T B d : Nat) (hB : 0 < B) (hb : 0 < d) : (T / B % d * B + T % B) / d = T / d % B ∧ (T / B % d * B + T % B) % d = T % d := by
  have h1 := Nat.div_add_mod T B
  have h2 := Nat.div_add_mod (T / B) d
  have hr := Nat.mod_lt (T / B) hb
  have h5 := Nat.mul_le_mul_right B (show T / B % d + 1 ≤ d from hr)
  have h6 := Nat.mod_lt T hB
  generalize T % B = m at *
  generalize T / B = Q at *
  generalize Q % d = r at *
  generalize Q / d = q at *
  have h4 : r * B + m < B * d := by
    rw [Nat.add_mul] at h5
    rw [Nat.mul_comm B d]
    omega
  have h3 : T = (r * B + m) + q * B * d := by
    rw [← h1, ← h2, Nat.mul_add, Nat.mul_comm B r, ← Nat.mul_assoc, Nat.mul_comm (B * d) q, ← Nat.mul_assoc]
    omega
  subst h3
  constructor
  · rw [Nat.add_mul_div_right _ _ hb, Nat.add_mul_mod_self_right]
    exact (Nat.mod_eq_of_lt (by rw [Nat.div_lt_iff_lt_mul hb]; exact h4)).symm
  · rw [Nat.add_mul_mod_self_right]
theorem nY {v by' i : Nat} (hb : 0 < by') : (v / 4294967296 ^ (i + 1) % by' * 4294967296 + v / 4294967296 ^ i % 4294967296) / by' = v / by' / 4294967296 ^ i % 4294967296 ∧ (v / 4294967296 ^ (i + 1) % by' * 4294967296 + v / 4294967296 ^ i % 4294967296) % by' = v / 4294967296 ^ i % by' := by
  have e2 : v / 4294967296 ^ (i + 1) = v / 4294967296 ^ i / 4294967296 := by rw [Nat.pow_succ, Nat.div_div_eq_div_mul]
  have e1 : v / by' / 4294967296 ^ i = v / 4294967296 ^ i / by' := by rw [Nat.div_div_eq_div_mul, Nat.div_div_eq_div_mul, Nat.mul_comm]
  rw [e1, e2]
  exact nZ _ _ _ (by decide) hb
theorem ob {t : Nat} (h0 : t ≠ 0) (h : t < 4294967296) : Lib.bitLen t ≤ 32 ∧ 1 ≤ Lib.bitLen t ∧ t * 2 ^ (32 - Lib.bitLen t) < 4294967296 ∧ 2147483648 ≤ t * 2 ^ (32 - Lib.bitLen t) := by
  obtain ⟨h1, h2, h3⟩ := Lib.bitLenAux_bounds 64 t (by omega) h0
  change 1 ≤ Lib.bitLen t at h1
  change 2 ^ (Lib.bitLen t - 1) ≤ t at h2
  change t < 2 ^ Lib.bitLen t at h3
  have h4 : Lib.bitLen t ≤ 32 := by
    refine Nat.le_of_not_lt fun hlt => ?_
    have : 2 ^ 32 ≤ 2 ^ (Lib.bitLen t - 1) := Nat.pow_le_pow_right (by decide) (by omega)
    have h5 : 2 ^ 32 = 4294967296 := rfl
    omega
  refine ⟨h4, h1, ?_, ?_⟩
  · have : t * 2 ^ (32 - Lib.bitLen t) < 2 ^ Lib.bitLen t * 2 ^ (32 - Lib.bitLen t) := Nat.mul_lt_mul_of_pos_right h3 (Nat.pow_pos (by decide))
    rw [← Nat.pow_add, show Lib.bitLen t + (32 - Lib.bitLen t) = 32 by omega] at this
    exact this
  · have : 2 ^ (Lib.bitLen t - 1) * 2 ^ (32 - Lib.bitLen t) ≤ t * 2 ^ (32 - Lib.bitLen t) := Nat.mul_le_mul_right _ h2
    rw [← Nat.pow_add, show Lib.bitLen t - 1 + (32 - Lib.bitLen t) = 31 by omega] at this
    exact this
end Go.Sx
namespace Go.Sx
open Go Go.RowKit
section
variable {P : Program} {w0 : World} {N : Nat} {F : List (Nat × Value)} {L : List Asn} {a : Act} {w : World} {ops : Array Oper} {Q : Exit → Act → World → Prop} {rest : List Oper}
  {d : Nat} {op : Op} {ty : TypeId} {pos : String} {aft : Array Edge}
def Asn.all (lo : Nat) (L : List Asn) : Asn := ⟨fun w f => Sep lo w L f, fun h hs => hs.moved h⟩
theorem sep_all {lo : Nat} {A : Asn} {B : List Asn} {U : Fp} (h : Sep lo w (A :: B) U) : Sep lo w [A, .all lo B] U := by
  obtain ⟨f, V, hU, hd, hf, hr, hs⟩ := h
  exact ⟨f, V, hU, hd, hf, hr, V, fun _ => False, fun k => by simp, fun _ _ => id, fun k hk => hs.range k hk, hs, fun _ => id⟩
theorem all_sep {lo : Nat} {A : Asn} {B : List Asn} {U : Fp} (h : Sep lo w [A, .all lo B] U) : Sep lo w (A :: B) U := by
  obtain ⟨f, V, hU, hd, hf, hr, g, W, hV, _, _, hs, hW⟩ := h
  exact ⟨f, V, hU, hd, hf, hr, hs.congr fun k => by rw [hV k]; exact ⟨.inl, fun h => h.resolve_right (hW k)⟩⟩
def RetX (w0 : World) (v : Value) (L : List Asn) : Ending → World → Prop := fun e w' => e = .returned v ∧ Below w0.heap.size w0 w' ∧ ∃ U, Sep w0.heap.size w' L U
theorem St.retX (h : St w0 N F L a w) {v u : Value} (e : v = u) : RetX w0 u L (.returned v) w := ⟨by rw [e], h.bel, h.sep⟩
theorem nC {f : FuncId} {fn : Func} {c : Code} {args : List Value} {R : Ending → World → Prop} (hf : P.funcs[f]? = some fn) (hb : fn.body = some c) (hN : args.length + (fn.ntmps - args.length) = N)
    (hbel : Below w0.heap.size w0 w) (hsep : ∃ U, Sep w0.heap.size w L U) (h : ∀ a, St w0 N (zipF 0 args) L a w → c.wp P (bodyPost P fn R) a w) : Calls P f args.toArray w R :=
  calls_of_wp hf hb (h _ (by
    have := St.init w args fn.ntmps hN (F := zipF 0 args) fun _ _ hv => (jx hv).2
    exact ⟨this.size, this.defers, this.regs, hbel, hsep⟩))
theorem clx {f : FuncId} {args : Array Operand} {ats : Array TypeId} {vs : List Value} {v : Value} {A A' : Asn} (h : St w0 N F L a w) (i : Nat) (hi : L[i]? = some A) (hc : ∀ args w, (callFunc f args).run P w = .ok (.enter f args) w) (ha : evs F args.toList = some vs)
    (ct : ∀ w B, Below w0.heap.size w0 w → (∃ U, Sep w0.heap.size w [A, B] U) → Calls P f vs.toArray w (RetX w0 v [A', B])) (hd : Nat.blt d N = true)
    (k : ∀ a w, St w0 N ((d, v) :: F) (L.set i A') a w → wpList P ops Q rest a w) : wpList P ops Q (⟨some d, .call ⟨.value (.func f), args, ats⟩, ty, pos, aft, none⟩ :: rest) a w :=
  wpList_plain rfl fun K hK => by
    obtain ⟨U, hU⟩ := h.sep
    obtain ⟨B, hp, hp'⟩ := dX A' hi
    unfold Oper.wp
    rw [ka hc ha rfl h.agr w]
    refine (ct w (.all w0.heap.size B) h.bel ⟨U, sep_all (hU.perm hp)⟩).mono ?_
    rintro e w' ⟨rfl, hb, V, hV⟩
    exact hK _ _ (k _ _ (h.put hd v hb (U := V) ((all_sep hV).perm hp')))
end
end Go.Sx
namespace Go.Sx
open Go Go.RowKit
theorem dgs_one {b : Nat} (h : dn b = 1) : (dgs (dn b) b)[0]? = some b ∧ b < 4294967296 := by
  have h1 := fq b
  rw [h, Nat.pow_one] at h1
  refine ⟨?_, h1⟩
  rw [dl (by omega), Nat.pow_zero, Nat.div_one, Nat.mod_eq_of_lt h1]
theorem pE {a b : Nat} (h : b ≤ a) : dn b ≤ dn a := (lP b (dn a)).2 (Nat.lt_of_le_of_lt h (fq a))
theorem dn_ge {b : Nat} (h : 0 < b) : 1 ≤ dn b := by
  refine Nat.pos_of_ne_zero fun e => ?_
  have := fq b
  rw [e, Nat.pow_zero] at this
  omega
theorem dn_top {b : Nat} (h : 0 < b) : 4294967296 ^ (dn b - 1) ≤ b := by
  refine Nat.le_of_not_lt fun hlt => ?_
  have h1 := (lP b (dn b - 1)).2 hlt
  have h2 := dn_ge h
  omega
theorem oc {b : Nat} (h : 0 < b) {s : Nat} (hs : s = 32 - Lib.bitLen (b / 4294967296 ^ (dn b - 1) % 4294967296)) : s ≤ 31 ∧ b * 2 ^ s < 4294967296 ^ dn b ∧ 4294967296 ^ dn b ≤ 2 * (b * 2 ^ s) := by
  have h1 := dn_ge h
  have h2 := dn_top h
  have h3 := fq b
  rw [show dn b = dn b - 1 + 1 by omega, Nat.pow_succ] at h3
  have ht : b / 4294967296 ^ (dn b - 1) < 4294967296 := by rw [Nat.div_lt_iff_lt_mul (ft _), Nat.mul_comm]; exact h3
  have ht0 : b / 4294967296 ^ (dn b - 1) ≠ 0 := by have := Nat.div_pos h2 (ft (dn b - 1)); omega
  rw [Nat.mod_eq_of_lt ht] at hs
  obtain ⟨g1, g2, g3, g4⟩ := ob ht0 ht
  rw [← hs] at g3 g4
  have h4 := j0 b (dn b - 1)
  have h5 := Nat.mod_lt b (ft (dn b - 1))
  have hp : 0 < 2 ^ s := Nat.pow_pos (by decide)
  have e : 4294967296 ^ dn b = 4294967296 ^ (dn b - 1) * 4294967296 := by rw [← Nat.pow_succ, show (dn b - 1).succ = dn b by omega]
  refine ⟨by omega, ?_, ?_⟩
  · rw [e]
    have h6 : b * 2 ^ s < (b / 4294967296 ^ (dn b - 1) + 1) * 4294967296 ^ (dn b - 1) * 2 ^ s := Nat.mul_lt_mul_of_pos_right (by rw [Nat.add_mul]; omega) hp
    have h7 : (b / 4294967296 ^ (dn b - 1) + 1) * 2 ^ s ≤ 4294967296 := by
      have h8 : 4294967296 = 2 ^ (32 - s) * 2 ^ s := by rw [← Nat.pow_add, show 32 - s + s = 32 by omega]
      rw [h8] at g3 ⊢
      exact Nat.mul_le_mul_right _ (Nat.lt_of_mul_lt_mul_right g3)
    have h9 := Nat.mul_le_mul_right (4294967296 ^ (dn b - 1)) h7
    rw [Nat.mul_right_comm] at h9
    rw [Nat.mul_comm (4294967296 ^ _)]
    exact Nat.lt_of_lt_of_le h6 h9
  · rw [e]
    have h6 : b / 4294967296 ^ (dn b - 1) * 2 ^ s * 4294967296 ^ (dn b - 1) ≤ b * 2 ^ s := by
      rw [Nat.mul_right_comm]
      exact Nat.mul_le_mul_right _ (by omega)
    have h7 := Nat.mul_le_mul_right (4294967296 ^ (dn b - 1)) g4
    rw [Nat.mul_comm (4294967296 ^ _)]
    omega
theorem mv {a b s : Nat} (hle : b ≤ a) (hs : s ≤ 31) (hh : 4294967296 ^ dn b ≤ 2 * (b * 2 ^ s)) : a * 2 ^ s < b * 2 ^ s * 4294967296 ^ (dn a + 1 - dn b) := by
  have h1 := fq a
  have h2 := pE hle
  have h3 : 2 ^ s ≤ 2 ^ 31 := Nat.pow_le_pow_right (by decide) hs
  have h4 : a * 2 ^ s < 4294967296 ^ dn a * 2 ^ 31 := Nat.lt_of_lt_of_le (Nat.mul_lt_mul_of_pos_right h1 (Nat.pow_pos (by decide))) (Nat.mul_le_mul_left _ h3)
  have h5 := Nat.mul_le_mul_right (4294967296 ^ (dn a + 1 - dn b)) hh
  rw [← g5, show dn b + (dn a + 1 - dn b) = dn a + 1 by omega, Nat.pow_succ, Nat.mul_assoc 2] at h5
  have h6 : (2 : Nat) ^ 31 = 2147483648 := rfl
  rw [h6] at h4
  generalize b * 2 ^ s * 4294967296 ^ (dn a + 1 - dn b) = R at *
  generalize 4294967296 ^ dn a = A at *
  omega
theorem div_end {a b s X Z : Nat} (hb : 0 < b) (hX : X < b * 2 ^ s) (h : X + b * 2 ^ s * Z = a * 2 ^ s) : Z = a / b ∧ X / 2 ^ s = a % b := by
  have hp : 0 < 2 ^ s := Nat.pow_pos (by decide)
  have hq : Z = a * 2 ^ s / (b * 2 ^ s) := by
    rw [← h, Nat.add_mul_div_left _ _ (Nat.mul_pos hb hp), Nat.div_eq_of_lt hX, Nat.zero_add]
  have hr : X = a * 2 ^ s % (b * 2 ^ s) := by
    rw [← h, Nat.add_mul_mod_self_left, Nat.mod_eq_of_lt hX]
  rw [Nat.mul_div_mul_right _ _ hp] at hq
  rw [Nat.mul_mod_mul_right] at hr
  exact ⟨hq, by rw [hr, Nat.mul_div_cancel _ hp]⟩
theorem nQ {D D' l j : Nat} (h : l < 4294967296 ^ j) : mx (D * 4294967296 ^ j + l) j (D' * 4294967296 ^ j + l) = D * 4294967296 ^ j + l :=
  l4 (by rw [Nat.mul_comm, Nat.mul_add_mod, Nat.mod_eq_of_lt h])
theorem lm {n D D' l j i : Nat} (h : l < 4294967296 ^ j) (hi : j + i < n) : (dgs n (mx (D * 4294967296 ^ j + l) (j + i) (D' * 4294967296 ^ j + l)))[j + i]? = some (D / 4294967296 ^ i % 4294967296) := by rw [fw hi, mG h]
theorem kf {n D a j i l : Nat} (h : l < 4294967296 ^ j) : (dgs n (mx a (j + i) (D * 4294967296 ^ j + l))).set (j + i) (D / 4294967296 ^ i % 4294967296) = dgs n (mx a (j + i + 1) (D * 4294967296 ^ j + l)) := by
  have := jc (n := n) (a := a) (i := j + i) (t := D * 4294967296 ^ j + l)
  rwa [mG h] at this
theorem win_lt {D l j m : Nat} (hD : D < 4294967296 ^ m) (h : l < 4294967296 ^ j) : D * 4294967296 ^ j + l < 4294967296 ^ (j + m) := by
  have h1 := Nat.mul_le_mul_right (4294967296 ^ j) (show D + 1 ≤ 4294967296 ^ m from hD)
  rw [Nat.add_mul] at h1
  rw [g5, Nat.mul_comm (4294967296 ^ j)]
  omega
theorem DS.y_top {X Y n j : Nat} (h : DS X Y n j) : (dgs n Y)[n - 1]? = some (Y / 4294967296 ^ (n - 1)) := by
  have := h.n2
  rw [dl (by omega), h.v1_dig]
theorem DS.set_pos {X Y n j g N : Nat} (h : DS X Y n j) (hgB : g < 4294967296) (hle : X / 4294967296 ^ j / Y ≤ g) (hs : ¬ X / 4294967296 ^ j < g * Y) : dgs N ((X / 4294967296 ^ j + 4294967296 ^ (n + 1) - g * Y) % 4294967296 ^ (n + 1) * 4294967296 ^ j + X % 4294967296 ^ j) = dgs N (kT X Y j) := by
  rw [h.diff_pos hgB hle hs]; rfl
theorem DS.set_neg {X Y n j g N : Nat} (h : DS X Y n j) (hle : g ≤ X / 4294967296 ^ j / Y + 1) (hs : X / 4294967296 ^ j < g * Y) :
    (dgs N (mx ((X / 4294967296 ^ j + 4294967296 ^ (n + 1) - g * Y) % 4294967296 ^ (n + 1) * 4294967296 ^ j + X % 4294967296 ^ j) (j + n) (((X / 4294967296 ^ j + 4294967296 ^ (n + 1) - g * Y) % 4294967296 ^ (n + 1) + Y) * 4294967296 ^ j + X % 4294967296 ^ j))).set (j + n) (((X / 4294967296 ^ j + 4294967296 ^ (n + 1) - g * Y) % 4294967296 ^ (n + 1) + Y) / 4294967296 ^ n % 4294967296) = dgs N (kT X Y j) := by
  have hl := Nat.mod_lt X (ft j)
  rw [kf hl]
  have := oF (D := (X / 4294967296 ^ j + 4294967296 ^ (n + 1) - g * Y) % 4294967296 ^ (n + 1) + Y) (m := n + 1) (win_lt (D := (X / 4294967296 ^ j + 4294967296 ^ (n + 1) - g * Y) % 4294967296 ^ (n + 1)) (m := n + 1) (Nat.mod_lt _ (ft _)) hl) hl
  rw [Nat.add_assoc, this, (h.diff_neg hle hs).2]; rfl
theorem DS.set_top {X Y n j g N : Nat} (h : DS X Y n j) : (dgs N (mx X (j + n) ((X / 4294967296 ^ j + 4294967296 ^ (n + 1) - g * Y) * 4294967296 ^ j + X % 4294967296 ^ j))).set (j + n) ((X / 4294967296 ^ j + 4294967296 ^ (n + 1) - g * Y) / 4294967296 ^ n % 4294967296) = dgs N ((X / 4294967296 ^ j + 4294967296 ^ (n + 1) - g * Y) % 4294967296 ^ (n + 1) * 4294967296 ^ j + X % 4294967296 ^ j) := by
  have hl := Nat.mod_lt X (ft j)
  rw [kf hl]
  have := oF (D := X / 4294967296 ^ j + 4294967296 ^ (n + 1) - g * Y) (m := n + 1) (X := X) (by rw [← Nat.add_assoc]; exact h.hXn) hl
  rw [Nat.add_assoc, this]
theorem DS.sign_neg {X Y n j g : Nat} (h : DS X Y n j) (hgB : g < 4294967296) (hx : X / 4294967296 ^ (j + n) % 4294967296 < bw (X / 4294967296 ^ j + 4294967296 ^ (n + 1)) (g * Y) n + g * Y / 4294967296 ^ n % 4294967296) : X / 4294967296 ^ j < g * Y := by
  have h1 := (h.sub_step hgB (Nat.le_refl n)).1
  rw [h.top_sign hgB, if_pos hx] at h1
  split at h1
  · assumption
  · omega
theorem DS.sign_pos {X Y n j g : Nat} (h : DS X Y n j) (hgB : g < 4294967296) (hx : ¬ X / 4294967296 ^ (j + n) % 4294967296 < bw (X / 4294967296 ^ j + 4294967296 ^ (n + 1)) (g * Y) n + g * Y / 4294967296 ^ n % 4294967296) : ¬ X / 4294967296 ^ j < g * Y := by
  have h1 := (h.sub_step hgB (Nat.le_refl n)).1
  rw [h.top_sign hgB, if_neg hx] at h1
  split at h1
  · omega
  · assumption
theorem pL {a b : Nat} (h : decide (a6 a b < 0) = true) : a < b := by
  have h := of_decide_eq_true h
  unfold a6 at h
  rw [dI] at h
  by_cases hlt : a < b
  · exact hlt
  · simp [hlt] at h
    cases hb : Nat.beq a b <;> simp [hb] at h
theorem pM {a b : Nat} (h : decide (a6 a b < 0) = false) : b ≤ a := by
  have h := of_decide_eq_false h
  unfold a6 at h
  rw [dI] at h
  by_cases hlt : a < b
  · simp [hlt] at h
  · omega
theorem kY {n : Nat} (h : n < 18446744073709551616) : IntKind.u64.wrap (n : Int) = (n : Int) := by rw [IntKind.wrap_u64]; omega
theorem nz_nat {n : Nat} (h : 2147483648 ≤ n) : ((n : Nat) : Int) ≠ 0 := by omega
end Go.Sx
namespace Go.Sx
open Go Go.RowKit
structure Hid (p : Prop) : Prop where
  out : p
section
variable {X Y n j : Nat}
theorem DS.sub_lt (h : DS X Y n j) {g i : Nat} (hgB : g < 4294967296) (hi : i ≤ n) (hc : X / 4294967296 ^ (j + i) % 4294967296 < bw (X / 4294967296 ^ j + 4294967296 ^ (n + 1)) (g * Y) i + g * Y / 4294967296 ^ i % 4294967296) :
    bw (X / 4294967296 ^ j + 4294967296 ^ (n + 1)) (g * Y) (i + 1) = 1 ∧ (X / 4294967296 ^ j + 4294967296 ^ (n + 1) - g * Y) / 4294967296 ^ i % 4294967296 = X / 4294967296 ^ (j + i) % 4294967296 + 4294967296 - bw (X / 4294967296 ^ j + 4294967296 ^ (n + 1)) (g * Y) i - g * Y / 4294967296 ^ i % 4294967296 := by
  have := h.sub_step hgB hi
  rw [if_pos hc, if_pos hc] at this
  exact this
theorem DS.sub_ge (h : DS X Y n j) {g i : Nat} (hgB : g < 4294967296) (hi : i ≤ n) (hc : ¬ X / 4294967296 ^ (j + i) % 4294967296 < bw (X / 4294967296 ^ j + 4294967296 ^ (n + 1)) (g * Y) i + g * Y / 4294967296 ^ i % 4294967296) :
    bw (X / 4294967296 ^ j + 4294967296 ^ (n + 1)) (g * Y) (i + 1) = 0 ∧ (X / 4294967296 ^ j + 4294967296 ^ (n + 1) - g * Y) / 4294967296 ^ i % 4294967296 = X / 4294967296 ^ (j + i) % 4294967296 - bw (X / 4294967296 ^ j + 4294967296 ^ (n + 1)) (g * Y) i - g * Y / 4294967296 ^ i % 4294967296 := by
  have := h.sub_step hgB hi
  rw [if_neg hc, if_neg hc] at this
  exact this
end
theorem wsub1 {a b : Nat} (ha : a < 4294967296) (hb : b ≤ 1) : IntKind.i64.wrap ((a : Int) - (b : Int)) = (a : Int) - (b : Int) := by rw [IntKind.wrap_i64]; omega
theorem wsub2 {a b c : Nat} (ha : a < 4294967296) (hb : b ≤ 1) (hc : c < 4294967296) : IntKind.i64.wrap ((a : Int) - (b : Int) - (c : Int)) = (a : Int) - (b : Int) - (c : Int) := by rw [IntKind.wrap_i64]; omega
theorem wsub3 {a b c : Nat} (ha : a < 4294967296) (hb : b ≤ 1) (hc : c < 4294967296) : IntKind.i64.wrap ((a : Int) - (b : Int) - (c : Int) + 4294967296) = (a : Int) - (b : Int) - (c : Int) + 4294967296 := by rw [IntKind.wrap_i64]; omega
theorem sub_lt0 {a b c : Nat} (h : ((a : Int) - (b : Int) - (c : Int)) < 0) : a < b + c := by omega
theorem sub_ge0 {a b c : Nat} (h : ¬ ((a : Int) - (b : Int) - (c : Int)) < 0) : ¬ a < b + c := by omega
theorem wcon1 {a b c D : Nat} (ha : a < 4294967296) (hb : b ≤ 1) (hc : c < 4294967296) (h : ((a : Int) - (b : Int) - (c : Int)) < 0) (hD : D = a + 4294967296 - b - c) : IntKind.u32.wrap ((a : Int) - (b : Int) - (c : Int) + 4294967296) = (D : Int) := by
  rw [IntKind.wrap_u32', hD]; omega
theorem wcon2 {a b c D : Nat} (ha : a < 4294967296) (hb : b ≤ 1) (hc : c < 4294967296) (h : ¬ ((a : Int) - (b : Int) - (c : Int)) < 0) (hD : D = a - b - c) : IntKind.u32.wrap ((a : Int) - (b : Int) - (c : Int)) = (D : Int) := by
  rw [IntKind.wrap_u32', hD]; omega
theorem wcon3 {a b c D : Nat} (ha : a < 4294967296) (hb : b ≤ 1) (hc : c < 4294967296) (hD : D = (if a < b + c then a + 4294967296 - b - c else a - b - c)) : IntKind.u32.wrap ((a : Int) - (b : Int) - (c : Int)) = (D : Int) := by
  rw [IntKind.wrap_u32', hD]; split <;> omega
end Go.Sx
