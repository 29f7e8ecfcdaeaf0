/- A part of the proof that the law BracketQuestions/Checks answers true at every input and leaves its arguments as they were. -/
import Derived.Test.YtbnldpccdppmiaaGreatDoorA4
import Derived.Lib.Bytealg
set_option linter.unusedVariables false
set_option linter.unusedSimpArgs false
namespace Go.Sx
open Go Go.RowKit
section
variable {w0 : World} {N : Nat} {F : List (Nat × Value)} {L : List Asn} {a : Act} {w : World}
theorem St.dsl (h : St w0 N F L a w) (i : Nat) {e : TypeId} {sv : Value} {n v : Nat} (hi : L[i]? = some (Asn.row e sv (dgs n v))) : SL sv n := by
  have := h.row_sl i hi; rwa [ci] at this
theorem St.dnn (h : St w0 N F L a w) (i : Nat) {e : TypeId} {sv : Value} {n v : Nat} (hi : L[i]? = some (Asn.row e sv (dgs n v))) (hn : 0 < n) : NN sv n := by
  have := h.row_nn i hi (by rw [ci]; exact hn); rwa [ci] at this
theorem View.dsl {sv : Value} {n v : Nat} (h : View w sv (dgs n v)) : SL sv n := by
  have := h.sl; rwa [ci] at this
theorem View.dnn {sv : Value} {n v : Nat} (h : View w sv (dgs n v)) (hn : 0 < n) : NN sv n := by
  have := h.nn (i := 0) (by rw [ci]; exact hn); rwa [ci] at this
theorem View.cutn {sv : Value} {n m v : Nat} (h : View w sv (dgs n v)) (hm : m ≤ n) : View w (mA sv m) (dgs m v) := by
  have := h.cut (n := m) (by rw [ci]; exact hm); rwa [nD hm] at this
theorem View.cutd {sv : Value} {n v : Nat} (h : View w sv (dgs n v)) (hv : v < 4294967296 ^ n) : View w (mA sv (dn v)) (dgs (dn v) v) := h.cutn ((lP _ _).2 hv)
theorem pI {sv : Value} {n : Nat} (h : SL sv n) : mA sv n = sv := by obtain ⟨a, c, rfl⟩ := h; rfl
theorem cutv_cut {sv : Value} {k m n : Nat} (h : SL sv k) : mA (mA sv m) n = mA sv n := by obtain ⟨a, c, rfl⟩ := h; rfl
theorem nF {n m v : Nat} (hv : v < 4294967296 ^ n) (h : n ≤ m) : dgs n v ++ (List.replicate m 0).drop (dgs n v).length = dgs m v := by
  rw [ci, List.drop_replicate, dgs_more hv, show n + (m - n) = m by omega]
theorem dlen_le {sv : Value} {n v : Nat} (h : View w sv (dgs n v)) : n ≤ maxLen := by have := h.1.1; rwa [ci] at this
end
end Go.Sx
namespace Go.Sx
open Go Go.RowKit
theorem fw {n a i t : Nat} (h : i < n) : (dgs n (mx a i t))[i]? = some (a / 4294967296 ^ i % 4294967296) := by rw [dl h, i0 (Nat.le_refl _)]
theorem lQ {v i n : Nat} (h : v < 4294967296 ^ n) (hi : n ≤ i) : v / 4294967296 ^ i % 4294967296 = 0 := by
  rw [Nat.div_eq_of_lt (Nat.lt_of_lt_of_le h (Nat.pow_le_pow_right (by decide) hi))]
theorem gU {k m : Nat} (h : SzB k m) : (le m).length ≤ 70368744177664 := by
  unfold SzB at h
  have := Nat.le_mul_of_pos_right (le m).length (Nat.pow_pos (n := k) (show 0 < 2 by decide))
  omega
theorem eP {k m : Nat} (h : SzB k m) : dn m ≤ 17592186044416 := by
  have := gU h
  unfold dn; omega
theorem iX {k m : Nat} (h : SzB (k + 1) m) : dn m ≤ 8796093022208 := by
  unfold SzB at h
  rw [Nat.pow_succ, ← Nat.mul_assoc] at h
  have := Nat.le_mul_of_pos_right (le m).length (Nat.pow_pos (n := k) (show 0 < 2 by decide))
  unfold dn; omega
theorem mR {a b : Nat} (h : a ≤ b) : (le a).length ≤ (le b).length := (dp _ _).2 (Nat.lt_of_le_of_lt h (lH b))
theorem e9 {k a b : Nat} (h : SzB k b) (hab : a ≤ b) : SzB k a := Nat.le_trans (Nat.mul_le_mul_right _ (mR hab)) h
theorem og (a b : Nat) (h : 0 < a ∨ 0 < b) : (le (a + b)).length ≤ (le a).length + (le b).length := by
  have ha := lH a
  have hb := lH b
  rw [dp, Nat.pow_add]
  have h1 : 1 ≤ 256 ^ (le a).length := Nat.pow_pos (by decide)
  have h2 : 1 ≤ 256 ^ (le b).length := Nat.pow_pos (by decide)
  generalize 256 ^ (le a).length = x at *
  generalize 256 ^ (le b).length = y at *
  obtain ⟨x, rfl⟩ : ∃ x', x = x' + 1 := ⟨x - 1, by omega⟩
  obtain ⟨y, rfl⟩ : ∃ y', y = y' + 1 := ⟨y - 1, by omega⟩
  rw [Nat.mul_add, Nat.add_mul]
  have : a * b ≤ x * y := Nat.mul_le_mul (by omega) (by omega)
  omega
theorem p9 {k a b m : Nat} (ha : SzB (k + 1) a) (hb : SzB (k + 1) b) (h : (le m).length ≤ (le a).length + (le b).length) : SzB k m := by
  unfold SzB at *
  rw [Nat.pow_succ, ← Nat.mul_assoc] at ha hb
  have := Nat.mul_le_mul_right (2 ^ k) h
  rw [Nat.add_mul] at this
  omega
theorem qc {k a b : Nat} (ha : SzB (k + 1) a) (hb : SzB (k + 1) b) : SzB k (a + b) := by
  by_cases h : 0 < a ∨ 0 < b
  · exact p9 ha hb (og a b h)
  · have : a + b = 0 := by omega
    rw [this]; exact nM k
theorem qa {k a b : Nat} (ha : SzB (k + 1) a) (hb : SzB (k + 1) b) : SzB k (a * b) := by
  refine p9 ha hb ((dp _ _).2 ?_)
  rw [Nat.pow_add]
  exact Nat.mul_lt_mul'' (lH a) (lH b)
theorem m8 (a : Nat) : dH a = (if a < 18446744073709551616 then (a, true) else (0, false)) := by
  split
  · rename_i h
    exact m9 ((dp 8 a).2 (by simpa using h))
  · rename_i h
    exact oE (fun h' => h (by simpa using (dp 8 a).1 h'))
end Go.Sx
namespace Go.Sx
open Go Go.RowKit
theorem kH (v i : Nat) : v / 4294967296 ^ i % 4294967296 = v % 4294967296 ^ (i + 1) / 4294967296 ^ i := by rw [Nat.pow_succ, Nat.mod_mul_right_div_self]
def mc (p d b k : Nat) : Nat := (p % 4294967296 ^ k + d * (b % 4294967296 ^ k)) / 4294967296 ^ k
theorem pj (p d b : Nat) : mc p d b 0 = 0 := by simp [mc, Nat.mod_one]
theorem mc_lt {p d b k : Nat} (hd : d < 4294967296) : mc p d b k < 4294967296 := by
  unfold mc
  rw [Nat.div_lt_iff_lt_mul (ft k)]
  have h1 := Nat.mod_lt p (ft k)
  have h2 := Nat.mod_lt b (ft k)
  have h3 : d * (b % 4294967296 ^ k) ≤ 4294967295 * 4294967296 ^ k := Nat.mul_le_mul (by omega) (by omega)
  omega
theorem mc_sum (p d b k : Nat) : p % 4294967296 ^ (k + 1) + d * (b % 4294967296 ^ (k + 1)) = (p % 4294967296 ^ k + d * (b % 4294967296 ^ k)) + (p / 4294967296 ^ k % 4294967296 + d * (b / 4294967296 ^ k % 4294967296)) * 4294967296 ^ k := by
  rw [gL p, gL b, Nat.mul_add, Nat.add_mul, Nat.mul_assoc]; omega
theorem pk (p d b k : Nat) : mc p d b (k + 1) = (mc p d b k + (p / 4294967296 ^ k % 4294967296 + d * (b / 4294967296 ^ k % 4294967296))) / 4294967296 := by
  unfold mc
  rw [mc_sum]; exact hQ.2
theorem ns (p d b k : Nat) : (p + d * b) / 4294967296 ^ k % 4294967296 = (mc p d b k + (p / 4294967296 ^ k % 4294967296 + d * (b / 4294967296 ^ k % 4294967296))) % 4294967296 := by
  have h1 : (p + d * b) % 4294967296 ^ (k + 1) = (p % 4294967296 ^ (k + 1) + d * (b % 4294967296 ^ (k + 1))) % 4294967296 ^ (k + 1) := by
    simp [Nat.add_mod, Nat.mul_mod]
  rw [kH, h1, ← kH, mc_sum, hQ.1]; rfl
theorem pm {p d b n : Nat} (hp : p < 4294967296 ^ n) (hb : b < 4294967296 ^ n) : mc p d b n = (p + d * b) / 4294967296 ^ n := by
  unfold mc; rw [Nat.mod_eq_of_lt hp, Nat.mod_eq_of_lt hb]
theorem mx_start {P e i : Nat} : mx P i (P + e * 4294967296 ^ i) = P := by
  unfold mx; rw [Nat.add_mul_mod_self_right]
  have := Nat.div_add_mod P (4294967296 ^ i)
  rw [Nat.mul_comm]; exact this
theorem iT (v i k : Nat) : v / 4294967296 ^ (i + k) = v / 4294967296 ^ i / 4294967296 ^ k := by rw [Nat.pow_add, Nat.div_div_eq_div_mul]
theorem pb (a b i : Nat) : a % 4294967296 ^ (i + 1) * b = a % 4294967296 ^ i * b + a / 4294967296 ^ i % 4294967296 * b * 4294967296 ^ i := by
  rw [gL, Nat.add_mul]
  congr 1
  rw [Nat.mul_assoc, Nat.mul_comm (4294967296 ^ i), ← Nat.mul_assoc]
theorem pp_div (a b i : Nat) : a % 4294967296 ^ (i + 1) * b / 4294967296 ^ i = a % 4294967296 ^ i * b / 4294967296 ^ i + a / 4294967296 ^ i % 4294967296 * b := by
  rw [pb, Nat.add_mul_div_right _ _ (ft i)]
theorem pp_lt {a b i n : Nat} (hb : b < 4294967296 ^ n) : a % 4294967296 ^ i * b < 4294967296 ^ (i + n) := by
  rw [Nat.pow_add]; exact Nat.mul_lt_mul'' (Nat.mod_lt _ (ft i)) hb
theorem pp_digit (a b i k : Nat) : a % 4294967296 ^ (i + 1) * b / 4294967296 ^ (i + k) % 4294967296 = (mc (a % 4294967296 ^ i * b / 4294967296 ^ i) (a / 4294967296 ^ i % 4294967296) b k + (a % 4294967296 ^ i * b / 4294967296 ^ (i + k) % 4294967296 + a / 4294967296 ^ i % 4294967296 * (b / 4294967296 ^ k % 4294967296))) % 4294967296 := by
  rw [iT, pp_div, ns, iT]
theorem pp_carry (a b i k : Nat) : mc (a % 4294967296 ^ i * b / 4294967296 ^ i) (a / 4294967296 ^ i % 4294967296) b (k + 1) = (mc (a % 4294967296 ^ i * b / 4294967296 ^ i) (a / 4294967296 ^ i % 4294967296) b k + (a % 4294967296 ^ i * b / 4294967296 ^ (i + k) % 4294967296 + a / 4294967296 ^ i % 4294967296 * (b / 4294967296 ^ k % 4294967296))) / 4294967296 := by
  rw [pk, iT]
theorem pp_last {a b i n : Nat} (hb : b < 4294967296 ^ n) : mc (a % 4294967296 ^ i * b / 4294967296 ^ i) (a / 4294967296 ^ i % 4294967296) b n = a % 4294967296 ^ (i + 1) * b / 4294967296 ^ (i + n) % 4294967296 := by
  have hd : a / 4294967296 ^ i % 4294967296 < 4294967296 := Nat.mod_lt _ (by decide)
  have h1 : a % 4294967296 ^ i * b / 4294967296 ^ i < 4294967296 ^ n := by
    rw [Nat.div_lt_iff_lt_mul (ft i), ← Nat.pow_add, Nat.add_comm n i]; exact pp_lt hb
  have h2 := mc_lt (p := a % 4294967296 ^ i * b / 4294967296 ^ i) (b := b) (k := n) hd
  rw [pm h1 hb] at h2 ⊢
  rw [iT, pp_div, Nat.mod_eq_of_lt h2]
theorem jS {x y : Nat} (hx : x < 4294967296) (hy : y < 4294967296) : x * y ≤ 18446744065119617025 := Nat.mul_le_mul (show x ≤ 4294967295 by omega) (show y ≤ 4294967295 by omega)
end Go.Sx
namespace Go.Sx
open Go Go.RowKit
section
variable {P : Program} {w0 : World} {N : Nat} {F : List (Nat × Value)} {L : List Asn} {a : Act} {w : World} {ops : Array Oper} {Q : Exit → Act → World → Prop} {rest : List Oper}
  {d : Nat} {op : Op} {ty : TypeId} {pos : String} {aft : Array Edge}
theorem s_slice2 {t e : TypeId} {bytes : Nat} {x y : Operand} {u v : Int} (hT : SlT P t e 1 bytes [.int .i64 0]) (hx : ev F x = some (.int .i64 u)) (hy : ev F y = some (.int .i64 v)) :
    gP P w0 F [] (.buildSlice t 2 #[(0, x), (1, y)]) (fun s => NN s 2) (fun s => [Asn.row e s [u, v]]) := by
  intro o a w U K Q ho ha hb hs k
  obtain ⟨ht, i, z, hi, hz, hzc, hsz, hby, hzl, hn, _⟩ := hT
  unfold Oper.wp
  have hz' : z.cells = #[.int .i64 0] := by rw [← Array.toArray_toList (xs := z.cells), hzc]
  have hf : Instr.fill (fun i => some (i * 1, 1)) ((Array.range (2 * 1)).map fun j => (#[Value.int .i64 0])[j % (#[Value.int .i64 0]).size]!) [(0, .int .i64 u), (1, .int .i64 v)] = some #[.int .i64 u, .int .i64 v] := by
    have h0 : ((Array.range (2 * 1)).map fun j => (#[Value.int .i64 0])[j % (#[Value.int .i64 0]).size]!) = [Value.int .i64 0, Value.int .i64 0].toArray := by
      apply Array.ext
      · simp
      · intro i h1 h2
        have : i = 0 ∨ i = 1 := by simp at h2; omega
        rcases this with rfl | rfl <;> simp
    rw [h0]
    exact kF _ [(0, .int .i64 u), (1, .int .i64 v)] [.int .i64 0, .int .i64 0] [.int .i64 u, .int .i64 v] rfl
  have hr : (execOp a.eval o).run P w = .ok (.value (.slice (some ⟨w.heap.size, 0, none⟩) 2 2)) (w.alloc (.cells #[.int .i64 u, .int .i64 v] e)) := by
    have n1 : ¬ (2 ^ 24 < 2 * 1) := by omega
    have n2 : ¬ (2 * 1 = 0) := by omega
    simp only [execOp, ho, Instr.buildSlice, Sem.run_bind, run_underlying ht, Result.andThen_ok, sizeOf, typeInfo, run_program, hi, Sem.run_pure, hsz, gt_iff_lt, n1, n2, if_false, zeroValue, hz, hz', List.map_toArray, List.map_cons, List.map_nil, ha x _ hx, ha y _ hy, hf, newRow, run_newObj]
    rfl
  rw [hr]
  refine k _ _ (fun k => k = w.heap.size) ⟨_, _, _, rfl⟩ ((fK w _).weak fun _ h => h.elim) ⟨fun k => k = w.heap.size, fun _ => False, fun k => by simp, fun _ _ => id, fun k hk => by simp only [hk, World.size_alloc]; have := hb.size; omega, ?_, fun _ => id⟩
  refine ⟨⟨by rw [bM], .inr ⟨w.heap.size, 2, #[.int .i64 u, .int .i64 v], rfl, Nat.zero_le _, ?_, by simp, by simp [maxLen], rfl, rfl⟩⟩, fun k => ?_⟩
  · show (w.heap.push _)[w.heap.size]? = _; simp
  · simp [Value.ownBlock, eq_comm]
end
def or2 (u v : Int) : Int := if u = 0 then v else u
theorem two_get {u v : Int} {i : Nat} (h : i < 2) : [u, v][i]? = some (if i = 0 then u else v) := by
  have : i = 0 ∨ i = 1 := by omega
  rcases this with rfl | rfl <;> rfl
def beV : List UInt8 → Nat
  | [] => 0
  | x :: l => x.toNat * 256 ^ l.length + beV l
theorem pY : ∀ l : List UInt8, beV l < 256 ^ l.length
  | [] => by decide
  | x :: l => by
    have h1 := pY l
    have h2 : x.toNat < 256 := x.toNat_lt
    have h3 : (x.toNat + 1) * 256 ^ l.length ≤ 256 * 256 ^ l.length := Nat.mul_le_mul_right _ h2
    rw [Nat.add_mul] at h3
    simp only [beV, List.length_cons, Nat.pow_succ]
    omega
theorem nL (x : UInt8) : ∀ l : List UInt8, beV (l ++ [x]) = beV l * 256 + x.toNat
  | [] => by simp [beV]
  | y :: l => by
    simp only [List.cons_append, beV, List.length_append, List.length_cons, List.length_nil, nL x l, Nat.pow_succ, Nat.zero_add, Nat.add_mul, Nat.mul_assoc, Nat.pow_zero, Nat.one_mul]
    omega
theorem pX : ∀ l : List UInt8, beV l.reverse = ofLE l
  | [] => rfl
  | x :: l => by rw [List.reverse_cons, nL, pX l, ofLE]; omega
theorem kJ : ∀ (l m : List UInt8), l.length = m.length → Lib.compareBytes l m = if beV l < beV m then -1 else if beV l = beV m then 0 else 1
  | [], [], _ => rfl
  | [], _ :: _, h => by simp at h
  | _ :: _, [], h => by simp at h
  | x :: l, y :: m, h => by
    have hl : l.length = m.length := by simpa using h
    have ih := kJ l m hl
    have h1 := pY l
    have h2 := pY m
    simp only [Lib.compareBytes, beV, hl]
    rw [hl] at h1
    have hp := Nat.pow_pos (n := m.length) (show 0 < 256 by decide)
    generalize 256 ^ m.length = p at *
    by_cases e1 : x < y
    · rw [if_pos e1]
      have h3 : (x.toNat + 1) * p ≤ y.toNat * p := Nat.mul_le_mul_right _ (UInt8.lt_iff_toNat_lt.1 e1)
      rw [Nat.add_mul] at h3
      rw [if_pos (by omega)]
    · rw [if_neg e1]
      by_cases e2 : y < x
      · rw [if_pos e2]
        have h3 : (y.toNat + 1) * p ≤ x.toNat * p := Nat.mul_le_mul_right _ (UInt8.lt_iff_toNat_lt.1 e2)
        rw [Nat.add_mul] at h3
        rw [if_neg (by omega), if_neg (by omega)]
      · rw [if_neg e2, ih]
        have e3 : x.toNat = y.toNat := by
          have h3 : ¬ x.toNat < y.toNat := fun h => e1 (UInt8.lt_iff_toNat_lt.2 h)
          have h4 : ¬ y.toNat < x.toNat := fun h => e2 (UInt8.lt_iff_toNat_lt.2 h)
          omega
        rw [e3]
        simp only [Nat.add_lt_add_iff_left, Nat.add_left_cancel_iff]
theorem beV_bs (a : Nat) : beV (bs a).data.toList = a := by rw [m5, pX, lC]
theorem pN (a b : Nat) : or2 (if (bs a).size < (bs b).size then -1 else if (bs a).size > (bs b).size then 1 else 0) (Lib.compareBytes (bs a).data.toList (bs b).data.toList) = a6 a b := by
  have hi : a6 a b = if a < b then -1 else if a = b then 0 else 1 := by
    unfold a6
    rw [dI]
    by_cases h : a < b
    · simp [h]
    · simp only [h, decide_false, cond_false, if_false]
      by_cases e : a = b
      · subst e; simp
      · have : Nat.beq a b = false := by
          cases hb : Nat.beq a b with
          | true => exact (e (Nat.eq_of_beq_eq_true hb)).elim
          | false => rfl
        rw [this]; simp [e]
  rw [hi, d8, d8]
  by_cases h1 : (le a).length < (le b).length
  · have : a < b := by
      rcases Nat.lt_or_ge a b with h | h
      · exact h
      · have := mR h; omega
    simp [h1, or2, this]
  · by_cases h2 : (le b).length < (le a).length
    · have : b < a := by
        rcases Nat.lt_or_ge b a with h | h
        · exact h
        · have := mR h; omega
      have h3 : ¬ a < b := by omega
      have h4 : ¬ a = b := by omega
      simp [h1, or2, h2, h3, h4]
    · rw [kJ _ _ (by rw [m5, m5]; simp; omega), beV_bs, beV_bs]
      simp [h1, h2, or2]
end Go.Sx
namespace Go.Sx
open Go Go.RowKit
theorem j0 (X j : Nat) : X / 4294967296 ^ j * 4294967296 ^ j + X % 4294967296 ^ j = X := by have := Nat.div_add_mod X (4294967296 ^ j); rw [Nat.mul_comm]; exact this
theorem g5 (a b : Nat) : 4294967296 ^ (a + b) = 4294967296 ^ a * 4294967296 ^ b := Nat.pow_add ..
theorem oI {X m : Nat} (h : X < 4294967296 ^ (m + 2)) : X / 4294967296 ^ m = (X / 4294967296 ^ (m + 1) % 4294967296) * 4294967296 + X / 4294967296 ^ m % 4294967296 := by
  have h1 : X / 4294967296 ^ (m + 1) < 4294967296 := by
    rw [Nat.div_lt_iff_lt_mul (ft _), Nat.mul_comm, ← Nat.pow_succ]; exact h
  rw [Nat.mod_eq_of_lt h1, Nat.pow_succ, ← Nat.div_div_eq_div_mul]
  omega
theorem oo {U Y q g r hi v1 v2 u0 P : Nat} (hq : q = U / Y) (hY : 0 < Y) (hqB : q < 4294967296) (hP : 0 < P) (hU : U < (hi * 4294967296 + u0 + 1) * P) (hYl : (v1 * 4294967296 + v2) * P ≤ Y) (hg : g * v1 + r = hi) (hle : q ≤ g) (hc : 4294967296 ≤ g ∨ r * 4294967296 + u0 < g * v2) : q ≤ g - 1 ∧ 1 ≤ g := by
  have h0 : q ≠ g := by
    intro e
    subst e
    rcases hc with hc | hc
    · omega
    · 
      have h1 : hi * 4294967296 + u0 + 1 ≤ q * (v1 * 4294967296 + v2) := by
        rw [Nat.mul_add, ← Nat.mul_assoc, ← hg, Nat.add_mul]
        omega
      have h2 : (hi * 4294967296 + u0 + 1) * P ≤ q * Y := by
        calc (hi * 4294967296 + u0 + 1) * P ≤ q * (v1 * 4294967296 + v2) * P := Nat.mul_le_mul_right _ h1
          _ = q * ((v1 * 4294967296 + v2) * P) := Nat.mul_assoc ..
          _ ≤ q * Y := Nat.mul_le_mul_left _ hYl
      have h3 : q * Y ≤ U := by rw [hq]; exact Nat.div_mul_le_self U Y
      omega
  omega
theorem oq {U Y q g r hi v1 v2 u0 P : Nat} (hq : q = U / Y) (hY : 0 < Y) (hU : (hi * 4294967296 + u0) * P ≤ U) (hYu : Y < (v1 * 4294967296 + v2 + 1) * P) (hg : g * v1 + r = hi) (hgB : g < 4294967296) (hYP : 4294967296 * P ≤ Y) (hv2 : v2 < 4294967296)
    (hc : g * v2 ≤ r * 4294967296 + u0) : g ≤ q + 1 := by
  have h1 : g * (v1 * 4294967296 + v2) ≤ hi * 4294967296 + u0 := by
    rw [Nat.mul_add, ← Nat.mul_assoc, ← hg, Nat.add_mul]
    omega
  have h2 : g * (v1 * 4294967296 + v2) * P ≤ U := Nat.le_trans (Nat.mul_le_mul_right _ h1) hU
  have h3 : g * Y ≤ g * (v1 * 4294967296 + v2) * P + g * P := by
    have := Nat.mul_le_mul_left g (Nat.le_of_lt hYu)
    calc g * Y ≤ g * ((v1 * 4294967296 + v2 + 1) * P) := this
      _ = g * (v1 * 4294967296 + v2) * P + g * P := by rw [Nat.add_mul _ 1 P, Nat.one_mul, Nat.mul_add, Nat.mul_assoc]
  have h4 : g * P ≤ 4294967296 * P := Nat.mul_le_mul_right _ (Nat.le_of_lt hgB)
  have h5 : g * Y ≤ U + Y := by omega
  have h6 : U < (q + 1) * Y := by rw [hq]; have := Nat.div_add_mod U Y; have h7 := Nat.mod_lt U hY; rw [Nat.add_mul, Nat.mul_comm]; omega
  have h7 : g * Y < (q + 2) * Y := by rw [Nat.add_mul] at h6 ⊢; omega
  have := Nat.lt_of_mul_lt_mul_right h7
  omega
end Go.Sx
