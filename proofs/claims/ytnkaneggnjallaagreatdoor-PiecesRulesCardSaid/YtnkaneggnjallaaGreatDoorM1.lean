/- A part of the proof that the law PiecesRules answers true at every input and leaves its arguments as they were. -/
import Derived.Test.YtnkaneggnjallaaGreatDoorM0
import Derived.Test.YtnkaneggnjallaaGreatDoorMa0
import Derived.Test.YtnkaneggnjallaaGreatDoorMa1
import Derived.Test.YtnkaneggnjallaaGreatDoorMb0
import Derived.Test.YtnkaneggnjallaaGreatDoorMb1
set_option linter.unusedVariables false
set_option linter.unusedSimpArgs false
namespace Go.Sx
def CY (c d : Int) (n : Nat) (r : Bool) : Bool :=
  let t := w13_Instant (n : Int) r
  let X := qu_Linear (ra_FromInt c) (ra_FromInt d)
  let Y := qu_Linear (ra_FromInt c) (ra_FromInt c)
  let RX := qu_Reduce X t
  let RY := qu_Reduce Y t
  (decide (RX.c0 = RY.c0 ∧ RX.c1 = RY.c1) == qu_Same X Y t) && qu_Same (qu_Linear RX.c0 RX.c1) X t
def allY : Bool := I1.all fun c => I1.all fun d => N8.all fun n => [false, true].all fun r => CY c d n r
theorem ay : allY = true := by decide +kernel
def allC : Bool := I3.all fun a => I2.all fun b => I1.all fun c => I1.all fun d => pc_Lines_Check ⟨ra_FromInt a, ra_FromInt b, ra_FromInt c, ra_FromInt d⟩ == 0
theorem ac : allC = true := by decide +kernel
theorem kn : w13_known = true := by decide +kernel
theorem in3 (x : Int) : Int.tmod x 4 ∈ I3 := by
  have := tmodb x 4 (by decide)
  generalize Int.tmod x 4 = y at *
  have : y = -3 ∨ y = -2 ∨ y = -1 ∨ y = 0 ∨ y = 1 ∨ y = 2 ∨ y = 3 := by omega
  simp [I3]; omega
theorem in2 (x : Int) : Int.tmod x 3 ∈ I2 := by
  have := tmodb x 3 (by decide)
  generalize Int.tmod x 3 = y at *
  simp [I2]; omega
theorem in1 (x : Int) : Int.tmod x 2 ∈ I1 := by
  have := tmodb x 2 (by decide)
  generalize Int.tmod x 2 = y at *
  simp [I1]; omega
theorem in8 (x : Nat) : x % 8 ∈ N8 := by
  have : x % 8 < 8 := Nat.mod_lt _ (by decide)
  generalize x % 8 = y at *
  simp [N8]; omega
theorem inB (b : Bool) : b ∈ [false, true] := by cases b <;> simp
theorem allY_at {c d : Int} {n : Nat} {r : Bool} (hc : c ∈ I1) (hd : d ∈ I1) (hn : n ∈ N8) : CY c d n r = true := by
  have := ay
  unfold allY at this
  exact List.all_eq_true.1 (List.all_eq_true.1 (List.all_eq_true.1 (List.all_eq_true.1 this c hc) d hd) n hn) r (inB r)
theorem allC_at {a b c d : Int} (ha : a ∈ I3) (hb : b ∈ I2) (hc : c ∈ I1) (hd : d ∈ I1) : pc_Lines_Check ⟨ra_FromInt a, ra_FromInt b, ra_FromInt c, ra_FromInt d⟩ = 0 := by
  have := ac
  unfold allC at this
  exact eq_of_beq (List.all_eq_true.1 (List.all_eq_true.1 (List.all_eq_true.1 (List.all_eq_true.1 this a ha) b hb) c hc) d hd)
end Go.Sx
namespace Go.Sx
theorem allX_at {a b c d : Int} {n : Nat} {r : Bool} (ha : a ∈ I3) (hb : b ∈ I2) (hc : c ∈ I3) (hd : d ∈ I2) (hn : n ∈ N8) : CX a b c d n r = true := by
  have key : allX [n] [r] = true := by
    simp only [N8, List.mem_cons, List.not_mem_nil, or_false] at hn
    rcases hn with rfl | rfl | rfl | rfl | rfl | rfl | rfl | rfl <;> cases r
    · exact allX_0a
    · exact allX_0b
    · exact allX_1a
    · exact allX_1b
    · exact allX_2a
    · exact allX_2b
    · exact allX_3a
    · exact allX_3b
    · exact allX_4a
    · exact allX_4b
    · exact allX_5a
    · exact allX_5b
    · exact allX_6a
    · exact allX_6b
    · exact allX_7a
    · exact allX_7b
  unfold allX at key
  exact List.all_eq_true.1 (List.all_eq_true.1 (List.all_eq_true.1 (List.all_eq_true.1 (List.all_eq_true.1 (List.all_eq_true.1 key a ha) b hb) c hc) d hd) n (by simp)) r (by simp)
theorem dec_and {p q r s : Prop} [Decidable p] [Decidable q] [Decidable r] [Decidable s] : decide (p ∧ q ∧ r ∧ s) = (decide (p ∧ q) && decide (r ∧ s)) := by
  by_cases hp : p <;> by_cases hq : q <;> by_cases hr : r <;> by_cases hs : s <;> simp [hp, hq, hr, hs]
theorem rules_core (c0 c1 d0 d1 c2 d2 : Int) (n : Nat) (r : Bool) (h0 : c0 ∈ I3) (h1 : c1 ∈ I2) (h2 : d0 ∈ I3) (h3 : d1 ∈ I2) (h4 : c2 ∈ I1) (h5 : d2 ∈ I1) (hn : n ∈ N8) (t : GR) (ht : t = w13_Instant (n : Int) r)
    (x y : Ln) (hx : x = ⟨ra_FromInt c0, ra_FromInt c1, ra_FromInt c2, ra_FromInt d2⟩) (hy : y = ⟨ra_FromInt d0, ra_FromInt d1, ra_FromInt c2, ra_FromInt c2⟩) :
    pc_Lines_Same x y t = (qu_Same (qu_Linear x.x0 x.x1) (qu_Linear y.x0 y.x1) t && qu_Same (qu_Linear x.y0 x.y1) (qu_Linear y.y0 y.y1) t) ∧
    pc_Lines_Same (pc_Lines_Reduce x t) x t = true ∧
    decide (pc_Lines_Reduce x t = pc_Lines_Reduce y t) = (qu_Same (qu_Linear x.x0 x.x1) (qu_Linear y.x0 y.x1) t && qu_Same (qu_Linear x.y0 x.y1) (qu_Linear y.y0 y.y1) t) ∧
    pc_Lines_Check x = 0 := by
  have kx := allX_at (r := r) h0 h1 h2 h3 hn
  have ky := allY_at (r := r) h4 h5 hn
  simp only [CX, CY, Bool.and_eq_true, beq_iff_eq] at kx ky
  rw [← ht] at kx ky
  obtain ⟨kx1, kx2⟩ := kx
  obtain ⟨ky1, ky2⟩ := ky
  subst hx hy
  refine ⟨?_, ?_, ?_, allC_at h0 h1 h4 h5⟩
  · unfold pc_Lines_Same pc_coordinates; rfl
  · unfold pc_Lines_Same pc_Lines_Reduce pc_coordinates
    simp only [kx2, ky2, Bool.and_self]
  · unfold pc_Lines_Reduce pc_coordinates
    simp only [Ln.mk.injEq]
    rw [dec_and, kx1, ky1]
theorem rules_true (a b : Stp) (at_ : Nat) : w13_PiecesRules a b at_ = true := by
  unfold w13_PiecesRules w13_Step_Function
  rw [kn]
  obtain ⟨e1, e2, e3, e4⟩ := rules_core _ _ _ _ _ _ (at_ % 8) (decide (((at_ : Nat) : Int) ≥ 128)) (in3 a.c0) (in2 a.c1) (in3 b.c0) (in2 b.c1) (in1 a.c2) (in1 b.c2) (in8 at_) _ rfl _ _ rfl rfl
  simp only [] at e1 e2 e3 e4
  simp only [Bool.not_true, cond_false]
  rw [e1, e2, e3, e4]
  unfold pc_Lines_Equal pc_Quads_Same pc_Quads_Reduce
  simp
end Go.Sx
