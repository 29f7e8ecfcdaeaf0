/- A part of the proof that the law BracketQuestions/Checks answers true at every input and leaves its arguments as they were. -/
import Derived.Test.YtbnldpccdppmiaaGreatDoorA8
set_option linter.unusedVariables false
set_option linter.unusedSimpArgs false
namespace Go.Sx
open Go Go.RowKit
theorem kz {v : Value} (h : d4 v) : v.cells.toList = [v] := by obtain ⟨_, _, _, rfl⟩ := h; rfl
theorem mT {v : Value} (h : d4 v) : ([v].all Value.oneCell') = true := by obtain ⟨_, _, _, rfl⟩ := h; rfl
theorem NN.isl {v : Value} {n : Nat} (h : NN v n) : d4 v := h.sl.is
section
variable {P : Program} {w0 : World} {F : List (Nat × Value)}
theorem o9 {t e : TypeId} {z : Value} {x y u : Operand} {a b c : Value} (hz : ∀ w, (zeroValue t).run P w = .ok z w) (hzc : z.cells.toList = [.slice none 0 0, .slice none 0 0, .slice none 0 0]) (hu : ∀ w, (underlying t).run P w = .ok (.array 3 e) w)
    (hs : ∀ w, (sizeOf e).run P w = .ok 1 w) (hx : evs F [x, y, u] = some [a, b, c]) (ha : d4 a) (hb : d4 b) (hc : d4 c) : Rd P w0 F [] (.build t #[(0, x), (1, y), (2, u)]) (.agg #[a, b, c]) := by
  obtain ⟨_, _, _, rfl⟩ := ha
  obtain ⟨_, _, _, rfl⟩ := hb
  obtain ⟨_, _, _, rfl⟩ := hc
  refine dB fun o ac w ho hg => ?_
  have hz' : z.cells = #[.slice none 0 0, .slice none 0 0, .slice none 0 0] := by rw [← Array.toArray_toList (xs := z.cells), hzc]
  have he := hg.evs hx
  simp only [List.map_cons, List.map_nil, List.cons.injEq, and_true] at he
  obtain ⟨h1, h2, h3⟩ := he
  simp only [execOp, ho, Instr.build, Sem.run_bind, hz w, hu w, hs w, Result.andThen_ok, hz', List.map_toArray, List.map_cons, List.map_nil, h1, h2, h3]
  rfl
end
end Go.Sx
