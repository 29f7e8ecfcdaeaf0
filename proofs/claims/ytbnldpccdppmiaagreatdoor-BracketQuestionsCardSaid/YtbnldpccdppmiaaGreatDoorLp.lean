/- A part of the proof that the law BracketQuestions/Checks answers true at every input and leaves its arguments as they were. -/
import Derived.Test.YtbnldpccdppmiaaGreatDoorLift
set_option linter.unusedVariables false
set_option linter.unusedSimpArgs false
open Go.Proofs.Tryz renaming underlying22 → nn22, underlying24 → nn24
namespace Go.Sx
open Go Go.RowKit Go.Proofs Go.ChangeShapes Go.WideShapes
set_option maxRecDepth 100000
section
variable {H : Type} {enc : TypeId × Value → H} {W : World} {base : Nat} {sp : Nat → Bool} {held : Bool}
theorem mN {v : Value} {cs : List Value} {x : DataW H × List MemPlace} {n : Nat} (hc : Cell.okWide Tryz.prog W .any base 22 v) (h : DataW.trod enc Tryz.prog W 0 sp held n 22 [v] = some x) : ∃ l : List Stp, View W v l := by
  have hv : Value.okWide Tryz.prog W .any base 22 v := by
    unfold Value.okWide
    rw [nn22]
    exact hc
  have hcs : v.cells.toList = [v] := by
    rcases jv nn22 hv with rfl | ⟨g, off, len, cap, cur, el, fr, rfl, _, _⟩ <;> rfl
  exact k9 hv (d := x.1) (p := x.2) ⟨n, by rw [hcs]; exact h⟩
theorem la {v : Value} {d : DataW H} {p : List MemPlace} (hval : Value.okWide Tryz.prog W .any base 24 v) (h : DataW.Trod enc Tryz.prog W 0 sp held 24 v d p) :
    ∃ (x0 x1 x2 : List Stp) (s0 s1 s2 : Value), v = .agg #[s0, s1, s2] ∧ View W s0 x0 ∧ View W s1 x1 ∧ View W s2 x2 := by
  unfold Value.okWide at hval
  rw [nn24] at hval
  obtain ⟨cs, rfl, hn, ts, hts, _, hrow⟩ := hval
  rw [show Tryz.prog.cellsOf 24 = 3 by kernel_rfl] at hn
  have ht : ts = [22, 22, 22] := Option.some.inj (hts.symm.trans (by kernel_rfl))
  subst ht
  obtain ⟨s0, s1, s2, rfl⟩ : ∃ s0 s1 s2, cs = #[s0, s1, s2] := by
    obtain ⟨l⟩ := cs
    match l, hn with
    | [s0, s1, s2], _ => exact ⟨_, _, _, rfl⟩
  obtain ⟨fuel, hf⟩ := h
  obtain ⟨xs, n, _, _, _, hxl, hg⟩ := DataW.trod_struct nn24 hf
  have k22 : Tryz.prog.cellsOf 22 = 1 := by kernel_rfl
  have f0 : DataW.trod enc Tryz.prog W 0 sp held n 22 (([s0, s1, s2].drop 0).take (Tryz.prog.cellsOf 22)) = xs[0]? := hg 0 _ rfl
  have f1 : DataW.trod enc Tryz.prog W 0 sp held n 22 (([s0, s1, s2].drop 1).take (Tryz.prog.cellsOf 22)) = xs[1]? := hg 1 _ rfl
  have f2 : DataW.trod enc Tryz.prog W 0 sp held n 22 (([s0, s1, s2].drop 2).take (Tryz.prog.cellsOf 22)) = xs[2]? := hg 2 _ rfl
  rw [k22, List.getElem?_eq_getElem (by rw [hxl]; decide)] at f0 f1 f2
  have c0 : Cell.okWide Tryz.prog W .any base 22 s0 := by
    obtain ⟨u, hu, hc⟩ := hrow 0 s0 rfl
    have : u = 22 := (Option.some.inj hu).symm
    subst this; exact hc
  have c1 : Cell.okWide Tryz.prog W .any base 22 s1 := by
    obtain ⟨u, hu, hc⟩ := hrow 1 s1 rfl
    have : u = 22 := (Option.some.inj hu).symm
    subst this; exact hc
  have c2 : Cell.okWide Tryz.prog W .any base 22 s2 := by
    obtain ⟨u, hu, hc⟩ := hrow 2 s2 rfl
    have : u = 22 := (Option.some.inj hu).symm
    subst this; exact hc
  obtain ⟨x0, h0⟩ := mN (cs := []) c0 f0
  obtain ⟨x1, h1⟩ := mN (cs := []) c1 f1
  obtain ⟨x2, h2⟩ := mN (cs := []) c2 f2
  exact ⟨x0, x1, x2, s0, s1, s2, rfl, h0, h1, h2⟩
end
end Go.Sx
