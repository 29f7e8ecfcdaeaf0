/- A part of the proof that the law BracketOperates/Brackets/Logic answers true at every input and leaves its arguments as they were. -/
import Derived.Test.YtbnldpccdppmiaaGreatDoorLp
import Derived.Test.YtbnldpccdppmiaaGreatDoorKl3
set_option linter.unusedVariables false
set_option linter.unusedSimpArgs false
namespace Go.Proofs.YtbnldpccdppmiaaGreatDoor
open Go Go.ChangeShapes Go.WideShapes Go.ChangeAt Go.RowKit Go.Sx
set_option maxRecDepth 100000
theorem iX (os : Os) (started : os.Started) (H : Type) (enc : TypeId × Value → H) :
    ReturnsInHanded {} Tryz.checked os 6 .any (fun w args => (Rows.bracketLogicSpec.pre enc Tryz.prog Tryz.f6 Rows.bracketLogicRow.domain false w args ∧ laidMetH Tryz.prog Rows.bracketLogicRow.laid w) ∧ sizedMet enc Tryz.prog Tryz.f6 (OpenSpec.ofChange Rows.bracketLogicSpec) false w args)
      (Rows.bracketLogicSpec.post enc Tryz.prog Tryz.f6 false true false false) := by
  refine returnsInHanded_of_change_and (C := Tryz.checked) (X := fun w _ => laidMetH Tryz.prog Rows.bracketLogicRow.laid w) (fun _ _ _ hh h => h.of_heap hh) own started (by kernel_rfl) Tryz.func6
    (ChangeSpec.witness_shaped (enc := enc) (C := Tryz.checked) (os := os) (X := fun w _ => laidMetH Tryz.prog Rows.bracketLogicRow.laid w) false (World.laidAll Tryz.prog os Rows.bracketLogicRow.laid) #[.agg #[.slice none 0 0, .slice none 0 0, .slice none 0 0], .agg #[.slice none 0 0, .slice none 0 0, .slice none 0 0], .slice none 0 0] 8 (World.laidAll_os _ _ _)
      (World.shaped_of_ZipB (by kernel_rfl) (by kernel_rfl)) (by kernel_rfl) (by kernel_rfl) (by kernel_rfl)
      (by rw [MakeChecks.laidMetH_plain _ _ _ (by kernel_rfl)]; exact laidMet_laidAll _ (by kernel_rfl) (by kernel_rfl))) ?_
  intro W base args ds gs before hval0 hW _ _ _ _
  have hval : ∀ (j : Nat) t v, Tryz.f6.params[j]? = some t → args[j]? = some v → Value.okWide Tryz.prog W .any base t v := hval0
  have hW' := hW
  obtain ⟨p, q, hA0, hV, rfl, _, _⟩ := hW
  have hA : DataW.TrodAll enc Tryz.prog W 0 (fun _ => true) true Tryz.f6.params.toList args.toList ds p := hA0
  rw [Tryz.params6] at hA hval
  obtain ⟨v0, v1, v2, d0, d1, d2, p0, p1, p2, rfl, rfl, rfl, h0, h1, h2⟩ := trodAll_three hA
  obtain ⟨rfl, rfl⟩ := trodVars_none hV
  obtain ⟨x0, y0, z0, r0, s0, t0, rfl, hx0, hy0, hz0⟩ := gG (hval 0 24 v0 rfl rfl) h0
  obtain ⟨x1, y1, z1, r1, s1, t1, rfl, hx1, hy1, hz1⟩ := gG (hval 1 24 v1 rfl rfl) h1
  obtain ⟨x2, hx2⟩ := gF (hval 2 22 v2 rfl rfl) h2
  refine (fP x0 r0 y0 s0 z0 t0 x1 r1 y1 s1 z1 t1 x2 v2 W hx0 hy0 hz0 hx1 hy1 hz1 hx2).mono fun e W' ⟨he, _, hb⟩ => ?_
  subst he
  exact ⟨_, rfl, ld lf rfl rfl (fun t ht => by
    rw [Tryz.params6] at ht
    have hall : ([24, 24, 22].all fun u => Tryz.prog.readableRec u && decide (u < Tryz.prog.types.size)) = true := by kernel_rfl
    have hm : t ∈ [24, 24, 22] := by simpa using ht
    simpa using List.all_eq_true.1 hall t hm) (by kernel_rfl) Tryz.underlying4 hW' hb⟩
end Go.Proofs.YtbnldpccdppmiaaGreatDoor
