/- A part of the proof that the law PiecesRules answers true at every input and leaves its arguments as they were. -/
import Derived.Test.YtnkaneggnjallaaGreatDoorLift
import Derived.Test.YtnkaneggnjallaaGreatDoorM1
set_option linter.unusedVariables false
set_option linter.unusedSimpArgs false
namespace Go.Proofs.YtnkaneggnjallaaGreatDoor
open Go Go.ChangeShapes Go.WideShapes Go.ChangeAt Go.RowKit Go.Sx
set_option maxRecDepth 100000
theorem own : ownKnob Tryz.prog.godebug = none := by kernel_rfl
theorem laidOutT : laidOutB Tryz.prog = true := by kernel_rfl
theorem rules_lifted (os : Os) (started : os.Started) (H : Type) (enc : TypeId × Value → H) :
    ReturnsInHanded {} Tryz.checked os 5 .any (fun w args => (Rows.piecesRulesSpec.pre enc Tryz.prog Tryz.f5 Rows.piecesRulesRow.domain false w args ∧ laidMetH Tryz.prog Rows.piecesRulesRow.laid w) ∧ sizedMet enc Tryz.prog Tryz.f5 (OpenSpec.ofChange Rows.piecesRulesSpec) false w args)
      (Rows.piecesRulesSpec.post enc Tryz.prog Tryz.f5 false true false false) := by
  refine returnsInHanded_of_change_and (C := Tryz.checked) (X := fun w _ => laidMetH Tryz.prog Rows.piecesRulesRow.laid w) (fun _ _ _ hh h => h.of_heap hh) own started (by kernel_rfl) Tryz.func5
    (ChangeSpec.witness_shaped (enc := enc) (C := Tryz.checked) (os := os) (X := fun w _ => laidMetH Tryz.prog Rows.piecesRulesRow.laid w) false (World.laidAll Tryz.prog os Rows.piecesRulesRow.laid) #[vS ⟨0, 0, 0, false, 0, 0, 0⟩, vS ⟨0, 0, 0, false, 0, 0, 0⟩, .int .u8 0] 8 (World.laidAll_os _ _ _)
      (World.shaped_of_ZipB (by kernel_rfl) (by kernel_rfl)) (by kernel_rfl) (by kernel_rfl) (by kernel_rfl)
      (by rw [MakeChecks.laidMetH_plain _ _ _ (by kernel_rfl)]; exact laidMet_laidAll _ (by kernel_rfl) (by kernel_rfl))) ?_
  intro W base args ds gs before hval0 hW _ _ _ _
  have hval : ∀ (j : Nat) t v, Tryz.f5.params[j]? = some t → args[j]? = some v → Value.okWide Tryz.prog W .any base t v := hval0
  have hW' := hW
  obtain ⟨p, q, hA0, hV, rfl, _, _⟩ := hW
  have hA : DataW.TrodAll enc Tryz.prog W 0 (fun _ => true) true Tryz.f5.params.toList args.toList ds p := hA0
  rw [Tryz.params5] at hA hval
  obtain ⟨v0, v1, v2, d0, d1, d2, p0, p1, p2, rfl, rfl, rfl, h0, h1, h2⟩ := trodAll_three hA
  obtain ⟨rfl, rfl⟩ := trodVars_none hV
  obtain ⟨a, rfl⟩ := open_step (hval 0 66 v0 rfl rfl) h0
  obtain ⟨b, rfl⟩ := open_step (hval 1 66 v1 rfl rfl) h1
  obtain ⟨x, rfl, rfl, rfl, wx⟩ := open_int Tryz.underlying5 (hval 2 5 v2 rfl rfl) h2
  obtain ⟨n, rfl, _⟩ := nat_u8 wx
  refine (w13_PiecesRules_ct a b n W).mono fun e W' ⟨he, _, hb⟩ => ?_
  rw [rules_true] at he
  subst he
  exact ⟨_, rfl, law_post laidOutT rfl rfl (fun t ht => by
    rw [Tryz.params5] at ht
    have hall : ([66, 66, 5].all fun u => Tryz.prog.readableRec u && decide (u < Tryz.prog.types.size)) = true := by kernel_rfl
    have hm : t ∈ [66, 66, 5] := by simpa using ht
    simpa using List.all_eq_true.1 hall t hm) (by kernel_rfl) Tryz.underlying4 hW' hb⟩
end Go.Proofs.YtnkaneggnjallaaGreatDoor
