/- A part of the proof that the law PiecesChecks answers true at every input and leaves its arguments as they were. -/
import Derived.Test.YtnkaneggnjallaaGreatDoorLift
import Derived.Test.YtnkaneggnjallaaGreatDoorM5
set_option linter.unusedVariables false
set_option linter.unusedSimpArgs false
open Go.Proofs.Tryz renaming underlying5 → nn5
namespace Go.Proofs.YtnkaneggnjallaaGreatDoor
open Go Go.ChangeShapes Go.WideShapes Go.ChangeAt Go.RowKit Go.Sx
set_option maxRecDepth 100000
theorem jo (os : Os) (started : os.Started) (H : Type) (enc : TypeId × Value → H) :
    ReturnsInHanded {} Tryz.checked os 7 .any (fun w args => (Rows.piecesChecksSpec.pre enc Tryz.prog Tryz.f7 Rows.piecesChecksRow.domain false w args ∧ laidMetH Tryz.prog Rows.piecesChecksRow.laid w) ∧ sizedMet enc Tryz.prog Tryz.f7 (OpenSpec.ofChange Rows.piecesChecksSpec) false w args)
      (Rows.piecesChecksSpec.post enc Tryz.prog Tryz.f7 false true false false) := by
  refine returnsInHanded_of_change_and (C := Tryz.checked) (X := fun w _ => laidMetH Tryz.prog Rows.piecesChecksRow.laid w) (fun _ _ _ hh h => h.of_heap hh) own started (by kernel_rfl) Tryz.func7
    (ChangeSpec.witness_shaped (enc := enc) (C := Tryz.checked) (os := os) (X := fun w _ => laidMetH Tryz.prog Rows.piecesChecksRow.laid w) false (World.laidAll Tryz.prog os Rows.piecesChecksRow.laid) #[.slice none 0 0, .int .u8 0, .int .u8 0] 8 (World.laidAll_os _ _ _)
      (World.shaped_of_ZipB (by kernel_rfl) (by kernel_rfl)) (by kernel_rfl) (by kernel_rfl) (by kernel_rfl)
      (by rw [MakeChecks.laidMetH_plain _ _ _ (by kernel_rfl)]; exact laidMet_laidAll _ (by kernel_rfl) (by kernel_rfl))) ?_
  intro W base args ds gs before hval0 hW _ _ _ _
  have hval : ∀ (j : Nat) t v, Tryz.f7.params[j]? = some t → args[j]? = some v → Value.okWide Tryz.prog W .any base t v := hval0
  have hW' := hW
  obtain ⟨p, q, hA0, hV, rfl, _, _⟩ := hW
  have hA : DataW.TrodAll enc Tryz.prog W 0 (fun _ => true) true Tryz.f7.params.toList args.toList ds p := hA0
  rw [Tryz.params7] at hA hval
  obtain ⟨v0, v1, v2, d0, d1, d2, p0, p1, p2, rfl, rfl, rfl, h0, h1, h2⟩ := trodAll_three hA
  obtain ⟨rfl, rfl⟩ := trodVars_none hV
  obtain ⟨x0, hx0⟩ := pa (hval 0 22 v0 rfl rfl) h0
  obtain ⟨y1, rfl, rfl, rfl, w1⟩ := open_int nn5 (hval 1 5 v1 rfl rfl) h1
  obtain ⟨x1, rfl, l1⟩ := mM w1
  obtain ⟨y2, rfl, rfl, rfl, w2⟩ := open_int nn5 (hval 2 5 v2 rfl rfl) h2
  obtain ⟨x2, rfl, l2⟩ := mM w2
  refine (gm x0 v0 x1 x2 l1 l2 W hx0).mono fun e W' ⟨he, _, hb⟩ => ?_
  rw [nO] at he
  subst he
  exact ⟨_, rfl, law_post laidOutT rfl rfl (fun t ht => by
    rw [Tryz.params7] at ht
    have hall : ([22, 5, 5].all fun u => Tryz.prog.readableRec u && decide (u < Tryz.prog.types.size)) = true := by kernel_rfl
    have hm : t ∈ [22, 5, 5] := by simpa using ht
    simpa using List.all_eq_true.1 hall t hm) (by kernel_rfl) Tryz.underlying4 hW' hb⟩
end Go.Proofs.YtnkaneggnjallaaGreatDoor
