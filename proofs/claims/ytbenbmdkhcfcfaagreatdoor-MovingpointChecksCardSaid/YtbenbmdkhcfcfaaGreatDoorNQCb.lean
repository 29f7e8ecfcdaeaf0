/- A part of the proof of movingpointChecks. -/
import Derived.Test.YtbenbmdkhcfcfaaGreatDoorH5
import Derived.Test.YtbenbmdkhcfcfaaGreatDoorJ5
set_option linter.unusedVariables false
set_option linter.unusedSimpArgs false
namespace Go.Proofs.YtbenbmdkhcfcfaaGreatDoor
open Go Go.ChangeShapes Go.WideShapes Go.ChangeAt Go.RowKit Go.Sx
set_option maxRecDepth 100000
theorem w_first {H : Type} {P : Program} {a : TypeId} {ts : List TypeId} {d0 : DataW H} {r : List (DataW H)} {f : Nat → Bool} (h : (DataW.weightsEach P (a :: ts) (d0 :: r)).all f = true) : (DataW.weights P a d0).all f = true := by
  simp only [DataW.weightsEach, List.all_append, Bool.and_eq_true] at h
  exact h.1
theorem gU (os : Os) (started : os.Started) (H : Type) (enc : TypeId × Value → H) :
    ReturnsInHanded {} Tryz.checked os 6 .any (fun w args => (Rows.movingpointChecksSpec.pre enc Tryz.prog Tryz.f6 Rows.movingpointChecksRow.domain false w args ∧ laidMetH Tryz.prog Rows.movingpointChecksRow.laid w) ∧ sizedMet enc Tryz.prog Tryz.f6 (OpenSpec.ofChange Rows.movingpointChecksSpec) false w args)
      (Rows.movingpointChecksSpec.post enc Tryz.prog Tryz.f6 false true false false) := by
  refine returnsInHanded_of_change_and (C := Tryz.checked) (X := fun w _ => laidMetH Tryz.prog Rows.movingpointChecksRow.laid w) (fun _ _ _ hh h => h.of_heap hh) own started (by kernel_rfl) Tryz.func6
    (ChangeSpec.witness_shaped (enc := enc) (C := Tryz.checked) (os := os) (X := fun w _ => laidMetH Tryz.prog Rows.movingpointChecksRow.laid w) false (World.laidAll Tryz.prog os Rows.movingpointChecksRow.laid) #[.slice none 0 0] 8 (World.laidAll_os _ _ _)
      (World.shaped_of_ZipB (by kernel_rfl) (by kernel_rfl)) (by kernel_rfl) (by kernel_rfl) (by kernel_rfl)
      (by rw [MakeChecks.laidMetH_plain _ _ _ (by kernel_rfl)]; exact laidMet_laidAll _ (by kernel_rfl) (by kernel_rfl))) ?_
  intro W base args ds gs before hval0 hW _ hwt _ _
  have hval : ∀ (j : Nat) t v, Tryz.f6.params[j]? = some t → args[j]? = some v → Value.okWide Tryz.prog W .any base t v := hval0
  have hW' := hW
  obtain ⟨p, q, hA0, hV, rfl, _, _⟩ := hW
  have hA : DataW.TrodAll enc Tryz.prog W 0 (fun _ => true) true Tryz.f6.params.toList args.toList ds p := hA0
  rw [Tryz.params6] at hA hval
  obtain ⟨v0, d0, rfl, rfl, h0⟩ := trodAll_one hA
  obtain ⟨rfl, rfl⟩ := trodVars_none hV
  rw [Tryz.params6] at hwt
  obtain ⟨x0, hx0, hz0⟩ := open_xus (hval 0 33 v0 rfl rfl) h0 (w_first hwt)
  refine (tE x0 v0 hz0 W hx0).mono fun e W' ⟨he, _, hb⟩ => ?_
  subst he
  exact ⟨_, rfl, law_post laidOutT rfl rfl (fun t ht => by
    rw [Tryz.params6] at ht
    have hall : ([33].all fun u => Tryz.prog.readableRec u && decide (u < Tryz.prog.types.size)) = true := by kernel_rfl
    have hm : t ∈ [33] := by simpa using ht
    simpa using List.all_eq_true.1 hall t hm) (by kernel_rfl) Tryz.underlying4 hW' hb⟩
end Go.Proofs.YtbenbmdkhcfcfaaGreatDoor
