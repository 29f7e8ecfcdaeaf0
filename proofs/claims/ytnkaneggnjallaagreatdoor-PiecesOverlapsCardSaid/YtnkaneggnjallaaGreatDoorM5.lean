/- A part of the proof that the law PiecesOverlaps answers true at every input and leaves its arguments as they were. -/
import Derived.Test.YtnkaneggnjallaaGreatDoorQ2
import Derived.Test.YtnkaneggnjallaaGreatDoorProg
import Derived.Test.YtnkaneggnjallaaGreatDoorF
set_option linter.unusedVariables false
set_option linter.unusedSimpArgs false
namespace Go.Sx
theorem knw : dD = true := by decide +kernel
end Go.Sx
namespace Go.Sx
theorem k9 (l : List Loo) : cd l = true := by
  unfold cd
  rw [knw]
  cases (decide (((l.length : Nat) : Int) > 6))
  · have h := ji (R := Bool) (f := fun (o : List (U Int)) (x : Loo) => o ++ [aP x]) l (B := fun s => bi l s.1 s.2)
      (fun o i hi => by
        show bi l o i = _
        unfold bi
        rw [decide_eq_true (by omega : ((i : Nat) : Int) < ((l.length : Nat) : Int))]
        rfl)
      (fun o => by
        show bi l o l.length = _
        unfold bi
        rw [decide_eq_false (by omega : ¬ ((l.length : Nat) : Int) < ((l.length : Nat) : Int))]
        rfl) l [] [] (l.length - 0 + 1) rfl (by omega)
    refine (eo h).trans ?_
    show dN l _ l.length = true
    rw [kP, List.nil_append]
    unfold dN
    obtain ⟨h1, h2⟩ := m8 l
    cases hc : ba (l.map aP) with
    | true => rw [h1 hc]; rfl
    | false => rw [h2 hc, kY]; rfl
  · rfl
end Go.Sx
