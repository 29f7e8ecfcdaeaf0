/- A part of the proof that the law PiecesChecks answers true at every input and leaves its arguments as they were. -/
import Derived.Test.YtnkaneggnjallaaGreatDoorH1
set_option linter.unusedVariables false
set_option linter.unusedSimpArgs false
open Go.Proofs.Tryz renaming runUnderlying256 → uu256, sizeOf3 → zz3
namespace Go.Sx
open Go Go.RowKit Go.Proofs
set_option maxRecDepth 100000
set_option maxHeartbeats 40000000
attribute [local irreducible] aA bT ak aH bJ aP aF aE cO bm aw
def qP (x : List Int) (x8 : Nat) : Int :=
 0
def fw (x : List Int) (x8 : Nat) : Nx Nat Int :=
 bif (decide (((x8 : Nat) : Int) < ((x.length : Nat) : Int))) then
  bif ((gt x x8) != 0) then
   .ret (gt x x8)
  else
   .go (x8 + 1)
 else
  .out x8
def jO (x : List Int) : Int :=
 fin (bS (fun s => fw x s) ((x.length - 0) + 1) 0) (fun s => qP x s) (fun r => r)
theorem qO (x : List Int) (xv : Value) (w0 : World) (hxv : View w0 xv x) : Calls Tryz.prog 148 #[xv] w0 (dZ w0 (.int .i64 (jO x)) (True)) := by
 refine enter (N := 18) (args := [xv]) Tryz.func148 rfl rfl ?_; intro ac h
 have hlenx := hxv.len
 refine dL fun K1 hK1 => ?_
 refine rd0 h (ag rfl) rfl <| gn hK1 <| gr fun K2 hK2 => g0 (ag rfl) rfl <| gn hK2 <| gq fun K3 hK3 => gr fun K4 hK4 => g0 (ah rfl) rfl <| g0 (dk uu256 rfl hxv.sl) rfl <| g0 (ah rfl) rfl <| gn hK4 <| gB ?_; clear h ac; intro ac wo h
 obtain ⟨X1, hX1⟩ : ∃ X, bS (fun s => fw x s) ((x.length - 0) + 1) 0 = X := ⟨_, rfl⟩
 refine wp_loop_ghost (fun n_ a_ w_ => ∃ (x8 : Nat), ((x.length - x8) < n_) ∧ (bS (fun s => fw x s) n_ x8 = X1) ∧ (x8 ≤ x.length) ∧ St w0 18 [(3, (.int .i64 0)), (6, xv), (7, (.int .i64 ((x.length : Nat) : Int))), (8, (.int .i64 ((x8 : Nat) : Int)))] [] a_ w_) ((x.length - 0) + 1) ⟨0, (by omega), hX1, (by first | omega | grind), (h.sub ⟨rfl, rfl, rfl, rfl, trivial⟩)⟩ ?_
 clear h ac wo; rintro n1 ac wo ⟨x8, hm1, hL1, hx8, h⟩
 obtain ⟨m1, rfl⟩ : ∃ m, n1 = m + 1 := ⟨n1 - 1, by omega⟩
 refine gz h <| gr fun K5 hK5 => g0 (dJ rfl rfl) rfl <| gn hK5 <| gq fun K6 hK6 => ?_; clear h ac wo; intro ac wo h
 refine cr h rfl (fun hc1 => ?_) (fun hc1 => ?_)
 ·
  have hd1 := of_decide_eq_true hc1
  refine gz h <| gS <| gx hK6 <| gq fun K7 hK7 => gB <| gr fun K8 hK8 => g0 (da (i := x8) uu256 zz3 rfl rfl (hxv.nn (i := x8) (by first | omega | grind)) (by first | omega | grind)) rfl <| g0 (eC (k := 0) Tryz.isAgg3 zz3 hxv (bF (by first | omega | grind)) rfl (Nat.add_zero _) rfl rfl (v := (.int .i64 (gt x x8))) rfl) rfl <| g0 (ag rfl) rfl <| gn hK8 <| gr fun K9 hK9 => g0 (ah rfl) rfl <| g0 (ah rfl) rfl <| g0 (fV rfl rfl) rfl <| gn hK9 ?_; clear h ac wo; intro ac wo h
  refine cr h rfl (fun hc2 => ?_) (fun hc2 => ?_)
  ·
   have hq2 := hc2; try simp at hq2
   refine gz h <| gr fun K10 hK10 => g0 (ah rfl) rfl <| g0 (ag rfl) rfl <| gn hK10 <| gT ?_; clear h ac wo; intro ac wo h
   have hr1 := eO hL1 (show fw x x8 = .ret (gt x x8) from (Eq.trans (cT hc1) (cT hc2)))
   have hd : jO x = (gt x x8) := (je (hX1.trans hr1))
   exact ret h rfl (.tmp rfl .nil) rfl (h.retP (by rw [hd] <;> rfl) trivial)
  ·
   have hq2 := hc2; try simp at hq2
   refine gz h <| gS <| gN <| gx hK7 <| gR <| g0 (bI rfl rfl (r := ((x8 + 1 : Nat) : Int)) (by rw [IntKind.wrap_i64]; first | omega | grind)) rfl <| g0 (ah rfl) rfl <| gx (fun _ _ => bG) ?_; clear h ac wo; intro ac wo h
   exact aI ⟨m1, (by omega), _, (by first | omega | grind), bU hL1 (show fw x x8 = .go _ from (Eq.trans (cT hc1) (cF hc2))), (by first | omega | grind), (h.pick [] (by decide)).sub ⟨rfl, rfl, rfl, rfl, trivial⟩⟩
 ·
  have hd1 := of_decide_eq_false hc1
  refine dX ?_
  have hx1 := dR hL1 (show fw x x8 = .out x8 from (cF hc1))
  refine gz h <| gx hK3 <| gr fun K11 hK11 => g0 (ah rfl) rfl <| g0 (ag rfl) rfl <| gn hK11 <| gT ?_; clear h ac wo; intro ac wo h
  have hd : jO x = 0 := (eW (hX1.trans hx1))
  exact ret h rfl (.tmp rfl .nil) rfl (h.retP (by rw [hd] <;> rfl) trivial)
attribute [irreducible] jO
end Go.Sx
