/- A part of the proof that the law PiecesShifts answers true at every input and leaves its arguments as they were. -/
import Derived.Test.YtnkaneggnjallaaGreatDoorH1
set_option linter.unusedVariables false
set_option linter.unusedSimpArgs false
open Go.Proofs.Tryz renaming runUnderlying256 → uu256, sizeOf3 → zz3
namespace Go.Sx
open Go Go.RowKit Go.Proofs
set_option maxRecDepth 100000
set_option maxHeartbeats 40000000
attribute [local irreducible] aD bN ah aL bt aN aK aF cY bj ar
def rE (x : List Int) (x8 : Nat) : Int :=
 0
def fP (x : List Int) (x8 : Nat) : Nx Nat Int :=
 bif (decide (((x8 : Nat) : Int) < ((x.length : Nat) : Int))) then
  bif ((gt x x8) != 0) then
   .ret (gt x x8)
  else
   .go (x8 + 1)
 else
  .out x8
def jM (x : List Int) : Int :=
 fin (b9 (fun s => fP x s) ((x.length - 0) + 1) 0) (fun s => rE x s) (fun r => r)
theorem rC (x : List Int) (xv : Value) (w0 : World) (hxv : View w0 xv x) : Calls Tryz.prog 148 #[xv] w0 (ec w0 (.int .i64 (jM x)) (True)) := by
 refine enter (N := 18) (args := [xv]) Tryz.func148 rfl rfl ?_; intro ac h
 have hlenx := hxv.len
 refine dU fun K1 hK1 => ?_
 refine rd0 h (ae rfl) rfl <| gn hK1 <| gr fun K2 hK2 => g0 (ae rfl) rfl <| gn hK2 <| gq fun K3 hK3 => gr fun K4 hK4 => g0 (af rfl) rfl <| g0 (du uu256 rfl hxv.sl) rfl <| g0 (af rfl) rfl <| gn hK4 <| gB ?_; clear h ac; intro ac wo h
 obtain ⟨X1, hX1⟩ : ∃ X, b9 (fun s => fP x s) ((x.length - 0) + 1) 0 = X := ⟨_, rfl⟩
 refine wp_loop_ghost (fun n_ a_ w_ => ∃ (x8 : Nat), ((x.length - x8) < n_) ∧ (b9 (fun s => fP x s) n_ x8 = X1) ∧ (x8 ≤ x.length) ∧ St w0 18 [(3, (.int .i64 0)), (6, xv), (7, (.int .i64 ((x.length : Nat) : Int))), (8, (.int .i64 ((x8 : Nat) : Int)))] [] a_ w_) ((x.length - 0) + 1) ⟨0, (by omega), hX1, (by first | omega | grind), (h.sub ⟨rfl, rfl, rfl, rfl, trivial⟩)⟩ ?_
 clear h ac wo; rintro n1 ac wo ⟨x8, hm1, hL1, hx8, h⟩
 obtain ⟨m1, rfl⟩ : ∃ m, n1 = m + 1 := ⟨n1 - 1, by omega⟩
 refine gz h <| gr fun K5 hK5 => g0 (dY rfl rfl) rfl <| gn hK5 <| gq fun K6 hK6 => ?_; clear h ac wo; intro ac wo h
 refine cO h rfl (fun hc1 => ?_) (fun hc1 => ?_)
 ·
  have hd1 := of_decide_eq_true hc1
  refine gz h <| gS <| gx hK6 <| gq fun K7 hK7 => gB <| gr fun K8 hK8 => g0 (dK (i := x8) uu256 zz3 rfl rfl (hxv.nn (i := x8) (by first | omega | grind)) (by first | omega | grind)) rfl <| g0 (eU (k := 0) Tryz.isAgg3 zz3 hxv (bU (by first | omega | grind)) rfl (Nat.add_zero _) rfl rfl (v := (.int .i64 (gt x x8))) rfl) rfl <| g0 (ae rfl) rfl <| gn hK8 <| gr fun K9 hK9 => g0 (af rfl) rfl <| g0 (af rfl) rfl <| g0 (gw rfl rfl) rfl <| gn hK9 ?_; clear h ac wo; intro ac wo h
  refine cO h rfl (fun hc2 => ?_) (fun hc2 => ?_)
  ·
   have hq2 := hc2; try simp at hq2
   refine gz h <| gr fun K10 hK10 => g0 (af rfl) rfl <| g0 (ae rfl) rfl <| gn hK10 <| gT ?_; clear h ac wo; intro ac wo h
   have hr1 := fy hL1 (show fP x x8 = .ret (gt x x8) from (Eq.trans (cT hc1) (cT hc2)))
   have hd : jM x = (gt x x8) := (k9 (hX1.trans hr1))
   exact ret h rfl (.tmp rfl .nil) rfl (h.retP (by rw [hd] <;> rfl) trivial)
  ·
   have hq2 := hc2; try simp at hq2
   refine gz h <| gS <| gN <| gx hK7 <| gR <| g0 (bM rfl rfl (r := ((x8 + 1 : Nat) : Int)) (by rw [IntKind.wrap_i64]; first | omega | grind)) rfl <| g0 (af rfl) rfl <| gx (fun _ _ => bR) ?_; clear h ac wo; intro ac wo h
   exact aM ⟨m1, (by omega), _, (by first | omega | grind), b0 hL1 (show fP x x8 = .go _ from (Eq.trans (cT hc1) (cF hc2))), (by first | omega | grind), (h.pick [] (by decide)).sub ⟨rfl, rfl, rfl, rfl, trivial⟩⟩
 ·
  have hd1 := of_decide_eq_false hc1
  refine d8 ?_
  have hx1 := dX hL1 (show fP x x8 = .out x8 from (cF hc1))
  refine gz h <| gx hK3 <| gr fun K11 hK11 => g0 (af rfl) rfl <| g0 (ae rfl) rfl <| gn hK11 <| gT ?_; clear h ac wo; intro ac wo h
  have hd : jM x = 0 := (eQ (hX1.trans hx1))
  exact ret h rfl (.tmp rfl .nil) rfl (h.retP (by rw [hd] <;> rfl) trivial)
attribute [irreducible] jM
end Go.Sx
