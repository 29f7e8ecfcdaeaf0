/- A part of the proof that the law BracketQuestions/Checks answers true at every input and leaves its arguments as they were. -/
import Derived.Test.YtbnldpccdppmiaaGreatDoorKn
set_option linter.unusedVariables false
set_option linter.unusedSimpArgs false
open Go.Proofs.Tryz renaming runUnderlying33 → uu33, sizeOf26 → zz26
namespace Go.Sx
open Go Go.RowKit Go.Proofs
set_option maxRecDepth 100000
set_option maxHeartbeats 40000000
theorem jg (b_0 : List Iv) (b_0v : Value) (b_1 : List Iv) (b_1v : Value) (cb_0 : Cn b_0) (cb_1 : Cn b_1) (w0 : World) (hb_0v : View w0 b_0v b_0) (hb_1v : View w0 b_1v b_1) : Calls Tryz.prog 54 #[(.agg #[b_0v, b_1v])] w0 (RetR w0 66 (aU b_0 b_1) True) := by
  refine enter (N := 8) (args := [(.agg #[b_0v, b_1v])]) Tryz.func54 rfl rfl ?_; intro ac h
  have is_b_0 := SL.is hb_0v.sl
  have is_b_1 := SL.is hb_1v.sl
  refine bB fun K1 hK1 => ?_
  refine bx h [b_0v, b_1v] rfl rfl rfl ?_; clear h ac; intro b1 ac wo h
  refine rd0 h (ah rfl (v := (.slice none 0 0))) rfl ?_; clear h ac wo; intro ac wo h
  refine aE ?_
  refine hK1 _ _ ?_
  refine bB fun K2 hK2 => ?_
  refine rd0 h (eN uu33 rfl zz26 (by decide) rfl rfl (k' := 0)) rfl ?_; clear h ac wo; intro ac wo h
  refine rd1 h 0 rfl (aZ Tryz.isAgg26 zz26 rfl rfl rfl (v := b_0v) rfl) rfl ?_; clear h ac wo; intro ac wo h
  refine rd0 h (eN uu33 rfl zz26 (by decide) rfl rfl (k' := 1)) rfl ?_; clear h ac wo; intro ac wo h
  refine rd1 h 0 rfl (aZ Tryz.isAgg26 zz26 rfl rfl rfl (v := b_1v) rfl) rfl ?_; clear h ac wo; intro ac wo h
  refine io (vs := [b_0v, b_1v]) (xs := (aU b_0 b_1)) h (bh Tryz.call34 rfl) (fun w_ hB_ hS_ => jh b_0 b_0v b_1 b_1v cb_0 cb_1 w_ (hb_0v.below hB_) (hb_1v.below hB_)) rfl ?_; clear h ac wo; intro sv1 ac wo _ h
  have is_sv1 := SL.is (h.row_sl 0 rfl)
  refine rd0 h (ah rfl) rfl ?_; clear h ac wo; intro ac wo h
  refine aE ?_
  refine hK2 _ _ ?_
  refine cr ?_
  exact ret (rs := [.tmp 2]) h rfl (.tmp rfl .nil) rfl (h.retR 0 rfl trivial)
end Go.Sx
