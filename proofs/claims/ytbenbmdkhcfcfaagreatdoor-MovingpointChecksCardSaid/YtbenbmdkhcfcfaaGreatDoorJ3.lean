/- A part of the proof of movingpointChecks. -/
import Derived.Test.YtbenbmdkhcfcfaaGreatDoorJ2
import Derived.Test.YtbenbmdkhcfcfaaGreatDoorJ1
import Derived.Test.YtbenbmdkhcfcfaaGreatDoorI6
set_option linter.unusedVariables false
set_option linter.unusedSimpArgs false
open Go.Proofs.Tryz renaming runUnderlying71 → uu71, sizeOf27 → zz27, isAgg27 → aa27, zeroValue135 → vv135, runUnderlying245 → uu245, runUnderlying249 → uu249, sizeOf3 → zz3, sizeOf66 → zz66
namespace Go.Sx
open Go Go.RowKit Go.Proofs
set_option maxRecDepth 100000
set_option maxHeartbeats 40000000
attribute [local irreducible] Code.wp wpList Rd Step ObS Ent
attribute [local irreducible] ao aM ak ar aA bD
attribute [local irreducible] aI aN aj au aR ah
def qAt (q : Qd) (t : GR) : GR :=
 (em (au (aI q t.p) (aj q.c2 t.r)) (bif t.neg then aR (aN q t.p) else aN q t.p) t.r).1
theorem qAt_ct (q : Qd) (t : GR) (k : Nat) (hk : k ≤ 10) (zq : SzD (k + 19) q) (zt : SzR (k + 19) t) (hr : Sm t.r) (z3 : SzQ 30 t.r) (w0 : World) : Calls Tryz.prog 248 #[vD q, vR t] w0 (cq w0 (vR (qAt q t)) (SzR k (qAt q t))) := by
 refine enter (N := 36) (args := [vD q, vR t]) Tryz.func248 rfl rfl ?_; intro ac h
 have c1 := gO q t.p (k + 9) og zq zt.1
 have s1 := am (c1 w0)
 have c2 := a7 q.c2 t.r (k + 9) og (cn zq.2.2 og) (cn zt.2 og)
 have s2 := am (c2 w0)
 have c3 := bL (aI q t.p) (aj q.c2 t.r) (k + 6) og s1 s2
 have s3 := am (c3 w0)
 have c4 := fk q t.p (k + 6) og (iX zq og) (cn zt.1 og)
 have s4 := am (c4 w0)
 refine gz h <| (xb) fun b1 => (xb) fun b2 => (xa) fun b3 => (W) ?_; clear h ac; intro ac wo h
 replace h := h.emps 1
 refine eV mixed [dw (vD q) [2], dv (ptr b2 0), dw (vQ t.p) [1], dv (vQ (aI q t.p)), dv (ptr b1 8), dw (vQ q.c2) [2], dv (ptr b2 4), dw (vQ t.r) [1], dv (vQ (aj q.c2 t.r)), dv (vQ (au (aI q t.p) (aj q.c2 t.r))), ⟨.nd (.one 10 fun x => ∃ b, x = ptr b 0), [3]⟩, dw undef [3]] [⟨_, []⟩, ⟨_, []⟩, ⟨_, []⟩, ⟨.emp, [(10, .one 10 fun x => .blk (bC x) (cQ oQ) 27), (11, .one 10 fun x => .blk (bC x) (cQ (au (aI q t.p) (aj q.c2 t.r))) 27)]⟩] h rfl (by kernel_rfl) ⟨fun _ _ => fY _ rfl rfl (ir Tryz.isAgg53 Tryz.sizeOf53 rfl rfl rfl (v := vD q) rfl), fun _ _ => ba (fa uu71 rfl zz27 rfl rfl rfl (k' := 0)), fun _ _ => fY _ rfl rfl (ir aa27 zz27 rfl rfl rfl (v := vQ t.p) rfl), oA fun _ => hH (gI Tryz.call101 rfl c1), fun _ _ => ba (fa Tryz.runUnderlying53 rfl zz27 rfl rfl rfl (k' := 8)), fun _ _ => fY _ rfl rfl (ir aa27 zz27 rfl rfl rfl (v := vQ q.c2) rfl), fun _ _ => ba (fa uu71 rfl zz27 rfl rfl rfl (k' := 4)), fun _ _ => fY _ rfl rfl (ir aa27 zz27 rfl rfl rfl (v := vQ t.r) rfl), oA fun _ => hH (gI Tryz.call21 rfl c2), oA fun _ => hH (gI Tryz.call20 rfl c3), fun _ _ => pm 3 rfl (fun _ => rfl), fun ξ hφ => pk (u := vQ (au (aI q t.p) (aj q.c2 t.r))) 3 (hφ 10 rfl) rfl rfl rfl rfl rfl rfl rfl, trivial⟩ ?_
 clear h ac wo; intro ξ ac wo hφ h
 obtain ⟨b5, hb5⟩ : ∃ b, ξ 10 = ptr b 0 := hφ 10
 replace h : St w0 36 [(2, ptr b1 0), (3, ptr b2 0), (4, ptr b3 0), (5, ξ 10)] [.blk b3 (cR ⟨oQ, oQ, false⟩) 71, .blk b2 (cR t) 71, .blk b1 (cD q) 53, .blk (bC (ξ 10)) (cQ (au (aI q t.p) (aj q.c2 t.r))) 27] ac wo := h.sub ⟨rfl, rfl, rfl, rfl, trivial⟩
 rw [hb5] at h
 clear hb5 hφ ξ
 obtain ⟨m, hm⟩ : ∃ m, (bif t.neg then aR (aN q t.p) else aN q t.p) = m := ⟨_, rfl⟩
 have zm : SzQ (k + 6) m := by
  rw [← hm]; cases t.neg
  · exact s4
  · exact am ((dO (aN q t.p) (k + 6) og s4) w0)
 have c6 := nC (au (aI q t.p) (aj q.c2 t.r)) m t.r k og s3 zm (cn zt.2 og) hr z3
 have e : qAt q t = (em (au (aI q t.p) (aj q.c2 t.r)) m t.r).1 := by unfold qAt; rw [hm]
 rw [e]
 obtain ⟨tp, tr, tn⟩ := t
 cases tn
 ·
  subst hm
  refine gz h <| (xk c4) <| (xa) fun b6 => (ai) ?_ ?_ <;> clear h ac wo <;> intro ac wo h hc1
  · cases hc1
  refine gz h <| (xk c6) <| (xa) fun b7 => (W) ?_; clear h ac wo; intro ac wo h
  exact rtc 2 h (h.retP rfl (am (c6 w0)))
 ·
  subst hm
  have c5 := dO (aN q tp) (k + 6) og s4
  refine gz h <| (xk c4) <| (xa) fun b6 => (ai) ?_ ?_ <;> clear h ac wo <;> intro ac wo h hc1
  · refine gz h <| (xk c5) <| (xk c6) <| (xa) fun b7 => (W) ?_; clear h ac wo; intro ac wo h
    exact rtc 2 h (h.retP rfl (am (c6 w0)))
  · cases hc1
attribute [irreducible] qAt
def ptAt (f : Ln) (t : GR) : RPt := ⟨qAt (lxs f) t, qAt (lys f) t⟩
def SzRP (k : Nat) (x : RPt) : Prop := SzR k x.x ∧ SzR k x.y
theorem ptAt_ct (f : Ln) (t : GR) (k : Nat) (hk : k ≤ 10) (zf : SzN (k + 19) f) (zt : SzR (k + 19) t) (hr : Sm t.r) (z3 : SzQ 30 t.r) (w0 : World) : Calls Tryz.prog 183 #[vN f, vR t] w0 (cq w0 (vRP (ptAt f t)) (SzRP k (ptAt f t))) := by
 refine enter (N := 14) (args := [vN f, vR t]) Tryz.func183 rfl rfl ?_; intro ac h
 have c1 := lxs_ct f (k + 19) og zf
 have c2 := qAt_ct (lxs f) t k hk (am (c1 w0)) zt hr z3
 have c3 := lys_ct f (k + 19) og zf
 have c4 := qAt_ct (lys f) t k hk (am (c3 w0)) zt hr z3
 refine gz h <| (xb) fun b1 => (xb) fun b2 => (xa) fun b3 => (dr1 (H := [⟨.blk b3 (cRP ⟨⟨oQ, oQ, false⟩, ⟨oQ, oQ, false⟩⟩) 247, [(9, .con (.blk b3 (cRP (⟨qAt (lxs f) t, qAt (lys f) t⟩ : RPt)) 247))]⟩, ⟨_, []⟩, ⟨_, []⟩]) (hob := (oK c1) <| (oK c2) <| (oK c3) <| (oK c4) <| oE)) <| (W) ?_; clear h ac; intro ac wo h
 exact rtc 0 h (h.retP (u := vRP (ptAt f t)) rfl ⟨am (c2 w0), am (c4 w0)⟩)
attribute [irreducible] ptAt
def l6 (l : List GR) (n : Nat) : GR := (List.range n).foldl (fun m i => bif decide (ao (gt l (i + 1)) m < 0) then gt l (i + 1) else m) (gt l 0)
theorem nT (l : List GR) (n : Nat) : l6 l (n + 1) = (bif decide (ao (gt l (n + 1)) (l6 l n) < 0) then gt l (n + 1) else l6 l n) := by
 unfold l6; rw [List.range_succ, List.foldl_append]; rfl
theorem sF {P : GR → Prop} {l : List GR} (h : ∀ i, P (gt l i)) : ∀ n, P (l6 l n)
 | 0 => h 0
 | n + 1 => by
  rw [nT]
  cases decide (ao (gt l (n + 1)) (l6 l n) < 0)
  · exact sF h n
  · exact h _
theorem minR_ct (l : List GR) (lv : Value) (hl : l.length ≤ 1000) (h0 : 0 < l.length) (zl : ∀ i, SzR 30 (gt l i)) (w0 : World) (hlv : View w0 lv l) : Calls Tryz.prog 184 #[lv, .func (.func 127) #[] #[]] w0 (cq w0 (vR (l6 l (l.length - 1))) (SzR 30 (l6 l (l.length - 1)))) := by
 refine enter (N := 33) (args := [lv, .func (.func 127) #[] #[]]) Tryz.func184 rfl rfl ?_; intro ac h
 have hlen := hlv.len
 refine gz h <| (xa) fun b1 => (ai) ?_ ?_ <;> clear h ac <;> intro ac wo h hc1
 · have := of_decide_eq_true hc1; omega
 refine gz h <| (xa) fun b2 => (W) ?_; clear h ac wo; intro ac wo h
 refine wp_loop_ghost (fun n_ a_ w_ => ∃ (i : Nat), (l.length - i < n_) ∧ (i < l.length) ∧ St w0 33 [(0, lv), (1, .func (.func 127) #[] #[]), (4, ptr b1 0), (5, ptr b2 0), (6, iN (i + 1))] [.blk b2 (cR (l6 l i)) 71, .blk b1 (cR ⟨oQ, oQ, false⟩) 71] a_ w_) (l.length + 1) ⟨0, by omega, by omega, h.rs⟩ ?_
 clear h ac wo; rintro n1 ac wo ⟨i, hm1, hi, h⟩
 obtain ⟨m1, rfl⟩ : ∃ m, n1 = m + 1 := ⟨n1 - 1, by omega⟩
 have zm : SzR 30 (l6 l i) := sF (P := SzR 30) zl i
 refine gz h <| (ai) ?_ ?_ <;> clear h ac wo <;> intro ac wo h hc1
 ·
  have hd1 : i + 1 < l.length := by have := of_decide_eq_true hc1; omega
  have c1 := cH (gt l (i + 1)) (l6 l i) 10 og (zl _) zm
  have e := nT l i
  refine gz h <| (dr0 (hob := (oK c1) <| oE)) <| (ai) ?_ ?_ <;> clear h ac wo <;> intro ac wo h hc2
  · rw [hc2] at e
    refine gz h <| (W) ?_; clear h ac wo; intro ac wo h
    exact aL ⟨m1, by omega, i + 1, by omega, by omega, by rw [e]; exact h.rs⟩
  · rw [hc2] at e
    refine gz h <| (W) ?_; clear h ac wo; intro ac wo h
    exact aL ⟨m1, by omega, i + 1, by omega, by omega, by rw [e]; exact h.rs⟩
 ·
  have hd1 : ¬ i + 1 < l.length := by have := of_decide_eq_false hc1; omega
  obtain rfl : i = l.length - 1 := by omega
  refine gz h <| (W) ?_; clear h ac wo; intro ac wo h
  exact rtc 1 h (h.retP (u := vR (l6 l (l.length - 1))) rfl zm)
end Go.Sx
namespace Go.Sx
open Go Go.RowKit Go.Proofs
set_option maxRecDepth 100000
set_option maxHeartbeats 40000000
attribute [local irreducible] Code.wp wpList Rd Step ObS Ent
attribute [local irreducible] ao aM ak ar aA bD
theorem to1_ct (u : U Ln) (w0 : World) : Calls Tryz.prog 200 #[vUN u] w0 (cq w0 (vUN u) True) := by
 refine enter (N := 8) (args := [vUN u]) Tryz.func200 rfl rfl ?_; intro ac h
 refine gz h <| (xb) fun b1 => (xa) fun b2 => (W) ?_; clear h ac; intro ac wo h
 exact rtc 0 h (h.retP (u := vUN u) rfl trivial)
theorem from1_ct (u : U Ln) (w0 : World) : Calls Tryz.prog 221 #[vUN u] w0 (cq w0 (vUN u) True) := by
 refine enter (N := 8) (args := [vUN u]) Tryz.func221 rfl rfl ?_; intro ac h
 refine gz h <| (xb) fun b1 => (xa) fun b2 => (W) ?_; clear h ac; intro ac wo h
 exact rtc 0 h (h.retP (u := vUN u) rfl trivial)
theorem i0 {α : Type} [Inhabited α] {l : List α} {i : Nat} (h : i < l.length) : l.take i ++ [gt l i] = l.take (i + 1) := by
 rw [List.take_succ_eq_append_getElem h, fB h]
theorem mapTo_ct (l : List (U Ln)) (lv : Value) (hl : l.length ≤ 1000) (w0 : World) (hlv : View w0 lv l) : Calls Tryz.prog 199 #[lv, .func (.func 200) #[] #[]] w0 (RetR w0 199 l True) := by
 refine enter (N := 22) (args := [lv, .func (.func 200) #[] #[]]) Tryz.func199 rfl rfl ?_; intro ac h
 have hlen := hlv.len
 refine gz h <| (W) ?_; clear h ac; intro ac wo h
 replace h := h.nilRow (α := U Ln) 199
 refine wp_loop_ghost (fun n_ a_ w_ => ∃ (i : Nat) (sv : Value), (l.length - i < n_) ∧ (i ≤ l.length) ∧ St w0 22 [(1, .func (.func 200) #[] #[]), (5, sv), (8, lv), (9, iN l.length), (10, iN i)] [.row (α := U Ln) 199 sv (l.take i)] a_ w_) (l.length + 1) ⟨0, _, by omega, by omega, h.re [0]⟩ ?_
 clear h ac wo; rintro n1 ac wo ⟨i, sv, hm1, hi, h⟩
 obtain ⟨m1, rfl⟩ : ∃ m, n1 = m + 1 := ⟨n1 - 1, by omega⟩
 refine gz h <| (ai) ?_ ?_ <;> clear h ac wo <;> intro ac wo h hc1
 ·
  have hd1 := of_decide_eq_true hc1
  refine gz h <| (xa) fun b1 => (xk (to1_ct (gt l i))) <| (W) ?_; clear h ac wo; intro ac wo h
  refine nw h (cY (α := U Ln) (xs := [.tmp 17]) (vs := [vUN (gt l i)]) [gt l i] eZ rfl rfl rfl (by decide)) rfl ?_; clear h ac wo; intro s1 ac wo _ h
  refine on2 h 2 0 rfl rfl (fp (xs := l.take i) (ys := [gt l i]) eZ (fun w hs => (row_view hs 0 rfl)) rfl rfl (by rw [List.length_take]; show _ + 1 ≤ _; omega)) rfl ?_; clear h ac wo; intro s2 ac wo _ h
  rw [i0 (by omega)] at h
  refine gz h <| (W) ?_; clear h ac wo; intro ac wo h
  exact aL ⟨m1, by omega, i + 1, s2, by omega, by omega, h.re [0]⟩
 ·
  have hd1 := of_decide_eq_false hc1
  obtain rfl : i = l.length := by omega
  rw [List.take_length] at h
  refine gz h <| (W) ?_; clear h ac wo; intro ac wo h
  exact (rt h) (h.retR 0 rfl trivial)
theorem ra (l : List (U Ln)) (lv : Value) (hl : l.length ≤ 1000) (w0 : World) (hlv : View w0 lv l) : Calls Tryz.prog 220 #[lv, .func (.func 221) #[] #[]] w0 (RetR w0 88 l True) := by
 refine enter (N := 22) (args := [lv, .func (.func 221) #[] #[]]) Tryz.func220 rfl rfl ?_; intro ac h
 have hlen := hlv.len
 refine gz h <| (W) ?_; clear h ac; intro ac wo h
 replace h := h.nilRow (α := U Ln) 88
 refine wp_loop_ghost (fun n_ a_ w_ => ∃ (i : Nat) (sv : Value), (l.length - i < n_) ∧ (i ≤ l.length) ∧ St w0 22 [(1, .func (.func 221) #[] #[]), (5, sv), (8, lv), (9, iN l.length), (10, iN i)] [.row (α := U Ln) 88 sv (l.take i)] a_ w_) (l.length + 1) ⟨0, _, by omega, by omega, h.re [0]⟩ ?_
 clear h ac wo; rintro n1 ac wo ⟨i, sv, hm1, hi, h⟩
 obtain ⟨m1, rfl⟩ : ∃ m, n1 = m + 1 := ⟨n1 - 1, by omega⟩
 refine gz h <| (ai) ?_ ?_ <;> clear h ac wo <;> intro ac wo h hc1
 ·
  have hd1 := of_decide_eq_true hc1
  refine gz h <| (xa) fun b1 => (xk (from1_ct (gt l i))) <| (W) ?_; clear h ac wo; intro ac wo h
  refine nw h (cY (α := U Ln) (xs := [.tmp 17]) (vs := [vUN (gt l i)]) [gt l i] oW rfl rfl rfl (by decide)) rfl ?_; clear h ac wo; intro s1 ac wo _ h
  refine on2 h 2 0 rfl rfl (fp (xs := l.take i) (ys := [gt l i]) oW (fun w hs => (row_view hs 0 rfl)) rfl rfl (by rw [List.length_take]; show _ + 1 ≤ _; omega)) rfl ?_; clear h ac wo; intro s2 ac wo _ h
  rw [i0 (by omega)] at h
  refine gz h <| (W) ?_; clear h ac wo; intro ac wo h
  exact aL ⟨m1, by omega, i + 1, s2, by omega, by omega, h.re [0]⟩
 ·
  have hd1 := of_decide_eq_false hc1
  obtain rfl : i = l.length := by omega
  rw [List.take_length] at h
  refine gz h <| (W) ?_; clear h ac wo; intro ac wo h
  exact (rt h) (h.retR 0 rfl trivial)
theorem to_ct (l : List (U Ln)) (lv : Value) (hl : l.length ≤ 1000) (w0 : World) (hlv : View w0 lv l) : Calls Tryz.prog 100 #[lv] w0 (RetR w0 199 l True) := by
 refine enter (N := 5) (args := [lv]) Tryz.func100 rfl rfl ?_; intro ac h
 refine gz h <| (W) ?_; clear h ac; intro ac wo h
 refine js (xs := l) h (dR Tryz.call199 rfl) (fun w_ hB_ hS_ => mapTo_ct l lv hl w_ (hlv.below hB_)) rfl ?_; clear h ac wo; intro s1 ac wo _ h
 refine gz h <| (W) ?_; clear h ac wo; intro ac wo h
 exact (rt h) (h.retR 0 rfl trivial)
theorem from_ct (l : List (U Ln)) (lv : Value) (hl : l.length ≤ 1000) (w0 : World) (hlv : View w0 lv l) : Calls Tryz.prog 138 #[lv] w0 (RetR w0 88 l True) := by
 refine enter (N := 5) (args := [lv]) Tryz.func138 rfl rfl ?_; intro ac h
 refine gz h <| (W) ?_; clear h ac; intro ac wo h
 refine js (xs := l) h (dR Tryz.call220 rfl) (fun w_ hB_ hS_ => ra l lv hl w_ (hlv.below hB_)) rfl ?_; clear h ac wo; intro s1 ac wo _ h
 refine gz h <| (W) ?_; clear h ac wo; intro ac wo h
 exact (rt h) (h.retR 0 rfl trivial)
theorem units_ct (l : List (U Ln)) (lv : Value) (hl : l.length ≤ 1000) (w0 : World) (hlv : View w0 lv l) : Calls Tryz.prog 42 #[lv] w0 (RetR w0 199 l True) := by
 refine enter (N := 26) (args := [lv]) Tryz.func42 rfl rfl ?_; intro ac h
 have hlen := hlv.len
 refine gz h <| (W) ?_; clear h ac; intro ac wo h
 replace h := h.nilRow (α := U Ln) 199
 refine wp_loop_ghost (fun n_ a_ w_ => ∃ (i : Nat) (sv : Value), (l.length - i < n_) ∧ (i ≤ l.length) ∧ St w0 26 [(0, lv), (3, sv), (4, iN i)] [.row (α := U Ln) 199 sv (l.take i)] a_ w_) (l.length + 1) ⟨0, _, by omega, by omega, h.re [0]⟩ ?_
 clear h ac wo; rintro n1 ac wo ⟨i, sv, hm1, hi, h⟩
 obtain ⟨m1, rfl⟩ : ∃ m, n1 = m + 1 := ⟨n1 - 1, by omega⟩
 refine gz h <| (ai) ?_ ?_ <;> clear h ac wo <;> intro ac wo h hc1
 ·
  have hd1 := of_decide_eq_true hc1
  refine gz h <| (W) ?_; clear h ac wo; intro ac wo h
  replace h := h.emps 1
  refine eV mixed [dv _, dv _, dv _, dv _, dv _, dv (vV (gt l i).iv), dv _, dv _, dv _, dv _, dv (vN (gt l i).f), dv (vUN (gt l i)), ⟨.nd (.one 12 fun v => NN v 1), [1]⟩, ⟨.nd (.con True), [0, 1]⟩, ⟨.nd (.two 14 13 fun a b => a = b), []⟩]
   [⟨.row (α := U Ln) 199 sv (l.take i), [(13, .one 13 fun v => .row (α := U Ln) 199 v (l.take i ++ [gt l i]))]⟩, ⟨.emp, [(12, .one 12 fun v => .row (α := U Ln) 199 v [gt l i])]⟩] h rfl (by kernel_rfl)
   ⟨oA obA, oA obA, oA obA, oA obA, oA obA, oA obA, oA obA, oA obA, oA obA, oA obA, oA obA, oA fun _ => ba (bF jS rfl rfl rfl), fun _ _ => pj 1 (gt l i) eZ rfl rfl, fun _ _ => ob_ap (j := 12) 0 1 eZ rfl rfl (by rw [List.length_take]; omega) rfl (fun v => by simp only [cp, bp] <;> rfl), fun _ _ => ob_as (j := 13) (by decide) rfl, trivial⟩ ?_
  clear h ac wo; intro ξ ac wo hφ h
  replace h : St w0 26 [(0, lv), (3, ξ 14), (4, iN i)] [.row (α := U Ln) 199 (ξ 13) (l.take i ++ [gt l i])] ac wo := (h.pick [0] (by decide)).sub ⟨rfl, rfl, rfl, trivial⟩
  rw [show ξ 14 = ξ 13 from hφ 14, i0 (by omega)] at h
  generalize ξ 13 = s2 at h; clear hφ ξ
  refine gz h <| (W) ?_; clear h ac wo; intro ac wo h
  exact aL ⟨m1, by omega, i + 1, s2, by omega, by omega, h.re [0]⟩
 ·
  have hd1 := of_decide_eq_false hc1
  obtain rfl : i = l.length := by omega
  rw [List.take_length] at h
  refine gz h <| (W) ?_; clear h ac wo; intro ac wo h
  exact (rt h) (h.retR 0 rfl trivial)
theorem sn (l : List (U Ln)) (lv : Value) (hl : l.length ≤ 1000) (w0 : World) (hlv : View w0 lv l) : Calls Tryz.prog 139 #[lv] w0 (RetR w0 88 l True) := by
 refine enter (N := 26) (args := [lv]) Tryz.func139 rfl rfl ?_; intro ac h
 have hlen := hlv.len
 refine gz h <| (W) ?_; clear h ac; intro ac wo h
 replace h := h.nilRow (α := U Ln) 88
 refine wp_loop_ghost (fun n_ a_ w_ => ∃ (i : Nat) (sv : Value), (l.length - i < n_) ∧ (i ≤ l.length) ∧ St w0 26 [(0, lv), (3, sv), (4, iN i)] [.row (α := U Ln) 88 sv (l.take i)] a_ w_) (l.length + 1) ⟨0, _, by omega, by omega, h.re [0]⟩ ?_
 clear h ac wo; rintro n1 ac wo ⟨i, sv, hm1, hi, h⟩
 obtain ⟨m1, rfl⟩ : ∃ m, n1 = m + 1 := ⟨n1 - 1, by omega⟩
 refine gz h <| (ai) ?_ ?_ <;> clear h ac wo <;> intro ac wo h hc1
 ·
  have hd1 := of_decide_eq_true hc1
  refine gz h <| (W) ?_; clear h ac wo; intro ac wo h
  replace h := h.emps 1
  refine eV mixed [dv _, dv _, dv _, dv _, dv _, dv (vV (gt l i).iv), dv _, dv _, dv _, dv _, dv (vN (gt l i).f), dv (vUN (gt l i)), ⟨.nd (.one 12 fun v => NN v 1), [1]⟩, ⟨.nd (.con True), [0, 1]⟩, ⟨.nd (.two 14 13 fun a b => a = b), []⟩]
   [⟨.row (α := U Ln) 88 sv (l.take i), [(13, .one 13 fun v => .row (α := U Ln) 88 v (l.take i ++ [gt l i]))]⟩, ⟨.emp, [(12, .one 12 fun v => .row (α := U Ln) 88 v [gt l i])]⟩] h rfl (by kernel_rfl)
   ⟨oA obA, oA obA, oA obA, oA obA, oA obA, oA obA, oA obA, oA obA, oA obA, oA obA, oA obA, oA fun _ => ba (bF bld88 rfl rfl rfl), fun _ _ => pj 1 (gt l i) oW rfl rfl, fun _ _ => ob_ap (j := 12) 0 1 oW rfl rfl (by rw [List.length_take]; omega) rfl (fun v => by simp only [cp, bp] <;> rfl), fun _ _ => ob_as (j := 13) (by decide) rfl, trivial⟩ ?_
  clear h ac wo; intro ξ ac wo hφ h
  replace h : St w0 26 [(0, lv), (3, ξ 14), (4, iN i)] [.row (α := U Ln) 88 (ξ 13) (l.take i ++ [gt l i])] ac wo := (h.pick [0] (by decide)).sub ⟨rfl, rfl, rfl, trivial⟩
  rw [show ξ 14 = ξ 13 from hφ 14, i0 (by omega)] at h
  generalize ξ 13 = s2 at h; clear hφ ξ
  refine gz h <| (W) ?_; clear h ac wo; intro ac wo h
  exact aL ⟨m1, by omega, i + 1, s2, by omega, by omega, h.re [0]⟩
 ·
  have hd1 := of_decide_eq_false hc1
  obtain rfl : i = l.length := by omega
  rw [List.take_length] at h
  refine gz h <| (W) ?_; clear h ac wo; intro ac wo h
  exact (rt h) (h.retR 0 rfl trivial)
end Go.Sx
namespace Go.Sx
open Go Go.RowKit Go.Proofs
set_option maxRecDepth 100000
set_option maxHeartbeats 40000000
attribute [local irreducible] Code.wp wpList Rd Step ObS Ent
attribute [local irreducible] ao aM ak ar aA bD
attribute [local irreducible] aI aN aj au aR ah
def ki (l : List GR) (n : Nat) : GR := (List.range n).foldl (fun m i => bif decide (ao (gt l (i + 1)) m > 0) then gt l (i + 1) else m) (gt l 0)
theorem nV (l : List GR) (n : Nat) : ki l (n + 1) = (bif decide (ao (gt l (n + 1)) (ki l n) > 0) then gt l (n + 1) else ki l n) := by
 unfold ki; rw [List.range_succ, List.foldl_append]; rfl
theorem sJ {P : GR → Prop} {l : List GR} (h : ∀ i, P (gt l i)) : ∀ n, P (ki l n)
 | 0 => h 0
 | n + 1 => by
  rw [nV]
  cases decide (ao (gt l (n + 1)) (ki l n) > 0)
  · exact sJ h n
  · exact h _
theorem maxR_ct (l : List GR) (lv : Value) (hl : l.length ≤ 1000) (h0 : 0 < l.length) (zl : ∀ i, SzR 30 (gt l i)) (w0 : World) (hlv : View w0 lv l) : Calls Tryz.prog 185 #[lv, .func (.func 127) #[] #[]] w0 (cq w0 (vR (ki l (l.length - 1))) (SzR 30 (ki l (l.length - 1)))) := by
 refine enter (N := 33) (args := [lv, .func (.func 127) #[] #[]]) Tryz.func185 rfl rfl ?_; intro ac h
 have hlen := hlv.len
 refine gz h <| (xa) fun b1 => (ai) ?_ ?_ <;> clear h ac <;> intro ac wo h hc1
 · have := of_decide_eq_true hc1; omega
 refine gz h <| (xa) fun b2 => (W) ?_; clear h ac wo; intro ac wo h
 refine wp_loop_ghost (fun n_ a_ w_ => ∃ (i : Nat), (l.length - i < n_) ∧ (i < l.length) ∧ St w0 33 [(0, lv), (1, .func (.func 127) #[] #[]), (4, ptr b1 0), (5, ptr b2 0), (6, iN (i + 1))] [.blk b2 (cR (ki l i)) 71, .blk b1 (cR ⟨oQ, oQ, false⟩) 71] a_ w_) (l.length + 1) ⟨0, by omega, by omega, h.rs⟩ ?_
 clear h ac wo; rintro n1 ac wo ⟨i, hm1, hi, h⟩
 obtain ⟨m1, rfl⟩ : ∃ m, n1 = m + 1 := ⟨n1 - 1, by omega⟩
 have zm : SzR 30 (ki l i) := sJ (P := SzR 30) zl i
 refine gz h <| (ai) ?_ ?_ <;> clear h ac wo <;> intro ac wo h hc1
 ·
  have hd1 : i + 1 < l.length := by have := of_decide_eq_true hc1; omega
  have c1 := cH (gt l (i + 1)) (ki l i) 10 og (zl _) zm
  have e := nV l i
  refine gz h <| (dr0 (hob := (oK c1) <| oE)) <| (ai) ?_ ?_ <;> clear h ac wo <;> intro ac wo h hc2
  · rw [hc2] at e
    refine gz h <| (W) ?_; clear h ac wo; intro ac wo h
    exact aL ⟨m1, by omega, i + 1, by omega, by omega, by rw [e]; exact h.rs⟩
  · rw [hc2] at e
    refine gz h <| (W) ?_; clear h ac wo; intro ac wo h
    exact aL ⟨m1, by omega, i + 1, by omega, by omega, by rw [e]; exact h.rs⟩
 ·
  have hd1 : ¬ i + 1 < l.length := by have := of_decide_eq_false hc1; omega
  obtain rfl : i = l.length - 1 := by omega
  refine gz h <| (W) ?_; clear h ac wo; intro ac wo h
  exact rtc 1 h (h.retP (u := vR (ki l (l.length - 1))) rfl zm)
theorem l7 (l : List (U Ln)) (lv : Value) (hl : l.length < 20) (zl : All (gC 30) l) (w0 : World) (hlv : View w0 lv l) : Calls Tryz.prog 46 #[lv] w0 (RetT w0 88 (aP l).1 [.int .i64 (aP l).2] (All (gC 20) (aP l).1 ∧ (aP l).1.length ≤ 3 * l.length)) := by
 refine enter (N := 17) (args := [lv]) Tryz.func46 rfl rfl ?_; intro ac h
 have p1 := RetT.pr (dC l lv hl zl w0 hlv)
 refine gz h <| (W) ?_; clear h ac; intro ac wo h
 refine js (xs := l) h (dR Tryz.call100 rfl) (fun w_ hB_ hS_ => to_ct l lv (by omega) w_ (hlv.below hB_)) rfl ?_; clear h ac wo; intro s1 ac wo _ h
 refine gz h <| (W) ?_; clear h ac wo; intro ac wo h
 refine pQ (xs := (aP l).1) h (dR Tryz.call132 rfl) (fun w_ hB_ hS_ => dC l s1 hl zl w_ (row_view hS_ 0 rfl)) rfl ?_; clear h ac wo; intro s2 ac wo _ h
 refine gz h <| (W) ?_; clear h ac wo; intro ac wo h
 refine js (xs := (aP l).1) h (dR Tryz.call138 rfl) (fun w_ hB_ hS_ => from_ct _ s2 (by omega) w_ (row_view hS_ 0 rfl)) rfl ?_; clear h ac wo; intro s3 ac wo _ h
 refine gz h <| (W) ?_; clear h ac wo; intro ac wo h
 exact (rt h) (h.retT 0 rfl rfl p1)
theorem qP (l : List (U Ln)) (lv : Value) (hl : l.length < 20) (zl : All (gC 30) l) (w0 : World) (hlv : View w0 lv l) : Calls Tryz.prog 47 #[lv] w0 (RetT w0 88 (aP l).1 [.int .i64 (aP l).2] (All (gC 20) (aP l).1 ∧ (aP l).1.length ≤ 3 * l.length)) := by
 refine enter (N := 17) (args := [lv]) Tryz.func47 rfl rfl ?_; intro ac h
 have p1 := RetT.pr (dC l lv hl zl w0 hlv)
 refine gz h <| (W) ?_; clear h ac; intro ac wo h
 refine js (xs := l) h (dR Tryz.call42 rfl) (fun w_ hB_ hS_ => units_ct l lv (by omega) w_ (hlv.below hB_)) rfl ?_; clear h ac wo; intro s1 ac wo _ h
 refine gz h <| (W) ?_; clear h ac wo; intro ac wo h
 refine pQ (xs := (aP l).1) h (dR Tryz.call132 rfl) (fun w_ hB_ hS_ => dC l s1 hl zl w_ (row_view hS_ 0 rfl)) rfl ?_; clear h ac wo; intro s2 ac wo _ h
 refine gz h <| (W) ?_; clear h ac wo; intro ac wo h
 refine js (xs := (aP l).1) h (dR Tryz.call139 rfl) (fun w_ hB_ hS_ => sn _ s2 (by omega) w_ (row_view hS_ 0 rfl)) rfl ?_; clear h ac wo; intro s3 ac wo _ h
 refine gz h <| (W) ?_; clear h ac wo; intro ac wo h
 exact (rt h) (h.retT 0 rfl rfl p1)
end Go.Sx
namespace Go.Sx
open Go Go.RowKit Go.Proofs
set_option maxRecDepth 100000
set_option maxHeartbeats 40000000
attribute [local irreducible] Code.wp wpList Rd Step ObS Ent
attribute [local irreducible] ao aM ak ar aA bD
attribute [local irreducible] aI aN aj au aR ah aU
def badS (a : Smp) : Bool := ((bW a.t != 0) || (bW a.p.x != 0)) || (bW a.p.y != 0)
def pn (l : List Smp) (i : Nat) : Bool := decide (0 < i) && decide (aU (gt l i).t (gt l (i - 1)).t ≤ 0)
def frF (l : List Smp) (i : Nat) : U Ln := ⟨⟨ay (gt l i).t, ay (gt l (i + 1)).t, decide (0 < i), false⟩, dH (gt l i) (gt l (i + 1))⟩
def frP (l : List Smp) (n : Nat) : List (U Ln) := (List.range n).map (frF l)
def frO (l : List Smp) : U Ln := ⟨⟨ay (gt l 0).t, ay (gt l 0).t, false, false⟩, ja (gt l 0).p⟩
def frS (l : List Smp) (N : List (U Ln) × Int) : List (U Ln) × Int :=
 if 256 < l.length then ([], 3) else if ∃ i, i < l.length ∧ badS (gt l i) = true then ([], 5) else if ∃ i, i < l.length ∧ pn l i = true then ([], 7)
 else if l.length = 1 then ([frO l], 0) else N
theorem frP_succ (l : List Smp) (n : Nat) : frP l (n + 1) = frP l n ++ [frF l n] := by unfold frP; rw [List.range_succ, List.map_append]; rfl
theorem frP_len (l : List Smp) (n : Nat) : (frP l n).length = n := by unfold frP; simp
theorem frS_ct (l : List Smp) (lv : Value) (hl : l.length ≤ 1000) (zl : ∀ i, SzSm 40 (gt l i)) (N : List (U Ln) × Int) (p : Prop) (hN : ∀ lv' w, View w lv' (frP l (l.length - 1)) → Calls Tryz.prog 46 #[lv'] w (RetT w 88 N.1 [.int .i64 N.2] p)) (w0 : World) (hlv : View w0 lv l) : Calls Tryz.prog 16 #[lv] w0 (RetT w0 88 (frS l N).1 [.int .i64 (frS l N).2] True) := by
 refine enter (N := 162) (args := [lv]) Tryz.func16 rfl rfl ?_; intro ac h
 have hlen := hlv.len
 refine gz h <| (ai) ?_ ?_ <;> clear h ac <;> intro ac wo h hc1
 ·
  have hd : frS l N = ([], 3) := by unfold frS; rw [if_pos (by have := of_decide_eq_true hc1; omega)]
  rw [hd]
  refine gz h <| (W) ?_; clear h ac wo; intro ac wo h
  replace h := h.nilRow (α := U Ln) 88
  exact (rt h) (h.retT 0 rfl rfl trivial)
 have h256 : ¬ 256 < l.length := by have := of_decide_eq_false hc1; omega
 refine gz h <| (W) ?_; clear h ac wo; intro ac wo h
 refine wp_loop_ghost (fun n_ a_ w_ => ∃ (i : Nat), (l.length - i < n_) ∧ (i ≤ l.length) ∧ (∀ j, j < i → badS (gt l j) = false) ∧ St w0 162 [(0, lv), (20, lv), (21, iN l.length), (22, iN i)] [] a_ w_) (l.length + 1) ⟨0, by omega, by omega, fun j hj => by omega, h.rs⟩ ?_
 clear h ac wo; rintro n1 ac wo ⟨i, hm1, hi, hB, h⟩
 obtain ⟨m1, rfl⟩ : ∃ m, n1 = m + 1 := ⟨n1 - 1, by omega⟩
 refine gz h <| (ai) ?_ ?_ <;> clear h ac wo <;> intro ac wo h hc2
 ·
  have hd1 : i < l.length := by have := of_decide_eq_true hc2; omega
  have zi := zl i
  have c1 := dM (gt l i).t (cn zi.1 og)
  have c2 := dM (gt l i).p.x (cn zi.2.1 og)
  have c3 := dM (gt l i).p.y (cn zi.2.2 og)
  refine gz h <| (xa) fun b1 => (xk c1) <| (xg (hs := by exact fun hg => d6 enA (kk c2))) <| (xg (hs := by exact fun hg => d6 enA (kk c3))) <| (ai) ?_ ?_ <;> clear h ac wo <;> intro ac wo h hc3
  ·
   have hd : frS l N = ([], 5) := by unfold frS; rw [if_neg h256, if_pos ⟨i, hd1, hc3⟩]
   rw [hd]
   refine gz h <| (W) ?_; clear h ac wo; intro ac wo h
   replace h := h.nilRow (α := U Ln) 88
   exact (rt h) (h.retT 0 rfl rfl trivial)
  ·
   refine gz h <| (W) ?_; clear h ac wo; intro ac wo h
   refine aL ⟨m1, by omega, i + 1, by omega, by omega, fun j hj => ?_, h.re []⟩
   by_cases e : j = i
   · subst e; exact hc3
   · exact hB j (by omega)
 obtain rfl : i = l.length := by have := of_decide_eq_false hc2; omega
 have h5 : ¬ ∃ i, i < l.length ∧ badS (gt l i) = true := fun ⟨i, h1, h2⟩ => by rw [hB i h1] at h2; cases h2
 clear hB hm1
 refine gz h <| (W) ?_; clear h ac wo; intro ac wo h
 refine wp_loop_ghost (fun n_ a_ w_ => ∃ (i : Nat), (l.length - i < n_) ∧ (i ≤ l.length) ∧ (∀ j, j < i → pn l j = false) ∧ St w0 162 [(0, lv), (46, iN l.length), (47, iN i)] [] a_ w_) (l.length + 1) ⟨0, by omega, by omega, fun j hj => by omega, h.rs⟩ ?_
 clear h ac wo; rintro n1 ac wo ⟨i, hm1, hi, hB, h⟩
 obtain ⟨m1, rfl⟩ : ∃ m, n1 = m + 1 := ⟨n1 - 1, by omega⟩
 refine gz h <| (ai) ?_ ?_ <;> clear h ac wo <;> intro ac wo h hc2
 ·
  have hd1 : i < l.length := by have := of_decide_eq_true hc2; omega
  have zi := zl i
  have zj := zl (i - 1)
  have c1 := fg (gt l i).t (gt l (i - 1)).t 30 og (cn zi.1 og) (cn zj.1 og)
  refine gz h <| (dr0 (hob := (oG (by exact fun hg => c1)) <| oE)) <| (ai) ?_ ?_ <;> clear h ac wo <;> intro ac wo h hc3
  ·
   have hd : frS l N = ([], 7) := by
    unfold frS; rw [if_neg h256, if_neg h5, if_pos ⟨i, hd1, by unfold pn; rw [← hc3, show decide (0 < i) = decide ((i : Int) > 0) from decide_eq_decide.mpr (by omega)]⟩]
   rw [hd]
   refine gz h <| (W) ?_; clear h ac wo; intro ac wo h
   replace h := h.nilRow (α := U Ln) 88
   exact (rt h) (h.retT 0 rfl rfl trivial)
  ·
   refine gz h <| (W) ?_; clear h ac wo; intro ac wo h
   refine aL ⟨m1, by omega, i + 1, by omega, by omega, fun j hj => ?_, h.re []⟩
   by_cases e : j = i
   · subst e
     unfold pn; rw [← hc3, show decide (0 < j) = decide ((j : Int) > 0) from decide_eq_decide.mpr (by omega)]
   · exact hB j (by omega)
 obtain rfl : i = l.length := by have := of_decide_eq_false hc2; omega
 have h7 : ¬ ∃ i, i < l.length ∧ pn l i = true := fun ⟨i, h1, h2⟩ => by rw [hB i h1] at h2; cases h2
 clear hB hm1
 refine gz h <| (ai) ?_ ?_ <;> clear h ac wo <;> intro ac wo h hc3
 ·
  have h1 : l.length = 1 := by have := of_decide_eq_true hc3; omega
  have hd : frS l N = ([frO l], 0) := by unfold frS; rw [if_neg h256, if_neg h5, if_neg h7, if_pos h1]
  rw [hd]
  have z0 := zl 0
  have c1 := f5 (gt l 0).t 40 og z0.1
  refine gz h <| (xk c1) <| (xa) fun b1 => (W) ?_; clear h ac wo; intro ac wo h
  replace h := h.emps 1
  have hlt : 0 < l.length := by omega
  have n1 := hlv.nn hlt
  refine eV mixed [dw (vR (ay (gt l 0).t)) [0], dw (vR (ay (gt l 0).t)) [0], dv (vV ⟨ay (gt l 0).t, ay (gt l 0).t, false, false⟩), dv _, dv _, dv _, dv _, dv (vQ (gt l 0).p.x), dv _, dv _, dv _, dv _, dv (vQ (gt l 0).p.y), dv (vN (ja (gt l 0).p)), dv (vUN (frO l)), ⟨.nd (.one 15 fun v => NN v 1), [1]⟩, ⟨.nd (.two 16 15 fun a b => a = b), []⟩, dv (.int .i64 0)]
   [⟨_, []⟩, ⟨.emp, [(15, .one 15 fun v => .row (α := U Ln) 88 v [frO l])]⟩] h rfl (by kernel_rfl)
   ⟨oA obA, oA obA, oA fun _ => ba (bF nj rfl rfl rfl), oA obA, oA obA, oA obA, oA obA, oA obA, oA obA, oA obA, oA obA, oA obA, oA obA, oA fun _ => ba (bF tK rfl rfl rfl), oA fun _ => ba (bF bld88 rfl rfl rfl), fun _ _ => pj 1 (frO l) oW rfl rfl, fun _ _ => ob_as (j := 15) (by decide) rfl, oA obA, trivial⟩ ?_
  clear h ac wo; intro ξ ac wo hφ h
  replace h : St w0 162 [(2, ξ 16), (3, .int .i64 0)] [.row (α := U Ln) 88 (ξ 15) [frO l]] ac wo := (h.pick [1] (by decide)).sub ⟨rfl, rfl, trivial⟩
  rw [show ξ 16 = ξ 15 from hφ 16] at h
  generalize ξ 15 = s2 at h; clear hφ ξ
  refine gz h <| (W) ?_; clear h ac wo; intro ac wo h
  exact (rt h) (h.retT 0 rfl rfl trivial)
 have h1 : ¬ l.length = 1 := by have := of_decide_eq_false hc3; omega
 have hd : frS l N = N := by unfold frS; rw [if_neg h256, if_neg h5, if_neg h7, if_neg h1]
 rw [hd]; clear hd h5 h7
 refine gz h <| (W) ?_; clear h ac wo; intro ac wo h
 replace h := h.nilRow (α := U Ln) 88
 refine gz h <| (W) ?_; clear h ac wo; intro ac wo h
 refine wp_loop_ghost (fun n_ a_ w_ => ∃ (i : Nat) (sv : Value), (l.length - i < n_) ∧ (1 ≤ i) ∧ (i ≤ l.length ∨ i = 1) ∧ St w0 162 [(0, lv), (8, sv), (9, iN i)] [.row (α := U Ln) 88 sv (frP l (i - 1))] a_ w_) (l.length + 1) ⟨1, _, by omega, by omega, by omega, h.re [0]⟩ ?_
 clear h ac wo; rintro n1 ac wo ⟨i, sv, hm1, hi1, hi, h⟩
 obtain ⟨m1, rfl⟩ : ∃ m, n1 = m + 1 := ⟨n1 - 1, by omega⟩
 refine gz h <| (ai) ?_ ?_ <;> clear h ac wo <;> intro ac wo h hc2
 ·
  have hlt2 : i < l.length := by have := of_decide_eq_true hc2; omega
  have hlt : i - 1 < l.length := by omega
  have n1 := hlv.nn hlt
  refine gz h <| (W) ?_; clear h ac wo; intro ac wo h
  replace h := h.emps 2
  refine eV mixed [dv lv, dv (iN i), dv (iN (i - 1)), dv (sel lv ((i - 1) * 12 + 0)), dv (vSm (gt l (i - 1))), dv lv, dv (iN i), dv (sel lv (i * 12 + 0)), dv (vSm (gt l i)), ⟨.nd (.one 9 fun v => ∃ b, v = ptr b 0), [1]⟩, ⟨.nd (.one 10 fun v => ∃ b, v = ptr b 0), [2]⟩, dw undef [1], dw undef [2]]
   [⟨_, []⟩, ⟨.emp, [(9, .one 9 fun v => .blk (bC v) (cSm default) 31), (11, .one 9 fun v => .blk (bC v) (cSm (gt l (i - 1))) 31)]⟩, ⟨.emp, [(10, .one 10 fun v => .blk (bC v) (cSm default) 31), (12, .one 10 fun v => .blk (bC v) (cSm (gt l i)) 31)]⟩] h rfl (by kernel_rfl)
   ⟨oA obA, oA obA, oA obA, oA obA, oA obA, oA obA, oA obA, oA obA, oA obA, fun _ _ => pm 1 rfl (fun _ => rfl), fun _ _ => pm 2 rfl (fun _ => rfl), fun ξ hφ => pk (u := vSm (gt l (i - 1))) 1 (hφ 9 rfl) rfl rfl rfl rfl rfl rfl rfl, fun ξ hφ => pk (u := vSm (gt l i)) 2 (hφ 10 rfl) rfl rfl rfl rfl rfl rfl rfl, trivial⟩ ?_
  clear h ac wo; intro ξ ac wo hφ h
  obtain ⟨b4, hb4⟩ : ∃ b, ξ 9 = ptr b 0 := hφ 9
  obtain ⟨b5, hb5⟩ : ∃ b, ξ 10 = ptr b 0 := hφ 10
  replace h : St w0 162 [(0, lv), (8, sv), (9, iN i), (10, ξ 9), (11, ξ 10)] [.row (α := U Ln) 88 sv (frP l (i - 1)), .blk (bC (ξ 9)) (cSm (gt l (i - 1))) 31, .blk (bC (ξ 10)) (cSm (gt l i)) 31] ac wo := (h.pick [0, 1, 2] (by decide)).sub ⟨rfl, rfl, rfl, rfl, rfl, trivial⟩
  rw [hb4, hb5] at h
  clear hb4 hb5 hφ ξ
  have za := zl (i - 1)
  have zb := zl i
  have c1 := fR (gt l (i - 1)).t (gt l (i - 1)).p.x (gt l i).t (gt l i).p.x za.1 za.2.1 zb.1 zb.2.1
  have c2 := fR (gt l (i - 1)).t (gt l (i - 1)).p.y (gt l i).t (gt l i).p.y za.1 za.2.2 zb.1 zb.2.2
  refine gz h <| (xk c1) <| (xa) fun b6 => (xk c2) <| (xa) fun b7 => (W) ?_; clear h ac wo; intro ac wo h
  obtain ⟨q1, hq1⟩ : ∃ q, (bI (gt l (i - 1)).t (gt l (i - 1)).p.x (gt l i).t (gt l i).p.x).1 = q := ⟨_, rfl⟩
  obtain ⟨q2, hq2⟩ : ∃ q, (bI (gt l (i - 1)).t (gt l (i - 1)).p.y (gt l i).t (gt l i).p.y).1 = q := ⟨_, rfl⟩
  replace h : St w0 162 [(0, lv), (8, sv), (9, iN i), (10, ptr b4 0), (11, ptr b5 0), (12, ptr b6 0), (14, ptr b7 0)] [.row (α := U Ln) 88 sv (frP l (i - 1)), .blk b4 (cSm (gt l (i - 1))) 31, .blk b5 (cSm (gt l i)) 31, .blk b6 (cD q1) 53, .blk b7 (cD q2) 53] ac wo := by
   rw [← hq1, ← hq2]; exact h.re [2, 3, 4, 1, 0]
  have c3 := f5 (gt l (i - 1)).t 40 og za.1
  have c4 := f5 (gt l i).t 40 og zb.1
  replace h := h.emps 1
  obtain ⟨v, hv⟩ : ∃ v : Iv, (⟨ay (gt l (i - 1)).t, ay (gt l i).t, decide ((i : Int) > 1), false⟩ : Iv) = v := ⟨_, rfl⟩
  refine eV mixed [dv (ptr b4 0), dw (vQ (gt l (i - 1)).t) [1], dv (vR (ay (gt l (i - 1)).t)), dv (ptr b5 0), dw (vQ (gt l i).t) [2], dv (vR (ay (gt l i).t)), dv (iN i), dv (.bool (decide ((i : Int) > 1))), dv (vV v), ⟨.nd (.one 9 fun v => ∃ b, v = ptr b 0), [5]⟩, dw undef [5]]
   [⟨_, []⟩, ⟨_, []⟩, ⟨_, []⟩, ⟨_, []⟩, ⟨_, []⟩, ⟨.emp, [(9, .one 9 fun x => .blk (bC x) (cV default) 86), (10, .one 9 fun x => .blk (bC x) (cV v) 86)]⟩] h rfl (by kernel_rfl)
   ⟨oA obA, oA obA, oA fun _ => hH (gI Tryz.call88 rfl c3), oA obA, oA obA, oA fun _ => hH (gI Tryz.call88 rfl c4), oA obA, oA obA, (by rw [← hv]; exact oA fun _ => ba (bF nj rfl rfl rfl)), fun _ _ => pm 5 rfl (fun _ => rfl), fun ξ hφ => pk (u := vV v) 5 (hφ 9 rfl) rfl rfl rfl rfl rfl rfl rfl, trivial⟩ ?_
  clear h ac wo; intro ξ ac wo hφ h
  obtain ⟨b8, hb8⟩ : ∃ b, ξ 9 = ptr b 0 := hφ 9
  replace h : St w0 162 [(0, lv), (8, sv), (9, iN i), (12, ptr b6 0), (14, ptr b7 0), (16, ξ 9)] [.row (α := U Ln) 88 sv (frP l (i - 1)), .blk b6 (cD q1) 53, .blk b7 (cD q2) 53, .blk (bC (ξ 9)) (cV v) 86] ac wo := (h.pick [0, 3, 4, 5] (by decide)).sub ⟨rfl, rfl, rfl, rfl, rfl, rfl, trivial⟩
  rw [hb8] at h
  clear hb8 hφ ξ
  have eu : (⟨v, ⟨q1.c0, q1.c1, q2.c0, q2.c1⟩⟩ : U Ln) = frF l (i - 1) := by
   unfold frF dH lnOf; rw [show i - 1 + 1 = i by omega, ← hv, ← hq1, ← hq2]
   have : decide ((i : Int) > 1) = decide (0 < i - 1) := decide_eq_decide.mpr (by omega)
   rw [this]
  refine gz h <| (W) ?_; clear h ac wo; intro ac wo h
  refine nw h (cY (α := U Ln) (xs := [.tmp 155]) (vs := [vUN (⟨v, ⟨q1.c0, q1.c1, q2.c0, q2.c1⟩⟩ : U Ln)]) [(⟨v, ⟨q1.c0, q1.c1, q2.c0, q2.c1⟩⟩ : U Ln)] oW rfl rfl rfl (by decide)) rfl ?_; clear h ac wo; intro s1 ac wo _ h
  refine on2 h 1 0 rfl rfl (fp (xs := frP l (i - 1)) (ys := [(⟨v, ⟨q1.c0, q1.c1, q2.c0, q2.c1⟩⟩ : U Ln)]) oW (fun w hs => (row_view hs 0 rfl)) rfl rfl (by rw [frP_len]; show _ + 1 ≤ _; omega)) rfl ?_; clear h ac wo; intro s2 ac wo _ h
  rw [eu, ← frP_succ, show i - 1 + 1 = i + 1 - 1 by omega] at h
  refine gz h <| (W) ?_; clear h ac wo; intro ac wo h
  exact aL ⟨m1, by omega, i + 1, s2, by omega, by omega, by omega, h.re [0]⟩
 ·
  have hge : l.length ≤ i := by have := of_decide_eq_false hc2; omega
  have e : frP l (i - 1) = frP l (l.length - 1) := by congr 1; omega
  rw [e] at h
  refine gz h <| (W) ?_; clear h ac wo; intro ac wo h
  refine pQ (xs := N.1) h (dR Tryz.call46 rfl) (fun w_ hB_ hS_ => hN sv w_ (row_view hS_ 0 rfl)) rfl ?_; clear h ac wo; intro s2 ac wo _ h
  refine gz h <| (W) ?_; clear h ac wo; intro ac wo h
  exact (rt h) (h.retT 0 rfl rfl trivial)
end Go.Sx
namespace Go.Sx
open Go Go.RowKit Go.Proofs
set_option maxRecDepth 100000
set_option maxHeartbeats 40000000
attribute [local irreducible] Code.wp wpList Rd Step ObS Ent
attribute [local irreducible] ao aM ak ar aA bD
attribute [local irreducible] aI aN aj au aR ah aU
structure Bx where
  a : Int
  b : Int
  c : Int
  d : Int
  e : Int
  f : Int
  deriving DecidableEq
def cBx (x : Bx) : List Value := [.int .i64 x.a, .int .i64 x.b, .int .i64 x.c, .int .i64 x.d, .int .i64 x.e, .int .i64 x.f]
def vBx (x : Bx) : Value := .agg (cBx x).toArray
instance yJ3_1 (x : Bx) : Cel (vBx x) (cBx x) := ⟨rfl⟩
instance yJ3_2 (x : Bx) : Dc (cBx x) (vBx x) := ⟨rfl⟩
instance yJ3_3 : Sz Tryz.prog 135 6 := ⟨Tryz.sizeOf135⟩
instance yJ3_4 : Ag Tryz.prog 135 true := ⟨Tryz.isAgg135⟩
instance yJ3_5 : Zc Tryz.prog 135 (cBx ⟨0, 0, 0, 0, 0, 0⟩) := ⟨⟨_, vv135, rfl⟩⟩
instance yJ3_6 : Sh Tryz.prog 135 Bx vBx := ⟨trivial⟩
instance yJ3_7 : Sz Tryz.prog 245 3 := ⟨Tryz.sizeOf245⟩
instance yJ3_8 : Ag Tryz.prog 245 true := ⟨Tryz.isAgg245⟩
instance yJ3_9 : Un Tryz.prog 245 (.array 3 66) := ⟨uu245⟩
instance yJ3_10 : Zc Tryz.prog 245 [.slice none 0 0, .slice none 0 0, .slice none 0 0] := ⟨⟨_, Tryz.zeroValue245, rfl⟩⟩
instance yJ3_11 : Sz Tryz.prog 249 3 := ⟨Tryz.sizeOf249⟩
instance yJ3_12 : Un Tryz.prog 249 (.array 3 3) := ⟨uu249⟩
instance yJ3_13 : Zc Tryz.prog 249 [.int .i64 0, .int .i64 0, .int .i64 0] := ⟨⟨_, Tryz.zeroValue249, rfl⟩⟩
theorem bld135 : BuildF Tryz.prog 135 (cBx ⟨0, 0, 0, 0, 0, 0⟩) [(0, 1), (1, 1), (2, 1), (3, 1), (4, 1), (5, 1)] := BuildF.of vv135 rfl Tryz.runUnderlying135 (by intro w; simp [zz3])
instance yJ3_14 (a b c d e f : Int) : Bu Tryz.prog 135 [0, 1, 2, 3, 4, 5] [.int .i64 a, .int .i64 b, .int .i64 c, .int .i64 d, .int .i64 e, .int .i64 f] (vBx ⟨a, b, c, d, e, f⟩) := Bu.of bld135 rfl rfl
def enR (l : List (U Ln)) (k : Nat) : GR := bif k % 2 == 0 then (gt l (k / 2)).iv.lo else (gt l (k / 2)).iv.hi
def enP (l : List (U Ln)) (k : Nat) : RPt := ptAt (gt l (k / 2)).f (enR l k)
def bT (l : List (U Ln)) (n : Nat) : List GR := (List.range n).map (enR l)
def bX (l : List (U Ln)) (n : Nat) : List GR := (List.range n).map fun k => (enP l k).x
def bY (l : List (U Ln)) (n : Nat) : List GR := (List.range n).map fun k => (enP l k).y
theorem mS {α : Type} (f : Nat → α) (n : Nat) : (List.range (n + 1)).map f = (List.range n).map f ++ [f n] := by rw [List.range_succ, List.map_append]; rfl
theorem bT_len (l : List (U Ln)) (n : Nat) : (bT l n).length = n := by unfold bT; simp
theorem bX_len (l : List (U Ln)) (n : Nat) : (bX l n).length = n := by unfold bX; simp
theorem bY_len (l : List (U Ln)) (n : Nat) : (bY l n).length = n := by unfold bY; simp
theorem su {P : Program} {w0 : World} {α : Type} [Cod α] {ol : List Oper} {H : List Hist} {ξ : Nat → Value} {G : (Nat → Value) → List (Nat × Value)} {st et bytes i j : Nat} {zero : List Value} {x y : Operand} {sv : Value} {dst : Option Tmp} {ty : TypeId} {pos : String} {aft : Array Edge} (eo e0 : Nat) {xs : List α} {u : α}
    (hT : SlT P st et (Cod.n α) bytes zero) (hx : ev (eM (G ξ) (dF (.call ⟨.builtin .append, #[x, y], #[st, st]⟩))) x = some sv) (hy : ev (eM (G ξ) (dF (.call ⟨.builtin .append, #[x, y], #[st, st]⟩))) y = some (ξ j)) (hl : xs.length + [u].length ≤ 34359738368)
    (h1 : cp H [eo, e0] i ξ = [.row et sv xs, .row et (ξ j) [u]]) (h2 : ∀ v, cp H [eo, e0] (i + 1) (upd ξ i v) = [.row et v (xs ++ [u]), .row et (ξ j) [u]]) : ObS P w0 ol H G ξ i ⟨dst, .call ⟨.builtin .append, #[x, y], #[st, st]⟩, ty, pos, aft, none⟩ ⟨.nd (.one i fun v => np v), [eo, e0]⟩ :=
  lW (ψ := fun v => [u] ≠ [] → NN v (xs ++ [u]).length) (B := fun v => [.row et v (xs ++ [u]), .row et (ξ j) [u]]) [.row et sv xs, .row et (ξ j) [u]] h1 (fun v _ => h2 v) (fun v hv => by simpa [DF.one, bp] using (hv (by simp)).isl) (fp (xs := xs) (ys := [u]) hT (fun w hs => (row_view hs 0 rfl)) hx hy hl)
end Go.Sx
namespace Go.Sx
open Go Go.RowKit Go.Proofs
set_option maxRecDepth 100000
set_option maxHeartbeats 40000000
attribute [local irreducible] Code.wp wpList Rd Step ObS Ent
attribute [local irreducible] ao aM ak ar aA bD
attribute [local irreducible] aI aN aj au aR ah aU
def FlO (x : GR) : Prop := ((ab (ab (aa x.p) (aa x.p)) (ab (ag x.r) (aa x.r))).mag < 4 ∧ SzI 40 (dG x)) ∧ SzR 36 x ∧ (dG x).mag ≤ 1099511627776
structure BxO (L : List GR) : Prop where
  z : ∀ i, SzR 36 (gt L i)
  lo : FlO (l6 L (L.length - 1))
  hi : FlO (ee (ki L (L.length - 1)))
  hm : (e6 (ki L (L.length - 1))).mag ≤ 1099511627776
theorem toI_le (a : GI) (h : a.mag ≤ 1099511627776) : -1099511627776 ≤ bu a ∧ bu a ≤ 1099511627776 := by unfold bu; split <;> omega
def loI (L : List GR) : Int := bu (dG (l6 L (L.length - 1)))
def hiI (L : List GR) : Int := bu (e6 (ki L (L.length - 1)))
def boxOf (l : List (U Ln)) : Bx := ⟨loI (bX l (2 * l.length)), hiI (bX l (2 * l.length)), loI (bY l (2 * l.length)), hiI (bY l (2 * l.length)), loI (bT l (2 * l.length)), hiI (bT l (2 * l.length))⟩
theorem r_index1 {P : Program} {w0 : World} {F : List (Nat × Value)} {t e : TypeId} {n i : Nat} {k : IntKind} {x ix : Operand} {vs : List Value} {v : Value} (hu : ∀ w, (underlying t).run P w = .ok (.array n e) w) (hs : ∀ w, (sizeOf e).run P w = .ok 1 w) (ha' : ∀ w, (isAgg e).run P w = .ok false w)
    (hx : ev F x = some (.agg vs.toArray)) (hi : ev F ix = some (.int k (i : Int))) (hn : i < n) (he : vs[i]? = some v) : Rd P w0 F [] (.index t x ix) v :=
  ch fun o a w ho ha => by
    have h1 : (0 : Int) ≤ (i : Int) ∧ (i : Int) < (n : Int) := by omega
    have hlt : i < vs.length := (List.getElem?_eq_some_iff.1 he).1
    simp [execOp, ho, Instr.index, asIntOf, ha x _ hx, ha ix _ hi, hu w, hs w, h1, part, ha' w, he, hn]
def tri (k : Nat) (a b c : Int) : List Value := [.int .i64 (bif Nat.blt 0 k then a else 0), .int .i64 (bif Nat.blt 1 k then b else 0), .int .i64 (bif Nat.blt 2 k then c else 0)]
theorem box_ct (l : List (U Ln)) (lv : Value) (h0 : 0 < l.length) (hl : l.length ≤ 400) (zf : ∀ i, SzN 30 (gt l i).f) (zt : ∀ k, SzR 30 (enR l k) ∧ Sm (enR l k).r)
    (hX : BxO (bX l (2 * l.length))) (hY : BxO (bY l (2 * l.length))) (hT : BxO (bT l (2 * l.length))) (w0 : World) (hlv : View w0 lv l) : Calls Tryz.prog 84 #[lv] w0 (cq w0 (.tuple #[vBx (boxOf l), .int .i64 0]) True) := by
 refine enter (N := 124) (args := [lv]) Tryz.func84 rfl rfl ?_; intro ac h
 haveI : On := ⟨trivial⟩
 have hlen := hlv.len
 refine gz h <| (xa) fun b1 => (ai) ?_ ?_ <;> clear h ac <;> intro ac wo h hc1
 · have := eq_of_beq hc1; omega
 refine gz h <| (xa) fun b2 => (W) ?_; clear h ac wo; intro ac wo h
 replace h := ((h.nilRow (α := GR) 71).nilRow (α := GR) 71).nilRow (α := GR) 71
 refine wp_loop_ghost (fun n_ a_ w_ => ∃ (i : Nat) (sx sy st : Value), (l.length - i < n_) ∧ (i ≤ l.length) ∧ np sx ∧ np sy ∧ np st ∧ St w0 124 [(2, ptr b1 0), (4, ptr b2 0), (24, lv), (25, iN l.length), (26, iN i)] [.blk b2 [sx, sy, st] 245, .row (α := GR) 71 sx (bX l (2 * i)), .row (α := GR) 71 sy (bY l (2 * i)), .row (α := GR) 71 st (bT l (2 * i)), .blk b1 (cBx ⟨0, 0, 0, 0, 0, 0⟩) 135] a_ w_) (l.length + 1) ⟨0, _, _, _, by omega, by omega, ⟨_, _, _, rfl⟩, ⟨_, _, _, rfl⟩, ⟨_, _, _, rfl⟩, h.re [3, 0, 1, 2, 4]⟩ ?_
 clear h ac wo; rintro n1 ac wo ⟨i, sx, sy, st, hm1, hi, isx, isy, ist, h⟩
 obtain ⟨m1, rfl⟩ : ∃ m, n1 = m + 1 := ⟨n1 - 1, by omega⟩
 refine gz h <| (ai) ?_ ?_ <;> clear h ac wo <;> intro ac wo h hc2
 ·
  have hlt : i < l.length := by have := of_decide_eq_true hc2; omega
  have n1 := hlv.nn hlt
  have e0 : enR l (2 * i) = (gt l i).iv.lo := by
   unfold enR; rw [show 2 * i % 2 = 0 by omega, show 2 * i / 2 = i by omega]; rfl
  have e1 : enR l (2 * i + 1) = (gt l i).iv.hi := by
   unfold enR; rw [show (2 * i + 1) % 2 = 1 by omega, show (2 * i + 1) / 2 = i by omega]; rfl
  refine gz h <| (xa) fun b6 => (W) ?_; clear h ac wo; intro ac wo h
  refine nw h (cY (α := GR) (xs := [.tmp 32, .tmp 35]) (vs := [vR (gt l i).iv.lo, vR (gt l i).iv.hi]) [(gt l i).iv.lo, (gt l i).iv.hi] ms rfl rfl rfl (by decide)) rfl ?_; clear h ac wo; intro s0 ac wo hs0 h
  refine gz h <| (W) ?_; clear h ac wo; intro ac wo h
  obtain ⟨LH, hLH⟩ : ∃ LH : List GR, [(gt l i).iv.lo, (gt l i).iv.hi] = LH := ⟨_, rfl⟩
  have hl2 : LH.length = 2 := by rw [← hLH]; rfl
  have E : ∀ j, j < 2 → gt LH j = enR l (2 * i + j) := by
   intro j hj
   rw [← hLH]
   rcases j with _ | _ | j
   · exact e0.symm
   · exact e1.symm
   · omega
  rw [hLH] at h hs0
  clear hLH e0 e1
  replace h : St w0 124 [(2, ptr b1 0), (4, ptr b2 0), (6, ptr b6 0), (24, lv), (25, iN l.length), (26, iN i), (36, s0), (37, iN LH.length), (38, iN 0)] [.row (α := GR) 71 s0 LH, .blk b6 (cUN (gt l i)) 88, .blk b2 [sx, sy, st] 245, .row (α := GR) 71 sx (bX l (2 * i + 0)), .row (α := GR) 71 sy (bY l (2 * i + 0)), .row (α := GR) 71 st (bT l (2 * i + 0)), .blk b1 (cBx ⟨0, 0, 0, 0, 0, 0⟩) 135] ac wo := h.re [0, 1, 2, 3, 4, 5, 6]
  refine wp_loop_ghost (fun n_ a_ w_ => ∃ (j : Nat) (sx sy st : Value), (2 - j < n_) ∧ (j ≤ 2) ∧ np sx ∧ np sy ∧ np st ∧ St w0 124 [(2, ptr b1 0), (4, ptr b2 0), (6, ptr b6 0), (24, lv), (25, iN l.length), (26, iN i), (36, s0), (37, iN LH.length), (38, iN j)] [.row (α := GR) 71 s0 LH, .blk b6 (cUN (gt l i)) 88, .blk b2 [sx, sy, st] 245, .row (α := GR) 71 sx (bX l (2 * i + j)), .row (α := GR) 71 sy (bY l (2 * i + j)), .row (α := GR) 71 st (bT l (2 * i + j)), .blk b1 (cBx ⟨0, 0, 0, 0, 0, 0⟩) 135] a_ w_) 3 ⟨0, sx, sy, st, by omega, by omega, isx, isy, ist, h⟩ ?_
  clear h ac wo isx isy ist sx sy st; rintro n2 ac wo ⟨j, sx, sy, st, hm2, hj, isx, isy, ist, h⟩
  obtain ⟨m2, rfl⟩ : ∃ m, n2 = m + 1 := ⟨n2 - 1, by omega⟩
  refine gz h <| (ai) ?_ ?_ <;> clear h ac wo <;> intro ac wo h hc3
  ·
   have hj2 : j < LH.length := by have := of_decide_eq_true hc3; omega
   have ej := E j (by omega)
   have zj := zt (2 * i + j)
   rw [← ej] at zj
   have c1 := ptAt_ct (gt l i).f (gt LH j) 10 og (jj (zf i) og) (dL zj.1 og) zj.2 zj.1.2
   refine gz h <| (xa) fun b8 => (xk c1) <| (xa) fun b9 => (W) ?_; clear h ac wo; intro ac wo h
   obtain ⟨q, hq⟩ : ∃ q, ptAt (gt l i).f (gt LH j) = q := ⟨_, rfl⟩
   obtain ⟨t, ht⟩ : ∃ t, gt LH j = t := ⟨_, rfl⟩
   have ep : enP l (2 * i + j) = q := by
    unfold enP; rw [show (2 * i + j) / 2 = i by omega, ← ej, hq]
   have et : enR l (2 * i + j) = t := by rw [← ej, ht]
   have eX : bX l (2 * i + (j + 1)) = bX l (2 * i + j) ++ [q.x] := by unfold bX; rw [← Nat.add_assoc, mS, ep]
   have eY : bY l (2 * i + (j + 1)) = bY l (2 * i + j) ++ [q.y] := by unfold bY; rw [← Nat.add_assoc, mS, ep]
   have eT : bT l (2 * i + (j + 1)) = bT l (2 * i + j) ++ [t] := by unfold bT; rw [← Nat.add_assoc, mS, et]
   have lX := bX_len l (2 * i + j)
   have lY := bY_len l (2 * i + j)
   have lT := bT_len l (2 * i + j)
   rw [hq, ht] at h
   obtain ⟨X, hX'⟩ : ∃ X, bX l (2 * i + j) = X := ⟨_, rfl⟩
   obtain ⟨Y, hY'⟩ : ∃ Y, bY l (2 * i + j) = Y := ⟨_, rfl⟩
   obtain ⟨T, hT'⟩ : ∃ T, bT l (2 * i + j) = T := ⟨_, rfl⟩
   rw [hX', hY', hT'] at h
   rw [hX'] at eX lX; rw [hY'] at eY lY; rw [hT'] at eT lT
   replace h : St w0 124 [(2, ptr b1 0), (4, ptr b2 0), (6, ptr b6 0), (8, ptr b8 0), (9, ptr b9 0), (24, lv), (25, iN l.length), (26, iN i), (36, s0), (37, iN LH.length), (38, iN j)] [.blk b9 (cRP q) 247, .blk b8 (cR t) 71, .row (α := GR) 71 s0 LH, .blk b6 (cUN (gt l i)) 88, .blk b2 [sx, sy, st] 245, .row (α := GR) 71 sx X, .row (α := GR) 71 sy Y, .row (α := GR) 71 st T, .blk b1 (cBx ⟨0, 0, 0, 0, 0, 0⟩) 135] ac wo := h.re [0, 1, 2, 3, 4, 5, 6, 7, 8]
   replace h := h.emps 3
   refine eV mixed [dv (ptr b2 (0 + 0 * 1)), dw sx [4], dv (ptr b9 0), dw (vR q.x) [0], ⟨.nd (.one 4 fun v => NN v 1), [9]⟩, ⟨.nd (.one 5 fun v => np v), [5, 9]⟩, dv (ptr b2 (0 + 1 * 1)), dw sy [4], dv (ptr b9 9), dw (vR q.y) [0], ⟨.nd (.one 10 fun v => NN v 1), [10]⟩, ⟨.nd (.one 11 fun v => np v), [6, 10]⟩, dv (ptr b2 (0 + 2 * 1)), dw st [4], dw (vR t) [1], ⟨.nd (.one 15 fun v => NN v 1), [11]⟩, ⟨.nd (.one 16 fun v => np v), [7, 11]⟩, dv (ptr b2 (0 + 0 * 1)), dw undef [4], dv (ptr b2 (0 + 1 * 1)), dw undef [4], dv (ptr b2 (0 + 2 * 1)), dw undef [4]]
    [⟨_, []⟩, ⟨_, []⟩, ⟨_, []⟩, ⟨_, []⟩, ⟨.blk b2 [sx, sy, st] 245, [(18, .one 5 fun v => .blk b2 [v, sy, st] 245), (20, .two 5 11 fun v u => .blk b2 [v, u, st] 245), (22, .three 5 11 16 fun v u w => .blk b2 [v, u, w] 245)]⟩,
     ⟨.row (α := GR) 71 sx X, [(5, .one 5 fun v => .row (α := GR) 71 v (X ++ [q.x]))]⟩, ⟨.row (α := GR) 71 sy Y, [(11, .one 11 fun v => .row (α := GR) 71 v (Y ++ [q.y]))]⟩, ⟨.row (α := GR) 71 st T, [(16, .one 16 fun v => .row (α := GR) 71 v (T ++ [t]))]⟩, ⟨_, []⟩,
     ⟨.emp, [(4, .one 4 fun v => .row (α := GR) 71 v [q.x])]⟩, ⟨.emp, [(10, .one 10 fun v => .row (α := GR) 71 v [q.y])]⟩, ⟨.emp, [(15, .one 15 fun v => .row (α := GR) 71 v [t])]⟩] h rfl (by kernel_rfl)
    ⟨fun _ _ => ba (ks (i := 0) uu245 zz66 rfl rfl (by decide)), oA obA, oA obA, oA obA, fun _ _ => pj 9 q.x ms rfl rfl, fun _ _ => su (j := 4) 5 9 ms rfl rfl (by rw [lX]; show _ + 1 ≤ _; omega) rfl (fun v => by simp only [cp, bp] <;> rfl),
     fun _ _ => ba (ks (i := 1) uu245 zz66 rfl rfl (by decide)), oA obA, oA obA, oA obA, fun _ _ => pj 10 q.y ms rfl rfl, fun _ _ => su (j := 10) 6 10 ms rfl rfl (by rw [lY]; show _ + 1 ≤ _; omega) rfl (fun v => by simp only [cp, bp] <;> rfl),
     fun _ _ => ba (ks (i := 2) uu245 zz66 rfl rfl (by decide)), oA obA, oA obA, fun _ _ => pj 11 t ms rfl rfl, fun _ _ => su (j := 15) 7 11 ms rfl rfl (by rw [lT]; show _ + 1 ≤ _; omega) rfl (fun v => by simp only [cp, bp] <;> rfl),
     fun _ _ => ba (ks (i := 0) uu245 zz66 rfl rfl (by decide)), fun ξ hφ => kt [.blk b2 [sx, sy, st] 245] [.blk b2 [ξ 5, sy, st] 245] rfl rfl (lC zz66 rfl rfl (iR (hφ 5 rfl)) rfl (mX (hφ 5 rfl)) rfl rfl),
     fun _ _ => ba (ks (i := 1) uu245 zz66 rfl rfl (by decide)), fun ξ hφ => kt [.blk b2 [ξ 5, sy, st] 245] [.blk b2 [ξ 5, ξ 11, st] 245] rfl rfl (lC zz66 rfl rfl (iR (hφ 11 rfl)) rfl (mX (hφ 11 rfl)) rfl rfl),
     fun _ _ => ba (ks (i := 2) uu245 zz66 rfl rfl (by decide)), fun ξ hφ => kt [.blk b2 [ξ 5, ξ 11, st] 245] [.blk b2 [ξ 5, ξ 11, ξ 16] 245] rfl rfl (lC zz66 rfl rfl (iR (hφ 16 rfl)) rfl (mX (hφ 16 rfl)) rfl rfl), trivial⟩ ?_
   clear h ac wo; intro ξ ac wo hφ h
   have i5 : np (ξ 5) := hφ 5
   have i11 : np (ξ 11) := hφ 11
   have i16 : np (ξ 16) := hφ 16
   replace h : St w0 124 [(2, ptr b1 0), (4, ptr b2 0), (6, ptr b6 0), (24, lv), (25, iN l.length), (26, iN i), (36, s0), (37, iN LH.length), (38, iN j)] [.row (α := GR) 71 s0 LH, .blk b6 (cUN (gt l i)) 88, .blk b2 [ξ 5, ξ 11, ξ 16] 245, .row (α := GR) 71 (ξ 5) (X ++ [q.x]), .row (α := GR) 71 (ξ 11) (Y ++ [q.y]), .row (α := GR) 71 (ξ 16) (T ++ [t]), .blk b1 (cBx ⟨0, 0, 0, 0, 0, 0⟩) 135] ac wo := (h.pick [2, 3, 4, 5, 6, 7, 8] (by decide)).sub ⟨rfl, rfl, rfl, rfl, rfl, rfl, rfl, rfl, rfl, trivial⟩
   generalize ξ 5 = u5 at h i5
   generalize ξ 11 = u11 at h i11
   generalize ξ 16 = u16 at h i16
   clear hφ ξ
   refine gz h <| (W) ?_; clear h ac wo; intro ac wo h
   exact aL ⟨m2, by omega, j + 1, u5, u11, u16, by omega, by omega, i5, i11, i16, by rw [eX, eY, eT]; exact h.re [0, 1, 2, 3, 4, 5, 6]⟩
  ·
   obtain rfl : j = 2 := by have := of_decide_eq_false hc3; omega
   refine gz h <| (W) ?_; clear h ac wo; intro ac wo h
   rw [show 2 * i + 2 = 2 * (i + 1) by omega] at h
   exact aL ⟨m1, by omega, i + 1, sx, sy, st, by omega, by omega, isx, isy, ist, h.re [2, 3, 4, 5, 6]⟩
 ·
  obtain rfl : i = l.length := by have := of_decide_eq_false hc2; omega
  refine gz h <| (xa) fun b3 => (xa) fun b4 => (W) ?_; clear h ac wo; intro ac wo h
  clear hm1 hi hc2
  haveI : Dc [sx, sy, st] (.agg #[sx, sy, st]) := ⟨rfl⟩
  refine gz h <| (W) ?_; clear h ac wo; intro ac wo h
  have lX := bX_len l (2 * l.length)
  have lY := bY_len l (2 * l.length)
  have lT := bT_len l (2 * l.length)
  have eb : boxOf l = ⟨loI (bX l (2 * l.length)), hiI (bX l (2 * l.length)), loI (bY l (2 * l.length)), hiI (bY l (2 * l.length)), loI (bT l (2 * l.length)), hiI (bT l (2 * l.length))⟩ := rfl
  rw [eb]
  generalize bX l (2 * l.length) = X at *
  generalize bY l (2 * l.length) = Y at *
  generalize bT l (2 * l.length) = T at *
  refine wp_loop_ghost (fun n_ a_ w_ => ∃ (k : Nat), (3 - k < n_) ∧ (k ≤ 3) ∧ St w0 124 [(2, ptr b1 0), (4, ptr b2 0), (10, ptr b3 0), (11, ptr b4 0), (68, .agg #[sx, sy, st]), (69, iN k)] [.blk b4 (tri k (hiI X) (hiI Y) (hiI T)) 249, .blk b3 (tri k (loI X) (loI Y) (loI T)) 249, .row (α := GR) 71 sx X, .row (α := GR) 71 sy Y, .row (α := GR) 71 st T, .blk b1 (cBx ⟨0, 0, 0, 0, 0, 0⟩) 135] a_ w_) 4 ⟨0, by omega, by omega, h.re [0, 1, 3, 4, 5, 6]⟩ ?_
  clear h ac wo; rintro n1 ac wo ⟨k, hm1, hk, h⟩
  obtain ⟨m1, rfl⟩ : ∃ m, n1 = m + 1 := ⟨n1 - 1, by omega⟩
  refine gz h <| (ai) ?_ ?_ <;> clear h ac wo <;> intro ac wo h hc2
  ·
   have hk3 : k < 3 := by have := of_decide_eq_true hc2; omega
   obtain ⟨s, L, A, B, hO, hL, hs, hlo, hhi, hh, back⟩ : ∃ s L A B, BxO L ∧ L.length = 2 * l.length ∧ [sx, sy, st][k]? = some s ∧ spl (tri k (loI X) (loI Y) (loI T)) (0 + k * 1) [.int .i64 (loI L)] = tri (k + 1) (loI X) (loI Y) (loI T) ∧ spl (tri k (hiI X) (hiI Y) (hiI T)) (0 + k * 1) [.int .i64 (hiI L)] = tri (k + 1) (hiI X) (hiI Y) (hiI T) ∧
     St w0 124 [(2, ptr b1 0), (4, ptr b2 0), (10, ptr b3 0), (11, ptr b4 0), (68, .agg #[sx, sy, st]), (69, iN k)] [.blk b4 (tri k (hiI X) (hiI Y) (hiI T)) 249, .blk b3 (tri k (loI X) (loI Y) (loI T)) 249, .row (α := GR) 71 s L, A, B, .blk b1 (cBx ⟨0, 0, 0, 0, 0, 0⟩) 135] ac wo ∧
     ∀ {F : List (Nat × Value)} {C D : Asn} {a w}, St w0 124 F [C, D, .row (α := GR) 71 s L, A, B, .blk b1 (cBx ⟨0, 0, 0, 0, 0, 0⟩) 135] a w → St w0 124 F [C, D, .row (α := GR) 71 sx X, .row (α := GR) 71 sy Y, .row (α := GR) 71 st T, .blk b1 (cBx ⟨0, 0, 0, 0, 0, 0⟩) 135] a w := by
    rcases k with _ | _ | _ | k
    · exact ⟨sx, X, _, _, hX, lX, rfl, rfl, rfl, h.re [0, 1, 2, 3, 4, 5], fun h => h⟩
    · exact ⟨sy, Y, _, _, hY, lY, rfl, rfl, rfl, h.re [0, 1, 3, 2, 4, 5], fun h => h.pick [0, 1, 3, 2, 4, 5] (by decide)⟩
    · exact ⟨st, T, _, _, hT, lT, rfl, rfl, rfl, h.re [0, 1, 4, 2, 3, 5], fun h => h.pick [0, 1, 3, 4, 2, 5] (by decide)⟩
    · omega
   clear h; have h := hh; clear hh
   have zm := sF (P := SzR 36) hO.z (L.length - 1)
   have zM := sJ (P := SzR 36) hO.z (L.length - 1)
   have z30 : ∀ i, SzR 30 (gt L i) := fun i => dL (hO.z i) og
   refine gz h <| (xo (hs := by exact r_index1 uu245 zz66 Tryz.isAgg66 rfl rfl hk3 hs)) <| (xc (ct := by exact fun w_ hB_ hS_ => minR_ct L s (by omega) (by omega) z30 w_ (row_view hS_ 2 rfl))) <| (xa) fun b5 => (xc (ct := by exact fun w_ hB_ hS_ => maxR_ct L s (by omega) (by omega) z30 w_ (row_view hS_ 3 rfl))) <| (xa) fun b6 => (W) ?_; clear h ac wo; intro ac wo h
   have c3 := jB (l6 L (L.length - 1)) hO.lo.1 hO.lo.2.1
   have c4 := iw (dG (l6 L (L.length - 1))) (by have := hO.lo.2.2; omega)
   have c5 := nD (ki L (L.length - 1)) (fun w0 => jB (ee (ki L (L.length - 1))) hO.hi.1 hO.hi.2.1 w0) zM
   have c6 := iw (e6 (ki L (L.length - 1))) (by have := hO.hm; omega)
   refine gz h <| (xk c3) <| (xk c4) <| (xk c5) <| (xk c6) <| (ai) ?_ ?_ <;> clear h ac wo <;> intro ac wo h hc3
   ·
    have t1 := toI_le _ hO.lo.2.2
    have t2 := toI_le _ hO.hm
    rw [decide_eq_false (by omega), decide_eq_false (by omega)] at hc3
    exact absurd hc3 (by decide)
   ·
    have hf : ∀ a b c, Nat.ble (0 + k * 1 + 1) (tri k a b c).length = true := fun a b c => by
     show Nat.ble (0 + k * 1 + 1) 3 = true
     exact Nat.ble_eq_true_of_le (by omega)
    refine gz h <| (xo (hs := by exact ks (i := k) uu249 zz3 rfl rfl hk3)) <| (xs 3 (tri (k + 1) (loI X) (loI Y) (loI T)) (hf := hf _ _ _) (hr := hlo)) <| (xo (hs := by exact ks (i := k) uu249 zz3 rfl rfl hk3)) <| (xs 2 (tri (k + 1) (hiI X) (hiI Y) (hiI T)) (hf := hf _ _ _) (hr := hhi)) <| (W) ?_; clear h ac wo; intro ac wo h
    refine aL ⟨m1, by omega, k + 1, by omega, by omega, ?_⟩
    have h2 := back (h.pick [2, 3, 4, 5, 6, 7] (by decide))
    exact h2.sub ⟨rfl, rfl, rfl, rfl, rfl, rfl, trivial⟩
  ·
   obtain rfl : k = 3 := by have := of_decide_eq_false hc2; omega
   have e3 : ∀ a b c, tri 3 a b c = [.int .i64 a, .int .i64 b, .int .i64 c] := fun _ _ _ => rfl
   rw [e3, e3] at h
   refine gz h <| (xo (hs := by exact ks (i := 2) uu249 zz3 rfl rfl (by decide))) <| (xo (hs := by exact ks (i := 2) uu249 zz3 rfl rfl (by decide))) <| (W) ?_; clear h ac wo; intro ac wo h
   exact rtc2 5 h (h.retP rfl trivial)
end Go.Sx
namespace Go.Sx
open Go Go.RowKit Go.Proofs
set_option maxRecDepth 100000
set_option maxHeartbeats 40000000
attribute [local irreducible] Code.wp wpList Rd Step pY ObS Ent Rnd
attribute [local irreducible] ao aM ak ar aA bD
theorem drI {P : Program} {w0 : World} {N : Nat} {F G2 : List (Nat × Value)} {L : List Asn} {ol : List Oper} {D : List DOp} {Q : Exit → Act → World → Prop} {id l : Nat} (hob : OB P w0 ol D (L.map fun r => ⟨r, []⟩) ol D 0 F G2) (hm : P.follows .mixedOrders = true := by exact mixed)
    (hn : nL ol = true := by rfl) (hc : (chk ol D (L.map fun r => ⟨r, []⟩) && D.all (fun d => lP d.acc) && oP ol N) = true := by kernel_rfl) (k : ∀ a w, St w0 N G2 L a w → Q .normal a w) : ∀ a w, St w0 N F L a w → (Code.region id ol.toArray true).wpIn (rf (some l)) 0 P Q a w := fun a w h => by
  unfold OB at hob
  exact tc (.inr hn) hm D (L.map fun r => ⟨r, []⟩) h (by rw [List.map_map]; exact List.map_id _) hc hob.1 fun ξ a w _ h => k a w (by
    rw [hob.2 ξ, List.map_map] at h
    have : (List.map ((fun h => Hist.at h (fun _ => true) ξ) ∘ fun r => ⟨r, []⟩) L) = L := List.map_id _
    rw [this] at h
    exact h)
def mtF (l : List (U Ln)) (i : Nat) : List (GR × Bool) :=
  if (gt l (i - 1)).iv.hi = (gt l i).iv.lo then [((gt l i).iv.lo, (!(gt l (i - 1)).iv.openHi || !(gt l i).iv.openLo) && be (gt l (i - 1)).f (gt l i).f (gt l i).iv.lo)] else []
def mts (l : List (U Ln)) (n : Nat) : List (GR × Bool) := (List.range n).flatMap fun i => mtF l (i + 1)
theorem mP (l : List (U Ln)) (n : Nat) : mts l (n + 1) = mts l n ++ mtF l (n + 1) := by
  unfold mts; rw [List.range_succ, List.flatMap_append, List.flatMap_singleton]
theorem mts_mono (l : List (U Ln)) {m n : Nat} (h : m ≤ n) : ∃ r, mts l n = mts l m ++ r := by
  induction n with
  | zero => obtain rfl : m = 0 := by omega
            exact ⟨[], by simp⟩
  | succ n ih =>
    by_cases e : m = n + 1
    · subst e; exact ⟨[], by simp⟩
    · obtain ⟨r, hr⟩ := ih (by omega)
      exact ⟨r ++ mtF l (n + 1), by rw [mP, hr, List.append_assoc]⟩
theorem mts_len (l : List (U Ln)) (n : Nat) : (mts l n).length ≤ n := by
  induction n with
  | zero => simp [mts]
  | succ n ih =>
    rw [mP, List.length_append]
    have : (mtF l (n + 1)).length ≤ 1 := by unfold mtF; split <;> simp
    omega
instance yJ3_15 : Inhabited (GR × Bool) := ⟨(⟨oQ, oQ, false⟩, false)⟩
def mtA (m : List (GR × Bool)) (k : Nat) : List Value := [vR (gt m k).1, .bool (gt m k).2]
attribute [local irreducible] mts
theorem nU (l : List (U Ln)) (lv : Value) (hl : l.length ≤ 1000) (zl : All (gC 20) l) (zt : ∀ i, SzR 30 (gt l i).iv.lo) (w0 : World) (hlv : View w0 lv l) (lr b1 : Nat) (J : Nat → Asn) (C B : Asn) (w : World) (hbel : Below w0.heap.size w0 w)
    (hsep : ∃ U, Sep w0.heap.size w [J 0, .blk b1 [lv] 33, C, B] U) (hY : ∀ k, k < (mts l (l.length - 1)).length → Rnd Tryz.prog w0 lr (mtA (mts l (l.length - 1)) k).toArray (J k) (J (k + 1))) :
    Calls Tryz.prog 277 #[.func (.yield lr) #[] #[], ptr b1 0] w (RetY w0 (fun _ => True) fun _ => [J (mts l (l.length - 1)).length, .blk b1 [lv] 33, C, B]) := by
 refine ot (N := 55) (args := [.func (.yield lr) #[] #[], ptr b1 0]) Tryz.func277 rfl rfl hbel hsep ?_; intro ac h
 haveI : On := ⟨trivial⟩
 have hlen := hlv.len
 refine gz h <| (W) ?_; clear h ac; intro ac wo h
 refine wp_loop_ghost (fun n_ a_ w_ => ∃ (i : Nat), (l.length - i < n_) ∧ (1 ≤ i) ∧ (i ≤ l.length ∨ i = 1) ∧ St w0 55 [(0, .func (.yield lr) #[] #[]), (1, ptr b1 0), (3, iN i)] [J (mts l (i - 1)).length, .blk b1 [lv] 33, C, B] a_ w_) (l.length + 1) ⟨1, by omega, by omega, by omega, by
   have : mts l (1 - 1) = [] := by unfold mts; rfl
   rw [this]; exact h.rs⟩ ?_
 clear h ac wo; rintro n1 ac wo ⟨i, hm1, hi1, hi, h⟩
 obtain ⟨m1, rfl⟩ : ∃ m, n1 = m + 1 := ⟨n1 - 1, by omega⟩
 refine gz h <| (ai) ?_ ?_ <;> clear h ac wo <;> intro ac wo h hc1
 ·
  have hd1 := of_decide_eq_true hc1
  have hs := mP l (i - 1)
  rw [show i - 1 + 1 = i by omega] at hs
  refine gz h <| (W) ?_; clear h ac wo; intro ac wo h
  replace h := h.emps 2
  refine eV mixed [dw lv [1], dv (iN i), dv (iN (i - 1)), dv (sel lv ((i - 1) * 36 + 0)), dv (vUN (gt l (i - 1))), dw lv [1], dv (iN i), dv (sel lv (i * 36 + 0)), dv (vUN (gt l i)), ⟨.nd (.one 9 fun v => ∃ b, v = ptr b 0), [4]⟩, ⟨.nd (.one 10 fun v => ∃ b, v = ptr b 0), [5]⟩, dw undef [4], dw undef [5]]
   [⟨_, []⟩, ⟨_, []⟩, ⟨_, []⟩, ⟨_, []⟩, ⟨.emp, [(9, .one 9 fun v => .blk (bC v) (cUN oUN) 88), (11, .one 9 fun v => .blk (bC v) (cUN (gt l (i - 1))) 88)]⟩, ⟨.emp, [(10, .one 10 fun v => .blk (bC v) (cUN oUN) 88), (12, .one 10 fun v => .blk (bC v) (cUN (gt l i)) 88)]⟩] h rfl (by kernel_rfl)
   ?_ ?_
  · have hlt : i - 1 < l.length := by omega
    have hlt2 : i < l.length := by omega
    have n1 := hlv.nn hlt
    refine ⟨?_, ?_, ?_, ?_, ?_, ?_, ?_, ?_, ?_, ?_, ?_, ?_, ?_, trivial⟩
    · exact oA obA
    · exact oA obA
    · exact oA obA
    · exact oA obA
    · exact oA obA
    · exact oA obA
    · exact oA obA
    · exact oA obA
    · exact oA obA
    · exact fun _ _ => pm 4 rfl (fun _ => rfl)
    · exact fun _ _ => pm 5 rfl (fun _ => rfl)
    · exact fun ξ hφ => pk (u := vUN (gt l (i - 1))) 4 (hφ 9 rfl) rfl rfl rfl rfl rfl rfl rfl
    · exact fun ξ hφ => pk (u := vUN (gt l i)) 5 (hφ 10 rfl) rfl rfl rfl rfl rfl rfl rfl
  clear h ac wo; intro ξ ac wo hφ h
  obtain ⟨b4, hb4⟩ : ∃ b, ξ 9 = ptr b 0 := hφ 9
  obtain ⟨b5, hb5⟩ : ∃ b, ξ 10 = ptr b 0 := hφ 10
  replace h : St w0 55 [(0, .func (.yield lr) #[] #[]), (1, ptr b1 0), (3, iN i), (4, ξ 9), (5, ξ 10)] [J (mts l (i - 1)).length, .blk b1 [lv] 33, C, B, .blk (bC (ξ 9)) (cUN (gt l (i - 1))) 88, .blk (bC (ξ 10)) (cUN (gt l i)) 88] ac wo := (h.pick [0, 1, 2, 3, 4, 5] (by decide)).sub ⟨rfl, rfl, rfl, rfl, rfl, trivial⟩
  rw [hb4, hb5] at h
  clear hb4 hb5 hφ ξ
  refine gz h <| (xa) fun b6 => (ai) ?_ ?_ <;> clear h ac wo <;> intro ac wo h hc2
  ·
   have hne : ¬ (gt l (i - 1)).iv.hi = (gt l i).iv.lo := by simpa using hc2
   have e : mts l i = mts l (i - 1) := by rw [hs]; unfold mtF; rw [if_neg hne, List.append_nil]
   refine gz h <| (W) ?_; clear h ac wo; intro ac wo h
   rw [show mts l (i - 1) = mts l (i + 1 - 1) by rw [Nat.add_sub_cancel, e]] at h
   exact aL ⟨m1, by omega, i + 1, by omega, by omega, by omega, h.re [1, 2, 3, 4]⟩
  ·
   have heq : (gt l (i - 1)).iv.hi = (gt l i).iv.lo := by simpa using hc2
   have e : mts l i = mts l (i - 1) ++ [((gt l i).iv.lo, (!(gt l (i - 1)).iv.openHi || !(gt l i).iv.openLo) && be (gt l (i - 1)).f (gt l i).f (gt l i).iv.lo)] := by rw [hs]; unfold mtF; rw [if_pos heq]
   obtain ⟨r, hr⟩ := mts_mono l (show i ≤ l.length - 1 by omega)
   have hk : (mts l (i - 1)).length < (mts l (l.length - 1)).length := by rw [hr, e, List.length_append, List.length_append, List.length_singleton]; omega
   have hg : gt (mts l (l.length - 1)) (mts l (i - 1)).length = ((gt l i).iv.lo, (!(gt l (i - 1)).iv.openHi || !(gt l i).iv.openLo) && be (gt l (i - 1)).f (gt l i).f (gt l i).iv.lo) := by
    rw [hr, e, List.append_assoc]; exact gt_at rfl
   have hy := hY _ hk
   unfold mtA at hy
   rw [hg] at hy
   have e2 : (mts l i).length = (mts l (i - 1)).length + 1 := by rw [e]; simp
   have zf := (All.gt zl (by exact bH _) (i := i - 1)).2
   have zg := (All.gt zl (by exact bH _) (i := i)).2
   refine gz h <| (dr1 (H := [⟨_, []⟩, ⟨J (mts l (i - 1)).length, [(12, .con (J ((mts l (i - 1)).length + 1)))]⟩, ⟨_, []⟩, ⟨_, []⟩, ⟨_, []⟩, ⟨_, []⟩, ⟨_, []⟩]) (hob := (oG (by exact fun hg => d5 (gt l (i - 1)).f (gt l i).f (gt l i).iv.lo zf zg (zt i))) <| (oX (h := by exact fun _ => ob_yu (acc := [1]) [J (mts l (i - 1)).length] [J ((mts l (i - 1)).length + 1)] rfl rfl (y_yield rfl rfl hy))) <| oE)) <| (ai) ?_ ?_ <;> clear h ac wo <;> intro ac wo h hc3
   · cases hc3
   ·
    refine gz h <| (W) ?_; clear h ac wo; intro ac wo h
    rw [show (mts l (i - 1)).length + 1 = (mts l (i + 1 - 1)).length by rw [Nat.add_sub_cancel, e2]] at h
    exact aL ⟨m1, by omega, i + 1, by omega, by omega, by omega, h.re [1, 2, 3, 4]⟩
 ·
  have hd1 := of_decide_eq_false hc1
  have e : mts l (i - 1) = mts l (l.length - 1) := by
   congr 1; omega
  rw [e] at h
  refine gz h <| (W) ?_; clear h ac wo; intro ac wo h
  exact (rt h) (h.retY trivial rfl)
def capB : Value → Nat | .func _ _ c => bC (c.getD 0 undef) | _ => 0
theorem pu (lv : Value) (hs : np lv) (w0 : World) : Calls Tryz.prog 222 #[lv] w0 (Ret w0 (fun v => v = .func (.func 277) #[] #[ptr (capB v) 0]) fun v => [.blk (capB v) [lv] 33]) := by
 refine enter (N := 4) (args := [lv]) Tryz.func222 rfl rfl ?_; intro ac h
 haveI : On := ⟨trivial⟩
 haveI : Cel lv [lv] := ⟨iR hs⟩
 refine gz h <| (xb) fun b1 => (xo (hs := by exact j0 (vs := [ptr b1 0]) rfl)) <| (W) ?_; clear h ac; intro ac wo h
 exact (rt h) (h.retA (φ := fun v => v = .func (.func 277) #[] #[ptr (capB v) 0]) (A := fun v => [.blk (capB v) [lv] 33]) (v := .func (.func 277) #[] #[ptr b1 0]) rfl h)
def insF (turns : Bool) (out : List GR) (x : GR × Bool) : List GR := bif (x.2 == turns) && ((((out.length : Nat) : Int) == 0) || !decide (gt out (out.length - 1) = x.1)) then out ++ [x.1] else out
def lB (turns : Bool) (m : List (GR × Bool)) (k : Nat) : List GR := (m.take k).foldl (insF turns) []
theorem n9 {turns : Bool} {m : List (GR × Bool)} {k : Nat} (h : k < m.length) : lB turns m (k + 1) = insF turns (lB turns m k) (gt m k) := by
 unfold lB; rw [List.take_succ_eq_append_getElem h, List.foldl_append, fB h]; rfl
theorem insF_len (turns : Bool) (out : List GR) (x : GR × Bool) : (insF turns out x).length ≤ out.length + 1 := by
 unfold insF; cases (x.2 == turns) && ((((out.length : Nat) : Int) == 0) || !decide (gt out (out.length - 1) = x.1)) <;> simp
theorem qw (turns : Bool) (m : List (GR × Bool)) : ∀ k, k ≤ m.length → (lB turns m k).length ≤ k
 | 0, _ => by simp [lB]
 | k + 1, h => by rw [n9 (by omega)]; have := insF_len turns (lB turns m k) (gt m k); have := qw turns m k (by omega); omega
def di (l : List (U Ln)) (turns : Bool) : List GR := lB turns (mts l (l.length - 1)) (mts l (l.length - 1)).length
theorem pD (l : List (U Ln)) (lv : Value) (turns : Bool) (hl : l.length ≤ 1000) (zl : All (gC 20) l) (zt : ∀ i, SzR 30 (gt l i).iv.lo) (w0 : World) (hlv : View w0 lv l) : Calls Tryz.prog 145 #[lv, .bool turns] w0 (RetR w0 71 (di l turns) True) := by
 refine enterM (N := 35) (args := [lv, .bool turns]) Tryz.func145 rfl rfl ?_; intro ac h
 haveI : On := ⟨trivial⟩
 have hlen := hlv.len
 refine gz h <| (xb) fun b3 => (xa) fun b5 => (W) ?_; clear h ac; intro ac wo h
 refine c_new h (dR Tryz.call222 rfl) (fun w _ _ => pu lv hlv.sl.is w) rfl ?_; clear h ac wo; intro fv ac wo hfv h
 obtain ⟨b1, rfl⟩ : ∃ b1, fv = .func (.func 277) #[] #[ptr b1 0] := ⟨_, hfv⟩
 clear hfv
 replace h := (h.nilRow (α := GR) 71).emps 1
 refine gz h <| (W) ?_; clear h ac wo; intro ac wo h
 have hml : (mts l (l.length - 1)).length ≤ l.length := Nat.le_trans (mts_len l (l.length - 1)) (by omega)
 obtain ⟨m, hm⟩ : ∃ m, mts l (l.length - 1) = m := ⟨_, rfl⟩
 have e : di l turns = lB turns m m.length := by unfold di; rw [hm]
 rw [hm] at hml
 rw [e]
 replace h : St w0 35 [(9, .func (.func 277) #[] #[ptr b1 0]), (5, ptr b5 0), (3, ptr b3 0)] [.blk b5 [.slice none 0 0] 66, .row (α := GR) 71 (.slice none 0 0) [], .blk b3 [.bool turns] 4, .blk b1 [lv] 33, .emp] ac wo := (h.pick [2, 0, 3, 1, 4] (by decide)).sub ⟨rfl, rfl, rfl, trivial⟩
 refine c_range (A := fun k sv => [.blk b5 [sv] 66, .row (α := GR) 71 sv (lB turns m k), .blk b3 [.bool turns] 4]) (v0 := .slice none 0 0) (R := [.blk b1 [lv] 33, .emp]) (args := fun k => (mtA m k).toArray) m.length h (gf := 277) (lb := #[ptr b1 0]) rfl Tryz.call277 (List.Perm.refl _) (fun lr r w B hb hs hY => ?_) (fun lr fn D k hk => ?_) ?_
 ·
  have := nU l lv hl zl zt w0 hlv lr b1 (fun k => JE w0.heap.size lr r (fun sv => [.blk b5 [sv] 66, .row (α := GR) 71 sv (lB turns m k), .blk b3 [.bool turns] 4])) .emp B w hb hs (by rw [hm]; exact hY)
  rw [hm] at this
  exact this
 ·
  refine rnd (N := 35) (F0 := [(11, .bool (gt m k).2), (10, vR (gt m k).1), (3, ptr b3 0), (5, ptr b5 0)]) rfl ?_ ?_ (fun v F1 X => ∃ b6, F1 = [(7, .bool (gt m k).2), (6, ptr b6 0), (3, ptr b3 0), (5, ptr b5 0)] ∧ X = [.blk b6 (cR (gt m k).1) 71, .blk b5 [v] 66, .row (α := GR) 71 v (lB turns m k), .blk b3 [.bool turns] 4]) (fun v a w Y1 Y2 h => ?_) ?_
  · rw [show (mtA m k).toArray = [vR (gt m k).1, Value.bool (gt m k).2].toArray from rfl, fold2]; simp [h.size]
  · rw [show (mtA m k).toArray = [vR (gt m k).1, Value.bool (gt m k).2].toArray from rfl, fold2]
    have h' : St w0 35 [(3, ptr b3 0), (5, ptr b5 0)] _ ac wo := h.sub ⟨rfl, rfl, trivial⟩
    exact mz (a := ac.put (some 10) (vR (gt m k).1)) (N := 35) (by simp [Act.put, h.size]) rfl (mz (a := ac) h.size rfl h'.regs)
  · refine seq_in (fun a w => ∃ b6, St w0 35 [(6, ptr b6 0), (11, .bool (gt m k).2), (3, ptr b3 0), (5, ptr b5 0)] [.blk b6 (cR (gt m k).1) 71, .blk b5 [v] 66, .row (α := GR) 71 v (lB turns m k), .blk b3 [.bool turns] 4, Y1, Y2] a w) (r8 (fun _ _ h => h) rfl ?_) ?_
    · refine gz h <| (xa) fun b6 => (W) ?_; clear h; intro a w h
      exact ⟨b6, h.re [0, 1, 2, 3, 4, 5]⟩
    · rintro a w ⟨b6, h⟩
      refine r8 (fun _ _ h => h) rfl ?_
      refine gz h <| (W) ?_; clear h; intro a w h
      exact ⟨_, _, ⟨b6, rfl, rfl⟩, h.re [0, 1, 2, 3, 4, 5]⟩
  · rintro v _ _ ⟨b6, rfl, rfl⟩ a w Y1 Y2 h
    have ho := qw turns m k (by omega)
    have hs := n9 (turns := turns) hk
    refine wpIn_block ?_
    refine seq_in (fun a w => St w0 35 [(29, .bool (((gt m k).2 == turns) && (((((lB turns m k).length : Nat) : Int) == 0) || !decide (gt (lB turns m k) ((lB turns m k).length - 1) = (gt m k).1)))), (6, ptr b6 0), (5, ptr b5 0)] [.blk b6 (cR (gt m k).1) 71, .blk b5 [v] 66, .row (α := GR) 71 v (lB turns m k), .blk b3 [.bool turns] 4, Y1, Y2] a w) ?_ ?_
    · replace h : St w0 35 [(7, .bool (gt m k).2), (6, ptr b6 0), (3, ptr b3 0), (5, ptr b5 0)] [.blk b6 (cR (gt m k).1) 71, .blk b5 [v] 66, .row (α := GR) 71 v (lB turns m k), .blk b3 [.bool turns] 4, Y1, Y2] a w := h
      refine gz h <| (drI (hob := oE)) ?_; clear h; intro a w h
      exact h.re [0, 1, 2, 3, 4, 5]
    · clear h; intro a w h
      refine wpIn_cond_split (h.agr (.tmp 29) _ rfl) (fun hc => ?_) (fun hc => ?_)
      · refine r8 (fun _ _ h => by cases h.1) rfl ?_
        have e : insF turns (lB turns m k) (gt m k) = lB turns m k ++ [(gt m k).1] := by unfold insF; rw [hc]; rfl
        rw [hs, e]
        refine gz h <| (W) ?_; clear h; intro a w h
        refine nw h (cY (α := GR) (xs := [.tmp 31]) (vs := [vR (gt m k).1]) [(gt m k).1] ms rfl rfl rfl (by decide)) rfl ?_; clear h; intro s1 a w _ h
        refine on2 h 3 0 rfl rfl (fp (xs := lB turns m k) (ys := [(gt m k).1]) ms (fun w hs => (row_view hs 0 rfl)) rfl rfl (by show _ + 1 ≤ _; omega)) rfl ?_; clear h; intro s2 a w _ h
        have hsl := (h.row_sl 0 rfl).is
        haveI : Cel s2 [s2] := ⟨iR hsl⟩
        refine gz h <| (xs 3 [s2] (h1 := mX hsl)) <| (W) ?_; clear h; intro a w h
        exact ⟨rfl, h.bel, s2, [], (h.pick [3, 0, 4, 5, 6] (by decide)).sep⟩
      · have e : insF turns (lB turns m k) (gt m k) = lB turns m k := by unfold insF; rw [hc]; rfl
        rw [hs, e]
        exact wpIn_skip ⟨rfl, h.bel, v, [.blk b6 (cR (gt m k).1) 71], (h.pick [1, 2, 3, 4, 5, 0] (by decide)).sep⟩
 ·
  intro a' w' D v Y hd h
  unfold Exit.inBlock thn Exit.then
  dsimp only
  refine mi fun K hK => ?_
  refine rdM h 1 rfl ((l11 rfl rfl rfl) w0 _ _ b5 rfl) rfl fun a1 w1 hd1 h1 => ?_
  refine rdM h1 1 rfl (Rd.of_nil (az rfl)) rfl fun a2 w2 hd2 h2 => ?_
  refine dW (hK _ _ (c_ret ?_))
  exact retM (by rw [hd2, hd1, hd]) h2 rfl (fun w => .tmp rfl .nil) rfl fun w h => h.retR 2 rfl trivial
theorem Turns_ct (l : List (U Ln)) (lv : Value) (hl : l.length ≤ 1000) (zl : All (gC 20) l) (zt : ∀ i, SzR 30 (gt l i).iv.lo) (w0 : World) (hlv : View w0 lv l) : Calls Tryz.prog 51 #[lv] w0 (RetR w0 71 (di l true) True) := by
 refine enter (N := 5) (args := [lv]) Tryz.func51 rfl rfl ?_; intro ac h
 haveI : On := ⟨trivial⟩
 refine gz h <| (W) ?_; clear h ac; intro ac wo h
 refine js (xs := di l true) h (dR Tryz.call145 rfl) (fun w_ hB_ hS_ => pD l lv true hl zl zt w_ (hlv.below hB_)) rfl ?_; clear h ac wo; intro s1 ac wo _ h
 refine gz h <| (W) ?_; clear h ac wo; intro ac wo h
 exact (rt h) (h.retR 0 rfl trivial)
end Go.Sx
