/- A part of the proof that the law BracketOperates/Brackets/Logic answers true at every input and leaves its arguments as they were. -/
import Derived.Test.YtbnldpccdppmiaaGreatDoorP4
set_option linter.unusedVariables false
set_option linter.unusedSimpArgs false
open Go.Proofs.Tryz renaming isAgg42 → aa42, sizeOf42 → zz42, isAgg4 → aa4, underlying4 → nn4, isAgg64 → aa64, sizeOf64 → zz64, runUnderlying26 → uu26, sizeOf66 → zz66
namespace Go.Sx
open Go Go.RowKit Go.Proofs
set_option maxRecDepth 100000
set_option maxHeartbeats 40000000
attribute [local irreducible] bm bV aq aJ aF dY
theorem eqi64 : EqIn Tryz.prog 4 64 vR := eqS (c := cR) (fun _ => rfl) Tryz.underlying64 Tryz.stoodInHeld64 fun d x y w hd => by
 refine Eq.trans (eqF (by decide) (eJ aa42 zz42 (v := vQ (x.p)) rfl w) (eJ aa42 zz42 (v := vQ (y.p)) rfl w) (eqi42 d _ _ w (by omega)) (eqF (by decide) (eJ aa42 zz42 (v := vQ (x.r)) rfl w) (eJ aa42 zz42 (v := vQ (y.r)) rfl w) (eqi42 d _ _ w (by omega)) (eqF (by decide) (ft aa4 rfl w) (ft aa4 rfl w) (eqB nn4 d (by omega) _ _ w) eqF0))) ?_
 congr 1
 rw [decide_eq_decide]
 cases x; cases y; simp
theorem eqi66 : EqIn Tryz.prog 5 66 vV := eqS (c := cV) (fun _ => rfl) Tryz.underlying66 Tryz.stoodInHeld66 fun d x y w hd => by
 refine Eq.trans (eqF (by decide) (eJ aa64 zz64 (v := vR (x.lo)) rfl w) (eJ aa64 zz64 (v := vR (y.lo)) rfl w) (eqi64 d _ _ w (by omega)) (eqF (by decide) (eJ aa64 zz64 (v := vR (x.hi)) rfl w) (eJ aa64 zz64 (v := vR (y.hi)) rfl w) (eqi64 d _ _ w (by omega)) (eqF (by decide) (ft aa4 rfl w) (ft aa4 rfl w) (eqB nn4 d (by omega) _ _ w) (eqF (by decide) (ft aa4 rfl w) (ft aa4 rfl w) (eqB nn4 d (by omega) _ _ w) eqF0)))) ?_
 congr 1
 rw [decide_eq_decide]
 cases x; cases y; simp
theorem eqp66 : EqP Tryz.prog 66 vV := EqIn.p (k := 5) rfl (c := fun x => (cV x).toArray) (fun _ => rfl) Tryz.eqGuardType66 eqi66
def eqIv_K1 (s1 : List Iv) (s2 : List Iv) (x13 : Nat) : Bool :=
 true
def fD (s1 : List Iv) (s2 : List Iv) (x13 : Nat) : Nx Nat Bool :=
 bif (decide (((x13 : Nat) : Int) < ((s1.length : Nat) : Int))) then
  bif (!(decide ((gt s1 x13) = (gt s2 x13)))) then
   .ret false
  else
   .go (x13 + 1)
 else
  .out x13
def eqIv (s1 : List Iv) (s2 : List Iv) : Bool :=
 bif ((((s1.length : Nat) : Int)) != (((s2.length : Nat) : Int))) then
  false
 else
  fin (bU (fun s => fD s1 s2 s) ((s1.length - 0) + 1) 0) (fun s => eqIv_K1 s1 s2 s) (fun r => r)
theorem eqIv_ct (s1 : List Iv) (s1v : Value) (s2 : List Iv) (s2v : Value) (zs1 : All (SzV 30) s1) (zs2 : All (SzV 30) s2) (w0 : World) (hs1v : View w0 s1v s1) (hs2v : View w0 s2v s2) : Calls Tryz.prog 58 #[s1v, s2v] w0 (RetP w0 (.bool (eqIv s1 s2)) (True)) := by
 refine enter (N := 26) (args := [s1v, s2v]) Tryz.func58 rfl rfl ?_; intro ac h
 have hlens1 := hs1v.len
 have hlens2 := hs2v.len
 refine cz fun K1 hK1 => ?_
 refine rd0 h (aj rfl) rfl <| gn hK1 <| gq fun K2 hK2 => gr fun K3 hK3 => g0 (ak rfl) rfl <| g0 (dg uu26 rfl hs1v.sl) rfl <| g0 (ak rfl) rfl <| g0 (dg uu26 rfl hs2v.sl) rfl <| g0 (kd rfl rfl (m := ((s1.length : Nat) : Int)) (n := ((s2.length : Nat) : Int))) rfl <| gn hK3 ?_; clear h ac; intro ac wo h
 refine dm h rfl (fun hc1 => ?_) (fun hc1 => ?_)
 ·
  have hq1 := hc1; try simp at hq1
  refine gz h <| gr fun K4 hK4 => g0 (aj rfl) rfl <| gn hK4 <| gT ?_; clear h ac wo; intro ac wo h
  have hd : eqIv s1 s2 = false := (cT hc1)
  exact ret h rfl (.tmp rfl .nil) rfl (h.retP (by rw [hd] <;> rfl) trivial)
 ·
  have hq1 := hc1; try simp at hq1
  refine gz h <| gS <| gx hK2 <| gq fun K5 hK5 => gr fun K6 hK6 => g0 (ak rfl) rfl <| g0 (dg uu26 rfl hs1v.sl) rfl <| g0 (ak rfl) rfl <| gn hK6 <| gB ?_; clear h ac wo; intro ac wo h
  obtain ⟨X1, hX1⟩ : ∃ X, bU (fun s => fD s1 s2 s) ((s1.length - 0) + 1) 0 = X := ⟨_, rfl⟩
  refine wp_loop_ghost (fun n_ a_ w_ => ∃ (x13 : Nat), ((s1.length - x13) < n_) ∧ (bU (fun s => fD s1 s2 s) n_ x13 = X1) ∧ (x13 ≤ s1.length) ∧ St w0 26 [(0, s1v), (1, s2v), (12, (.int .i64 ((s1.length : Nat) : Int))), (13, (.int .i64 ((x13 : Nat) : Int)))] [] a_ w_) ((s1.length - 0) + 1) ⟨0, (by omega), hX1, (by first | omega | grind), (h.sub ⟨rfl, rfl, rfl, rfl, trivial⟩)⟩ ?_
  clear h ac wo; rintro n1 ac wo ⟨x13, hm1, hL1, hx13, h⟩
  obtain ⟨m1, rfl⟩ : ∃ m, n1 = m + 1 := ⟨n1 - 1, by omega⟩
  refine gz h <| gr fun K7 hK7 => g0 (dr rfl rfl) rfl <| gn hK7 <| gq fun K8 hK8 => ?_; clear h ac wo; intro ac wo h
  refine dm h rfl (fun hc2 => ?_) (fun hc2 => ?_)
  ·
   have hd2 := of_decide_eq_true hc2
   refine gz h <| gS <| gx hK8 <| gq fun K9 hK9 => gB <| gr fun K10 hK10 => g0 (ak rfl) rfl <| g0 (aj rfl) rfl <| gn hK10 <| gq fun K11 hK11 => ?_; clear h ac wo; intro ac wo h
   refine cO mixed [dv _, dv _, dv _, dv _, dv _, dv _, dv _, dv _, dv _] [] h rfl (by kernel_rfl) ⟨fun _ _ => om rfl, fun _ _ => om rfl, fun _ _ => az (d6 (i := x13) uu26 zz66 rfl rfl (hs1v.nn (i := x13) (by first | omega | grind)) (by first | omega | grind)), fun _ _ => az (i9 (k := 0) Tryz.isAgg66 zz66 hs1v (em (by first | omega | grind)) rfl (Nat.add_zero _) rfl rfl (v := (vV (gt s1 x13))) rfl), fun _ _ => om rfl, fun _ _ => om rfl, fun _ _ => az (d6 (i := x13) uu26 zz66 rfl rfl (hs2v.nn (i := x13) (by first | omega | grind)) (by first | omega | grind)), fun _ _ => az (i9 (k := 0) Tryz.isAgg66 zz66 hs2v (em (by first | omega | grind)) rfl (Nat.add_zero _) rfl rfl (v := (vV (gt s2 x13))) rfl), fun _ _ => az (r_neqT eqp66 rfl rfl), trivial⟩ ?_
   clear h ac wo; intro ξ ac wo hφ h
   replace h : St w0 26 [(0, s1v), (1, s2v), (12, (.int .i64 ((s1.length : Nat) : Int))), (13, (.int .i64 ((x13 : Nat) : Int))), (24, (.bool (!(decide ((gt s1 x13) = (gt s2 x13))))))] [] ac wo := (h.pick [] (by decide)).sub ⟨rfl, rfl, rfl, rfl, rfl, trivial⟩
   clear hφ ξ
   refine hK11 _ _ ?_
   refine dm h rfl (fun hc3 => ?_) (fun hc3 => ?_)
   ·
    have hq3 := hc3; try simp at hq3
    refine gz h <| gr fun K12 hK12 => g0 (aj rfl) rfl <| gn hK12 <| gT ?_; clear h ac wo; intro ac wo h
    have hr1 := loop_ret hL1 (show fD s1 s2 x13 = .ret false from (Eq.trans (cT hc2) (cT hc3)))
    have hd : eqIv s1 s2 = false := (Eq.trans (cF hc1) (fin_r (hX1.trans hr1)))
    exact ret h rfl (.tmp rfl .nil) rfl (h.retP (by rw [hd] <;> rfl) trivial)
   ·
    have hq3 := hc3; try simp at hq3
    refine gz h <| gS <| gN <| gx hK9 <| gR <| g0 (bF rfl rfl (r := ((x13 + 1 : Nat) : Int)) (by rw [IntKind.wrap_i64]; first | omega | grind)) rfl <| g0 (ak rfl) rfl <| gx (fun _ _ => aW) ?_; clear h ac wo; intro ac wo h
    exact aO ⟨m1, (by omega), _, (by first | omega | grind), cA hL1 (show fD s1 s2 x13 = .go _ from (Eq.trans (cT hc2) (cF hc3))), (by first | omega | grind), (h.pick [] (by decide)).sub ⟨rfl, rfl, rfl, rfl, trivial⟩⟩
  ·
   have hd2 := of_decide_eq_false hc2
   refine dL ?_
   have hx1 := ec hL1 (show fD s1 s2 x13 = .out x13 from (cF hc2))
   refine gz h <| gx hK5 <| gr fun K13 hK13 => g0 (aj rfl) rfl <| gn hK13 <| gT ?_; clear h ac wo; intro ac wo h
   have hd : eqIv s1 s2 = true := (Eq.trans (cF hc1) (fp (hX1.trans hx1)))
   exact ret h rfl (.tmp rfl .nil) rfl (h.retP (by rw [hd] <;> rfl) trivial)
attribute [irreducible] eqIv
def ax (a : List Iv) (b : List Iv) : Bool :=
 (eqIv a b)
theorem kf (a : List Iv) (av : Value) (b : List Iv) (bv : Value) (za : All (SzV 30) a) (zb : All (SzV 30) b) (w0 : World) (hav : View w0 av a) (hbv : View w0 bv b) : Calls Tryz.prog 32 #[av, bv] w0 (RetP w0 (.bool (ax a b)) (True)) := by
 refine enter (N := 8) (args := [av, bv]) Tryz.func32 rfl rfl ?_; intro ac h
 have hlena := hav.len
 have hlenb := hbv.len
 refine cz fun K1 hK1 => ?_
 refine rd0 h (aj rfl) rfl ?_; clear h ac; intro ac wo h
 refine aW ?_
 refine hK1 _ _ ?_
 refine cz fun K2 hK2 => ?_
 refine rd0 h (ak rfl) rfl ?_; clear h ac wo; intro ac wo h
 refine rd0 h (ak rfl) rfl ?_; clear h ac wo; intro ac wo h
 refine jZ h (aS Tryz.call58 rfl) (fun w_ hB_ hS_ => eqIv_ct a av b bv za zb w_ (hav.below hB_) (hbv.below hB_)) rfl ?_; clear h ac wo; intro ac wo h
 refine rd0 h (aj rfl) rfl ?_; clear h ac wo; intro ac wo h
 refine aW ?_
 refine hK2 _ _ ?_
 refine dH ?_
 exact ret h rfl (.tmp rfl .nil) rfl (h.retP (by unfold ax; rfl) trivial)
attribute [irreducible] ax
def bR (s : List Iv) : (List Iv) := s
theorem gp (s : List Iv) (sv : Value) (hl : s.length ≤ 1000) (zs : All (SzV 30) s) (w0 : World) (hsv : View w0 sv s) : Calls Tryz.prog 49 #[sv] w0 (RetR w0 66 (bR s) (All (SzV 30) (bR s) ∧ (bR s) = s ∧ (bR s).length = s.length)) := by
 refine enter (N := 8) (args := [sv]) Tryz.func49 rfl rfl ?_; intro ac h
 have hlens := hsv.len
 refine cz fun K1 hK1 => ?_
 refine rd0 h (aj rfl) rfl <| gn hK1 <| gq fun K2 hK2 => gr fun K3 hK3 => g0 (ak rfl) rfl <| g0 (r_eqlSN Tryz.underlying26 hsv.sl rfl) rfl <| gn hK3 ?_; clear h ac; intro ac wo h
 refine dm h rfl (fun hc1 => ?_) (fun hc1 => ?_)
 ·
  have hq1 := hc1; try simp at hq1
  refine gz h <| gr fun K4 hK4 => g0 (aj rfl) rfl <| gn hK4 <| gT ?_; clear h ac wo; intro ac wo h
  replace h := h.nilRow (α := Iv) 66
  have hd : bR s = [] := (hsv.nil hc1).1
  exact ret h rfl (.tmp rfl .nil) rfl (by rw [hd]; exact h.retR 0 rfl ⟨All.nil, ⟨(hsv.nil hc1).1.symm, by rw [(hsv.nil hc1).1]⟩⟩)
 ·
  have hq1 := hc1; try simp at hq1
  refine d7 ?_
  refine hK2 _ _ ?_
  refine cz fun K5 hK5 => ?_
  refine nw h (dp (α := Iv) (xs := []) (vs := []) [] jr rfl rfl rfl (by decide)) rfl ?_; clear h ac wo; intro sv2 ac wo nnsv2 h
  refine rd0 h (ak rfl) rfl ?_; clear h ac wo; intro ac wo h
  refine on1 h 0 rfl (s_appV (xs := []) (ys := s) jr hsv rfl rfl (by first | omega | grind)) rfl ?_; clear h ac wo; intro sv3 ac wo apsv3 h
  refine rd0 h (aj rfl) rfl <| gn hK5 <| gT ?_; clear h ac wo; intro ac wo h
  exact ret h rfl (.tmp rfl .nil) rfl (by unfold bR; exact h.retR 0 rfl ⟨(All.app All.nil zs), ⟨rfl, rfl⟩⟩)
attribute [irreducible] bR
end Go.Sx
