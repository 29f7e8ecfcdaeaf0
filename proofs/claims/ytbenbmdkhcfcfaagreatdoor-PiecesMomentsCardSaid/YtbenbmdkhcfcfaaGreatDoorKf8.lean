/- A part of the proof of piecesMoments. -/
import Derived.Test.YtbenbmdkhcfcfaaGreatDoorCo
set_option linter.unusedVariables false
set_option linter.unusedSimpArgs false
open Go.Proofs.Tryz renaming runUnderlying66 → uu66, sizeOf71 → zz71, isAgg71 → aa71
namespace Go.Sx
open Go Go.RowKit Go.Proofs
set_option maxRecDepth 100000
set_option maxHeartbeats 40000000
attribute [local irreducible] aE bM ap aT aJ dF
def i6 (l : List Stp) (i : Nat) (i2 : Nat) : Bool :=
 true
def bU (l : List Stp) (i : Nat) (i2 : Nat) : Nx Nat Bool :=
 bif (decide (((i2 : Nat) : Int) < (((bn ((au (am l)).1)).length : Nat) : Int))) then
  bif (!(decide ((gt (bn ((au (am l)).1)) i2) = (gt (gm ((au (am l)).1)) i2)))) then
   .ret false
  else
   .go (i2 + 1)
 else
  .out i2
def ey (l : List Stp) (i : Nat) : Bool :=
 bif (((((bn ((au (am l)).1)).length : Nat) : Int)) != ((((gm ((au (am l)).1)).length : Nat) : Int))) then
  false
 else
  fin (bR (fun s => bU l i s) (((bn (au (am l)).1).length - 0) + 1) 0) (fun s => i6 l i s) (fun r => r)
def bO (l : List Stp) (i : Nat) : Nx Nat Bool :=
 bif (decide (((i : Nat) : Int) < (((aC (am l)).length : Nat) : Int))) then
  bif ((!(ed ((au (am l)).1) (am l) (gt (aC (am l)) i))) || ((dZ (bC ((au (am l)).1)) (gt (aC (am l)) i)) != ((bg (am l) (gt (aC (am l)) i)).2))) then
   .ret false
  else
   .go (i + 1)
 else
  .out i
def cq (l : List Stp) : Bool :=
 bif (!fM) then
  false
 else
  bif ((((au (am l)).2) != 0) || ((fk (bC ((au (am l)).1))) != 0)) then
   false
  else
   fin (bR (fun s => bO l s) (((aC (am l)).length - 0) + 1) 0) (fun s => ey l s) (fun r => r)
theorem i5 (l : List Stp) (lv : Value) (w0 : World) (hlv : View w0 lv l) : Calls Tryz.prog 8 #[lv] w0 (RetP w0 (.bool (cq l)) (True)) := by
 refine enter (N := 93) (args := [lv]) Tryz.func8 rfl rfl ?_; intro ac h
 have hlenl := hlv.len
 refine ej fun K1 hK1 => ?_
 refine rd0 h (aj rfl) rfl <| gn hK1 <| gq fun K2 hK2 => gr fun K3 hK3 => gc (bF Tryz.call25 rfl) (kk (kX)) rfl <| g0 (gG rfl) rfl <| gn hK3 ?_; clear h ac; intro ac wo h
 refine dA h rfl (fun hc1 => ?_) (fun hc1 => ?_)
 ·
  have hq1 := hc1; try simp at hq1
  refine gz h <| gr fun K4 hK4 => g0 (aj rfl) rfl <| gn hK4 <| gT ?_; clear h ac wo; intro ac wo h
  have hd : cq l = false := (cT hc1)
  exact ret h rfl (.tmp rfl .nil) rfl (h.retP (by rw [hd] <;> rfl) trivial)
 ·
  have hq1 := hc1; try simp at hq1
  refine gz h <| gS <| gx hK2 <| gr fun K5 hK5 => g0 (ak rfl) rfl ?_; clear h ac wo; intro ac wo h
  have s1 := RetR.pr ((fun w_ hB_ hS_ => iX l lv w_ (hlv.below hB_)) _ h.bel h.sep)
  have p2 := s1.2
  refine me (xs := (am l)) h (bF Tryz.call27 rfl) (fun w_ hB_ hS_ => iX l lv w_ (hlv.below hB_)) rfl ?_; clear h ac wo; intro sv3 ac wo _ h
  refine rd0 h (aj rfl) rfl <| gn hK5 <| gr fun K6 hK6 => g0 (cg bld55 rfl rfl (v := .agg #[]) rfl) rfl <| g0 (sR Tryz.runUnderlying55 rfl rfl (v := (.agg #[]))) rfl <| g0 (ak rfl) rfl ?_; clear h ac wo; intro ac wo h
  have s4 := RetT.pr ((fun w_ hB_ hS_ => fB (am l) sv3 (by omega) s1.1 w_ (row_view hS_ 0 rfl)) _ h.bel h.sep)
  have p5 := s4.2
  refine c_tup (xs := (au (am l)).1) h (bF Tryz.call55 rfl) (fun w_ hB_ hS_ => fB (am l) sv3 (by omega) s1.1 w_ (row_view hS_ 0 rfl)) rfl ?_; clear h ac wo; intro sv6 ac wo _ h
  refine rd0 h (ak rfl) rfl <| g0 (bf rfl rfl) rfl <| g0 (bf rfl rfl) rfl <| g0 (aj rfl) rfl <| g0 (aj rfl) rfl <| gn hK6 <| gr fun K7 hK7 => ?_; clear h ac wo; intro ac wo h
  have hnz : All (jI 30) (au (am l)).1 := mo_z l
  have hnl : (au (am l)).1.length ≤ (am l).length := mo_l l
  refine rd0 h (ak rfl) rfl ?_; clear h ac wo; intro ac wo h
  have s7 := RetR.pr ((fun w_ hB_ hS_ => gw (am l) sv3 (by omega) (mo_gap l) s1.1 w_ (row_view hS_ 1 rfl)) _ h.bel h.sep)
  have p8 := s7.2
  refine me (xs := (aC (am l))) h (bF Tryz.call35 rfl) (fun w_ hB_ hS_ => gw (am l) sv3 (by omega) (mo_gap l) s1.1 w_ (row_view hS_ 1 rfl)) rfl ?_; clear h ac wo; intro sv9 ac wo _ h
  refine rd0 h (aj rfl) rfl <| gn hK7 ?_; clear h ac wo; intro ac wo h
  replace h := h.sub (F' := [(3, sv3), (4, sv6), (5, (.int .i64 ((au (am l)).2))), (6, sv9)]) ⟨rfl, rfl, rfl, rfl, trivial⟩
  refine gz h <| gr fun K8 hK8 => g0 (ak rfl) rfl ?_; clear h ac wo; intro ac wo h
  have s10 := RetR.pr ((fun w_ hB_ hS_ => iT ((au (am l)).1) sv6 (by omega) (mo_w l) hnz w_ (row_view hS_ 1 rfl)) _ h.bel h.sep)
  have p11 := s10.2
  refine me (xs := (bC ((au (am l)).1))) h (bF Tryz.call56 rfl) (fun w_ hB_ hS_ => iT ((au (am l)).1) sv6 (by omega) (mo_w l) hnz w_ (row_view hS_ 1 rfl)) rfl ?_; clear h ac wo; intro sv12 ac wo _ h
  refine rd0 h (aj rfl) rfl <| gn hK8 <| gq fun K9 hK9 => gr fun K10 hK10 => g0 (ak rfl) rfl <| g0 (jB rfl rfl) rfl <| g0 (ak rfl) rfl <| ge2 rfl rfl (fun hg => (Rd.of_nil (ak rfl)).step) rfl <| ge2 rfl rfl (fun hg => dy (bF Tryz.call57 (cH (aN rfl hg) rfl)) (fun w_ hB_ hS_ => mX (bC ((au (am l)).1)) sv12 (by omega) (mo_rt l) s10.1 w_ (row_view hS_ 0 rfl))) rfl <| ge2 rfl rfl (fun hg => (Rd.of_nil (jB (aN rfl hg) rfl)).step) rfl <| g0 (nU rfl (fun e => (aN rfl (n7 e)))) rfl <| gn hK10 ?_; clear h ac wo; intro ac wo h
  refine dA h rfl (fun hc2 => ?_) (fun hc2 => ?_)
  ·
   have hq2 := hc2; try simp at hq2
   refine gz h <| gr fun K11 hK11 => g0 (aj rfl) rfl <| gn hK11 <| gT ?_; clear h ac wo; intro ac wo h
   have hd : cq l = false := (Eq.trans (cF hc1) (cT hc2))
   exact ret h rfl (.tmp rfl .nil) rfl (h.retP (by rw [hd] <;> rfl) trivial)
  ·
   have hq2 := hc2; try simp at hq2
   refine gz h <| gS <| gx hK9 <| gq fun K12 hK12 => gr fun K13 hK13 => g0 (aj rfl) rfl <| gn hK13 <| gB ?_; clear h ac wo; intro ac wo h
   obtain ⟨X1, hX1⟩ : ∃ X, bR (fun s => bO l s) (((aC (am l)).length - 0) + 1) 0 = X := ⟨_, rfl⟩
   refine wp_loop_ghost (fun n_ a_ w_ => ∃ (i : Nat), (((aC (am l)).length - i) < n_) ∧ (bR (fun s => bO l s) n_ i = X1) ∧ (i ≤ (aC (am l)).length) ∧ St w0 93 [(3, sv3), (4, sv6), (6, sv9), (7, sv12), (8, (.int .i64 ((i : Nat) : Int)))] [.row (α := Iv) 86 sv12 (bC ((au (am l)).1)), .row (α := GR) 71 sv9 (aC (am l)), .row (α := U Qd) 126 sv6 ((au (am l)).1), .row (α := U Qd) 126 sv3 (am l)] a_ w_) (((aC (am l)).length - 0) + 1) ⟨0, (by omega), hX1, (by omega), (h.sub ⟨rfl, rfl, rfl, rfl, rfl, trivial⟩)⟩ ?_
   clear h ac wo; rintro n1 ac wo ⟨i, hm1, hL1, hi, h⟩
   obtain ⟨m1, rfl⟩ : ∃ m, n1 = m + 1 := ⟨n1 - 1, by omega⟩
   refine gz h <| gq fun K14 hK14 => gr fun K15 hK15 => g0 (ak rfl) rfl <| g0 (ak rfl) rfl ?_; clear h ac wo; intro ac wo h
   refine rd0 h (et uu66 rfl (h.row_sl 1 rfl)) rfl <| g0 (d5 rfl rfl) rfl <| gn hK15 ?_; clear h ac wo; intro ac wo h
   refine dA h rfl (fun hc3 => ?_) (fun hc3 => ?_)
   ·
    have hd3 := of_decide_eq_true hc3
    refine gz h <| gS <| gx hK14 <| gq fun K16 hK16 => gB <| gr fun K17 hK17 => g0 (ak rfl) rfl <| g0 (ak rfl) rfl <| g0 (ak rfl) rfl ?_; clear h ac wo; intro ac wo h
    refine rd0 h (eC (i := i) uu66 zz71 rfl rfl (h.row_nn 1 rfl (by omega)) (by omega)) rfl <| g1 1 rfl (dX (k := 0) aa71 zz71 (cK (by omega)) rfl (Nat.add_zero _) rfl rfl (v := (vR (gt (aC (am l)) i))) rfl) rfl ?_; clear h ac wo; intro ac wo h
    have s13 := Calls.pr ((fun w_ hB_ hS_ => eP (am l) sv3 (gt (aC (am l)) i) s1.1 (All.gt s7.1 (mg _)) w_ (row_view hS_ 3 rfl)) _ h.bel h.sep)
    refine qn h (bF Tryz.call36 rfl) (fun w_ hB_ hS_ => eP (am l) sv3 (gt (aC (am l)) i) s1.1 (All.gt s7.1 (mg _)) w_ (row_view hS_ 3 rfl)) rfl <| g0 (ak rfl) rfl <| g0 (bf rfl rfl) rfl <| g0 (bf rfl rfl) rfl <| ga (cD oD) Tryz.zeroValue53 rfl rfl fun b1 => gs 0 (cD ((bg (am l) (gt (aC (am l)) i)).1)) rfl Tryz.sizeOf53 rfl rfl rfl rfl rfl rfl rfl <| g0 (aj rfl) rfl <| gn hK17 <| gr fun K18 hK18 => g0 (ak rfl) rfl <| g0 (ak rfl) rfl <| g0 (ak rfl) rfl <| g0 (ak rfl) rfl ?_; clear h ac wo; intro ac wo h
    refine rd0 h (eC (i := i) uu66 zz71 rfl rfl (h.row_nn 2 rfl (by omega)) (by omega)) rfl <| g1 2 rfl (dX (k := 0) aa71 zz71 (cK (by omega)) rfl (Nat.add_zero _) rfl rfl (v := (vR (gt (aC (am l)) i))) rfl) rfl <| gc (bF Tryz.call58 rfl) (fun w_ hB_ hS_ => ku ((au (am l)).1) sv6 (am l) sv3 (gt (aC (am l)) i) (by omega) hnz s1.1 (All.gt s7.1 (mg _)) w_ (row_view hS_ 3 rfl) (row_view hS_ 4 rfl)) rfl <| g0 (gG rfl) rfl <| g0 (ak rfl) rfl <| ge2 rfl rfl (fun hg => (Rd.of_nil (ak rfl)).step) rfl <| ge2 rfl rfl (fun hg => (Rd.of_nil (ak rfl)).step) rfl <| ge2 rfl rfl (fun hg => (Rd.of_nil (ak rfl)).step) rfl ?_; clear h ac wo; intro ac wo h
    refine gd2 h rfl rfl (fun hg => (Rd.of_nil (eC (i := i) uu66 zz71 (aN rfl hg) (aN rfl hg) (h.row_nn 2 rfl (by omega)) (by omega))).step) rfl <| ge2 rfl rfl (fun hg => (Rd.of_mem (i := 2) (dX (k := 0) aa71 zz71 (cK (by omega)) (aN rfl hg) (Nat.add_zero _) rfl rfl (v := (vR (gt (aC (am l)) i))) rfl) rfl).step) rfl <| ge2 rfl rfl (fun hg => dy (bF Tryz.call59 (cH (aN rfl hg) (cH (aN rfl hg) rfl))) (fun w_ hB_ hS_ => lD (bC ((au (am l)).1)) sv12 (gt (aC (am l)) i) (by omega) s10.1 (All.gt s7.1 (mg _)) w_ (row_view hS_ 1 rfl))) rfl <| ge2 rfl rfl (fun hg => (Rd.of_nil (ak rfl)).step) rfl <| ge2 rfl rfl (fun hg => (Rd.of_nil (pJ Tryz.underlying4 (aN rfl hg) (aN rfl hg))).step) rfl <| g0 (nU rfl (fun e => (aN rfl (n7 e)))) rfl <| gn hK18 ?_; clear h ac wo; intro ac wo h
    replace h := h.sub (F' := [(3, sv3), (4, sv6), (6, sv9), (7, sv12), (8, (.int .i64 ((i : Nat) : Int))), (68, (.bool ((!(ed ((au (am l)).1) (am l) (gt (aC (am l)) i))) || ((dZ (bC ((au (am l)).1)) (gt (aC (am l)) i)) != ((bg (am l) (gt (aC (am l)) i)).2)))))]) ⟨rfl, rfl, rfl, rfl, rfl, rfl, trivial⟩
    refine dA h rfl (fun hc4 => ?_) (fun hc4 => ?_)
    ·
     have hq4 := hc4; try simp at hq4
     refine gz h <| gr fun K19 hK19 => g0 (aj rfl) rfl <| gn hK19 <| gT ?_; clear h ac wo; intro ac wo h
     have hr1 := gj hL1 (show bO l i = .ret false from (Eq.trans (cT hc3) (cT hc4)))
     have hd : cq l = false := (Eq.trans (cF hc1) (Eq.trans (cF hc2) (kq (hX1.trans hr1))))
     exact ret h rfl (.tmp rfl .nil) rfl (h.retP (by rw [hd] <;> rfl) trivial)
    ·
     have hq4 := hc4; try simp at hq4
     refine gz h <| gS <| gN <| gx hK16 <| gR <| g0 (ak rfl) rfl <| g0 (ch rfl rfl (r := ((i + 1 : Nat) : Int)) (by rw [IntKind.wrap_i64]; omega)) rfl <| g0 (aj rfl) rfl <| gx (fun _ _ => bV) ?_; clear h ac wo; intro ac wo h
     exact aU ⟨m1, (by omega), _, (by omega), co hL1 (show bO l i = .go _ from (Eq.trans (cT hc3) (cF hc4))), (by omega), (h.pick [1, 2, 3, 4] (by decide)).sub ⟨rfl, rfl, rfl, rfl, rfl, trivial⟩⟩
   ·
    have hd3 := of_decide_eq_false hc3
    refine ep ?_
    have hx1 := dU hL1 (show bO l i = .out i from (cF hc3))
    refine gz h <| gx hK12 <| gr fun K20 hK20 => g0 (ak rfl) rfl ?_; clear h ac wo; intro ac wo h
    have s14 := RetR.pr ((fun w_ hB_ hS_ => ji ((au (am l)).1) sv6 (by omega) hnz w_ (row_view hS_ 2 rfl)) _ h.bel h.sep)
    have p15 := s14.2
    refine me (xs := (bn ((au (am l)).1))) h (bF Tryz.call60 rfl) (fun w_ hB_ hS_ => ji ((au (am l)).1) sv6 (by omega) hnz w_ (row_view hS_ 2 rfl)) rfl ?_; clear h ac wo; intro sv16 ac wo _ h
    refine rd0 h (ak rfl) rfl ?_; clear h ac wo; intro ac wo h
    have s17 := RetR.pr ((fun w_ hB_ hS_ => nm ((au (am l)).1) sv6 (by omega) hnz w_ (row_view hS_ 3 rfl)) _ h.bel h.sep)
    have p18 := s17.2
    refine me (xs := (gm ((au (am l)).1))) h (bF Tryz.call61 rfl) (fun w_ hB_ hS_ => nm ((au (am l)).1) sv6 (by omega) hnz w_ (row_view hS_ 3 rfl)) rfl ?_; clear h ac wo; intro sv19 ac wo _ h
    refine rd0 h (aj rfl) rfl <| g0 (aj rfl) rfl <| gn hK20 <| gq fun K21 hK21 => gr fun K22 hK22 => g0 (ak rfl) rfl ?_; clear h ac wo; intro ac wo h
    refine rd0 h (et uu66 rfl (h.row_sl 1 rfl)) rfl <| g0 (ak rfl) rfl ?_; clear h ac wo; intro ac wo h
    refine rd0 h (et uu66 rfl (h.row_sl 0 rfl)) rfl <| g0 (jB rfl rfl (m := (((bn ((au (am l)).1)).length : Nat) : Int)) (n := (((gm ((au (am l)).1)).length : Nat) : Int))) rfl <| gn hK22 ?_; clear h ac wo; intro ac wo h
    replace h := h.sub (F' := [(11, sv16), (12, sv19), (77, (.bool (((((bn ((au (am l)).1)).length : Nat) : Int)) != ((((gm ((au (am l)).1)).length : Nat) : Int)))))]) ⟨rfl, rfl, rfl, trivial⟩
    refine dA h rfl (fun hc5 => ?_) (fun hc5 => ?_)
    ·
     have hq5 := hc5; try simp at hq5
     refine gz h <| gr fun K23 hK23 => g0 (aj rfl) rfl <| gn hK23 <| gT ?_; clear h ac wo; intro ac wo h
     have hd : cq l = false := (Eq.trans (cF hc1) (Eq.trans (cF hc2) (Eq.trans (eV (hX1.trans hx1)) (cT hc5))))
     exact ret h rfl (.tmp rfl .nil) rfl (h.retP (by rw [hd] <;> rfl) trivial)
    ·
     have hq5 := hc5; try simp at hq5
     refine gz h <| gS <| gx hK21 <| gq fun K24 hK24 => gr fun K25 hK25 => g0 (aj rfl) rfl <| gn hK25 <| gB ?_; clear h ac wo; intro ac wo h
     obtain ⟨X2, hX2⟩ : ∃ X, bR (fun s => bU l i s) (((bn (au (am l)).1).length - 0) + 1) 0 = X := ⟨_, rfl⟩
     refine wp_loop_ghost (fun n_ a_ w_ => ∃ (i2 : Nat), (((bn (au (am l)).1).length - i2) < n_) ∧ (bR (fun s => bU l i s) n_ i2 = X2) ∧ (i2 ≤ (bn (au (am l)).1).length) ∧ St w0 93 [(11, sv16), (12, sv19), (13, (.int .i64 ((i2 : Nat) : Int)))] [.row (α := GR) 71 sv19 (gm ((au (am l)).1)), .row (α := GR) 71 sv16 (bn ((au (am l)).1)), .row (α := Iv) 86 sv12 (bC ((au (am l)).1)), .row (α := GR) 71 sv9 (aC (am l)), .row (α := U Qd) 126 sv6 ((au (am l)).1), .row (α := U Qd) 126 sv3 (am l)] a_ w_) (((bn (au (am l)).1).length - 0) + 1) ⟨0, (by omega), hX2, (by omega), (h.sub ⟨rfl, rfl, rfl, trivial⟩)⟩ ?_
     clear h ac wo; rintro n2 ac wo ⟨i2, hm2, hL2, hi2, h⟩
     obtain ⟨m2, rfl⟩ : ∃ m, n2 = m + 1 := ⟨n2 - 1, by omega⟩
     refine gz h <| gq fun K26 hK26 => gr fun K27 hK27 => g0 (ak rfl) rfl <| g0 (ak rfl) rfl ?_; clear h ac wo; intro ac wo h
     refine rd0 h (et uu66 rfl (h.row_sl 1 rfl)) rfl <| g0 (d5 rfl rfl) rfl <| gn hK27 ?_; clear h ac wo; intro ac wo h
     refine dA h rfl (fun hc6 => ?_) (fun hc6 => ?_)
     ·
      have hd6 := of_decide_eq_true hc6
      refine eL ?_
      refine hK26 _ _ ?_
      refine dV fun K28 hK28 => ?_
      refine gg ?_
      refine dV fun K29 hK29 => ?_
      refine cZ mixed [dv _, dv _, dv _, dw _ [1], dv _, dv _, dv _, dw _ [0], dv _] [⟨_, []⟩, ⟨_, []⟩, ⟨_, []⟩, ⟨_, []⟩, ⟨_, []⟩, ⟨_, []⟩] h rfl (by kernel_rfl) ⟨fun _ _ => om rfl, fun _ _ => om rfl, fun _ _ => aL (eC (i := i2) uu66 zz71 rfl rfl (h.row_nn 1 rfl (by omega)) (by omega)), fun _ _ => cY _ rfl rfl (dX (k := 0) aa71 zz71 (cK (by omega)) rfl (Nat.add_zero _) rfl rfl (v := (vR (gt (bn ((au (am l)).1)) i2))) rfl), fun _ _ => om rfl, fun _ _ => om rfl, fun _ _ => aL (eC (i := i2) uu66 zz71 rfl rfl (h.row_nn 0 rfl (by omega)) (by omega)), fun _ _ => cY _ rfl rfl (dX (k := 0) aa71 zz71 (cK (by omega)) rfl (Nat.add_zero _) rfl rfl (v := (vR (gt (gm ((au (am l)).1)) i2))) rfl), fun _ _ => aL (nW nk rfl rfl), trivial⟩ ?_
      clear h ac wo; intro ξ ac wo hφ h
      replace h : St w0 93 [(11, sv16), (12, sv19), (13, (.int .i64 ((i2 : Nat) : Int))), (92, (.bool (!(decide ((gt (bn ((au (am l)).1)) i2) = (gt (gm ((au (am l)).1)) i2))))))] [.row (α := GR) 71 sv19 (gm ((au (am l)).1)), .row (α := GR) 71 sv16 (bn ((au (am l)).1)), .row (α := Iv) 86 sv12 (bC ((au (am l)).1)), .row (α := GR) 71 sv9 (aC (am l)), .row (α := U Qd) 126 sv6 ((au (am l)).1), .row (α := U Qd) 126 sv3 (am l)] ac wo := (h.pick [0, 1, 2, 3, 4, 5] (by decide)).sub ⟨rfl, rfl, rfl, rfl, trivial⟩
      clear hφ ξ
      refine hK29 _ _ ?_
      refine dA h rfl (fun hc7 => ?_) (fun hc7 => ?_)
      ·
       have hq7 := hc7; try simp at hq7
       refine gz h <| gr fun K30 hK30 => g0 (aj rfl) rfl <| gn hK30 <| gT ?_; clear h ac wo; intro ac wo h
       have hr2 := gj hL2 (show bU l i i2 = .ret false from (Eq.trans (cT hc6) (cT hc7)))
       have hd : cq l = false := (Eq.trans (cF hc1) (Eq.trans (cF hc2) (Eq.trans (eV (hX1.trans hx1)) (Eq.trans (cF hc5) (kq (hX2.trans hr2))))))
       exact ret h rfl (.tmp rfl .nil) rfl (h.retP (by rw [hd] <;> rfl) trivial)
      ·
       have hq7 := hc7; try simp at hq7
       refine gz h <| gS <| gN <| gx hK28 <| gR <| g0 (ak rfl) rfl <| g0 (ch rfl rfl (r := ((i2 + 1 : Nat) : Int)) (by rw [IntKind.wrap_i64]; omega)) rfl <| g0 (aj rfl) rfl <| gx (fun _ _ => bV) ?_; clear h ac wo; intro ac wo h
       exact aU ⟨m2, (by omega), _, (by omega), co hL2 (show bU l i i2 = .go _ from (Eq.trans (cT hc6) (cF hc7))), (by omega), (h.pick [0, 1, 2, 3, 4, 5] (by decide)).sub ⟨rfl, rfl, rfl, trivial⟩⟩
     ·
      have hd6 := of_decide_eq_false hc6
      refine ep ?_
      have hx2 := dU hL2 (show bU l i i2 = .out i2 from (cF hc6))
      refine gz h <| gx hK24 <| gr fun K31 hK31 => g0 (aj rfl) rfl <| gn hK31 <| gT ?_; clear h ac wo; intro ac wo h
      have hd : cq l = true := (Eq.trans (cF hc1) (Eq.trans (cF hc2) (Eq.trans (eV (hX1.trans hx1)) (Eq.trans (cF hc5) (eV (hX2.trans hx2))))))
      exact ret h rfl (.tmp rfl .nil) rfl (h.retP (by rw [hd] <;> rfl) trivial)
attribute [irreducible] cq
end Go.Sx
