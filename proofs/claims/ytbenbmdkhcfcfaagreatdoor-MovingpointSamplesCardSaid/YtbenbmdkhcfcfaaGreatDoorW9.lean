/- A part of the proof of movingpointSamples. -/
import Derived.Test.YtbenbmdkhcfcfaaGreatDoorW8
set_option linter.unusedVariables false
set_option linter.unusedSimpArgs false
open Go.Proofs.Tryz renaming runUnderlying3 → uu3, runUnderlying276 → uu276, zeroValue79 → vv79, isAgg71 → aa71, sizeOf71 → zz71, runUnderlying81 → uu81, sizeOf199 → zz199, runUnderlying199 → uu199, sizeOf86 → zz86, runUnderlying86 → uu86, isAgg79 → aa79, sizeOf79 → zz79, sizeOf4 → zz4, isAgg4 → aa4, underlying29 → nn29, underlying31 → nn31, runUnderlying9 → uu9
namespace Go.Sx
open Go Go.RowKit Go.Proofs
set_option maxRecDepth 100000
set_option maxHeartbeats 40000000
attribute [local irreducible] Code.wp wpList Rd Step ObS Ent
attribute [local irreducible] aq aK ak au ay bA
def df (u : U Ln) (t : GR) : Int :=
 (aq u.iv.hi t)
theorem fV (u : U Ln) (t : GR) (zu : gk 30 u) (zt : SzR 30 t) (w0 : World)  : Calls Tryz.prog 198 #[(vUN u), (vR t)] w0 (RetP w0 (.int .i64 (df u t)) (True)) := by
 refine enter (N := 10) (args := [(vUN u), (vR t)]) Tryz.func198 rfl rfl ?_; intro ac h
 have p2 := am ((ce u.iv.hi t 10 og zu.1.2 zt) w0)
 refine gz h <| (xb) fun b1 => (xb) fun b2 => (xk (ce u.iv.hi t 10 og zu.1.2 zt)) <| (W) ?_; clear h ac; intro ac wo h
 exact (rt h) (h.retP (by unfold df; rfl) trivial)
attribute [irreducible] df
def qV (x : List (U Ln)) (target : GR) (i : Nat) (j : Nat) : Int × Bool :=
 (((i : Nat) : Int), ((decide (((i : Nat) : Int) < ((x.length : Nat) : Int))) && ((df (gt x i) target) == 0)))
def dQ (x : List (U Ln)) (target : GR) (i : Nat) (j : Nat) : Nx (Nat × Nat) (Int × Bool) :=
 bif (decide (((i : Nat) : Int) < ((j : Nat) : Int))) then
  bif (decide ((df (gt x ((i + j) / 2)) target) < 0)) then
   .go ((((i + j) / 2) + 1), j)
  else
   .go (i, ((i + j) / 2))
 else
  .out (i, j)
def eW (x : List (U Ln)) (target : GR) : Int × Bool :=
 fin (cG (fun s => dQ x target s.1 s.2) (x.length - 0 + 1) (0, x.length)) (fun s => qV x target s.1 s.2) (fun r => r)
theorem lU (x : List (U Ln)) (xv : Value) (target : GR) (hl : x.length ≤ 1000) (zx : All (gk 30) x) (ztarget : SzR 30 target) (w0 : World) (hxv : View w0 xv x) : Calls Tryz.prog 197 #[xv, (vR target), (.func (.func 198) #[] #[])] w0 (RetP w0 (.tuple #[(.int .i64 ((eW x target).1)), (.bool ((eW x target).2))]) ((0 ≤ (eW x target).1 ∧ (eW x target).1 ≤ (x.length : Int)))) := by
 refine enter (N := 49) (args := [xv, (vR target), (.func (.func 198) #[] #[])]) Tryz.func197 rfl rfl ?_; intro ac h
 have hlenx := hxv.len
 obtain ⟨X1, hX1⟩ : ∃ X, cG (fun s => dQ x target s.1 s.2) (x.length - 0 + 1) (0, x.length) = X := ⟨_, rfl⟩
 refine gz h <| (xb) fun b1 => (W) ?_; clear h ac; intro ac wo h
 refine wp_loop_ghost (fun n_ a_ w_ => ∃ (i : Nat) (j : Nat), (j - i < n_) ∧ (cG (fun s => dQ x target s.1 s.2) n_ (i, j) = X1) ∧ (i ≤ j) ∧ (j ≤ x.length) ∧ St w0 49 [(0, xv), (2, (.func (.func 198) #[] #[])), (4, (ptr b1 0)), (8, (.int .i64 ((x.length : Nat) : Int))), (9, (.int .i64 ((i : Nat) : Int))), (10, (.int .i64 ((j : Nat) : Int)))] [.blk b1 (cR target) 71] a_ w_) (x.length - 0 + 1) ⟨0, x.length, og, hX1, og, og, h.rs⟩ ?_
 clear h ac wo; rintro n1 ac wo ⟨i, j, hm1, hL1, hij, hjn, h⟩
 obtain ⟨m1, rfl⟩ : ∃ m, n1 = m + 1 := ⟨n1 - 1, by omega⟩
 refine gz h <| (ai) ?_ ?_ <;> clear h ac wo <;> intro ac wo h hc1
 ·
  have hd1 := of_decide_eq_true hc1
  refine gz h <| (xo (hs := by exact aZ uu3 uu276 rfl (r := ((i + j : Nat) : Int)) (by rw [IntKind.wrap_u64]; omega))) <| (xo (hs := by exact k8 rfl rfl (r := ((((i + j) / 2 : Nat)) : Int)) og (by first | decide | (simp [IntKind.bits] <;> omega)) (by rw [show ((1 : Int).toNat) = 1 from rfl]; omega))) <| (xo (hs := by exact aZ uu276 uu3 rfl (r := ((((i + j) / 2 : Nat)) : Int)) (by rw [IntKind.wrap_i64]; omega))) <| (dr0 (hob := (oK (fV (gt x ((i + j) / 2)) target (All.gt zx (bB _)) ztarget)) <| oE)) <| (ai) ?_ ?_ <;> clear h ac wo <;> intro ac wo h hc2
  ·
   have hd2 := of_decide_eq_true hc2
   refine gz h <| (W) ?_; clear h ac wo; intro ac wo h
   have hg := dK hL1 pt
   exact aG ⟨m1, og, _, _, og, hg, og, og, h.re [0]⟩
  ·
   have hd2 := of_decide_eq_false hc2
   refine gz h <| (W) ?_; clear h ac wo; intro ac wo h
   have hg := dK hL1 pt
   exact aG ⟨m1, og, _, _, og, hg, og, og, h.re [0]⟩
 ·
  have hd1 := of_decide_eq_false hc1
  have hx1 := fe hL1 pt
  have hd : eW x target = (((i : Nat) : Int), ((decide (((i : Nat) : Int) < ((x.length : Nat) : Int))) && ((df (gt x i) target) == 0))) := pt
  refine gz h <| (dr0 (hob := (oG (by exact fun hg => fV (gt x i) target (All.gt zx (bB _)) ztarget)) <| oE)) <| (W) ?_; clear h ac wo; intro ac wo h
  exact (rt h) (h.retP (by rw [hd] <;> rfl) (by rw [hd]; exact og))
attribute [irreducible] eW
def jG (l : List (U Ln)) (t : GR) (i : Nat) (mb2 : Ln) : Ln × Bool :=
 ((⟨(⟨(⟨false, 0⟩ : GI), (⟨false, 0⟩ : GI)⟩ : GQ), (⟨(⟨false, 0⟩ : GI), (⟨false, 0⟩ : GI)⟩ : GQ), (⟨(⟨false, 0⟩ : GI), (⟨false, 0⟩ : GI)⟩ : GQ), (⟨(⟨false, 0⟩ : GI), (⟨false, 0⟩ : GI)⟩ : GQ)⟩ : Ln), false)
def cK (l : List (U Ln)) (t : GR) (i : Nat) (mb2 : Ln) : Nx (Nat × Ln) (Ln × Bool) :=
 bif (decide (((i : Nat) : Int) < ((l.length : Nat) : Int))) then
  bif (decide ((aq (((gt l i).iv).lo) t) > 0)) then
   .out (i, mb2)
  else
   bif (((decide ((aq (((gt l i).iv).lo) t) < 0)) || (!((gt l i).iv).openLo)) && ((!(decide (((gt l i).iv).hi = t))) || (!((gt l i).iv).openHi))) then
    .ret ((gt l i).f, true)
   else
    .go ((i + 1), mb2)
 else
  .out (i, mb2)
def bO (l : List (U Ln)) (t : GR) : Ln × Bool :=
 fin (cG (fun s => cK l t s.1 s.2) ((l.length - (((eW l t).1).toNat)) + 1) (((eW l t).1).toNat, (⟨(⟨(⟨false, 0⟩ : GI), (⟨false, 0⟩ : GI)⟩ : GQ), (⟨(⟨false, 0⟩ : GI), (⟨false, 0⟩ : GI)⟩ : GQ), (⟨(⟨false, 0⟩ : GI), (⟨false, 0⟩ : GI)⟩ : GQ), (⟨(⟨false, 0⟩ : GI), (⟨false, 0⟩ : GI)⟩ : GQ)⟩ : Ln))) (fun s => jG l t s.1 s.2) (fun r => r)
theorem gH (l : List (U Ln)) (lv : Value) (t : GR) (hl : l.length ≤ 1000) (zl : All (gk 30) l) (zt : SzR 30 t) (w0 : World) (hlv : View w0 lv l) : Calls Tryz.prog 99 #[lv, (vR t)] w0 (RetP w0 (.tuple #[(vN ((bO l t).1)), (.bool ((bO l t).2))]) (SzN 30 ((bO l t).1))) := by
 refine enter (N := 68) (args := [lv, (vR t)]) Tryz.func99 rfl rfl ?_; intro ac h
 have hlenl := hlv.len
 refine lz fun K1 hK1 => ?_
 refine bx h (cR t) rfl rfl rfl fun b1 => ga (cN (⟨oQ, oQ, oQ, oQ⟩ : Ln)) vv79 rfl rfl fun b2 => g0 (aw rfl) rfl <| gn hK1 <| gr fun K2 hK2 => g0 (ap rfl) rfl <| g1 1 rfl (gp aa71 zz71 rfl rfl rfl (v := (vR t)) rfl) rfl ?_; clear h ac; intro ac wo h
 have s1 := Calls.pr ((fun w_ hB_ hS_ => lU l lv t og zl zt w_ (hlv.below hB_)) _ h.bel h.sep)
 have p2 := s1
 refine c_val h (dH Tryz.call197 rfl) (fun w_ hB_ hS_ => lU l lv t og zl zt w_ (hlv.below hB_)) rfl <| g0 (ap rfl) rfl <| g0 (Rd.cast (bU rfl rfl) (v := .int .i64 ((((eW l t).1).toNat : Nat) : Int)) (congrArg (Value.int .i64) og)) rfl <| g0 (bU rfl rfl) rfl <| g0 (aw rfl) rfl <| g0 (aw rfl) rfl <| gn hK2 <| gq fun K3 hK3 => gB ?_; clear h ac wo; intro ac wo h
 obtain ⟨X1, hX1⟩ : ∃ X, cG (fun s => cK l t s.1 s.2) ((l.length - (((eW l t).1).toNat)) + 1) (((eW l t).1).toNat, (⟨oQ, oQ, oQ, oQ⟩ : Ln)) = X := ⟨_, rfl⟩
 refine wp_loop_ghost (fun n_ a_ w_ => ∃ (i : Nat) (mb2 : Ln), ((l.length - i) < n_) ∧ (cG (fun s => cK l t s.1 s.2) n_ (i, mb2) = X1) ∧ (i ≤ l.length) ∧ (SzN 30 mb2) ∧ St w0 68 [(0, lv), (3, (ptr b1 0)), (4, (ptr b2 0)), (6, (.int .i64 ((i : Nat) : Int)))] [.blk b2 (cN mb2) 79, .blk b1 (cR t) 71] a_ w_) ((l.length - (((eW l t).1).toNat)) + 1) ⟨((eW l t).1).toNat, (⟨oQ, oQ, oQ, oQ⟩ : Ln), og, hX1, og, ⟨⟨(bn 0 (by decide) og), (bn 0 (by decide) og)⟩, ⟨(bn 0 (by decide) og), (bn 0 (by decide) og)⟩, ⟨(bn 0 (by decide) og), (bn 0 (by decide) og)⟩, ⟨(bn 0 (by decide) og), (bn 0 (by decide) og)⟩⟩, h.rs⟩ ?_
 clear h ac wo; rintro n1 ac wo ⟨i, mb2, hm1, hL1, hi, zmb2, h⟩
 obtain ⟨m1, rfl⟩ : ∃ m, n1 = m + 1 := ⟨n1 - 1, by omega⟩
 refine gz h <| gq fun K4 hK4 => gr fun K5 hK5 => g0 (ap rfl) rfl <| g0 (ap rfl) rfl <| g0 (eQ uu81 rfl hlv.sl) rfl <| g0 (fQ rfl rfl) rfl <| gn hK5 ?_; clear h ac wo; intro ac wo h
 refine gA h rfl (fun hc1 => ?_) (fun hc1 => ?_)
 ·
  have hd1 := of_decide_eq_true hc1
  refine iE ?_
  refine hK4 _ _ ?_
  refine ly fun K6 hK6 => ?_
  refine mW ?_
  refine ly fun K7 hK7 => ?_
  have p4 := am ((ce (((gt l i).iv).lo) t 10 og ((All.gt zl (bB _)).1).1 zt) w0)
  refine d4 mixed [dv _, dv _, dv _, dv _, dv _, dv _, dw _ [1], dv _, dv _] [⟨_, []⟩, ⟨_, []⟩] h rfl (by kernel_rfl) ⟨fun _ _ => om rfl, fun _ _ => om rfl, fun _ _ => a7 (fh (i := i) uu81 zz199 rfl rfl (hlv.nn (i := i) og) og), fun _ _ => a7 (fs uu199 rfl zz86 rfl (hlv.nn (i := 0) og) rfl rfl (k' := i * 36 + 0)), fun _ _ => a7 (fs uu86 rfl zz71 rfl (hlv.nn (i := 0) og) rfl (by first | rfl | (simp only [Nat.add_assoc] <;> rfl)) (k' := i * 36 + 0)), fun _ _ => a7 (kA (k := 0) aa71 zz71 hlv (iX og) rfl rfl rfl rfl (v := (vR (((gt l i).iv).lo))) rfl), fun _ _ => fL _ rfl rfl (gp aa71 zz71 rfl rfl rfl (v := (vR t)) rfl), fun _ _ => fT (ef (dH Tryz.call127 rfl) (kk (ce (((gt l i).iv).lo) t 10 og ((All.gt zl (bB _)).1).1 zt))), fun _ _ => a7 (aw rfl), trivial⟩ ?_
  clear h ac wo; intro ξ ac wo hφ h
  replace h : St w0 68 [(0, lv), (3, (ptr b1 0)), (4, (ptr b2 0)), (6, (.int .i64 ((i : Nat) : Int))), (8, (.int .i64 (aq (((gt l i).iv).lo) t)))] [.blk b2 (cN mb2) 79, .blk b1 (cR t) 71] ac wo := (h.pick [0, 1] (by decide)).sub ⟨rfl, rfl, rfl, rfl, rfl, trivial⟩
  clear hφ ξ
  refine gz h <| gx hK7 <| gq fun K8 hK8 => gr fun K9 hK9 => g0 (ap rfl) rfl <| g0 (r_gtr rfl rfl) rfl <| gn hK9 ?_; clear h ac wo; intro ac wo h
  refine gA h rfl (fun hc2 => ?_) (fun hc2 => ?_)
  ·
   have hd2 := of_decide_eq_true hc2
   refine f9 ?_
   have hx1 := fe hL1 pt
   refine gz h <| gx hK3 <| gr fun K10 hK10 => ga (cN (⟨oQ, oQ, oQ, oQ⟩ : Ln)) vv79 rfl rfl fun b3 => gn hK10 <| gr fun K11 hK11 => g1 0 rfl (gp aa79 zz79 rfl rfl rfl (v := (vN (⟨oQ, oQ, oQ, oQ⟩ : Ln))) rfl) rfl <| gs 1 (cN (⟨oQ, oQ, oQ, oQ⟩ : Ln)) rfl zz79 rfl rfl rfl rfl rfl rfl rfl <| g0 (aw rfl) rfl <| gn hK11 <| gT ?_; clear h ac wo; intro ac wo h
   have hd : bO l t = ((⟨oQ, oQ, oQ, oQ⟩ : Ln), false) := pt
   exact ret h rfl (.cell (v := (vN (⟨oQ, oQ, oQ, oQ⟩ : Ln))) rfl (i := 1) rfl aa79 zz79 rfl rfl rfl (.tmp rfl .nil)) rfl (h.retP (by rw [hd] <;> rfl) (by rw [hd]; exact ⟨⟨(bn 0 (by decide) og), (bn 0 (by decide) og)⟩, ⟨(bn 0 (by decide) og), (bn 0 (by decide) og)⟩, ⟨(bn 0 (by decide) og), (bn 0 (by decide) og)⟩, ⟨(bn 0 (by decide) og), (bn 0 (by decide) og)⟩⟩))
  ·
   have hd2 := of_decide_eq_false hc2
   refine iE ?_
   refine hK8 _ _ ?_
   refine ly fun K12 hK12 => ?_
   refine d4 mixed [dv _, dv _, dv _, dv _, dv _, dv _, dv _, dv _, dv _, dv _, dv _, dv _, dv _, dv _, dv _, dv _, dv _, dv _, dw _ [1], dv _, dv _, dv _, dv _, dv _, dv _, dv _, dv _, dv _, dv _, dv _] [⟨_, []⟩, ⟨_, []⟩] h rfl (by kernel_rfl) ⟨fun _ _ => om rfl, fun _ _ => a7 (fQ rfl rfl), fun _ _ => om rfl, fun _ _ => og2 rfl rfl rfl rfl (fun hg => Rd.step (ap rfl)), fun _ _ => og2 rfl rfl rfl rfl (fun hg => Rd.step (ap rfl)), fun _ _ => og2 rfl rfl rfl rfl (fun hg => Rd.step (fh (i := i) uu81 zz199 (cH rfl hg) (cH rfl hg) (hlv.nn (i := i) og) og)), fun _ _ => og2 rfl rfl rfl rfl (fun hg => Rd.step (fs uu199 rfl zz86 rfl (hlv.nn (i := 0) og) (cH rfl hg) rfl (k' := i * 36 + 0))), fun _ _ => og2 rfl rfl rfl rfl (fun hg => Rd.step (fs uu86 rfl zz4 rfl (hlv.nn (i := 0) og) (cH rfl hg) (by first | rfl | (simp only [Nat.add_assoc] <;> rfl)) (k' := i * 36 + 18))), fun _ _ => og2 rfl rfl rfl rfl (fun hg => Rd.step (kA (k := 18) aa4 zz4 hlv (iX og) (cH rfl hg) rfl rfl rfl (v := (.bool (((gt l i).iv).openLo))) rfl)), fun _ _ => og2 rfl rfl rfl rfl (fun hg => Rd.step (r_not (cH rfl hg))), fun _ _ => a7 (r_or rfl (fun e => (cH rfl (notI e)))), fun _ _ => om rfl, fun _ _ => oh rfl rfl rfl rfl (fun hg => ap rfl), fun _ _ => oh rfl rfl rfl rfl (fun hg => ap rfl), fun _ _ => oh rfl rfl rfl rfl (fun hg => fh (i := i) uu81 zz199 (cH rfl hg) (cH rfl hg) (hlv.nn (i := i) og) og), fun _ _ => oh rfl rfl rfl rfl (fun hg => fs uu199 rfl zz86 rfl (hlv.nn (i := 0) og) (cH rfl hg) rfl (k' := i * 36 + 0)), fun _ _ => oh rfl rfl rfl rfl (fun hg => fs uu86 rfl zz71 rfl (hlv.nn (i := 0) og) (cH rfl hg) (by first | rfl | (simp only [Nat.add_assoc] <;> rfl)) (k' := i * 36 + 9)), fun _ _ => oh rfl rfl rfl rfl (fun hg => kA (k := 9) aa71 zz71 hlv (iX og) (cH rfl hg) rfl rfl rfl (v := (vR (((gt l i).iv).hi))) rfl), fun _ _ => oh rfl rfl rfl rfl (fun hg => gp aa71 zz71 rfl rfl rfl (v := (vR t)) rfl), fun _ _ => oh rfl rfl rfl rfl (fun hg => r_neqT eqp71 (cH rfl hg) (cH rfl hg)), fun _ _ => oh rfl rfl rfl rfl (fun hg => ap (cH rfl hg)), fun _ _ => og4 rfl rfl rfl rfl (fun hg => Rd.step (ap rfl)), fun _ _ => og4 rfl rfl rfl rfl (fun hg => Rd.step (ap rfl)), fun _ _ => og4 rfl rfl rfl rfl (fun hg => Rd.step (fh (i := i) uu81 zz199 (cH rfl hg) (cH rfl hg) (hlv.nn (i := i) og) og)), fun _ _ => og4 rfl rfl rfl rfl (fun hg => Rd.step (fs uu199 rfl zz86 rfl (hlv.nn (i := 0) og) (cH rfl hg) rfl (k' := i * 36 + 0))), fun _ _ => og4 rfl rfl rfl rfl (fun hg => Rd.step (fs uu86 rfl zz4 rfl (hlv.nn (i := 0) og) (cH rfl hg) (by first | rfl | (simp only [Nat.add_assoc] <;> rfl)) (k' := i * 36 + 19))), fun _ _ => og4 rfl rfl rfl rfl (fun hg => Rd.step (kA (k := 19) aa4 zz4 hlv (iX og) (cH rfl hg) rfl rfl rfl (v := (.bool (((gt l i).iv).openHi))) rfl)), fun _ _ => og4 rfl rfl rfl rfl (fun hg => Rd.step (r_not (cH rfl hg))), fun _ _ => oh rfl rfl rfl rfl (fun hg => r_or (cH rfl hg) (fun e => (cH rfl (andI hg (notI e))))), fun _ _ => a7 (r_and rfl (fun e => (cH rfl e))), trivial⟩ ?_
   clear h ac wo; intro ξ ac wo hφ h
   replace h : St w0 68 [(0, lv), (3, (ptr b1 0)), (4, (ptr b2 0)), (6, (.int .i64 ((i : Nat) : Int))), (61, (.bool (((decide ((aq (((gt l i).iv).lo) t) < 0)) || (!((gt l i).iv).openLo)) && ((!(decide (((gt l i).iv).hi = t))) || (!((gt l i).iv).openHi)))))] [.blk b2 (cN mb2) 79, .blk b1 (cR t) 71] ac wo := (h.pick [0, 1] (by decide)).sub ⟨rfl, rfl, rfl, rfl, rfl, trivial⟩
   clear hφ ξ
   refine hK12 _ _ ?_
   refine gA h rfl (fun hc3 => ?_) (fun hc3 => ?_)
   ·
    have hq3 := hc3; try simp at hq3
    refine gz h <| gr fun K13 hK13 => g0 (ap rfl) rfl <| g0 (ap rfl) rfl <| g0 (fh (i := i) uu81 zz199 rfl rfl (hlv.nn (i := i) og) og) rfl <| g0 (fs uu199 rfl zz79 rfl (hlv.nn (i := 0) og) rfl rfl (k' := i * 36 + 20)) rfl <| g0 (kA (k := 20) aa79 zz79 hlv (iX og) rfl rfl rfl rfl (v := (vN ((gt l i).f))) rfl) rfl <| gs 0 (cN ((gt l i).f)) rfl zz79 rfl rfl rfl rfl rfl rfl rfl <| g0 (aw rfl) rfl <| gn hK13 <| gT ?_; clear h ac wo; intro ac wo h
    have hr1 := mG hL1 pt
    have hd : bO l t = ((gt l i).f, true) := pt
    exact ret h rfl (.cell (v := (vN ((gt l i).f))) rfl (i := 0) rfl aa79 zz79 rfl rfl rfl (.tmp rfl .nil)) rfl (h.retP (by rw [hd] <;> rfl) (by rw [hd]; exact (All.gt zl (bB _)).2))
   ·
    have hq3 := hc3; try simp at hq3
    refine gz h <| gS <| gN <| gx hK6 <| gR <| g0 (ap rfl) rfl <| g0 (di rfl rfl (r := ((i + 1 : Nat) : Int)) (by rw [IntKind.wrap_i64]; omega)) rfl <| g0 (aw rfl) rfl <| gx (fun _ _ => dR) ?_; clear h ac wo; intro ac wo h
    have hg := dK hL1 pt
    exact aG ⟨m1, og, _, _, og, hg, og, zmb2, h.re [0, 1]⟩
 ·
  have hd1 := of_decide_eq_false hc1
  refine f9 ?_
  have hx1 := fe hL1 pt
  refine gz h <| gx hK3 <| gr fun K14 hK14 => ga (cN (⟨oQ, oQ, oQ, oQ⟩ : Ln)) vv79 rfl rfl fun b4 => gn hK14 <| gr fun K15 hK15 => g1 0 rfl (gp aa79 zz79 rfl rfl rfl (v := (vN (⟨oQ, oQ, oQ, oQ⟩ : Ln))) rfl) rfl <| gs 1 (cN (⟨oQ, oQ, oQ, oQ⟩ : Ln)) rfl zz79 rfl rfl rfl rfl rfl rfl rfl <| g0 (aw rfl) rfl <| gn hK15 <| gT ?_; clear h ac wo; intro ac wo h
  have hd : bO l t = ((⟨oQ, oQ, oQ, oQ⟩ : Ln), false) := pt
  exact ret h rfl (.cell (v := (vN (⟨oQ, oQ, oQ, oQ⟩ : Ln))) rfl (i := 1) rfl aa79 zz79 rfl rfl rfl (.tmp rfl .nil)) rfl (h.retP (by rw [hd] <;> rfl) (by rw [hd]; exact ⟨⟨(bn 0 (by decide) og), (bn 0 (by decide) og)⟩, ⟨(bn 0 (by decide) og), (bn 0 (by decide) og)⟩, ⟨(bn 0 (by decide) og), (bn 0 (by decide) og)⟩, ⟨(bn 0 (by decide) og), (bn 0 (by decide) og)⟩⟩))
attribute [irreducible] bO
end Go.Sx
namespace Go.Sx
open Go Go.RowKit Go.Proofs
set_option maxRecDepth 100000
set_option maxHeartbeats 40000000
attribute [local irreducible] Code.wp wpList Rd Step ObS Ent
attribute [local irreducible] aq aK ak au ay bA an
attribute [local irreducible] aD aL aj av aP ah aR cP gV
def pq (l : List (U Ln)) (t : GQ) : Pnt × Bool :=
 bif (bO l (an t)).2 then (⟨aD (lxs (bO l (an t)).1) t, aD (lys (bO l (an t)).1) t⟩, true) else (⟨oQ, oQ⟩, false)
theorem bld29z : Bu Tryz.prog 29 [] [] (vPt ⟨oQ, oQ⟩) := Bu.of bld29 rfl rfl
attribute [local instance] bld29z
theorem atRat_ct (l : List (U Ln)) (lv : Value) (t : GQ) (hl : l.length ≤ 1000) (zl : All (gk 30) l) (zt : SzQ 30 t) (w0 : World) (hlv : View w0 lv l) : Calls Tryz.prog 23 #[lv, vQ t] w0 (RetP w0 (.tuple #[vPt (pq l t).1, .bool (pq l t).2]) True) := by
 refine enter (N := 28) (args := [lv, vQ t]) Tryz.func23 rfl rfl ?_; intro ac h
 have c1 := cm t 30 og zt
 obtain ⟨f, hf⟩ : ∃ f, (bO l (an t)).1 = f := ⟨_, rfl⟩
 obtain ⟨ok, ho⟩ : ∃ b, (bO l (an t)).2 = b := ⟨_, rfl⟩
 have z : SzN 30 f := by rw [← hf]; exact am (gH l lv (an t) hl zl (am (c1 w0)) w0 hlv)
 have c2 := lxs_ct f 30 og z
 have c3 := lys_ct f 30 og z
 have c4 := eI (lxs f) t 20 og (am (c2 w0)) zt
 have c5 := eI (lys f) t 20 og (am (c3 w0)) zt
 have hat : pq l t = bif ok then (⟨aD (lxs f) t, aD (lys f) t⟩, true) else (⟨oQ, oQ⟩, false) := by unfold pq; rw [hf, ho]
 refine gz h <| (xb) fun b3 => (xa) fun b4 => (W) ?_; clear h ac; intro ac wo h
 replace h := h.emps 2
 refine d4 mixed [dv lv, ⟨.nd (.con True), [2]⟩, dw (vQ t) [1], dv (vR (an t)), dw (.tuple #[vN f, .bool ok]) [2], dv (.tuple #[vN f, .bool ok]), dv (vN f), dv (.bool ok), ⟨.nd (.one 8 fun x => ∃ b, x = ptr b 0), [3]⟩, dw undef [3], dv (.bool ok)]
  [⟨_, []⟩, ⟨_, []⟩, ⟨.emp, [(1, .one 1 fun x => .row (α := U Ln) 199 x l)]⟩, ⟨.emp, [(8, .one 8 fun x => .blk (bp x) (cN default) 79), (9, .one 8 fun x => .blk (bp x) (cN f) 79)]⟩] h rfl (by kernel_rfl)
  ⟨oA obA,
   fun ξ _ => kE (B := fun x => [.row (α := U Ln) 199 x l]) [.emp] rfl (fun v _ => by simp only [cc, bc] <;> rfl) (fun _ _ => trivial) (s_empR (s_row (dH Tryz.call100 rfl) (fun w_ hB_ hS_ => to_ct l lv hl w_ (hlv.below hB_)))),
   oA obA, oA fun _ => fT (fg Tryz.call88 rfl c1),
   fun ξ _ => jQ [.row (α := U Ln) 199 (ξ 1) l] [.row (α := U Ln) 199 (ξ 1) l] rfl rfl (ef (dH Tryz.call99 rfl) (fun w_ hB_ hS_ => by have := gH l (ξ 1) (an t) hl zl (am (c1 w0)) w_ (row_view hS_ 0 rfl); rw [hf, ho] at this; exact this)),
   oA obA, oA obA, oA obA, fun _ _ => lc 3 rfl (fun _ => rfl), fun ξ hφ => la (u := vN f) 3 (hφ 8 rfl) rfl rfl rfl rfl rfl rfl rfl, oA obA, trivial⟩ ?_
 clear h ac wo; intro ξ ac wo hφ h
 obtain ⟨b6, hb6⟩ : ∃ b, ξ 8 = ptr b 0 := hφ 8
 replace h : St w0 28 [(3, ptr b3 0), (4, ptr b4 0), (6, ξ 8), (7, .bool ok)] [.blk b4 (cPt default) 29, .blk b3 (cQ t) 27, .blk (bp (ξ 8)) (cN f) 79] ac wo := (h.pick [0, 1, 3] (by decide)).sub ⟨rfl, rfl, rfl, rfl, trivial⟩
 rw [hb6] at h
 clear hb6 hφ ξ
 refine gz h <| (ai) ?_ ?_ <;> clear h ac wo <;> intro ac wo h hc1
 ·
  have hk : ok = false := by simpa using hc1
  rw [hat, hk]
  refine gz h <| (W) ?_; clear h ac wo; intro ac wo h
  exact q6 0 h (h.retP (u := .tuple #[vPt ⟨oQ, oQ⟩, .bool false]) rfl trivial)
 ·
  have hk : ok = true := by simpa using hc1
  rw [hat, hk]
  refine gz h <| (dr1 (H := [⟨.blk b4 (cPt default) 29, [(9, .con (.blk b4 (cPt ⟨aD (lxs f) t, aD (lys f) t⟩) 29))]⟩, ⟨_, []⟩, ⟨_, []⟩]) (hob := (oK c2) <| (oK c4) <| (oK c3) <| (oK c5) <| oE)) <| (W) ?_; clear h ac wo; intro ac wo h
  exact q6 0 h (h.retP (u := .tuple #[vPt ⟨aD (lxs f) t, aD (lys f) t⟩, .bool true]) rfl trivial)
end Go.Sx
namespace Go.Sx
theorem scanL {T R : Type} {B : T → Nx T R} (st : Nat → T) {n : Nat} {brk hit : Nat → Bool} {r : Nat → R} {o : Nat → T}
    (h : ∀ i, i < n → B (st i) = bif brk i then .out (o i) else bif hit i then .ret (r i) else .go (st (i + 1))) (ho : B (st n) = .out (o n)) :
    ∀ k a, a ≤ n → n - a < k → ∃ b, a ≤ b ∧ b ≤ n ∧ (∀ j, a ≤ j → j < b → brk j = false ∧ hit j = false) ∧ ((b < n ∧ brk b = false ∧ hit b = true ∧ cG B k (st a) = .inr (r b)) ∨ ((b = n ∨ (b < n ∧ brk b = true)) ∧ cG B k (st a) = .inl (o b)))
  | k + 1, a, ha, hk => by
    by_cases e : a = n
    · subst e
      exact ⟨a, Nat.le_refl _, Nat.le_refl _, fun j h1 h2 => by omega, .inr ⟨.inl rfl, gJ k ho⟩⟩
    · have h1 := h a (by omega)
      cases hb : brk a with
      | true =>
        rw [hb, cond_true] at h1
        exact ⟨a, Nat.le_refl _, by omega, fun j h1 h2 => by omega, .inr ⟨.inr ⟨by omega, hb⟩, gJ k h1⟩⟩
      | false =>
        rw [hb, cond_false] at h1
        cases hh : hit a with
        | true =>
          rw [hh, cond_true] at h1
          exact ⟨a, Nat.le_refl _, by omega, fun j h1 h2 => by omega, .inl ⟨by omega, hb, hh, sn k h1⟩⟩
        | false =>
          rw [hh, cond_false] at h1
          obtain ⟨b, b1, b2, b3, b4⟩ := scanL st h ho k (a + 1) (by omega) (by omega)
          refine ⟨b, by omega, b2, fun j j1 j2 => ?_, ?_⟩
          · by_cases e2 : j = a
            · subst e2; exact ⟨hb, hh⟩
            · exact b3 j (by omega) j2
          · rw [iM k h1]; exact b4
theorem gtmL {β : Type} [Inhabited β] {l : List β} {i : Nat} (h : i < l.length) : gt l i ∈ l := by rw [fJ h]; exact List.getElem_mem _
theorem memL {β : Type} [Inhabited β] {l : List β} {x : β} (h : x ∈ l) : ∃ i, i < l.length ∧ gt l i = x := by
  obtain ⟨i, hi, e⟩ := List.getElem_of_mem h
  exact ⟨i, hi, by rw [fJ hi]; exact e⟩
section
variable [K : Key]
theorem mY {N : List (U Ln)} (hw : ∀ u ∈ N, Tv u.iv) {t : GR} (ht : Tm t) (hm : ∀ p q, p < q → q < N.length → tk (gt N p).iv.hi ≤ tk (gt N q).iv.hi) :
    ∀ k i j, j - i < k → i ≤ j → j ≤ N.length → (∀ p, p < i → tk (gt N p).iv.hi < tk t) → (∀ p, j ≤ p → p < N.length → tk t ≤ tk (gt N p).iv.hi) →
      ∃ m, m ≤ N.length ∧ cG (fun s => dQ N t s.1 s.2) k (i, j) = .inl (m, m) ∧ (∀ p, p < m → tk (gt N p).iv.hi < tk t) ∧ (∀ p, m ≤ p → p < N.length → tk t ≤ tk (gt N p).iv.hi)
  | k + 1, i, j, hk, hij, hj, h1, h2 => by
    by_cases e : i < j
    · have hlt : (i + j) / 2 < N.length := by omega
      have hc : df (gt N ((i + j) / 2)) t = sgn (tk (gt N ((i + j) / 2)).iv.hi) (tk t) := by
        unfold df; exact (hw _ (gtmL hlt)).2.cmp ht
      by_cases hlt2 : tk (gt N ((i + j) / 2)).iv.hi < tk t
      · have hB : dQ N t i j = .go (((i + j) / 2) + 1, j) := by
          unfold dQ
          rw [decide_eq_true (by omega : ((i : Nat) : Int) < ((j : Nat) : Int)), hc, io hlt2]; rfl
        rw [iM (B := fun s => dQ N t s.1 s.2) k hB]
        refine mY hw ht hm k _ _ (by omega) (by omega) hj (fun p hp => ?_) h2
        by_cases e2 : p = (i + j) / 2
        · rw [e2]; exact hlt2
        · have := hm p ((i + j) / 2) (by omega) hlt
          omega
      · have hB : dQ N t i j = .go (i, (i + j) / 2) := by
          unfold dQ
          rw [decide_eq_true (by omega : ((i : Nat) : Int) < ((j : Nat) : Int)), hc]
          have : decide (sgn (tk (gt N ((i + j) / 2)).iv.hi) (tk t) < 0) = false := by
            rcases Nat.lt_or_eq_of_le (Nat.le_of_not_lt hlt2) with h3 | h3
            · rw [iR h3]; rfl
            · rw [h3, fP]; rfl
          rw [this]; rfl
        rw [iM (B := fun s => dQ N t s.1 s.2) k hB]
        refine mY hw ht hm k _ _ (by omega) (by omega) (by omega) h1 (fun p hp hp2 => ?_)
        by_cases e2 : p = (i + j) / 2
        · rw [e2]; omega
        · have := hm ((i + j) / 2) p (by omega) hp2
          omega
    · have hB : dQ N t i j = .out (i, j) := by
        unfold dQ
        rw [decide_eq_false (by omega : ¬ ((i : Nat) : Int) < ((j : Nat) : Int))]; rfl
      have e3 : i = j := by omega
      subst e3
      exact ⟨i, hj, gJ k hB, h1, h2⟩
theorem ordL {N : List (U Ln)} (ho : N.Pairwise fun a b => dM a.iv < (dV b.iv : Int)) {p q : Nat} (h : p < q) (hq : q < N.length) : dM (gt N p).iv < (dV (gt N q).iv : Int) := by
  have := List.pairwise_iff_getElem.1 ho p q (by omega) hq h
  rw [fJ (by omega), fJ hq]; exact this
theorem AtL_spec {N : List (U Ln)} (hw : ∀ u ∈ N, Wv u.iv) (ho : N.Pairwise fun a b => dM a.iv < (dV b.iv : Int)) {t : GR} (ht : Tm t) :
    (∃ u ∈ N, inU u.iv (2 * tk t) ∧ bO N t = (u.f, true)) ∨ ((∀ u ∈ N, ¬ inU u.iv (2 * tk t)) ∧ (bO N t).2 = false) := by
  have par : ∀ i : Iv, (dV i = 2 * tk i.lo ∧ i.openLo = false ∨ dV i = 2 * tk i.lo + 1 ∧ i.openLo = true) ∧ (dM i = 2 * (tk i.hi : Int) ∧ i.openHi = false ∨ dM i = 2 * (tk i.hi : Int) - 1 ∧ i.openHi = true) := fun i => by
    rcases fq i with ⟨a1, a2⟩ | ⟨a1, a2⟩ <;> rcases i3 i with ⟨b1, b2⟩ | ⟨b1, b2⟩ <;> simp [a1, a2, b1, b2]
  have hm : ∀ p q, p < q → q < N.length → tk (gt N p).iv.hi ≤ tk (gt N q).iv.hi := fun p q h hq => by
    have h1 := ordL ho h hq
    have h2 := (hw _ (gtmL hq)).le
    have := par (gt N p).iv
    have := par (gt N q).iv
    omega
  have hm2 : ∀ p q, p < q → q < N.length → tk (gt N p).iv.lo ≤ tk (gt N q).iv.lo := fun p q h hq => by
    have h1 := ordL ho h hq
    have h2 := (hw _ (gtmL (by omega : p < N.length))).le
    have := par (gt N p).iv
    have := par (gt N q).iv
    omega
  obtain ⟨m, hmn, hl, i1, i2⟩ := mY (fun u hu => (hw u hu).1) ht hm (N.length - 0 + 1) 0 N.length (by omega) (Nat.zero_le _) (Nat.le_refl _) (fun p hp => by omega) (fun p h1 h2 => by omega)
  have hbs : (eW N t).1 = (m : Int) := by
    unfold eW
    rw [pi hl]; rfl
  unfold bO
  rw [hbs, Int.toNat_natCast]
  generalize (⟨(⟨(⟨false, 0⟩ : GI), (⟨false, 0⟩ : GI)⟩ : GQ), (⟨(⟨false, 0⟩ : GI), (⟨false, 0⟩ : GI)⟩ : GQ), (⟨(⟨false, 0⟩ : GI), (⟨false, 0⟩ : GI)⟩ : GQ), (⟨(⟨false, 0⟩ : GI), (⟨false, 0⟩ : GI)⟩ : GQ)⟩ : Ln) = z
  obtain ⟨b, b1, b2, b3, b4⟩ := scanL (B := fun s => cK N t s.1 s.2) (fun i => (i, z)) (n := N.length) (brk := fun i => decide ((aq (((gt N i).iv).lo) t) > 0))
    (hit := fun i => ((decide ((aq (((gt N i).iv).lo) t) < 0)) || (!((gt N i).iv).openLo)) && ((!(decide (((gt N i).iv).hi = t))) || (!((gt N i).iv).openHi))) (r := fun i => ((gt N i).f, true)) (o := fun i => (i, z))
    (fun i hi => by
      show cK N t i z = _
      unfold cK
      rw [decide_eq_true (by omega : ((i : Nat) : Int) < ((N.length : Nat) : Int))]; rfl)
    (by
      show cK N t N.length z = _
      unfold cK
      rw [decide_eq_false (by omega : ¬ ((N.length : Nat) : Int) < ((N.length : Nat) : Int))]; rfl) (N.length - m + 1) m hmn (by omega)
  have hk : ∀ i, i < N.length → m ≤ i → decide ((aq (((gt N i).iv).lo) t) > 0) = false →
      ((((decide ((aq (((gt N i).iv).lo) t) < 0)) || (!((gt N i).iv).openLo)) && ((!(decide (((gt N i).iv).hi = t))) || (!((gt N i).iv).openHi))) = true ↔ inU (gt N i).iv (2 * tk t)) := fun i hi hmi hb => by
    have hv := (hw _ (gtmL hi)).1
    rw [hv.1.cmp ht] at hb ⊢
    have h2 := i2 i hmi hi
    have hp := par (gt N i).iv
    have he : decide ((gt N i).iv.hi = t) = decide (tk (gt N i).iv.hi = tk t) := decide_eq_decide.2 (hv.2.inj ht).symm
    rw [he]
    unfold inU
    rcases Nat.lt_trichotomy (tk (gt N i).iv.lo) (tk t) with h1 | h1 | h1
    · rw [io h1]
      rcases hp with ⟨hp1 | hp1, hp2 | hp2⟩ <;> simp [hp1.1, hp1.2, hp2.1, hp2.2] <;> omega
    · rw [h1, fP]
      rcases hp with ⟨hp1 | hp1, hp2 | hp2⟩ <;> simp [hp1.1, hp1.2, hp2.1, hp2.2] <;> omega
    · rw [iR h1] at hb; cases hb
  rcases b4 with ⟨c1, c2, c3, c4⟩ | ⟨c1, c2⟩
  · exact .inl ⟨gt N b, gtmL c1, (hk b c1 b1 c2).1 c3, fin_r c4⟩
  · right
    refine ⟨fun u hu hi => ?_, by rw [pi c2]; rfl⟩
    obtain ⟨i, hi2, rfl⟩ := memL hu
    have hp := par (gt N i).iv
    have hi1 := hi.1
    have hi3 := hi.2
    by_cases e1 : i < m
    · have := i1 i e1
      omega
    · by_cases e2 : i < b
      · obtain ⟨d1, d2⟩ := b3 i (by omega) e2
        rw [(hk i hi2 (by omega) d1).2 hi] at d2; cases d2
      · rcases c1 with c1 | ⟨c1, c3⟩
        · omega
        · have hv := (hw _ (gtmL c1)).1
          rw [hv.1.cmp ht] at c3
          have h3 : tk t < tk (gt N b).iv.lo := by
            rcases Nat.lt_trichotomy (tk (gt N b).iv.lo) (tk t) with h1 | h1 | h1
            · rw [io h1] at c3; cases c3
            · rw [h1, fP] at c3; cases c3
            · exact h1
          by_cases e3 : i = b
          · subst e3; omega
          · have := hm2 b i (by omega) hi2
            omega
end
end Go.Sx
namespace Go.Sx
theorem kq0 : (default : GR) = an (ak 0) := by
  have e : ar 0 = ⟨false, 0⟩ := pU (gU 0) (fun _ => rfl) (by rw [eZ]; rfl)
  have h : ak 0 = ⟨⟨false, 0⟩, ⟨false, 0⟩⟩ := by unfold ak; rw [e]
  rw [h]
  unfold an
  rfl
def kqL (qs : List GQ) : List GR := default :: qs.map an
theorem kqL_mem {qs : List GQ} {x : GR} (h : x ∈ kqL qs) : x = an (ak 0) ∨ ∃ q ∈ qs, x = an q := by
  unfold kqL at h
  rcases List.mem_cons.1 h with h | h
  · exact .inl (h.trans kq0)
  · obtain ⟨q, hq, rfl⟩ := List.mem_map.1 h; exact .inr ⟨q, hq, rfl⟩
theorem kq_is {qs : List GQ} (hb : ∀ q ∈ qs, Bq 200 q) {x : GR} (h : x ∈ kqL qs) : ∃ q, Bq 200 q ∧ x = an q := by
  rcases kqL_mem h with rfl | ⟨q, hq, rfl⟩
  · exact ⟨_, Bq.int 0 (by decide) (by decide), rfl⟩
  · exact ⟨q, hb q hq, rfl⟩
abbrev keyQ (qs : List GQ) (hb : ∀ q ∈ qs, Bq 200 q) (hn : qs.length < 1000) : Key where
  l := kqL qs
  ok := fun x h => by obtain ⟨q, k, rfl⟩ := kq_is hb h; exact fr_ok k.1
  sz := by unfold kqL; simp; omega
  z := by unfold kqL; simp
  rt := fun x h => by obtain ⟨q, k, rfl⟩ := kq_is hb h; unfold RtR; rw [(p7 _).2.1]; exact ⟨by decide, rfl⟩
  szr := fun x h => by
    obtain ⟨q, k, rfl⟩ := kq_is hb h
    exact ⟨by rw [(p7 q).1]; exact bM (k.sz (by decide)) (by decide), by rw [(p7 q).2.1]; exact bM ((Bq.zero (m := 1) (by decide)).sz (by decide)) (by decide)⟩
theorem tm_kq {qs : List GQ} {hb : ∀ q ∈ qs, Bq 200 q} {hn : qs.length < 1000} {x : GR} : @Tm (keyQ qs hb hn) x ↔ x ∈ kqL qs := by
  letI := keyQ qs hb hn
  rw [← Tm.iff, decide_eq_true_iff]; rfl
class KeyR [K : Key] : Prop where
  r : ∀ t : GR, Tm t → ∃ q, Bq 200 q ∧ t = an q
theorem kqR (qs : List GQ) (hb : ∀ q ∈ qs, Bq 200 q) (hn : qs.length < 1000) : @KeyR (keyQ qs hb hn) := @KeyR.mk (keyQ qs hb hn) fun t ht => kq_is hb (tm_kq.1 ht)
theorem tm_kq' {qs : List GQ} {hb : ∀ q ∈ qs, Bq 200 q} {hn : qs.length < 1000} {q : GQ} (h : q ∈ qs) : @Tm (keyQ qs hb hn) (an q) := tm_kq.2 (List.mem_cons_of_mem _ (List.mem_map_of_mem h))
theorem Bq.div {m n : Nat} {a b q : GQ} (ha : Bq m a) (hb : Bq n b) (hq : QOk q) (h0 : aX b ≠ 0) (e : aX q = aX a / aX b) : Bq (m + n) q := by
  obtain ⟨oa, x, y, y0, y1, x1, f⟩ := ha
  obtain ⟨ob, z, w, w0, w1, z1, g⟩ := hb
  have hz : z ≠ 0 := fun h => h0 (by rw [g, h]; have := f8 w0; push_cast; grind)
  have hN := Nat.pow_pos (n := n) (show 0 < 2 by decide)
  have hza : 0 < z.natAbs := Int.natAbs_pos.2 hz
  refine ⟨hq, x * w * z.sign, y * z.natAbs, Nat.mul_pos y0 hza, ?_, ?_, ?_⟩
  · rw [pw]; exact Nat.mul_lt_mul_of_lt_of_le y1 (Nat.le_of_lt z1) hN
  · rw [pw, Int.natAbs_mul, Int.natAbs_mul, Int.natAbs_sign_of_ne_zero hz, Nat.mul_one]
    exact Nat.mul_lt_mul_of_lt_of_le x1 (Nat.le_of_lt w1) hN
  · rw [e, f, g]
    have h1 := f8 y0
    have h2 := f8 w0
    have h3 : (z : Rat) ≠ 0 := fun h => hz (by exact_mod_cast h)
    have h4 := f8 hza
    have h5 : ((z.natAbs : Nat) : Rat) = (z.sign : Rat) * (z : Rat) := by
      have : ((z.natAbs : Nat) : Int) = z.sign * z := by
        rcases Int.lt_or_gt_of_ne hz with h | h
        · rw [Int.sign_eq_neg_one_of_neg h]; omega
        · rw [Int.sign_eq_one_of_pos h]; omega
      have h6 : (((z.natAbs : Nat) : Int) : Rat) = ((z.sign * z : Int) : Rat) := by rw [this]
      push_cast at h6 ⊢
      exact h6
    have h7 : (z.sign : Rat) * (z.sign : Rat) = 1 := by
      rcases Int.lt_or_gt_of_ne hz with h | h
      · rw [Int.sign_eq_neg_one_of_neg h]; decide +kernel
      · rw [Int.sign_eq_one_of_pos h]; decide +kernel
    push_cast
    rw [h5] at h4 ⊢
    grind
def SOk (a : Smp) : Prop := Bq 64 a.t ∧ Bq 64 a.p.x ∧ Bq 64 a.p.y
theorem SOk.q {a : Smp} (h : SOk a) : QOk a.t ∧ QOk a.p.x ∧ QOk a.p.y := ⟨h.1.1, h.2.1.1, h.2.2.1⟩
theorem thr_sl {v w t u s c : GQ} (hv : Bq 64 v) (hw : Bq 64 w) (ht : Bq 64 t) (hu : Bq 64 u) (hs : QOk s) (hc : QOk c) (h : aX t ≠ aX u)
    (e : aX s = (aX w - aX v) / (aX u - aX t)) (f : aX c = aX v - (aX w - aX v) / (aX u - aX t) * aX t) : Bq 258 s ∧ Bq 390 c := by
  have h1 : Bq 258 s := Bq.div (hw.sub hv) (hu.sub ht) hs (by rw [(eN hu.1 ht.1).2]; grind) (by rw [e, (eN hw.1 hv.1).2, (eN hu.1 ht.1).2])
  refine ⟨h1, ?_⟩
  have k := (hv.sub (h1.mul ht)).le (show 64 + (258 + 64) + 1 ≤ 390 by decide)
  have : c = ah v (aj s t) := dF hc k.1 (by rw [f, (eN hv.1 (eC hs ht.1).1).2, (eC hs ht.1).2, e])
  rw [this]; exact k
theorem thr_bl {a b : Smp} (ha : SOk a) (hb : SOk b) (h : aX a.t ≠ aX b.t) : BL 390 (cP a b) := by
  obtain ⟨⟨o1, o2, o3, o4⟩, e1, e2, e3, e4⟩ := lE ha.q hb.q h
  obtain ⟨s1, c1⟩ := thr_sl ha.2.1 hb.2.1 ha.1 hb.1 o2 o1 h e1 e2
  obtain ⟨s2, c2⟩ := thr_sl ha.2.2 hb.2.2 ha.1 hb.1 o4 o3 h e3 e4
  exact ⟨c1, s1.le (by decide), c2, s2.le (by decide)⟩
abbrev DSm (f : Ln) : Prop := DL 390 1000 f
theorem le_pwm {n m k : Nat} (h : n < 2 ^ m) (hk : m ≤ 8 * k) : (le n).length ≤ k := by
  refine (bI k n).2 (Nat.lt_of_lt_of_le h ?_)
  rw [show (256 : Nat) = 2 ^ 8 from rfl, ← Nat.pow_mul]
  exact Nat.pow_le_pow_right (by decide) hk
theorem Bq.szk {m : Nat} {q : GQ} (h : Bq m q) (k : Nat) (hk : m ≤ 8 * k) {j : Nat} (hj : k * 2 ^ j ≤ 70368744177664) : SzQ j q :=
  ⟨Nat.le_trans (Nat.mul_le_mul_right _ (le_pwm h.mag.1 hk)) hj, Nat.le_trans (Nat.mul_le_mul_right _ (le_pwm h.mag.2 hk)) hj⟩
theorem DSm.sz {f : Ln} (h : DSm f) : SzN 30 f := by
  obtain ⟨a, b, c, d⟩ := h.bl (by decide)
  exact ⟨a.szk 125 (by decide) (by decide), b.szk 125 (by decide) (by decide), c.szk 125 (by decide) (by decide), d.szk 125 (by decide) (by decide)⟩
def ptQ (n : Nat) : GQ := (bF (ar (n : Int)) (ar 8)).1
theorem pM (n : Nat) : QOk (ptQ n) ∧ aX (ptQ n) = ((n : Int) : Rat) / 8 := by
  have := si (n := ar (n : Int)) (d := ar 8) (gU _) (by rw [eZ]; decide)
  rw [eZ, eZ] at this
  exact this
theorem ptQ_bq {n : Nat} (h : n < 16) : Bq 4 (ptQ n) := Bq.of (pM n).1 n 8 (by decide) (by decide) (by omega) (pM n).2
theorem ptQ_ge (n : Nat) : 0 ≤ aX (ptQ n) := by
  rw [(pM n).2]
  have : (0 : Rat) ≤ ((n : Int) : Rat) := by exact_mod_cast Int.natCast_nonneg n
  grind
theorem ptQ_le {n : Nat} (h : n ≤ 8) : aX (ptQ n) ≤ 1 := by
  rw [(pM n).2]
  have : ((n : Int) : Rat) ≤ 8 := by have : (n : Int) ≤ 8 := by omega
                                     exact_mod_cast this
  grind
def tdv (a b : Smp) (r : GQ) : GQ := av a.t (aj r (ah b.t a.t))
theorem tdv_bq {a b : Smp} {r : GQ} (ha : Bq 64 a.t) (hb : Bq 64 b.t) (hr : Bq 4 r) : Bq 200 (tdv a b r) := (ha.add (hr.mul (hb.sub ha))).le (by decide)
theorem rk {a b : Smp} {r : GQ} (ha : QOk a.t) (hb : QOk b.t) (hr : QOk r) : aX (tdv a b r) = aX a.t + aX r * (aX b.t - aX a.t) := by
  unfold tdv
  rw [(gc ha (eC hr (eN hb ha).1).1).2, (eC hr (eN hb ha).1).2, (eN hb ha).2]
theorem kC {a b : Pnt} {r : GQ} (ha : QOk a.x ∧ QOk a.y) (hb : QOk b.x ∧ QOk b.y) (hr : QOk r) :
    (QOk (d9 a b r).x ∧ QOk (d9 a b r).y) ∧ aX (d9 a b r).x = aX a.x + (aX b.x - aX a.x) * aX r ∧ aX (d9 a b r).y = aX a.y + (aX b.y - aX a.y) * aX r := by
  unfold d9 qC i0 nr
  dsimp only
  obtain ⟨x1, x2⟩ := eN hb.1 ha.1
  obtain ⟨x3, x4⟩ := eC x1 hr
  obtain ⟨x5, x6⟩ := gc ha.1 x3
  obtain ⟨y1, y2⟩ := eN hb.2 ha.2
  obtain ⟨y3, y4⟩ := eC y1 hr
  obtain ⟨y5, y6⟩ := gc ha.2 y3
  exact ⟨⟨x5, y5⟩, by rw [x6, x4, x2], by rw [y6, y4, y2]⟩
theorem thr_lv {a b : Smp} (ha : SOk a) (hb : SOk b) (h : aX a.t ≠ aX b.t) (q : GQ) :
    lvN (an q) (cP a b) = ((aX a.p.x + (aX q - aX a.t) * ((aX b.p.x - aX a.p.x) / (aX b.t - aX a.t)), 0), (aX a.p.y + (aX q - aX a.t) * ((aX b.p.y - aX a.p.y) / (aX b.t - aX a.t)), 0)) := by
  obtain ⟨o, e1, e2, e3, e4⟩ := lE ha.q hb.q h
  obtain ⟨x, xa, xb, xc⟩ := o.X
  obtain ⟨y, ya, yb, yc⟩ := o.Y
  unfold lvN lv
  rw [if_pos (p7 q).2.1, if_pos (p7 q).2.1, (p7 q).1, xa, xb, xc, ya, yb, yc, e1, e2, e3, e4, gm.2]
  exact Prod.ext (Prod.ext (by dsimp only; grind) rfl) (Prod.ext (by dsimp only; grind) rfl)
section
variable [K : Key] [KR : KeyR]
theorem dkS : Dk DSm where
  ru := lines_ru (m := 390) (M := 1000) (n := 200) (fun t ht => by obtain ⟨q, k, rfl⟩ := KR.r t ht; rw [(p7 q).1]; exact k) (by decide) (by decide)
  ok := fun f h => h.ok
structure Ups (l : List Smp) : Prop where
  ok : ∀ i, i < l.length → SOk (gt l i)
  tm : ∀ i, i < l.length → Tm (an (gt l i).t)
  up : ∀ i, i + 1 < l.length → aX (gt l i).t < aX (gt l (i + 1)).t
variable {l : List Smp}
omit KR in
theorem Ups.lt (h : Ups l) : ∀ {i j : Nat}, i < j → j < l.length → aX (gt l i).t < aX (gt l j).t
  | i, j + 1, hij, hj => by
    have h1 := h.up j hj
    by_cases e : i = j
    · rw [e]; exact h1
    · have := Ups.lt h (show i < j by omega) (by omega)
      grind
omit K KR in
theorem rsg_neg {r : Rat} (h : r < 0) : rsg r = -1 := by unfold rsg; rw [if_pos h]
omit KR in
theorem tk_q {p q : GQ} (hp : QOk p) (hq : QOk q) (tp : Tm (an p)) (tq : Tm (an q)) (h : aX p < aX q) : tk (an p) < tk (an q) :=
  oC tp tq (by rw [fr_cmp hp hq, rsg_neg (by grind)])
omit KR in
theorem tk_q' {p q : GQ} (hp : QOk p) (hq : QOk q) (tp : Tm (an p)) (tq : Tm (an q)) (h : tk (an p) < tk (an q)) : aX p < aX q := by
  refine Classical.byContradiction fun e => ?_
  by_cases e2 : aX p = aX q
  · rw [dF hp hq e2] at h; omega
  · have := tk_q hq hp tq tp (by grind); omega
omit KR in
theorem Ups.tk (h : Ups l) {i j : Nat} (hij : i < j) (hj : j < l.length) : Go.Sx.tk (an (gt l i).t) < Go.Sx.tk (an (gt l j).t) :=
  tk_q (h.ok i (by omega)).1.1 (h.ok j hj).1.1 (h.tm i (by omega)) (h.tm j hj) (h.lt hij hj)
omit KR in
theorem Ups.tkle (h : Ups l) {i j : Nat} (hij : i ≤ j) (hj : j < l.length) : Go.Sx.tk (an (gt l i).t) ≤ Go.Sx.tk (an (gt l j).t) := by
  by_cases e : i = j
  · rw [e]; exact Nat.le_refl _
  · exact Nat.le_of_lt (h.tk (by omega) hj)
omit K KR in
theorem pe {n : Nat} {u : U Ln} (h : u ∈ frP l n) : ∃ i, i < n ∧ u = frF l i := by
  unfold frP at h
  obtain ⟨i, hi, rfl⟩ := List.mem_map.1 h
  exact ⟨i, List.mem_range.1 hi, rfl⟩
omit KR in
theorem Ups.wv (h : Ups l) {i : Nat} (hi : i + 1 < l.length) : Wv (frF l i).iv ∧ DSm (frF l i).f := by
  have h1 := h.tk (Nat.lt_succ_self i) hi
  refine ⟨⟨⟨h.tm i (by omega), h.tm (i + 1) hi⟩, Nat.le_of_lt h1, fun e => absurd e (Nat.ne_of_lt h1)⟩, .inl (thr_bl (h.ok i (by omega)) (h.ok (i + 1) hi) (by have := h.up i hi; grind))⟩
omit KR in
theorem Ups.dj (h : Ups l) : (frP l (l.length - 1)).Pairwise fun a b => Dj a.iv b.iv := by
  unfold frP
  refine List.pairwise_map.2 ((List.pairwise_lt_range (n := l.length - 1)).imp_of_mem fun {i j} hi hj hij => .inl ?_)
  have hj := List.mem_range.1 hj
  have h1 := h.tkle (show i + 1 ≤ j by omega) (by omega)
  unfold dM dV frF
  simp only [cond_false, decide_eq_true (show 0 < j by omega), cond_true]
  omega
theorem Ups.normal (h : Ups l) : ∃ N, aQ (frP l (l.length - 1)) = (N, 0) ∧ NFL DSm (frP l (l.length - 1)) N :=
  dkS.normal (fun x hx => by obtain ⟨i, hi, rfl⟩ := pe hx; exact h.wv (i := i) (by omega)) h.dj
theorem Ups.one (h : Ups l) (h1 : l.length = 1) : aQ [frO l] = ([frO l], 0) := by
  have t0 := h.tm 0 (by omega)
  have o0 := h.ok 0 (by omega)
  have hd : DSm (frO l).f := .inl ⟨o0.2.1.le (by decide), Bq.zero (by decide), o0.2.2.le (by decide), Bq.zero (by decide)⟩
  refine dkS.self ⟨fun x hx => ?_, List.pairwise_singleton _ _, fun i hi => ?_, fun x hx _ => ?_⟩ fun v hv => ?_
  · rw [List.mem_singleton.1 hx]; exact ⟨⟨t0, t0⟩, Nat.le_refl _, fun _ => ⟨rfl, rfl⟩⟩
  · have : i + 1 < 1 := hi; omega
  · rw [List.mem_singleton.1 hx]; exact iz hd.ok t0.ok.tok rfl rfl
  · rw [List.mem_singleton.1 hv]; exact hd
omit KR in
theorem Ups.val (h : Ups l) {i j : Nat} (hi : i + 1 < l.length) (hj : j + 1 < l.length) {r : GQ} (hr : QOk r) (r0 : 0 ≤ aX r) (r1 : aX r ≤ 1) (ht : Tm (an (tdv (gt l i) (gt l (i + 1)) r)))
    (hin : inU (frF l j).iv (2 * Go.Sx.tk (an (tdv (gt l i) (gt l (i + 1)) r)))) :
    lvN (an (tdv (gt l i) (gt l (i + 1)) r)) (frF l j).f = ((aX (d9 (gt l i).p (gt l (i + 1)).p r).x, 0), (aX (d9 (gt l i).p (gt l (i + 1)).p r).y, 0)) := by
  have a := h.ok i (by omega)
  have b := h.ok (i + 1) hi
  have c := h.ok j (by omega)
  have d := h.ok (j + 1) hj
  have hu := h.up i hi
  have hv := h.up j hj
  have et := rk (r := r) a.q.1 b.q.1 hr
  have qt : QOk (tdv (gt l i) (gt l (i + 1)) r) := (gc a.1.1 (eC hr (eN b.1.1 a.1.1).1).1).1
  obtain ⟨_, p1, p2⟩ := kC (r := r) ⟨a.2.1.1, a.2.2.1⟩ ⟨b.2.1.1, b.2.2.1⟩ hr
  generalize tdv (gt l i) (gt l (i + 1)) r = t at *
  have g1 : aX (gt l i).t ≤ aX t := by rw [et]; have := Rat.mul_nonneg r0 (show 0 ≤ aX (gt l (i + 1)).t - aX (gt l i).t by grind); grind
  have g2 : aX t ≤ aX (gt l (i + 1)).t := by
    rw [et]
    have := Rat.mul_nonneg (show 0 ≤ 1 - aX r by grind) (show 0 ≤ aX (gt l (i + 1)).t - aX (gt l i).t by grind)
    grind
  have g3 : aX (gt l j).t ≤ aX t ∧ (0 < j → aX (gt l j).t < aX t) := by
    have e1 : dV (frF l j).iv ≤ 2 * Go.Sx.tk (an t) := hin.1
    have key : ¬ aX t < aX (gt l j).t := fun e => by
      have := tk_q qt c.1.1 ht (h.tm j (by omega)) e
      have : 2 * Go.Sx.tk (an (gt l j).t) ≤ dV (frF l j).iv := by unfold dV frF; simp only; omega
      omega
    refine ⟨by grind, fun hj0 => ?_⟩
    have : dV (frF l j).iv = 2 * Go.Sx.tk (an (gt l j).t) + 1 := by unfold dV frF; simp only [decide_eq_true hj0, cond_true]
    exact tk_q' c.1.1 qt (h.tm j (by omega)) ht (by omega)
  have g4 : aX t ≤ aX (gt l (j + 1)).t := by
    have e1 : ((2 * Go.Sx.tk (an t) : Nat) : Int) ≤ dM (frF l j).iv := hin.2
    have : dM (frF l j).iv = 2 * (Go.Sx.tk (an (gt l (j + 1)).t) : Int) := by unfold dM frF; simp only [cond_false]; omega
    have key : ¬ aX (gt l (j + 1)).t < aX t := fun e => by
      have := tk_q d.1.1 qt (h.tm (j + 1) hj) ht e
      omega
    grind
  show lvN (an t) (cP (gt l j) (gt l (j + 1))) = _
  rw [thr_lv c d (by grind), p1, p2]
  by_cases e : j = i
  · subst e
    have hz : aX (gt l (j + 1)).t - aX (gt l j).t ≠ 0 := by grind
    have k : ∀ v w : Rat, (aX t - aX (gt l j).t) * ((w - v) / (aX (gt l (j + 1)).t - aX (gt l j).t)) = (w - v) * aX r := fun v w => by rw [et]; grind
    rw [k, k]
  · have e2 : j + 1 = i := by
      rcases Nat.lt_trichotomy j i with h1 | h1 | h1
      · by_cases e3 : j + 1 = i
        · exact e3
        · exfalso; have := h.lt (show j + 1 < i by omega) (by omega); grind
      · exact absurd h1 e
      · exfalso
        have h2 := g3.2 (by omega)
        by_cases e3 : j = i + 1
        · subst e3; grind
        · have := h.lt (show i + 1 < j by omega) (by omega); grind
    subst e2
    have e5 : aX t = aX (gt l (j + 1)).t := by grind
    have hz : aX (gt l (j + 1)).t - aX (gt l j).t ≠ 0 := by grind
    have hz2 : aX (gt l (j + 1 + 1)).t - aX (gt l (j + 1)).t ≠ 0 := by grind
    have er : aX r = 0 := by
      have : aX r * (aX (gt l (j + 1 + 1)).t - aX (gt l (j + 1)).t) = 0 := by grind
      rcases Rat.mul_eq_zero.1 this with h1 | h1
      · exact h1
      · exact absurd h1 hz2
    have k : ∀ v w : Rat, (aX t - aX (gt l j).t) * ((w - v) / (aX (gt l (j + 1)).t - aX (gt l j).t)) = w - v := fun v w => by rw [e5]; grind
    rw [k, k, er]
    exact Prod.ext (Prod.ext (by dsimp only; grind) rfl) (Prod.ext (by dsimp only; grind) rfl)
omit KR in
theorem Ups.cov (h : Ups l) {i : Nat} (hi : i + 1 < l.length) {r : GQ} (hr : QOk r) (r0 : 0 ≤ aX r) (r1 : aX r ≤ 1) (ht : Tm (an (tdv (gt l i) (gt l (i + 1)) r))) :
    ∃ w ∈ frP l (l.length - 1), inU w.iv (2 * Go.Sx.tk (an (tdv (gt l i) (gt l (i + 1)) r))) := by
  have a := h.ok i (by omega)
  have b := h.ok (i + 1) hi
  have hu := h.up i hi
  have et := rk (r := r) a.q.1 b.q.1 hr
  have qt : QOk (tdv (gt l i) (gt l (i + 1)) r) := (gc a.1.1 (eC hr (eN b.1.1 a.1.1).1).1).1
  generalize tdv (gt l i) (gt l (i + 1)) r = t at *
  have g1 : aX (gt l i).t ≤ aX t := by rw [et]; have := Rat.mul_nonneg r0 (show 0 ≤ aX (gt l (i + 1)).t - aX (gt l i).t by grind); grind
  have g2 : aX t ≤ aX (gt l (i + 1)).t := by
    rw [et]
    have := Rat.mul_nonneg (show 0 ≤ 1 - aX r by grind) (show 0 ≤ aX (gt l (i + 1)).t - aX (gt l i).t by grind)
    grind
  have le : ∀ {p q : GQ}, QOk p → QOk q → Tm (an p) → Tm (an q) → aX p ≤ aX q → Go.Sx.tk (an p) ≤ Go.Sx.tk (an q) := fun {p q} hp hq tp tq hle => by
    refine Nat.le_of_not_lt fun e => ?_
    have := tk_q' hq hp tq tp e
    grind
  have m1 := le a.1.1 qt (h.tm i (by omega)) ht g1
  have m2 := le qt b.1.1 ht (h.tm (i + 1) hi) g2
  have mem : ∀ j, j + 1 < l.length → frF l j ∈ frP l (l.length - 1) := fun j hj => by unfold frP; exact List.mem_map_of_mem (List.mem_range.2 (by omega))
  by_cases e : Go.Sx.tk (an (gt l i).t) = Go.Sx.tk (an t) ∧ 0 < i
  · obtain ⟨j, rfl⟩ : ∃ j, i = j + 1 := ⟨i - 1, by omega⟩
    refine ⟨frF l j, mem j (by omega), ?_, ?_⟩
    · have := h.tk (show j < j + 1 by omega) (by omega)
      have h2 : dV (frF l j).iv ≤ 2 * Go.Sx.tk (an (gt l j).t) + 1 := by unfold dV frF; cases decide (0 < j) <;> simp
      omega
    · have : dM (frF l j).iv = 2 * (Go.Sx.tk (an (gt l (j + 1)).t) : Int) := by unfold dM frF; simp only [cond_false]; omega
      omega
  · refine ⟨frF l i, mem i hi, ?_, ?_⟩
    · by_cases h0 : 0 < i
      · have h2 : dV (frF l i).iv = 2 * Go.Sx.tk (an (gt l i).t) + 1 := by unfold dV frF; simp only [decide_eq_true h0, cond_true]
        omega
      · have h2 : dV (frF l i).iv = 2 * Go.Sx.tk (an (gt l i).t) := by unfold dV frF; simp only [decide_eq_false h0, cond_false]; omega
        omega
    · have : dM (frF l i).iv = 2 * (Go.Sx.tk (an (gt l (i + 1)).t) : Int) := by unfold dM frF; simp only [cond_false]; omega
      omega
omit KR in
theorem Ups.at (h : Ups l) {N : List (U Ln)} (hN : NFL DSm (frP l (l.length - 1)) N) {i : Nat} (hi : i + 1 < l.length) {r : GQ} (hr : QOk r) (r0 : 0 ≤ aX r) (r1 : aX r ≤ 1) (ht : Tm (an (tdv (gt l i) (gt l (i + 1)) r))) :
    pq N (tdv (gt l i) (gt l (i + 1)) r) = (d9 (gt l i).p (gt l (i + 1)).p r, true) := by
  have a := h.ok i (by omega)
  have b := h.ok (i + 1) hi
  have qt : QOk (tdv (gt l i) (gt l (i + 1)) r) := (gc a.1.1 (eC hr (eN b.1.1 a.1.1).1).1).1
  obtain ⟨w, hw, hin⟩ := h.cov hi hr r0 r1 ht
  rcases AtL_spec hN.nf.wv hN.nf.ord ht with ⟨u, hu, hi2, e⟩ | ⟨hno, _⟩
  · obtain ⟨w2, hw2, hin2, hs⟩ := hN.sem.s1 _ ht u hu hi2
    obtain ⟨j, hj, rfl⟩ := pe hw2
    have hv := h.val hi (show j + 1 < l.length by omega) hr r0 r1 ht hin2
    have du := hN.ok u hu
    have dw := (h.wv (show j + 1 < l.length by omega)).2
    have hl := (eJ du.ok dw.ok ht.ok.tok).1 hs
    rw [hv] at hl
    obtain ⟨⟨px, py⟩, p1, p2⟩ := kC (r := r) (a := (gt l i).p) (b := (gt l (i + 1)).p) ⟨a.2.1.1, a.2.2.1⟩ ⟨b.2.1.1, b.2.2.1⟩ hr
    unfold pq
    rw [e]
    generalize tdv (gt l i) (gt l (i + 1)) r = t at *
    show (_, _) = _
    obtain ⟨ex, ev⟩ := pj (t := t) du.ok.X.1 qt
    obtain ⟨ey, ew⟩ := pj (t := t) du.ok.Y.1 qt
    have h1 : aX (aD (lX u.f) t) = aX (d9 (gt l i).p (gt l (i + 1)).p r).x := by
      have := congrArg (fun x => x.1.1) hl
      unfold lvN lv at this
      rw [if_pos (p7 t).2.1, (p7 t).1] at this
      rw [ev]; exact this
    have h2 : aX (aD (lY u.f) t) = aX (d9 (gt l i).p (gt l (i + 1)).p r).y := by
      have := congrArg (fun x => x.2.1) hl
      unfold lvN lv at this
      rw [if_pos (p7 t).2.1, if_pos (p7 t).2.1, (p7 t).1] at this
      rw [ew]; exact this
    have h3 := dF ex px h1
    have h4 := dF ey py h2
    show ((⟨aD (lX u.f) t, aD (lY u.f) t⟩ : Pnt), true) = _
    rw [h3, h4]
  · obtain ⟨u, hu, hi3, _⟩ := hN.sem.c1 _ ht w hw hin
    exact absurd hi3 (hno u hu)
end
end Go.Sx
namespace Go.Sx
open Go Go.RowKit Go.Proofs
structure XS where
  t : XQ
  x : XQ
  y : XQ
def cXS (s : XS) : List Value := cXQ s.t ++ (cXQ s.x ++ cXQ s.y)
def vXS (s : XS) : Value := .agg (cXS s).toArray
instance celXS (s : XS) : Cel (vXS s) (cXS s) := ⟨rfl⟩
instance dcXS (s : XS) : Dc (cXS s) (vXS s) := ⟨rfl⟩
def xq0 : XQ := qX oQ
instance inhXQ : Inhabited XQ := ⟨xq0⟩
instance inhXS : Inhabited XS := ⟨⟨xq0, xq0, xq0⟩⟩
theorem oneXQ (x : XQ) : ∀ c ∈ cXQ x, c.oneCell' = true := by
  intro c h
  unfold cXQ cXI at h
  simp at h
  rcases h with rfl | rfl | rfl | rfl <;> rfl
instance codXQ : Cod XQ := ⟨cXQ, 4, fun _ => rfl, oneXQ, by decide⟩
instance codXS : Cod XS := ⟨cXS, 12, fun _ => rfl, fun s => dz (oneXQ _) (dz (oneXQ _) (oneXQ _)), by decide⟩
def sX (s : Smp) : XS := ⟨qX s.t, qX s.p.x, qX s.p.y⟩
theorem sX_enc (s : Smp) : Cod.enc (sX s) = Cod.enc s := rfl
theorem sB : ∀ l : List Smp, flat (l.map sX) = flat l
  | [] => rfl
  | s :: l => by
    have := sB l
    unfold flat at this ⊢
    rw [List.map_cons, List.flatMap_cons, List.flatMap_cons, this, sX_enc]
theorem View.sX {w : World} {sv : Value} {l : List Smp} (h : View w sv (l.map sX)) : View w sv l := by
  unfold View at h ⊢
  rw [sB, List.length_map] at h
  rw [List.map_eq_nil_iff] at h
  exact h
def S8 (s : XS) : Prop := xsz s.t ≤ 8 ∧ xsz s.x ≤ 8 ∧ xsz s.y ≤ 8
def Sz63 (s : XS) : Prop := xsz s.t ≤ 9223372036854775807 ∧ xsz s.x ≤ 9223372036854775807 ∧ xsz s.y ≤ 9223372036854775807
def Gs (s : XS) : Prop := Gd s.t ∧ Gd s.x ∧ Gd s.y
theorem gs_all : ∀ {l : List XS}, (∀ s ∈ l, Gs s) → ∃ l' : List Smp, l = l'.map sX ∧ ∀ a ∈ l', Gq a.t ∧ Gq a.p.x ∧ Gq a.p.y
  | [], _ => ⟨[], rfl, fun a h => by cases h⟩
  | s :: l, h => by
    obtain ⟨l', e, k⟩ := gs_all (l := l) fun a ha => h a (List.mem_cons_of_mem _ ha)
    obtain ⟨h1, h2, h3⟩ := h s List.mem_cons_self
    obtain ⟨a, ea, a1⟩ := h1
    obtain ⟨b, eb, b1⟩ := h2
    obtain ⟨c, ec, c1⟩ := h3
    refine ⟨⟨a, ⟨b, c⟩⟩ :: l', ?_, fun x hx => ?_⟩
    · rw [List.map_cons, ← e]
      obtain ⟨t, x, y⟩ := s
      simp only at ea eb ec
      rw [ea, eb, ec]; rfl
    · rcases List.mem_cons.1 hx with rfl | hx
      · exact ⟨a1, b1, c1⟩
      · exact k x hx
end Go.Sx
namespace Go.Sx
open Go Go.RowKit Go.Proofs Go.ChangeShapes Go.WideShapes
set_option maxRecDepth 100000
section
variable {H : Type} {enc : TypeId × Value → H} {W : World} {base : Nat} {sp : Nat → Bool} {held : Bool}
def lim (n : Nat) : Bool := decide (n ≤ reachBytes)
theorem ko {P : Program} {e : TypeId} : ∀ {ds : List (DataW H)} {d : DataW H}, (DataW.weightsAll P e ds).all lim = true → d ∈ ds → (DataW.weights P e d).all lim = true
  | x :: r, d, h, hd => by
    simp only [DataW.weightsAll, List.all_append, Bool.and_eq_true] at h
    rcases List.mem_cons.1 hd with rfl | hd
    · exact h.1
    · exact ko h.2 hd
theorem qE {α : Type} [Cod α] {P : Program} {t e : TypeId} {v : Value} {d : DataW H} {p : List MemPlace} {Q : α → Prop}
    (ht : P.underlying t = some (.slice e)) (hc : P.cellsOf e = Cod.n α) (hval : Value.okWide P W .any base t v) (h : DataW.Trod enc P W 0 sp held t v d p)
    (hw : (DataW.weights P t d).all lim = true)
    (hel : ∀ (n : Nat) (cs : List Value) (x : DataW H × List MemPlace), DataW.trod enc P W 0 sp held n e cs = some x → (DataW.weights P e x.1).all lim = true → ∃ s : α, cs = Cod.enc s ∧ Q s) : ∃ xs : List α, View W v xs ∧ ∀ s ∈ xs, Q s := by
  obtain ⟨fuel, hf⟩ := h
  rcases mo ht hval with rfl | ⟨g, off, len, cap, cur, el, fr, rfl, hlc, hg⟩
  · exact ⟨[], View.nilv, fun s hs => by cases hs⟩
  · rcases DataW.trod_slice ht hf with ⟨h0, _⟩ | ⟨a, len', cap', elems, rest, n, _, hv, hx, _, _, hm, hlen, hels, _, _⟩
    · simp [Value.cells] at h0
    · simp only [Value.cells, List.cons.injEq, Value.slice.injEq, and_true] at hv
      obtain ⟨ha, rfl, rfl⟩ := hv
      cases ha
      rw [hc] at hels
      have hd : d = .slice (elems.map (·.1)) (rest.map (·.1)) := congrArg Prod.fst hx
      have hwa : (DataW.weightsAll P e (elems.map (·.1))).all lim = true := by
        rw [hd] at hw
        simp only [DataW.weights, ht, List.all_cons, List.all_append, Bool.and_eq_true] at hw
        exact hw.2.1
      have key : ∀ i, i < len → ∃ s : α, (∀ j, j < Cod.n α → cur[off + (i * Cod.n α + j)]? = (Cod.enc s)[j]?) ∧ Q s := by
        intro i hi
        have h1 := hels i hi
        have hi2 : i < elems.length := by omega
        rw [List.getElem?_eq_getElem hi2, Option.bind_eq_some_iff] at h1
        obtain ⟨cs, h2, h3⟩ := h1
        obtain ⟨s, rfl, hQ⟩ := hel _ _ _ h3 (ko hwa (List.mem_map_of_mem (List.getElem_mem hi2)))
        refine ⟨s, fun j hj => ?_, hQ⟩
        obtain ⟨_, _, h4⟩ := World.cells?_some h2
        have h5 := h4 j hj
        rw [Addr.add_add] at h5
        rw [← h5]
        unfold World.cell? Addr.add
        by_cases e0 : i * Cod.n α + j = 0
        · rw [if_pos e0, e0]; simp [hg]
        · rw [if_neg e0]; simp [hg]
      obtain ⟨xs, hx1, hx2⟩ := o7 key
      refine ⟨xs, ⟨⟨by omega, by show xs.length ≤ cap; omega⟩, .inr ⟨g, off, cap, cur, el, fr, by rw [hx1], hg, fun j hj => ?_⟩⟩, fun s hs => ?_⟩
      · rw [bv] at hj
        have hp := Cod.pos (α := α)
        have hi : j / Cod.n α < xs.length := by
          rw [Nat.div_lt_iff_lt_mul hp]; exact hj
        have e2 := (hx2 (j / Cod.n α) _ (List.getElem?_eq_getElem hi)).1 (j % Cod.n α) (Nat.mod_lt _ hp)
        have e3 := ph (xs := xs) (List.getElem?_eq_getElem hi) (Nat.mod_lt j hp)
        have e4 : j / Cod.n α * Cod.n α + j % Cod.n α = j := Nat.div_add_mod' j (Cod.n α)
        rw [e4] at e2 e3
        rw [e2, e3]
      · obtain ⟨i, hi, rfl⟩ := List.getElem_of_mem hs
        exact (hx2 i _ (List.getElem?_eq_getElem hi)).2
theorem xq_w {x : XQ} (h : (DataW.weights Tryz.prog 27 (dXQ (H := H) x)).all lim = true) : xsz x ≤ 9223372036854775807 := by
  rw [w_xq] at h
  unfold lim at h
  simp only [List.all_cons, List.all_nil, Bool.and_true, Bool.and_eq_true, decide_eq_true_eq] at h
  have e1 : x.n.b.size = x.n.b.data.toList.length := rfl
  have e2 : x.d.b.size = x.d.b.data.toList.length := rfl
  unfold reachBytes at h
  unfold xsz
  omega
theorem q7 {fuel : Nat} {cs : List Value} {x : DataW H × List MemPlace} (h : DataW.trod enc Tryz.prog W base sp held fuel 29 cs = some x) : ∃ i j : XQ, cs = cXQ i ++ cXQ j ∧ x.1 = .agg [dXQ i, dXQ j] := by
  obtain ⟨xs, n, _, hx, hlen, hxl, hf⟩ := DataW.trod_struct nn29 h
  rw [show Tryz.prog.cellsOf 29 = 8 by kernel_rfl] at hlen
  have k27 : Tryz.prog.cellsOf 27 = 4 := by kernel_rfl
  have f0 : DataW.trod enc Tryz.prog W base sp held n 27 ((cs.drop 0).take (Tryz.prog.cellsOf 27)) = xs[0]? := hf 0 _ rfl
  have f1 : DataW.trod enc Tryz.prog W base sp held n 27 ((cs.drop 4).take (Tryz.prog.cellsOf 27)) = xs[1]? := hf 1 _ rfl
  rw [k27] at f0 f1
  obtain ⟨y0, y1, rfl⟩ : ∃ y0 y1, xs = [y0, y1] := by
    have : xs.length = 2 := hxl
    match xs, this with
    | [y0, y1], _ => exact ⟨_, _, rfl⟩
  obtain ⟨i, e0, d0⟩ := l5 f0
  obtain ⟨j, e1, d1⟩ := l5 f1
  refine ⟨i, j, ?_, ?_⟩
  · rw [← e0, ← e1]
    match cs, hlen with
    | [a, b, c, d, e, f, g, h], _ => rfl
  · rw [hx]
    show DataW.agg [y0.1, y1.1] = DataW.agg [dXQ i, dXQ j]
    rw [d0, d1]
theorem xs_cells {fuel : Nat} {cs : List Value} {x : DataW H × List MemPlace} (h : DataW.trod enc Tryz.prog W base sp held fuel 31 cs = some x) (hw : (DataW.weights Tryz.prog 31 x.1).all lim = true) : ∃ s : XS, cs = Cod.enc s ∧ Sz63 s := by
  obtain ⟨xs, n, _, hx, hlen, hxl, hf⟩ := DataW.trod_struct nn31 h
  rw [show Tryz.prog.cellsOf 31 = 12 by kernel_rfl] at hlen
  have k27 : Tryz.prog.cellsOf 27 = 4 := by kernel_rfl
  have k29 : Tryz.prog.cellsOf 29 = 8 := by kernel_rfl
  have f0 : DataW.trod enc Tryz.prog W base sp held n 27 ((cs.drop 0).take (Tryz.prog.cellsOf 27)) = xs[0]? := hf 0 _ rfl
  have f1 : DataW.trod enc Tryz.prog W base sp held n 29 ((cs.drop 4).take (Tryz.prog.cellsOf 29)) = xs[1]? := hf 1 _ rfl
  rw [k27] at f0
  rw [k29] at f1
  obtain ⟨y0, y1, rfl⟩ : ∃ y0 y1, xs = [y0, y1] := by
    have : xs.length = 2 := hxl
    match xs, this with
    | [y0, y1], _ => exact ⟨_, _, rfl⟩
  obtain ⟨a, e0, d0⟩ := l5 f0
  obtain ⟨b, c, e1, d1⟩ := q7 f1
  have hd : x.1 = .agg [dXQ a, .agg [dXQ b, dXQ c]] := by
    rw [hx]
    show DataW.agg [y0.1, y1.1] = _
    rw [d0, d1]
  rw [hd] at hw
  have hw2 : DataW.weights Tryz.prog 31 (.agg [dXQ (H := H) a, .agg [dXQ b, dXQ c]]) = DataW.weights Tryz.prog 27 (dXQ (H := H) a) ++ (DataW.weights Tryz.prog 27 (dXQ (H := H) b) ++ DataW.weights Tryz.prog 27 (dXQ (H := H) c)) := by
    simp [DataW.weights, DataW.weightsEach, nn31, nn29]
  rw [hw2, List.all_append, List.all_append, Bool.and_eq_true, Bool.and_eq_true] at hw
  refine ⟨⟨a, b, c⟩, ?_, xq_w hw.1, xq_w hw.2.1, xq_w hw.2.2⟩
  show cs = cXQ a ++ (cXQ b ++ cXQ c)
  rw [← e0, ← e1]
  match cs, hlen with
  | [a, b, c, d, e, f, g, h, i, j, k, l], _ => rfl
theorem r5 {v : Value} {d : DataW H} {p : List MemPlace} (hval : Value.okWide Tryz.prog W .any base 23 v) (h : DataW.Trod enc Tryz.prog W 0 sp held 23 v d p) (hw : (DataW.weights Tryz.prog 23 d).all lim = true) : ∃ xs : List XS, View W v xs ∧ ∀ s ∈ xs, Sz63 s :=
  qE Tryz.underlying23 (by kernel_rfl) hval h hw fun n cs x h k => xs_cells h k
end
end Go.Sx
namespace Go.Sx
open Go Go.RowKit Go.Proofs
set_option maxRecDepth 100000
set_option maxHeartbeats 40000000
attribute [local irreducible] Code.wp wpList Rd Step ObS Ent
attribute [local irreducible] aq aK ak au ay bA an aH
attribute [local irreducible] aD aL aj av aP ah aR cP gV bH ar
theorem jZ (n : Nat) (hn : n < 100000) (w0 : World) : Calls Tryz.prog 19 #[.int .i64 (n : Int), .int .i64 8] w0 (RetP w0 (.tuple #[vQ (ptQ n), .int .i64 0]) (SzQ 35 (ptQ n))) := by
 refine enter (N := 13) (args := [.int .i64 (n : Int), .int .i64 8]) Tryz.func19 rfl rfl ?_; intro ac h
 have c1 := dC (n : Int) 36 og (by omega)
 have c2 := dC 8 36 og (by omega)
 have c3 := mE (ar (n : Int)) (ar 8) (am (c1 w0)) (am (c2 w0))
 have e0 : (bF (ar (n : Int)) (ar 8)).2 = 0 := make_0 (by rw [eZ]; decide)
 rw [e0] at c3
 refine gz h <| (xa) fun b1 => (xk c1) <| (xk c2) <| (xk c3) <| (W) ?_; clear h ac; intro ac wo h
 exact q6 0 h (h.retP (u := .tuple #[vQ (ptQ n), .int .i64 0]) rfl (am (c3 w0)))
theorem sh31X : Sh Tryz.prog 31 XS vXS := ⟨trivial⟩
theorem slt38X : SlT Tryz.prog 38 27 4 48 (cQ oQ) := ⟨Tryz.underlying38, Tryz.t27, _, Tryz.type27, rfl, rfl, rfl, rfl, rfl, by decide, by decide⟩
theorem bad_3 {s : XS} {e1 e2 e3 : Int} (g1 : e1 = 0 → Gd s.t) (g2 : e2 = 0 → Gd s.x) (g3 : e3 = 0 → Gd s.y) (h : (((e1 != 0) || (e2 != 0)) || (e3 != 0)) = false) : Gs s := by
 rw [Bool.or_eq_false_iff, Bool.or_eq_false_iff] at h
 obtain ⟨⟨a, b⟩, c⟩ := h
 have k : ∀ {e : Int}, (e != 0) = false → e = 0 := fun {e} he => Classical.byContradiction fun hn => by rw [show (e != 0) = true from bne_iff_ne.2 hn] at he; exact Bool.noConfusion he
 exact ⟨g1 (k a), g2 (k b), g3 (k c)⟩
section
attribute [local instance 2000] sh27X sh25Y sh31X
theorem frX_ct (l : List XS) (lv : Value) (hl : l.length ≤ 12) (h8 : ∀ i, i < l.length → S8 (gt l i)) (hb : ¬ ∀ i, i < l.length → Gs (gt l i)) (w0 : World) (hlv : View w0 lv l) : Calls Tryz.prog 16 #[lv] w0 (RetT w0 88 ([] : List (U Ln)) [.int .i64 5] True) := by
 refine enter (N := 162) (args := [lv]) Tryz.func16 rfl rfl ?_; intro ac h
 have hlen := hlv.len
 refine gz h <| (ai) ?_ ?_ <;> clear h ac <;> intro ac wo h hc1
 · exfalso; have := of_decide_eq_true hc1; omega
 refine gz h <| (W) ?_; clear h ac wo; intro ac wo h
 refine wp_loop_ghost (fun n_ a_ w_ => ∃ (i : Nat), (l.length - i < n_) ∧ (i ≤ l.length) ∧ (∀ j, j < i → Gs (gt l j)) ∧ St w0 162 [(0, lv), (20, lv), (21, iN l.length), (22, iN i)] [] a_ w_) (l.length + 1) ⟨0, by omega, by omega, fun j hj => by omega, h.rs⟩ ?_
 clear h ac wo; rintro n1 ac wo ⟨i, hm1, hi, hB, h⟩
 obtain ⟨m1, rfl⟩ : ∃ m, n1 = m + 1 := ⟨n1 - 1, by omega⟩
 refine gz h <| (ai) ?_ ?_ <;> clear h ac wo <;> intro ac wo h hc2
 ·
  have hd1 : i < l.length := by have := of_decide_eq_true hc2; omega
  have zi := h8 i hd1
  obtain ⟨e1, c1, g1⟩ := gP (gt l i).t zi.1
  obtain ⟨e2, c2, g2⟩ := gP (gt l i).x zi.2.1
  obtain ⟨e3, c3, g3⟩ := gP (gt l i).y zi.2.2
  refine gz h <| (xa) fun b1 => (xk c1) <| (xg (hs := by exact fun hg => ef enA (kk c2))) <| (xg (hs := by exact fun hg => ef enA (kk c3))) <| (ai) ?_ ?_ <;> clear h ac wo <;> intro ac wo h hc3
  ·
   refine gz h <| (W) ?_; clear h ac wo; intro ac wo h
   replace h := h.nilRow (α := U Ln) 88
   exact (rt h) (h.retT 0 rfl rfl trivial)
  ·
   refine gz h <| (W) ?_; clear h ac wo; intro ac wo h
   refine aG ⟨m1, by omega, i + 1, by omega, by omega, fun j hj => ?_, h.re []⟩
   by_cases e : j = i
   · subst e; exact bad_3 g1 g2 g3 hc3
   · exact hB j (by omega)
 obtain rfl : i = l.length := by have := of_decide_eq_false hc2; omega
 exact absurd hB hb
theorem frY_ct (l : List XS) (lv : Value) (hl : l.length ≤ 12) (h8 : ∀ i, i < l.length → S8 (gt l i)) (hb : ¬ ∀ i, i < l.length → Gs (gt l i)) (w0 : World) (hlv : View w0 lv l) : Calls Tryz.prog 17 #[lv] w0 (RetT w0 88 ([] : List (U Ln)) [.int .i64 5] True) := by
 refine enter (N := 129) (args := [lv]) Tryz.func17 rfl rfl ?_; intro ac h
 have hlen := hlv.len
 refine gz h <| (ai) ?_ ?_ <;> clear h ac <;> intro ac wo h hc1
 · exfalso; have := of_decide_eq_true hc1; omega
 refine gz h <| (W) ?_; clear h ac wo; intro ac wo h
 refine wp_loop_ghost (fun n_ a_ w_ => ∃ (i : Nat), (l.length - i < n_) ∧ (i ≤ l.length) ∧ (∀ j, j < i → Gs (gt l j)) ∧ St w0 129 [(0, lv), (4, iN i)] [] a_ w_) (l.length + 1) ⟨0, by omega, by omega, fun j hj => by omega, h.rs⟩ ?_
 clear h ac wo; rintro n1 ac wo ⟨i, hm1, hi, hB, h⟩
 obtain ⟨m1, rfl⟩ : ∃ m, n1 = m + 1 := ⟨n1 - 1, by omega⟩
 refine gz h <| (ai) ?_ ?_ <;> clear h ac wo <;> intro ac wo h hc2
 ·
  have hd1 : i < l.length := by have := of_decide_eq_true hc2; omega
  have zi := h8 i hd1
  have n1' := hlv.nn hd1
  obtain ⟨e1, c1, g1⟩ := gP (gt l i).t zi.1
  obtain ⟨e2, c2, g2⟩ := gP (gt l i).x zi.2.1
  obtain ⟨e3, c3, g3⟩ := gP (gt l i).y zi.2.2
  refine gz h <| (xk c1) <| (xg (hs := by exact fun hg => ef enA (kk c2))) <| (xg (hs := by exact fun hg => ef enA (kk c3))) <| (ai) ?_ ?_ <;> clear h ac wo <;> intro ac wo h hc3
  ·
   refine gz h <| (W) ?_; clear h ac wo; intro ac wo h
   replace h := h.nilRow (α := U Ln) 88
   exact (rt h) (h.retT 0 rfl rfl trivial)
  ·
   refine gz h <| (W) ?_; clear h ac wo; intro ac wo h
   refine aG ⟨m1, by omega, i + 1, by omega, by omega, fun j hj => ?_, h.re []⟩
   by_cases e : j = i
   · subst e; exact bad_3 g1 g2 g3 hc3
   · exact hB j (by omega)
 obtain rfl : i = l.length := by have := of_decide_eq_false hc2; omega
 exact absurd hB hb
end
end Go.Sx
namespace Go.Sx
open Go Go.RowKit Go.Proofs
set_option maxRecDepth 100000
set_option maxHeartbeats 40000000
attribute [local irreducible] Code.wp wpList Rd Step ObS Ent
attribute [local irreducible] aq aK ak au ay bA an aH
attribute [local irreducible] aD aL aj av aP ah aR cP gV bH ar
instance un38 : Un Tryz.prog 38 (.slice 27) := ⟨Tryz.runUnderlying38⟩
def x3 (s : XS) : List XQ := [s.t, s.x, s.y]
theorem x3_8 {s : XS} (h : ∀ k, k < 3 → xsz (gt (x3 s) k) ≤ 8) : S8 s := ⟨h 0 (by decide), h 1 (by decide), h 2 (by decide)⟩
theorem x3_63 {s : XS} (h : Sz63 s) {k : Nat} (hk : k < 3) : xsz (gt (x3 s) k) ≤ 9223372036854775807 := by
 obtain rfl | rfl | rfl : k = 0 ∨ k = 1 ∨ k = 2 := by omega
 · exact h.1
 · exact h.2.1
 · exact h.2.2
section
attribute [local instance 2000] sh27X sh25Y sh31X
theorem samX_ct (l : List XS) (lv : Value) (x : Nat) (hx : x < 256) (hz : ∀ i, i < l.length → Sz63 (gt l i)) (hb : ¬ ∀ i, i < l.length → Gs (gt l i)) (w0 : World) (hlv : View w0 lv l) : Calls Tryz.prog 4 #[lv, .int .u8 (x : Int)] w0 (RetP w0 (.bool true) True) := by
 refine enter (N := 153) (args := [lv, .int .u8 (x : Int)]) Tryz.func4 rfl rfl ?_; intro ac h
 have hlen := hlv.len
 refine gz h <| (xk ki) <| (ai) ?_ ?_ <;> clear h ac <;> intro ac wo h hc1
 · refine gz h <| (xk ki) <| (W) ?_; clear h ac wo; intro ac wo h
   exact (rt h) (h.retP rfl trivial)
 have hl : l.length ≤ 12 := by
  rw [Bool.or_eq_false_iff] at hc1
  have := of_decide_eq_false hc1.2; omega
 refine gz h <| (W) ?_; clear h ac wo; intro ac wo h
 refine wp_loop_ghost (fun n_ a_ w_ => ∃ (i : Nat), (l.length - i < n_) ∧ (i ≤ l.length) ∧ (∀ j, j < i → S8 (gt l j)) ∧ St w0 153 [(0, lv), (1, .int .u8 (x : Int)), (5, iN i)] [] a_ w_) (l.length + 1) ⟨0, by omega, by omega, fun j hj => by omega, h.rs⟩ ?_
 clear h ac wo; rintro n1 ac wo ⟨i, hm1, hi, hB, h⟩
 obtain ⟨m1, rfl⟩ : ∃ m, n1 = m + 1 := ⟨n1 - 1, by omega⟩
 refine gz h <| (ai) ?_ ?_ <;> clear h ac wo <;> intro ac wo h hc2
 ·
  have hd1 : i < l.length := by have := of_decide_eq_true hc2; omega
  have n1' := hlv.nn hd1
  have z63 := hz i hd1
  obtain ⟨s, hs⟩ : ∃ s, gt l i = s := ⟨_, rfl⟩
  refine gz h <| (W) ?_; clear h ac wo; intro ac wo h
  replace h := h.emps 1
  refine d4 mixed [dv _, dv _, dv _, dv _, dv (vXQ (gt l i).t), dv _, dv _, dv _, dv _, dv _, dv (vXQ (gt l i).x), dv _, dv _, dv _, dv _, dv _, dv (vXQ (gt l i).y), ⟨.nd (.one 17 fun v => NN v 3), [0]⟩, ⟨.nd (.two 18 17 fun a b => a = b), []⟩]
   [⟨.emp, [(17, .one 17 fun v => .row (α := XQ) 27 v (x3 (gt l i)))]⟩] h rfl (by kernel_rfl)
   ⟨oA obA, oA obA, oA obA, oA obA, oA obA, oA obA, oA obA, oA obA, oA obA, oA obA, oA obA, oA obA, oA obA, oA obA, oA obA, oA obA, oA obA,
    fun _ _ => kE (ψ := fun v => NN v 3) (B := fun v => [.row (α := XQ) 27 v (x3 (gt l i))]) [.emp] rfl (fun v _ => by simp only [cc, bc] <;> rfl) (fun v hv => by simpa [DF.one, bc] using hv) (gC (cX (α := XQ) (xs := [.tmp 36, .tmp 42, .tmp 48]) (vs := [vXQ (gt l i).t, vXQ (gt l i).x, vXQ (gt l i).y]) (x3 (gt l i)) slt38X rfl rfl rfl (by decide))),
    fun _ _ => oT (j := 17) (by decide) rfl, trivial⟩ ?_
  clear h ac wo; intro ξ ac wo hφ h
  replace h : St w0 153 [(0, lv), (1, .int .u8 (x : Int)), (5, iN i), (6, ξ 18)] [.row (α := XQ) 27 (ξ 17) (x3 (gt l i))] ac wo := h.sub ⟨rfl, rfl, rfl, rfl, trivial⟩
  rw [show ξ 18 = ξ 17 from hφ 18, hs] at h
  rw [hs] at z63
  generalize ξ 17 = sv at h; clear hφ ξ
  refine gz h <| (W) ?_; clear h ac wo; intro ac wo h
  refine wp_loop_ghost (fun n_ a_ w_ => ∃ (k : Nat), (3 - k < n_) ∧ (k ≤ 3) ∧ (∀ j, j < k → xsz (gt (x3 s) j) ≤ 8) ∧ St w0 153 [(0, lv), (1, .int .u8 (x : Int)), (5, iN i), (6, sv), (7, iN k)] [.row (α := XQ) 27 sv (x3 s)] a_ w_) 4 ⟨0, by omega, by omega, fun j hj => by omega, h.re [0]⟩ ?_
  clear h ac wo; rintro n2 ac wo ⟨k, hm2, hk, hC, h⟩
  obtain ⟨m2, rfl⟩ : ∃ m, n2 = m + 1 := ⟨n2 - 1, by omega⟩
  refine gz h <| (ai) ?_ ?_ <;> clear h ac wo <;> intro ac wo h hc3
  ·
   have hk1 : k < 3 := by have := of_decide_eq_true hc3; omega
   have hk3 : k < (x3 s).length := hk1
   have nk := (row_view h.sep 0 rfl).nn hk3
   have hs9 := x3_63 z63 hk1
   have hs' : (gt (x3 s) k).n.b.size + (gt (x3 s) k).d.b.size ≤ 9223372036854775807 := hs9
   refine gz h <| (dr0 (hob := (oX (h := by exact fun _ => a7 (ib uu9 rfl))) <| (oX (h := by exact fun _ => a7 (ib uu9 rfl))) <| oE)) <| (ai) ?_ ?_ <;> clear h ac wo <;> intro ac wo h hc4
   · refine gz h <| (W) ?_; clear h ac wo; intro ac wo h
     exact (rt h) (h.retP rfl trivial)
   · refine gz h <| (W) ?_; clear h ac wo; intro ac wo h
     refine aG ⟨m2, by omega, k + 1, by omega, by omega, fun j hj => ?_, h.re [0]⟩
     by_cases e : j = k
     · subst e
       have h9 := of_decide_eq_false hc4
       unfold xsz; omega
     · exact hC j (by omega)
  ·
   have hk3 : k = 3 := by have := of_decide_eq_false hc3; omega
   subst hk3
   refine gz h <| (W) ?_; clear h ac wo; intro ac wo h
   refine aG ⟨m1, by omega, i + 1, by omega, by omega, fun j hj => ?_, h.re []⟩
   by_cases e : j = i
   · subst e; rw [hs]; exact x3_8 hC
   · exact hB j (by omega)
 obtain rfl : i = l.length := by have := of_decide_eq_false hc2; omega
 refine gz h <| (W) ?_; clear h ac wo; intro ac wo h
 refine mT (xs := ([] : List (U Ln))) h (dH Tryz.call16 rfl) (fun w_ hB_ hS_ => frX_ct l lv hl hB hb w_ (hlv.below hB_)) rfl ?_; clear h ac wo; intro pv ac wo _ h
 refine gz h <| (W) ?_; clear h ac wo; intro ac wo h
 refine mT (xs := ([] : List (U Ln))) h (dH Tryz.call17 rfl) (fun w_ hB_ hS_ => frY_ct l lv hl hB hb w_ (hlv.below hB_)) rfl ?_; clear h ac wo; intro qv ac wo _ h
 have cp := jZ (x % 9) (by omega)
 refine gz h <| (xc (ct := by exact fun w_ hB_ hS_ => rC ([] : List (U Ln)) pv qv (by decide) w_ (row_view hS_ 1 rfl) (row_view hS_ 0 rfl))) <| (W) ?_; clear h ac wo; intro ac wo h
 refine gz h <| (ai) ?_ ?_ <;> clear h ac wo <;> intro ac wo h hc3
 · cases hc3
 refine gz h <| (xo (hs := by exact rmN 9 rfl rfl rfl)) <| (xo (hs := by exact cvI (by omega) rfl)) <| (xk cp) <| (xa) fun b5 => (W) ?_; clear h ac wo; intro ac wo h
 refine wp_loop_ghost (fun n_ a_ w_ => 0 < n_ ∧ St w0 153 [(0, lv), (9, .int .i64 5), (14, iN 0)] [] a_ w_) 1 ⟨by omega, h.re []⟩ ?_
 clear h ac wo; rintro n1 ac wo ⟨hm1, h⟩
 obtain ⟨m1, rfl⟩ : ∃ m, n1 = m + 1 := ⟨n1 - 1, by omega⟩
 refine gz h <| (ai) ?_ ?_ <;> clear h ac wo <;> intro ac wo h hc4
 · exfalso; simp at hc4
 refine gz h <| (W) ?_; clear h ac wo; intro ac wo h
 exact (rt h) (h.retP rfl trivial)
end
end Go.Sx
