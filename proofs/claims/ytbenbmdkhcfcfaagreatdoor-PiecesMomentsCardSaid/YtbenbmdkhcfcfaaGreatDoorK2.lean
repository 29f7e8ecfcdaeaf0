/- A part of the proof of piecesMoments. -/
import Derived.Test.YtbenbmdkhcfcfaaGreatDoorY
set_option linter.unusedVariables false
set_option linter.unusedSimpArgs false
open Go.Proofs.Tryz renaming runUnderlying103 → uu103, sizeOf86 → zz86, isAgg86 → aa86, zeroValue86 → vv86, runUnderlying86 → uu86, sizeOf71 → zz71
namespace Go.Sx
open Go Go.RowKit Go.Proofs
set_option maxRecDepth 100000
set_option maxHeartbeats 40000000
attribute [local irreducible] aE bM ap aT aJ dF
def mY (p : List Iv) (x10 : Nat) : Int :=
 0
def dE (p : List Iv) (x10 : Nat) : Nx Nat Int :=
 bif (decide (((x10 : Nat) : Int) < ((p.length : Nat) : Int))) then
  bif ((cL (gt p x10)) != 0) then
   .ret (cL (gt p x10))
  else
   bif ((((x10 : Nat) : Int)) == (((0 : Nat) : Int))) then
    .go (x10 + 1)
   else
    bif ((decide ((aE ((gt p x10).lo) ((gt p (x10 - 1)).hi)) < 0)) || (decide ((aR (aI (gt p (x10 - 1))) (ay (gt p x10))) > 0))) then
     .ret 11
    else
     bif ((aR (aI (gt p (x10 - 1))) (ay (gt p x10))) == 0) then
      .ret 5
     else
      .go (x10 + 1)
 else
  .out x10
def fk (p : List Iv) : Int :=
 fin (bR (fun s => dE p s) ((p.length - 0) + 1) 0) (fun s => mY p s) (fun r => r)
theorem mX (p : List Iv) (pv : Value) (hl : p.length ≤ 1000) (hv : ∀ j, RtV (gt p j)) (zp : All (SzV 30) p) (w0 : World) (hpv : View w0 pv p) : Calls Tryz.prog 57 #[pv] w0 (RetP w0 (.int .i64 (fk p)) (True)) := by
 refine enter (N := 47) (args := [pv]) Tryz.func57 rfl rfl ?_; intro ac h
 have hlenp := hpv.len
 refine ej fun K1 hK1 => ?_
 refine rd0 h (aj rfl) rfl <| gn hK1 <| gq fun K2 hK2 => gr fun K3 hK3 => g0 (ak rfl) rfl <| g0 (et uu103 rfl hpv.sl) rfl <| g0 (ak rfl) rfl <| gn hK3 <| gB ?_; clear h ac; intro ac wo h
 obtain ⟨X1, hX1⟩ : ∃ X, bR (fun s => dE p s) ((p.length - 0) + 1) 0 = X := ⟨_, rfl⟩
 refine wp_loop_ghost (fun n_ a_ w_ => ∃ (x10 : Nat), ((p.length - x10) < n_) ∧ (bR (fun s => dE p s) n_ x10 = X1) ∧ (x10 ≤ p.length) ∧ St w0 47 [(0, pv), (8, pv), (9, (.int .i64 ((p.length : Nat) : Int))), (10, (.int .i64 ((x10 : Nat) : Int)))] [] a_ w_) ((p.length - 0) + 1) ⟨0, (by omega), hX1, (by omega), (h.sub ⟨rfl, rfl, rfl, rfl, trivial⟩)⟩ ?_
 clear h ac wo; rintro n1 ac wo ⟨x10, hm1, hL1, hx10, h⟩
 obtain ⟨m1, rfl⟩ : ∃ m, n1 = m + 1 := ⟨n1 - 1, by omega⟩
 refine gz h <| gr fun K4 hK4 => g0 (d5 rfl rfl) rfl <| gn hK4 <| gq fun K5 hK5 => ?_; clear h ac wo; intro ac wo h
 refine dA h rfl (fun hc1 => ?_) (fun hc1 => ?_)
 ·skip
  have hd1 := of_decide_eq_true hc1
  refine gz h <| gS <| gx hK5 <| gq fun K6 hK6 => gB <| gr fun K7 hK7 => g0 (ak rfl) rfl <| g0 (eC (i := x10) uu103 zz86 rfl rfl (hpv.nn (i := x10) (by omega)) (by omega)) rfl <| g0 (iR (k := 0) aa86 zz86 hpv (cK (by omega)) rfl (Nat.add_zero _) rfl rfl (v := (vV (gt p x10))) rfl) rfl <| ga (cV (⟨(⟨oQ, oQ, false⟩ : GR), (⟨oQ, oQ, false⟩ : GR), false, false⟩ : Iv)) vv86 rfl rfl fun b1 => g0 (aj rfl) rfl <| gs 0 (cV (gt p x10)) rfl zz86 rfl rfl rfl rfl rfl rfl rfl <| gn hK7 <| gq fun K8 hK8 => gr fun K9 hK9 => g1 0 rfl (ba aa86 zz86 rfl rfl rfl (v := (vV (gt p x10))) rfl) rfl <| gc (bF Tryz.call44 rfl) (kk (j0 (gt p x10) (hv _) (All.gt zp (jG _)))) rfl <| g0 (aj rfl) rfl <| gn hK9 <| gr fun K10 hK10 => g0 (ak rfl) rfl <| g0 (jB rfl rfl) rfl <| gn hK10 ?_; clear h ac wo; intro ac wo h
  refine dA h rfl (fun hc2 => ?_) (fun hc2 => ?_)
  ·skip
   have hq2 := hc2; try simp at hq2
   refine gz h <| gr fun K11 hK11 => g0 (ak rfl) rfl <| g0 (aj rfl) rfl <| gn hK11 ?_; clear h ac wo; intro ac wo h
   replace h := h.sub (F' := [(2, (.int .i64 (cL (gt p x10))))]) ⟨rfl, trivial⟩
   refine gu ?_
   have hr1 := gj hL1 (show dE p x10 = .ret (cL (gt p x10)) from (Eq.trans (cT hc1) (cT hc2)))
   have hd : fk p = (cL (gt p x10)) := (kq (hX1.trans hr1))
   exact ret h rfl (.tmp rfl .nil) rfl (h.retP (by rw [hd] <;> rfl) trivial)
  ·skip
   have hq2 := hc2; try simp at hq2
   refine gz h <| gS <| gx hK8 <| gq fun K12 hK12 => gr fun K13 hK13 => g0 (ak rfl) rfl <| g0 (fV rfl rfl (m := ((x10 : Nat) : Int)) (n := ((0 : Nat) : Int))) rfl <| gn hK13 ?_; clear h ac wo; intro ac wo h
   refine dA h rfl (fun hc3 => ?_) (fun hc3 => ?_)
   ·skip
    have hd3 := eq_of_beq hc3
    refine gz h <| gE <| gx hK6 <| gR <| g0 (ch rfl rfl (r := ((x10 + 1 : Nat) : Int)) (by rw [IntKind.wrap_i64]; omega)) rfl <| g0 (ak rfl) rfl <| gx (fun _ _ => bV) ?_; clear h ac wo; intro ac wo h
    exact aU ⟨m1, (by omega), _, (by omega), co hL1 (show dE p x10 = .go _ from (Eq.trans (cT hc1) (Eq.trans (cF hc2) (cT hc3)))), (by omega), (h.pick [] (by decide)).sub ⟨rfl, rfl, rfl, rfl, trivial⟩⟩
   ·skip
    have hd3 := ne_of_beq_false hc3
    refine gz h <| gS <| gx hK12 <| gr fun K14 hK14 => g0 (ak rfl) rfl <| g0 (ak rfl) rfl <| g0 (eQ rfl rfl (r := (((x10 - 1) : Nat) : Int)) (by rw [IntKind.wrap_i64]; omega)) rfl <| g0 (eC (i := (x10 - 1)) uu103 zz86 rfl rfl (hpv.nn (i := (x10 - 1)) (by omega)) (by omega)) rfl <| g0 (iR (k := 0) aa86 zz86 hpv (cK (by omega)) rfl (Nat.add_zero _) rfl rfl (v := (vV (gt p (x10 - 1)))) rfl) rfl <| ga (cV (⟨(⟨oQ, oQ, false⟩ : GR), (⟨oQ, oQ, false⟩ : GR), false, false⟩ : Iv)) vv86 rfl rfl fun b2 => gs 0 (cV (gt p (x10 - 1))) rfl zz86 rfl rfl rfl rfl rfl rfl rfl <| gn hK14 ?_; clear h ac wo; intro ac wo h
    replace h := h.sub (F' := [(0, pv), (8, pv), (9, (.int .i64 ((p.length : Nat) : Int))), (10, (.int .i64 ((x10 : Nat) : Int))), (4, (ptr b1 0)), (6, (ptr b2 0))]) ⟨rfl, rfl, rfl, rfl, rfl, rfl, trivial⟩
    refine dV fun K15 hK15 => ?_
    have s1 := Calls.pr ((fun w_ hB_ hS_ => eE (gt p (x10 - 1)) (All.gt zp (jG _)) w_ ) _ h.bel h.sep)
    have s2 := Calls.pr ((fun w_ hB_ hS_ => em (gt p x10) (All.gt zp (jG _)) w_ ) _ h.bel h.sep)
    have s3 := Calls.pr ((fun w_ hB_ hS_ => dD (aI (gt p (x10 - 1))) (ay (gt p x10)) s1 s2 w_ ) _ h.bel h.sep)
    have p4 := s3
    refine cZ mixed [⟨.det (vV (gt p (x10 - 1))), [0]⟩, ⟨.det (vW (aI (gt p (x10 - 1)))), []⟩, ⟨.det (vV (gt p x10)), [1]⟩, ⟨.det (vW (ay (gt p x10))), []⟩, ⟨.det (.int .i64 (aR (aI (gt p (x10 - 1))) (ay (gt p x10)))), []⟩, ⟨.det (.int .i64 (aR (aI (gt p (x10 - 1))) (ay (gt p x10)))), []⟩] [⟨.blk b2 (cV (gt p (x10 - 1))) 86, []⟩, ⟨.blk b1 (cV (gt p x10)) 86, []⟩] h rfl (by kernel_rfl) ⟨?_, ?_, ?_, ?_, ?_, ?_, trivial⟩ ?_
    ·intro ξ hφ; exact cY [.blk b2 (cV (gt p (x10 - 1))) 86] rfl rfl (ba aa86 zz86 rfl rfl rfl (v := (vV (gt p (x10 - 1)))) rfl)
    ·intro ξ hφ; exact d7 (dy (vs := [(vV (gt p (x10 - 1)))]) (bF Tryz.call137 rfl) (fun w_ hB_ hS_ => eE (gt p (x10 - 1)) (All.gt zp (jG _)) w_ ))
    ·intro ξ hφ; exact cY [.blk b1 (cV (gt p x10)) 86] rfl rfl (ba aa86 zz86 rfl rfl rfl (v := (vV (gt p x10))) rfl)
    ·intro ξ hφ; exact d7 (dy (bF Tryz.call136 rfl) (kk (em (gt p x10) (All.gt zp (jG _)))))
    ·intro ξ hφ; exact d7 (dy (bF Tryz.call135 rfl) (kk (dD (aI (gt p (x10 - 1))) (ay (gt p x10)) s1 s2)))
    ·intro ξ hφ; exact aL (aj rfl)
    clear h ac wo; intro ξ ac wo hφ h
    replace h : St w0 47 [(0, pv), (8, pv), (9, (.int .i64 ((p.length : Nat) : Int))), (10, (.int .i64 ((x10 : Nat) : Int))), (4, (ptr b1 0)), (6, (ptr b2 0)), (7, (.int .i64 (aR (aI (gt p (x10 - 1))) (ay (gt p x10)))))] [.blk b2 (cV (gt p (x10 - 1))) 86, .blk b1 (cV (gt p x10)) 86] ac wo := (h.pick [0, 1] (by decide)).sub ⟨rfl, rfl, rfl, rfl, rfl, rfl, rfl, trivial⟩
    clear hφ ξ
    have p6 := aF ((bQ ((gt p x10).lo) ((gt p (x10 - 1)).hi) 10 (by omega) (All.gt zp (jG _)).1 (All.gt zp (jG _)).2) w0)
    refine gz h <| gx hK15 <| gB <| gr fun K16 hK16 => g0 (fa uu86 rfl zz71 rfl rfl rfl (k' := 0)) rfl <| g1 1 rfl (ba Tryz.isAgg71 zz71 rfl rfl rfl (v := (vR ((gt p x10).lo))) rfl) rfl <| g0 (fa uu86 rfl zz71 rfl rfl rfl (k' := 9)) rfl <| g1 0 rfl (ba Tryz.isAgg71 zz71 rfl rfl rfl (v := (vR ((gt p (x10 - 1)).hi))) rfl) rfl <| gc (bF Tryz.call127 rfl) (kk (bQ ((gt p x10).lo) ((gt p (x10 - 1)).hi) 10 (by omega) (All.gt zp (jG _)).1 (All.gt zp (jG _)).2)) rfl <| g0 (d5 rfl rfl) rfl <| g0 (ak rfl) rfl <| ge2 rfl rfl (fun hg => (Rd.of_nil (ak rfl)).step) rfl <| ge2 rfl rfl (fun hg => (Rd.of_nil (ko (aN rfl hg) rfl)).step) rfl <| g0 (nU rfl (fun e => (aN rfl (n7 e)))) rfl <| g0 (aj rfl) rfl <| gn hK16 ?_; clear h ac wo; intro ac wo h
    refine dA h rfl (fun hc4 => ?_) (fun hc4 => ?_)
    ·skip
     have hq4 := hc4; try simp at hq4
     refine gz h <| gr fun K17 hK17 => g0 (aj rfl) rfl <| gn hK17 ?_; clear h ac wo; intro ac wo h
     replace h := h.sub (F' := [(2, (.int .i64 11))]) ⟨rfl, trivial⟩
     refine gu ?_
     have hr1 := gj hL1 (show dE p x10 = .ret 11 from (Eq.trans (cT hc1) (Eq.trans (cF hc2) (Eq.trans (cF hc3) (cT hc4)))))
     have hd : fk p = 11 := (kq (hX1.trans hr1))
     exact ret h rfl (.tmp rfl .nil) rfl (h.retP (by rw [hd] <;> rfl) trivial)
    ·skip
     have hq4 := hc4; try simp at hq4
     refine gz h <| gr fun K18 hK18 => g0 (ak rfl) rfl <| g0 (fV rfl rfl) rfl <| g0 (aj rfl) rfl <| gn hK18 ?_; clear h ac wo; intro ac wo h
     replace h := h.sub (F' := [(0, pv), (8, pv), (9, (.int .i64 ((p.length : Nat) : Int))), (10, (.int .i64 ((x10 : Nat) : Int))), (43, (.bool ((aR (aI (gt p (x10 - 1))) (ay (gt p x10))) == 0)))]) ⟨rfl, rfl, rfl, rfl, rfl, trivial⟩
     refine dA h rfl (fun hc5 => ?_) (fun hc5 => ?_)
     ·skip
      have hd5 := eq_of_beq hc5
      refine gz h <| gr fun K19 hK19 => g0 (aj rfl) rfl <| gn hK19 <| gT ?_; clear h ac wo; intro ac wo h
      have hr1 := gj hL1 (show dE p x10 = .ret 5 from (Eq.trans (cT hc1) (Eq.trans (cF hc2) (Eq.trans (cF hc3) (Eq.trans (cF hc4) (cT hc5))))))
      have hd : fk p = 5 := (kq (hX1.trans hr1))
      exact ret h rfl (.tmp rfl .nil) rfl (h.retP (by rw [hd] <;> rfl) trivial)
     ·skip
      have hd5 := ne_of_beq_false hc5
      refine gz h <| gS <| gN <| gN <| gx hK6 <| gR <| g0 (ch rfl rfl (r := ((x10 + 1 : Nat) : Int)) (by rw [IntKind.wrap_i64]; omega)) rfl <| g0 (ak rfl) rfl <| gx (fun _ _ => bV) ?_; clear h ac wo; intro ac wo h
      exact aU ⟨m1, (by omega), _, (by omega), co hL1 (show dE p x10 = .go _ from (Eq.trans (cT hc1) (Eq.trans (cF hc2) (Eq.trans (cF hc3) (Eq.trans (cF hc4) (cF hc5)))))), (by omega), (h.pick [] (by decide)).sub ⟨rfl, rfl, rfl, rfl, trivial⟩⟩
 ·skip
  have hd1 := of_decide_eq_false hc1
  refine ep ?_
  have hx1 := dU hL1 (show dE p x10 = .out x10 from (cF hc1))
  refine gz h <| gx hK2 <| gr fun K20 hK20 => g0 (aj rfl) rfl <| gn hK20 <| gT ?_; clear h ac wo; intro ac wo h
  have hd : fk p = 0 := (eV (hX1.trans hx1))
  exact ret h rfl (.tmp rfl .nil) rfl (h.retP (by rw [hd] <;> rfl) trivial)
attribute [irreducible] fk
end Go.Sx
