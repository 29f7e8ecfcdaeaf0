/- A part of the proof of piecesMoments. -/
import Derived.Test.YtbenbmdkhcfcfaaGreatDoorEx
import Derived.Test.YtbenbmdkhcfcfaaGreatDoorA7
import Derived.Test.YtbenbmdkhcfcfaaGreatDoorGarith
import Derived.Test.YtbenbmdkhcfcfaaGreatDoorProg
import Derived.Test.YtbenbmdkhcfcfaaGreatDoorQ2
set_option linter.unusedVariables false
set_option linter.unusedSimpArgs false
open Go.Proofs.Tryz renaming runUnderlying9 → uu9, runUnderlying25 → uu25, sizeOf9 → zz9, isAgg9 → aa9, sizeOf4 → zz4, isAgg4 → aa4, runUnderlying27 → uu27, sizeOf25 → zz25, isAgg25 → aa25, zeroValue206 → vv206, runUnderlying86 → uu86, sizeOf71 → zz71, isAgg71 → aa71, sizeOf206 → zz206, runUnderlying206 → uu206, zeroValue25 → vv25, zeroValue27 → vv27, isAgg27 → aa27, sizeOf27 → zz27, runUnderlying71 → uu71
namespace Go.Sx
open Go Go.RowKit Go.Proofs
set_option maxRecDepth 100000
set_option maxHeartbeats 40000000
attribute [local irreducible] aE bM ap aT aJ dF
def fK  : Nat :=
 0
theorem lT  (w0 : World)  : Calls Tryz.prog 306 #[(.string ⟨#[0]⟩), (.int .i64 0)] w0 (RetP w0 (.string (bs fK)) (SzB 30 fK)) := by
 refine enter (N := 125) (args := [(.string ⟨#[0]⟩), (.int .i64 0)]) Tryz.func306 rfl rfl ?_; intro ac h
 refine ej fun K1 hK1 => ?_
 refine rd0 h (aj rfl) rfl <| gn hK1 <| gq fun K2 hK2 => gr fun K3 hK3 => g0 (ak rfl) rfl <| gn hK3 <| gB <| gr fun K4 hK4 => g0 (fV rfl rfl (m := ((0 : Nat) : Int)) (n := ((0 : Nat) : Int))) rfl <| g0 (aj rfl) rfl <| gn hK4 ?_; clear h ac; intro ac wo h
 refine ue h rfl ?_ rfl
 refine gz h <| gr fun K5 hK5 => g0 (aj rfl) rfl <| gn hK5 <| gT ?_; clear h ac wo; intro ac wo h
 exact ret h rfl (.tmp rfl .nil) rfl (h.retP (by unfold fK; rfl) (by unfold fK; exact (bY 0 (by decide) (by omega))))
theorem rep0 : fK = 0 := rfl
attribute [irreducible] fK
def m9 (a : Nat) (x : Nat) : Nat :=
 0
def gC (a : Nat) (x : Nat) : Nx Nat Nat :=
 bif (decide ((bp ((be (cX x ((be a x).1)) 2).1) x) ≥ 0)) then
  .ret x
 else
  .go (be (cX x ((be a x).1)) 2).1
def bS (a : Nat) : Nat :=
 bif (decide (a = 0)) then
  0
 else
  fin (bR (fun s => gC a s) (2 + 1) 2) (fun s => m9 a s) (fun r => r)
theorem kJ (a : Nat) (ha4 : a < 4) (za : SzB 30 a) (w0 : World)  : Calls Tryz.prog 286 #[(.string (bs a))] w0 (RetP w0 (.string (bs (bS a))) (SzB 29 (bS a))) := by
 refine enter (N := 50) (args := [(.string (bs a))]) Tryz.func286 rfl rfl ?_; intro ac h
 refine ej fun K1 hK1 => ?_
 refine rd0 h (aj rfl) rfl <| gn hK1 <| gq fun K2 hK2 => gr fun K3 hK3 => g0 (ak rfl) rfl <| g0 (oE rfl rfl (m := a) (n := 0)) rfl <| gn hK3 ?_; clear h ac; intro ac wo h
 refine dA h rfl (fun hc1 => ?_) (fun hc1 => ?_)
 ·skip
  have hd1 := of_decide_eq_true hc1
  refine gz h <| gr fun K4 hK4 => g0 (aj rfl) rfl <| gn hK4 <| gT ?_; clear h ac wo; intro ac wo h
  have hd : bS a = 0 := (cT hc1)
  exact ret h rfl (.tmp rfl .nil) rfl (h.retP (by rw [hd] <;> rfl) (by rw [hd]; exact (bY 0 (by decide) (by omega))))
 ·skip
  have hd1 := of_decide_eq_false hc1
  have ha : 0 < a ∧ a < 4 := ⟨by have := of_decide_eq_false hc1; omega, ha4⟩
  have hsz := rM ha
  have htp := sE ha
  have hla : (le a).length = 1 := by rw [← fm]; exact hsz
  refine gz h <| gS <| gx hK2 <| gr fun K5 hK5 => g0 (ak rfl) rfl <| g0 (mn uu9 rfl) rfl <| g0 (eQ rfl rfl (r := 0) (by rw [hsz]; rfl)) rfl <| g0 (lW rfl rfl (r := 0) rfl) rfl <| g0 (ak rfl) rfl <| g0 (qY uu9 rfl rfl (by omega)) rfl <| gc (bF Tryz.call305 rfl) (kk (Len8_ct (topb a) (by omega))) rfl <| g0 (ch rfl rfl (r := (((Lib.bitLen (topb a)) : Nat) : Int)) (by rw [IntKind.wrap_i64]; omega)) rfl <| g0 (aj rfl) rfl <| gn hK5 <| gr fun K6 hK6 => g0 (ak rfl) rfl <| g0 (ch rfl rfl (r := (((Lib.bitLen (topb a)) + 1 : Nat) : Int)) (by rw [IntKind.wrap_i64]; first | omega | grind)) rfl <| g0 (pI rfl rfl (r := 1) (by first | decide | omega) (by obtain ⟨_, h1, h2⟩ := htp; rw [Int.tdiv_eq_ediv_of_nonneg (by omega), IntKind.wrap_i64]; omega)) rfl <| g0 (aj rfl) rfl <| gn hK6 <| gq fun K7 hK7 => ?_; clear h ac wo; intro ac wo h
  have c1 := lT
  have s1 := Calls.pr (c1 w0)
  replace h := h.emps 1
  refine cZ mixed [⟨.det (.int .i64 1), []⟩, ⟨.det (.int .i64 1), []⟩, ⟨.det (.int .u8 2), []⟩, ⟨.nd (.one 3 fun v => NN v 1), [0]⟩, ⟨.det (.string (bs 2)), [0]⟩, ⟨.det (.int .i64 1), []⟩, ⟨.det (.int .i64 0), []⟩, ⟨.det (.string (bs fK)), []⟩, ⟨.det (.string (bs 2)), []⟩, ⟨.det (.string (bs 2)), []⟩] [⟨.emp, [(3, .one 3 fun v => .row (α := UInt8) 5 v ([2]))]⟩] h rfl (by kernel_rfl) ⟨?_, ?_, ?_, ?_, ?_, ?_, ?_, ?_, ?_, ?_, trivial⟩ ?_
  ·intro ξ hφ; exact aL (ak rfl)
  ·intro ξ hφ; exact aL (iW rfl rfl (r := 1) (by first | decide | omega) rfl)
  ·intro ξ hφ; exact aL (pH rfl rfl (r := 2) (by omega) (by first | decide | (simp [IntKind.bits] <;> omega)) rfl)
  ·intro ξ hφ; exact k7 (ψ := fun v => NN v 1) (B := fun v => [.row (α := UInt8) 5 v ([2])]) [.emp] rfl (fun v _ => by simp only [fc, bE] <;> rfl) (fun v hv => by simpa [DF.one, bE] using hv) (iQ (dq (α := UInt8) (xs := [.tmp 24]) (vs := [(.int .u8 2)]) [2] slt335 rfl rfl rfl (by decide)))
  ·intro ξ hφ; exact cY [.row (α := UInt8) 5 (ξ 3) ([2])] rfl rfl (r_str Tryz.underlying335 Tryz.underlying5 Tryz.underlying9 rfl)
  ·intro ξ hφ; exact aL (ak rfl)
  ·intro ξ hφ; exact aL (pI rfl rfl (r := 0) (by first | decide | omega) rfl)
  ·intro ξ hφ; exact d7 (dy (bF Tryz.call306 rfl) (kk c1))
  ·intro ξ hφ; exact aL (r_catz rep0 rfl rfl (by decide))
  ·intro ξ hφ; exact aL (aj rfl)
  clear h ac wo; intro ξ ac wo hφ h
  replace h : St w0 50 [(0, (.string (bs a))), (4, (.string (bs 2)))] [] ac wo := (h.pick [] (by decide)).sub ⟨rfl, rfl, trivial⟩
  clear hφ ξ
  refine hK7 _ _ ?_
  refine gg ?_
  obtain ⟨X1, hX1⟩ : ∃ X, bR (fun s => gC a s) (2 + 1) 2 = X := ⟨_, rfl⟩
  refine wp_loop_ghost (fun n_ a_ w_ => ∃ (x : Nat), (x < n_) ∧ (bR (fun s => gC a s) n_ x = X1) ∧ (SzB 29 x) ∧ (x = 2 ∨ x = 1) ∧ St w0 50 [(0, (.string (bs a))), (4, (.string (bs x)))] [] a_ w_) (2 + 1) ⟨2, (by omega), hX1, (bY 2 (by decide) (by omega)), (Or.inl rfl), (h.sub ⟨rfl, rfl, trivial⟩)⟩ ?_
  clear h ac wo; rintro n1 ac wo ⟨x, hm1, hL1, zx, hx, h⟩
  obtain ⟨m1, rfl⟩ : ∃ m, n1 = m + 1 := ⟨n1 - 1, by omega⟩
  have c2 := iK a x 29 (by omega) (SzB_le za (by omega)) zx (by omega)
  have s2 := aF (c2 w0)
  have c3 := gU x ((be a x).1) 28 (by omega) zx s2.1
  have s3 := aF (c3 w0)
  have c4 := iK (cX x ((be a x).1)) 2 28 (by omega) s3 (bY 2 (by decide) (by omega)) (by omega)
  have s4 := aF (c4 w0)
  refine gz h <| gB <| gr fun K8 hK8 => g0 (ak rfl) rfl <| g0 (ak rfl) rfl <| gc (bF Tryz.call232 rfl) (kk c2) rfl <| g0 (ak rfl) rfl <| g0 (bf rfl rfl) rfl <| g0 (bf rfl rfl) rfl <| g0 (aj rfl) rfl <| g0 (aj rfl) rfl <| gn hK8 <| gr fun K9 hK9 => g0 (ak rfl) rfl <| g0 (ak rfl) rfl <| gc (bF Tryz.call193 rfl) (kk c3) rfl <| gc (bF Tryz.call232 rfl) (kk c4) rfl <| g0 (ak rfl) rfl <| g0 (bf rfl rfl) rfl <| g0 (bf rfl rfl) rfl <| g0 (aj rfl) rfl <| g0 (aj rfl) rfl <| gn hK9 ?_; clear h ac wo; intro ac wo h
  replace h := h.sub (F' := [(0, (.string (bs a))), (4, (.string (bs x))), (7, (.string (bs ((be (cX x ((be a x).1)) 2).1))))]) ⟨rfl, rfl, rfl, trivial⟩
  have p6 := aF ((ef ((be (cX x ((be a x).1)) 2).1) x) w0)
  refine gz h <| gq fun K10 hK10 => gr fun K11 hK11 => g0 (ak rfl) rfl <| g0 (ak rfl) rfl <| gc (bF Tryz.call194 rfl) (kk (ef ((be (cX x ((be a x).1)) 2).1) x)) rfl <| g0 (oC rfl rfl) rfl <| gn hK11 ?_; clear h ac wo; intro ac wo h
  refine dA h rfl (fun hc2 => ?_) (fun hc2 => ?_)
  ·skip
   have hd2 := of_decide_eq_true hc2
   refine gz h <| gr fun K12 hK12 => g0 (ak rfl) rfl <| g0 (aj rfl) rfl <| gn hK12 <| gT ?_; clear h ac wo; intro ac wo h
   have hr1 := gj hL1 (show gC a x = .ret x from (cT hc2))
   have hd : bS a = x := (Eq.trans (cF hc1) (kq (hX1.trans hr1)))
   exact ret h rfl (.tmp rfl .nil) rfl (h.retP (by rw [hd] <;> rfl) (by rw [hd]; exact zx))
  ·skip
   have hd2 := of_decide_eq_false hc2
   refine gz h <| gS <| gx hK10 <| gR <| g0 (ak rfl) rfl <| g0 (aj rfl) rfl <| gx (fun _ _ => bV) <| gN ?_; clear h ac wo; intro ac wo h
   have hzn : SzB 29 ((be (cX x ((be a x).1)) 2).1) := root_sz ha hx hc2
   have hln : (be (cX x ((be a x).1)) 2).1 < x := root_lt ha hx hc2
   exact aU ⟨m1, (by omega), _, (by first | omega | grind), co hL1 (show gC a x = .go _ from (cF hc2)), hzn, (pG ha hx hc2), (h.pick [] (by decide)).sub ⟨rfl, rfl, trivial⟩⟩
attribute [irreducible] bS
end Go.Sx
namespace Go.Sx
def RtR (x : GR) : Prop := x.r = (⟨(⟨false, 0⟩ : GI), (⟨false, 0⟩ : GI)⟩ : GQ) ∨ x.r = ap 2
def RtV (i : Iv) : Prop := RtR i.lo ∧ RtR i.hi
theorem tR {a : GQ} (h : a.den = ⟨false, 0⟩) : 0 < (aa a).mag ∧ (aa a).mag < 4 := by
 have : aa a = rational_one := by unfold aa; rw [h]; rfl
 rw [this]; decide +kernel
theorem root_pre {x : GR} (h : RtR x) (hs : (aT x.r == 0) = false) : x.r.num.mag = 2 ∧ x.r.den = ⟨false, 0⟩ := by
 rcases h with h | h
 ·rw [h] at hs; exact absurd hs (by decide +kernel)
 ·rw [h]; decide +kernel
end Go.Sx
namespace Go.Sx
open Go Go.RowKit Go.Proofs
set_option maxRecDepth 100000
set_option maxHeartbeats 40000000
attribute [local irreducible] aE bM ap aT aJ dF
def gH (a : GI) : Int :=
 bif (((decide (a.mag = 0)) && a.neg) || ((!(decide (a.mag = 0))) && (((((topb a.mag) : Nat) : Int)) == (((0 : Nat) : Int))))) then
  5
 else
  0
theorem kh (a : GI) (za : SzI 16 a) (w0 : World)  : Calls Tryz.prog 157 #[(vI a)] w0 (RetP w0 (.int .i64 (gH a)) (True)) := by
 refine enter (N := 21) (args := [(vI a)]) Tryz.func157 rfl rfl ?_; intro ac h
 refine ej fun K1 hK1 => ?_
 refine bx h (cI a) rfl rfl rfl fun b1 => g0 (aj rfl) rfl <| gn hK1 <| gq fun K2 hK2 => gr fun K3 hK3 => g0 (fa uu25 rfl zz9 rfl rfl rfl (k' := 1)) rfl <| g1 0 rfl (ba aa9 zz9 rfl rfl rfl (v := (.string (bs a.mag))) rfl) rfl <| g0 (oE rfl rfl (m := a.mag) (n := 0)) rfl <| g0 (ak rfl) rfl <| ge1 rfl rfl (fun hg => (Rd.of_nil (fa uu25 rfl zz4 rfl rfl rfl (k' := 0))).step) rfl <| ge1 rfl rfl (fun hg => (Rd.of_mem (i := 0) (ba aa4 zz4 (aN rfl hg) rfl rfl (v := (.bool a.neg)) rfl) rfl).step) rfl <| g0 (fw rfl (fun e => (aN rfl e))) rfl <| g0 (ak rfl) rfl <| ge2 rfl rfl (fun hg => (Rd.of_nil (fa uu25 rfl zz9 rfl rfl rfl (k' := 1))).step) rfl <| ge2 rfl rfl (fun hg => (Rd.of_mem (i := 0) (ba aa9 zz9 (aN rfl hg) rfl rfl (v := (.string (bs a.mag))) rfl) rfl).step) rfl <| ge2 rfl rfl (fun hg => (Rd.of_nil (mV (aN rfl hg) rfl (m := a.mag) (n := 0))).step) rfl <| ge2 rfl rfl (fun hg => (Rd.of_nil (ak (aN rfl hg))).step) rfl <| ge3 rfl rfl (fun hg => (Rd.of_nil (fa uu25 rfl zz9 rfl rfl rfl (k' := 1))).step) rfl <| ge3 rfl rfl (fun hg => (Rd.of_mem (i := 0) (ba aa9 zz9 (aN rfl hg) rfl rfl (v := (.string (bs a.mag))) rfl) rfl).step) rfl <| ge3 rfl rfl (fun hg => (Rd.of_nil (qY uu9 (aN rfl hg) rfl (by first | omega | (simp at hg; omega) | grind))).step) rfl <| ge3 rfl rfl (fun hg => (Rd.of_nil (fV (aN rfl hg) rfl (m := (((topb a.mag) : Nat) : Int)) (n := ((0 : Nat) : Int)))).step) rfl <| ge2 rfl rfl (fun hg => (Rd.of_nil (fw (aN rfl hg) (fun e => (aN rfl (andI hg e))))).step) rfl <| g0 (nU rfl (fun e => (aN rfl (n7 e)))) rfl <| gn hK3 ?_; clear h ac; intro ac wo h
 replace h := h.sub (F' := [(20, (.bool (((decide (a.mag = 0)) && a.neg) || ((!(decide (a.mag = 0))) && (((((topb a.mag) : Nat) : Int)) == (((0 : Nat) : Int)))))))]) ⟨rfl, trivial⟩
 refine dA h rfl (fun hc1 => ?_) (fun hc1 => ?_)
 ·
  have hq1 := hc1; try simp at hq1
  refine gz h <| gr fun K4 hK4 => g0 (aj rfl) rfl <| gn hK4 <| gT ?_; clear h ac wo; intro ac wo h
  have hd : gH a = 5 := (cT hc1)
  exact ret h rfl (.tmp rfl .nil) rfl (h.retP (by rw [hd] <;> rfl) trivial)
 ·
  have hq1 := hc1; try simp at hq1
  refine gz h <| gS <| gx hK2 <| gr fun K5 hK5 => g0 (aj rfl) rfl <| gn hK5 <| gT ?_; clear h ac wo; intro ac wo h
  have hd : gH a = 0 := (cF hc1)
  exact ret h rfl (.tmp rfl .nil) rfl (h.retP (by rw [hd] <;> rfl) trivial)
attribute [irreducible] gH
def fi (a : GQ) : Int :=
 bif (((gH a.num) != 0) || ((gH a.den) != 0)) then
  5
 else
  bif (decide (a.den = (⟨false, 0⟩ : GI))) then
   0
  else
   bif ((decide ((bk a.den rational_one) ≤ 0)) || (!(decide ((aP a.num a.den) = rational_one)))) then
    5
   else
    0
theorem jL (a : GQ) (za : SzQ 16 a) (w0 : World)  : Calls Tryz.prog 62 #[(vQ a)] w0 (RetP w0 (.int .i64 (fi a)) (True)) := by
 refine enter (N := 31) (args := [(vQ a)]) Tryz.func62 rfl rfl ?_; intro ac h
 refine ej fun K1 hK1 => ?_
 refine bx h (cQ a) rfl rfl rfl fun b1 => g0 (aj rfl) rfl <| gn hK1 <| gq fun K2 hK2 => gr fun K3 hK3 => g0 (fa uu27 rfl zz25 rfl rfl rfl (k' := 0)) rfl <| g1 0 rfl (ba aa25 zz25 rfl rfl rfl (v := (vI a.num)) rfl) rfl <| gc (bF Tryz.call157 rfl) (kk (kh a.num za.1)) rfl <| g0 (jB rfl rfl) rfl <| g0 (ak rfl) rfl <| ge2 rfl rfl (fun hg => (Rd.of_nil (fa uu27 rfl zz25 rfl rfl rfl (k' := 2))).step) rfl <| ge2 rfl rfl (fun hg => (Rd.of_mem (i := 0) (ba aa25 zz25 (aN rfl hg) rfl rfl (v := (vI a.den)) rfl) rfl).step) rfl <| ge2 rfl rfl (fun hg => dy (bF Tryz.call157 (cH (aN rfl hg) rfl)) (kk (kh a.den za.2))) rfl <| ge2 rfl rfl (fun hg => (Rd.of_nil (jB (aN rfl hg) rfl)).step) rfl <| g0 (nU rfl (fun e => (aN rfl (n7 e)))) rfl <| gn hK3 ?_; clear h ac; intro ac wo h
 refine dA h rfl (fun hc1 => ?_) (fun hc1 => ?_)
 ·skip
  have hq1 := hc1; try simp at hq1
  refine gz h <| gr fun K4 hK4 => g0 (aj rfl) rfl <| gn hK4 <| gT ?_; clear h ac wo; intro ac wo h
  have hd : fi a = 5 := (cT hc1)
  exact ret h rfl (.tmp rfl .nil) rfl (h.retP (by rw [hd] <;> rfl) trivial)
 ·skip
  have hq1 := hc1; try simp at hq1
  refine gz h <| gS <| gx hK2 <| gq fun K5 hK5 => gr fun K6 hK6 => g0 (fa uu27 rfl zz25 rfl rfl rfl (k' := 2)) rfl <| g1 0 rfl (ba aa25 zz25 rfl rfl rfl (v := (vI a.den)) rfl) rfl <| g0 (cg nQ rfl rfl (v := (vI (⟨false, 0⟩ : GI))) rfl) rfl <| g0 (il r6 rfl rfl) rfl <| gn hK6 ?_; clear h ac wo; intro ac wo h
  replace h := h.sub (F' := [(1, (ptr b1 0)), (16, (.bool (decide (a.den = (⟨false, 0⟩ : GI)))))]) ⟨rfl, rfl, trivial⟩
  refine dA h rfl (fun hc2 => ?_) (fun hc2 => ?_)
  ·skip
   have hd2 := of_decide_eq_true hc2
   refine gz h <| gr fun K7 hK7 => g0 (aj rfl) rfl <| gn hK7 <| gT ?_; clear h ac wo; intro ac wo h
   have hd : fi a = 0 := (Eq.trans (cF hc1) (cT hc2))
   exact ret h rfl (.tmp rfl .nil) rfl (h.retP (by rw [hd] <;> rfl) trivial)
  ·skip
   have hd2 := of_decide_eq_false hc2
   refine eL ?_
   refine hK5 _ _ ?_
   refine dV fun K8 hK8 => ?_
   refine dV fun K9 hK9 => ?_
   have c1 := e8  40 (by omega) 
   have s1 := aF (c1 w0)
   have p3 := aF ((gk a.den rational_one 16 (by omega) za.2 (fH s1 (by omega))) w0)
   have s4 := aF ((iL a.num a.den 16 (by omega) za.1 za.2) w0)
   have s5 := aF ((e8  40 (by omega) ) w0)
   refine cZ mixed [⟨.det (ptr b1 2), []⟩, ⟨.det (vI a.den), [0]⟩, ⟨.det (vI rational_one), []⟩, ⟨.det (.int .i64 (bk a.den rational_one)), []⟩, ⟨.det (.bool (decide ((bk a.den rational_one) ≤ 0))), []⟩, ⟨.det (.bool (decide ((bk a.den rational_one) ≤ 0))), []⟩, ⟨.det (gv (!(decide ((bk a.den rational_one) ≤ 0))) (ptr b1 0)), []⟩, ⟨.det (gv (!(decide ((bk a.den rational_one) ≤ 0))) (vI a.num)), [0]⟩, ⟨.det (gv (!(decide ((bk a.den rational_one) ≤ 0))) (ptr b1 2)), []⟩, ⟨.det (gv (!(decide ((bk a.den rational_one) ≤ 0))) (vI a.den)), [0]⟩, ⟨.det (gv (!(decide ((bk a.den rational_one) ≤ 0))) (vI (aP a.num a.den))), []⟩, ⟨.det (gv (!(decide ((bk a.den rational_one) ≤ 0))) (vI rational_one)), []⟩, ⟨.det (gv (!(decide ((bk a.den rational_one) ≤ 0))) (.bool (!(decide ((aP a.num a.den) = rational_one))))), []⟩, ⟨.det (.bool ((decide ((bk a.den rational_one) ≤ 0)) || (!(decide ((aP a.num a.den) = rational_one))))), []⟩] [⟨.blk b1 (cQ a) 27, []⟩] h rfl (by kernel_rfl) ⟨?_, ?_, ?_, ?_, ?_, ?_, ?_, ?_, ?_, ?_, ?_, ?_, ?_, ?_, trivial⟩ ?_
   ·intro ξ hφ; exact aL (fa uu27 rfl zz25 rfl rfl rfl (k' := 2))
   ·intro ξ hφ; exact cY [.blk b1 (cQ a) 27] rfl rfl (ba aa25 zz25 rfl rfl rfl (v := (vI a.den)) rfl)
   ·intro ξ hφ; exact d7 (dy (bF Tryz.call159 rfl) (kk c1))
   ·intro ξ hφ; exact d7 (dy (bF Tryz.call158 rfl) (kk (gk a.den rational_one 16 (by omega) za.2 (fH s1 (by omega)))))
   ·intro ξ hφ; exact aL (pK rfl rfl)
   ·intro ξ hφ; exact aL (ak rfl)
   ·intro ξ hφ; exact jo (c := true) (b := (decide ((bk a.den rational_one) ≤ 0))) (g := (!(decide ((bk a.den rational_one) ≤ 0)))) [] rfl rfl rfl rfl g_f (fun hg => Rd.step (fa uu27 rfl zz25 rfl rfl rfl (k' := 0)))
   ·intro ξ hφ; exact jo (c := true) (b := (decide ((bk a.den rational_one) ≤ 0))) (g := (!(decide ((bk a.den rational_one) ≤ 0)))) [.blk b1 (cQ a) 27] rfl rfl rfl rfl g_f (fun hg => Rd.step (ba aa25 zz25 (aN rfl hg) rfl rfl (v := (vI a.num)) rfl))
   ·intro ξ hφ; exact jo (c := true) (b := (decide ((bk a.den rational_one) ≤ 0))) (g := (!(decide ((bk a.den rational_one) ≤ 0)))) [] rfl rfl rfl rfl g_f (fun hg => Rd.step (fa uu27 rfl zz25 rfl rfl rfl (k' := 2)))
   ·intro ξ hφ; exact jo (c := true) (b := (decide ((bk a.den rational_one) ≤ 0))) (g := (!(decide ((bk a.den rational_one) ≤ 0)))) [.blk b1 (cQ a) 27] rfl rfl rfl rfl g_f (fun hg => Rd.step (ba aa25 zz25 (aN rfl hg) rfl rfl (v := (vI a.den)) rfl))
   ·intro ξ hφ; exact jo (c := true) (b := (decide ((bk a.den rational_one) ≤ 0))) (g := (!(decide ((bk a.den rational_one) ≤ 0)))) [] rfl rfl rfl rfl g_f (fun hg => dy (bF Tryz.call160 (cH (aN rfl hg) (cH (aN rfl hg) rfl))) (kk (iL a.num a.den 16 (by omega) za.1 za.2)))
   ·intro ξ hφ; exact jo (c := true) (b := (decide ((bk a.den rational_one) ≤ 0))) (g := (!(decide ((bk a.den rational_one) ≤ 0)))) [] rfl rfl rfl rfl g_f (fun hg => dy (bF Tryz.call159 rfl) (kk (e8  40 (by omega) )))
   ·intro ξ hφ; exact jo (c := true) (b := (decide ((bk a.den rational_one) ≤ 0))) (g := (!(decide ((bk a.den rational_one) ≤ 0)))) [] rfl rfl rfl rfl g_f (fun hg => Rd.step (nW r6 (aN rfl hg) (aN rfl hg)))
   ·intro ξ hφ; exact aL (nU rfl (fun e => (aN rfl (n7 e))))
   clear h ac wo; intro ξ ac wo hφ h
   replace h : St w0 31 [(30, (.bool ((decide ((bk a.den rational_one) ≤ 0)) || (!(decide ((aP a.num a.den) = rational_one))))))] [.blk b1 (cQ a) 27] ac wo := (h.pick [0] (by decide)).sub ⟨rfl, trivial⟩
   clear hφ ξ
   refine hK9 _ _ ?_
   refine dA h rfl (fun hc3 => ?_) (fun hc3 => ?_)
   ·skip
    have hq3 := hc3; try simp at hq3
    refine gz h <| gr fun K10 hK10 => g0 (aj rfl) rfl <| gn hK10 <| gT ?_; clear h ac wo; intro ac wo h
    have hd : fi a = 5 := (Eq.trans (cF hc1) (Eq.trans (cF hc2) (cT hc3)))
    exact ret h rfl (.tmp rfl .nil) rfl (h.retP (by rw [hd] <;> rfl) trivial)
   ·skip
    have hq3 := hc3; try simp at hq3
    refine gz h <| gS <| gx hK8 <| gr fun K11 hK11 => g0 (aj rfl) rfl <| gn hK11 <| gT ?_; clear h ac wo; intro ac wo h
    have hd : fi a = 0 := (Eq.trans (cF hc1) (Eq.trans (cF hc2) (cF hc3)))
    exact ret h rfl (.tmp rfl .nil) rfl (h.retP (by rw [hd] <;> rfl) trivial)
attribute [irreducible] fi
end Go.Sx
namespace Go.Sx
open Go Go.RowKit Go.Proofs
set_option maxRecDepth 100000
set_option maxHeartbeats 40000000
attribute [local irreducible] aE bM ap aT aJ dF
def ay (i : Iv) : Bd :=
 (⟨i.lo, i.openLo⟩ : Bd)
theorem em (i : Iv) (zi : SzV 30 i) (w0 : World)  : Calls Tryz.prog 136 #[(vV i)] w0 (RetP w0 (vW (ay i)) (SzW 30 (ay i))) := by
 refine enter (N := 8) (args := [(vV i)]) Tryz.func136 rfl rfl ?_; intro ac h
 refine ej fun K1 hK1 => ?_
 refine bx h (cV i) rfl rfl rfl fun b1 => ga (cW (⟨(⟨oQ, oQ, false⟩ : GR), false⟩ : Bd)) vv206 rfl rfl fun b2 => gn hK1 <| gr fun K2 hK2 => g0 (fa uu86 rfl zz71 rfl rfl rfl (k' := 0)) rfl <| g1 1 rfl (ba aa71 zz71 rfl rfl rfl (v := (vR i.lo)) rfl) rfl <| g0 (fa uu86 rfl zz4 rfl rfl rfl (k' := 18)) rfl <| g1 1 rfl (ba aa4 zz4 rfl rfl rfl (v := (.bool i.openLo)) rfl) rfl <| g0 (cg rz rfl rfl (v := (vW (⟨i.lo, i.openLo⟩ : Bd))) rfl) rfl <| gs 0 (cW (⟨i.lo, i.openLo⟩ : Bd)) rfl zz206 rfl rfl rfl rfl rfl rfl rfl <| gn hK2 <| gT ?_; clear h ac; intro ac wo h
 exact ret h rfl (.cell (v := (vW (⟨i.lo, i.openLo⟩ : Bd))) rfl (i := 0) rfl Tryz.isAgg206 zz206 rfl rfl rfl .nil) rfl (h.retP (by unfold ay; rfl) (by unfold ay; exact zi.1))
attribute [irreducible] ay
def aI (i : Iv) : Bd :=
 (⟨i.hi, (!i.openHi)⟩ : Bd)
theorem eE (i : Iv) (zi : SzV 30 i) (w0 : World)  : Calls Tryz.prog 137 #[(vV i)] w0 (RetP w0 (vW (aI i)) (SzW 30 (aI i))) := by
 refine enter (N := 9) (args := [(vV i)]) Tryz.func137 rfl rfl ?_; intro ac h
 refine ej fun K1 hK1 => ?_
 refine bx h (cV i) rfl rfl rfl fun b1 => ga (cW (⟨(⟨oQ, oQ, false⟩ : GR), false⟩ : Bd)) vv206 rfl rfl fun b2 => gn hK1 <| gr fun K2 hK2 => g0 (fa uu86 rfl zz71 rfl rfl rfl (k' := 9)) rfl <| g1 1 rfl (ba aa71 zz71 rfl rfl rfl (v := (vR i.hi)) rfl) rfl <| g0 (fa uu86 rfl zz4 rfl rfl rfl (k' := 19)) rfl <| g1 1 rfl (ba aa4 zz4 rfl rfl rfl (v := (.bool i.openHi)) rfl) rfl <| g0 (gG rfl) rfl <| g0 (cg rz rfl rfl (v := (vW (⟨i.hi, (!i.openHi)⟩ : Bd))) rfl) rfl <| gs 0 (cW (⟨i.hi, (!i.openHi)⟩ : Bd)) rfl zz206 rfl rfl rfl rfl rfl rfl rfl <| gn hK2 <| gT ?_; clear h ac; intro ac wo h
 exact ret h rfl (.cell (v := (vW (⟨i.hi, (!i.openHi)⟩ : Bd))) rfl (i := 0) rfl Tryz.isAgg206 zz206 rfl rfl rfl .nil) rfl (h.retP (by unfold aI; rfl) (by unfold aI; exact zi.2))
attribute [irreducible] aI
def aR (a : Bd) (b : Bd) : Int :=
 bif ((aE a.at_ b.at_) != 0) then
  (aE a.at_ b.at_)
 else
  bif (a.behind == b.behind) then
   0
  else
   bif b.behind then
    (-1)
   else
    1
theorem dD (a : Bd) (b : Bd) (za : SzW 30 a) (zb : SzW 30 b) (w0 : World)  : Calls Tryz.prog 135 #[(vW a), (vW b)] w0 (RetP w0 (.int .i64 (aR a b)) ((-1 ≤ (aR a b) ∧ (aR a b) ≤ 1))) := by
 refine enter (N := 23) (args := [(vW a), (vW b)]) Tryz.func135 rfl rfl ?_; intro ac h
 have p2 := aF ((bQ a.at_ b.at_ 10 (by omega) za zb) w0)
 refine ej fun K1 hK1 => ?_
 refine bx h (cW a) rfl rfl rfl fun b1 => gb (cW b) rfl rfl rfl fun b2 => g0 (aj rfl) rfl <| gn hK1 <| gq fun K2 hK2 => gr fun K3 hK3 => g0 (fa uu206 rfl zz71 rfl rfl rfl (k' := 0)) rfl <| g1 1 rfl (ba aa71 zz71 rfl rfl rfl (v := (vR a.at_)) rfl) rfl <| g0 (fa uu206 rfl zz71 rfl rfl rfl (k' := 0)) rfl <| g1 0 rfl (ba aa71 zz71 rfl rfl rfl (v := (vR b.at_)) rfl) rfl <| gc (bF Tryz.call127 rfl) (kk (bQ a.at_ b.at_ 10 (by omega) za zb)) rfl <| g0 (aj rfl) rfl <| gn hK3 <| gr fun K4 hK4 => g0 (ak rfl) rfl <| g0 (jB rfl rfl) rfl <| gn hK4 ?_; clear h ac; intro ac wo h
 refine dA h rfl (fun hc1 => ?_) (fun hc1 => ?_)
 ·
  have hq1 := hc1; try simp at hq1
  refine gz h <| gr fun K5 hK5 => g0 (ak rfl) rfl <| g0 (aj rfl) rfl <| gn hK5 <| gT ?_; clear h ac wo; intro ac wo h
  have hd : aR a b = (aE a.at_ b.at_) := (cT hc1)
  exact ret h rfl (.tmp rfl .nil) rfl (h.retP (by rw [hd] <;> rfl) (by rw [hd]; exact (by first | omega | grind)))
 ·
  have hq1 := hc1; try simp at hq1
  refine gz h <| gS <| gx hK2 <| gq fun K6 hK6 => gB <| gr fun K7 hK7 => g0 (fa uu206 rfl zz4 rfl rfl rfl (k' := 9)) rfl <| g1 1 rfl (ba aa4 zz4 rfl rfl rfl (v := (.bool a.behind)) rfl) rfl <| g0 (fa uu206 rfl zz4 rfl rfl rfl (k' := 9)) rfl <| g1 0 rfl (ba aa4 zz4 rfl rfl rfl (v := (.bool b.behind)) rfl) rfl <| g0 (sT Tryz.underlying4 rfl rfl) rfl <| g0 (aj rfl) rfl <| gn hK7 ?_; clear h ac wo; intro ac wo h
  replace h := h.sub (F' := [(3, (ptr b2 0)), (14, (.bool (a.behind == b.behind)))]) ⟨rfl, rfl, trivial⟩
  refine dA h rfl (fun hc2 => ?_) (fun hc2 => ?_)
  ·
   have hd2 := eq_of_beq hc2
   refine gz h <| gr fun K8 hK8 => g0 (aj rfl) rfl <| gn hK8 <| gT ?_; clear h ac wo; intro ac wo h
   have hd : aR a b = 0 := (Eq.trans (cF hc1) (cT hc2))
   exact ret h rfl (.tmp rfl .nil) rfl (h.retP (by rw [hd] <;> rfl) (by rw [hd]; exact (by first | omega | grind)))
  ·
   have hd2 := ne_of_beq_false hc2
   refine gz h <| gr fun K9 hK9 => g0 (fa uu206 rfl zz4 rfl rfl rfl (k' := 9)) rfl <| g1 0 rfl (ba aa4 zz4 rfl rfl rfl (v := (.bool b.behind)) rfl) rfl <| g0 (aj rfl) rfl <| gn hK9 ?_; clear h ac wo; intro ac wo h
   refine dA h rfl (fun hc3 => ?_) (fun hc3 => ?_)
   ·
    have hq3 := hc3; try simp at hq3
    refine gz h <| gr fun K10 hK10 => g0 (aj rfl) rfl <| gn hK10 <| gT ?_; clear h ac wo; intro ac wo h
    have hd : aR a b = (-1) := (Eq.trans (cF hc1) (Eq.trans (cF hc2) (cT hc3)))
    exact ret h rfl (.tmp rfl .nil) rfl (h.retP (by rw [hd] <;> rfl) (by rw [hd]; exact (by first | omega | grind)))
   ·
    have hq3 := hc3; try simp at hq3
    refine gz h <| gS <| gN <| gx hK6 <| gr fun K11 hK11 => g0 (aj rfl) rfl <| gn hK11 <| gT ?_; clear h ac wo; intro ac wo h
    have hd : aR a b = 1 := (Eq.trans (cF hc1) (Eq.trans (cF hc2) (cF hc3)))
    exact ret h rfl (.tmp rfl .nil) rfl (h.retP (by rw [hd] <;> rfl) (by rw [hd]; exact (by first | omega | grind)))
attribute [irreducible] aR
end Go.Sx
namespace Go.Sx
open Go Go.RowKit Go.Proofs
set_option maxRecDepth 100000
set_option maxHeartbeats 40000000
attribute [local irreducible] aE bM ap aT aJ dF
def bG (a : GI) : GI × Bool :=
 bif a.neg then
  ((⟨false, 0⟩ : GI), false)
 else
  bif (!(decide ((ec (bS a.mag) (bS a.mag)) = a.mag))) then
   ((⟨false, 0⟩ : GI), false)
  else
   ((aM false (bS a.mag)), true)
theorem jk (a : GI) (ha : 0 < a.mag ∧ a.mag < 4) (za : SzI 30 a) (w0 : World)  : Calls Tryz.prog 276 #[(vI a)] w0 (RetP w0 (.tuple #[(vI ((bG a).1)), (.bool ((bG a).2))]) (SzI 28 ((bG a).1))) := by
 refine enter (N := 20) (args := [(vI a)]) Tryz.func276 rfl rfl ?_; intro ac h
 refine ej fun K1 hK1 => ?_
 refine bx h (cI a) rfl rfl rfl fun b1 => ga (cI (⟨false, 0⟩ : GI)) vv25 rfl rfl fun b2 => g0 (aj rfl) rfl <| gn hK1 <| gq fun K2 hK2 => gr fun K3 hK3 => g0 (fa uu25 rfl zz4 rfl rfl rfl (k' := 0)) rfl <| g1 1 rfl (ba aa4 zz4 rfl rfl rfl (v := (.bool a.neg)) rfl) rfl <| gn hK3 ?_; clear h ac; intro ac wo h
 refine dA h rfl (fun hc1 => ?_) (fun hc1 => ?_)
 ·skip
  have hq1 := hc1; try simp at hq1
  refine gz h <| gr fun K4 hK4 => g0 (cg nQ rfl rfl (v := (vI (⟨false, 0⟩ : GI))) rfl) rfl <| gs 0 (cI (⟨false, 0⟩ : GI)) rfl zz25 rfl rfl rfl rfl rfl rfl rfl <| g0 (aj rfl) rfl <| gn hK4 <| gT ?_; clear h ac wo; intro ac wo h
  have hd : bG a = ((⟨false, 0⟩ : GI), false) := (cT hc1)
  exact ret h rfl (.cell (v := (vI (⟨false, 0⟩ : GI))) rfl (i := 0) rfl aa25 zz25 rfl rfl rfl (.tmp rfl .nil)) rfl (h.retP (by rw [hd] <;> rfl) (by rw [hd]; exact (bY 0 (by decide) (by omega))))
 ·skip
  have hq1 := hc1; try simp at hq1
  have c1 := kJ a.mag ha.2 za
  have s1 := Calls.pr (c1 w0)
  refine gz h <| gS <| gx hK2 <| gr fun K5 hK5 => g0 (fa uu25 rfl zz9 rfl rfl rfl (k' := 1)) rfl <| g1 1 rfl (ba aa9 zz9 rfl rfl rfl (v := (.string (bs a.mag))) rfl) rfl <| gc (bF Tryz.call286 rfl) (kk c1) rfl <| g0 (aj rfl) rfl <| gn hK5 <| gq fun K6 hK6 => gq fun K7 hK7 => ?_; clear h ac wo; intro ac wo h
  have c2 := jF (bS a.mag) (bS a.mag) 28 (by omega) s1 s1
  have s2 := aF (c2 w0)
  refine cZ mixed [⟨.det (.string (bs (bS a.mag))), []⟩, ⟨.det (.string (bs (bS a.mag))), []⟩, ⟨.det (.string (bs (ec (bS a.mag) (bS a.mag)))), []⟩, ⟨.det (ptr b1 1), []⟩, ⟨.det (.string (bs a.mag)), [1]⟩, ⟨.det (.bool (!(decide ((ec (bS a.mag) (bS a.mag)) = a.mag)))), []⟩] [⟨.blk b2 (cI (⟨false, 0⟩ : GI)) 25, []⟩, ⟨.blk b1 (cI a) 25, []⟩] h rfl (by kernel_rfl) ⟨?_, ?_, ?_, ?_, ?_, ?_, trivial⟩ ?_
  ·intro ξ hφ; exact aL (ak rfl)
  ·intro ξ hφ; exact aL (ak rfl)
  ·intro ξ hφ; exact d7 (dy (bF Tryz.call196 rfl) (kk c2))
  ·intro ξ hφ; exact aL (fa uu25 rfl zz9 rfl rfl rfl (k' := 1))
  ·intro ξ hφ; exact cY [.blk b1 (cI a) 25] rfl rfl (ba aa9 zz9 rfl rfl rfl (v := (.string (bs a.mag))) rfl)
  ·intro ξ hφ; exact aL (mV rfl rfl (m := (ec (bS a.mag) (bS a.mag))) (n := a.mag))
  clear h ac wo; intro ξ ac wo hφ h
  replace h : St w0 20 [(2, (ptr b2 0)), (4, (.string (bs (bS a.mag)))), (16, (.bool (!(decide ((ec (bS a.mag) (bS a.mag)) = a.mag)))))] [.blk b2 (cI (⟨false, 0⟩ : GI)) 25, .blk b1 (cI a) 25] ac wo := (h.pick [0, 1] (by decide)).sub ⟨rfl, rfl, rfl, trivial⟩
  clear hφ ξ
  refine hK7 _ _ ?_
  refine dA h rfl (fun hc2 => ?_) (fun hc2 => ?_)
  ·skip
   have hq2 := hc2; try simp at hq2
   refine gz h <| gr fun K8 hK8 => g0 (cg nQ rfl rfl (v := (vI (⟨false, 0⟩ : GI))) rfl) rfl <| gs 0 (cI (⟨false, 0⟩ : GI)) rfl zz25 rfl rfl rfl rfl rfl rfl rfl <| g0 (aj rfl) rfl <| gn hK8 <| gT ?_; clear h ac wo; intro ac wo h
   have hd : bG a = ((⟨false, 0⟩ : GI), false) := (Eq.trans (cF hc1) (cT hc2))
   exact ret h rfl (.cell (v := (vI (⟨false, 0⟩ : GI))) rfl (i := 0) rfl aa25 zz25 rfl rfl rfl (.tmp rfl .nil)) rfl (h.retP (by rw [hd] <;> rfl) (by rw [hd]; exact (bY 0 (by decide) (by omega))))
  ·skip
   have hq2 := hc2; try simp at hq2
   have c3 := cx false (bS a.mag) 29 (by omega) s1
   have s3 := aF (c3 w0)
   refine gz h <| gS <| gx hK6 <| gr fun K9 hK9 => g0 (ak rfl) rfl <| gc (bF Tryz.call190 rfl) (kk c3) rfl <| gs 0 (cI (aM false (bS a.mag))) rfl zz25 rfl rfl rfl rfl rfl rfl rfl <| g0 (aj rfl) rfl <| gn hK9 <| gT ?_; clear h ac wo; intro ac wo h
   have hd : bG a = ((aM false (bS a.mag)), true) := (Eq.trans (cF hc1) (cF hc2))
   exact ret h rfl (.cell (v := (vI (aM false (bS a.mag)))) rfl (i := 0) rfl aa25 zz25 rfl rfl rfl (.tmp rfl .nil)) rfl (h.retP (by rw [hd] <;> rfl) (by rw [hd]; exact (fH s3 (by omega))))
attribute [irreducible] bG
def fA (a : GQ) : GQ × Bool :=
 bif ((!(bG a.num).2) || (!(bG (aa a)).2)) then
  ((⟨(⟨false, 0⟩ : GI), (⟨false, 0⟩ : GI)⟩ : GQ), false)
 else
  ((br ((bG a.num).1) ((bG (aa a)).1)), true)
theorem mv (a : GQ) (ha : a.num.mag = 2 ∧ a.den = ⟨false, 0⟩) (za : SzQ 30 a) (w0 : World)  : Calls Tryz.prog 219 #[(vQ a)] w0 (RetP w0 (.tuple #[(vQ ((fA a).1)), (.bool ((fA a).2))]) (SzQ 20 ((fA a).1))) := by
 refine enter (N := 30) (args := [(vQ a)]) Tryz.func219 rfl rfl ?_; intro ac h
 have c1 := jk a.num (by omega) za.1
 have s1 := Calls.pr (c1 w0)
 have c2 := cw a 30 (by omega) za
 have s2 := aF (c2 w0)
 have c3 := jk (aa a) (tR ha.2) s2
 have s3 := Calls.pr (c3 w0)
 refine ej fun K1 hK1 => ?_
 refine bx h (cQ a) rfl rfl rfl fun b1 => ga (cQ oQ) vv27 rfl rfl fun b2 => g0 (aj rfl) rfl <| gn hK1 <| gr fun K2 hK2 => g0 (fa uu27 rfl zz25 rfl rfl rfl (k' := 0)) rfl <| g1 1 rfl (ba aa25 zz25 rfl rfl rfl (v := (vI a.num)) rfl) rfl <| gc (bF Tryz.call276 rfl) (kk c1) rfl <| g0 (ak rfl) rfl <| g0 (bf rfl rfl) rfl <| g0 (bf rfl rfl) rfl <| ga (cI (⟨false, 0⟩ : GI)) vv25 rfl rfl fun b3 => gs 0 (cI ((bG a.num).1)) rfl zz25 rfl rfl rfl rfl rfl rfl rfl <| g0 (aj rfl) rfl <| gn hK2 <| gr fun K3 hK3 => g1 2 rfl (ba aa27 zz27 rfl rfl rfl (v := (vQ a)) rfl) rfl <| gc (bF Tryz.call98 rfl) (kk c2) rfl <| gc (bF Tryz.call276 rfl) (kk c3) rfl <| g0 (ak rfl) rfl <| g0 (bf rfl rfl) rfl <| g0 (bf rfl rfl) rfl <| ga (cI (⟨false, 0⟩ : GI)) vv25 rfl rfl fun b4 => gs 0 (cI ((bG (aa a)).1)) rfl zz25 rfl rfl rfl rfl rfl rfl rfl <| g0 (aj rfl) rfl <| gn hK3 ?_; clear h ac; intro ac wo h
 replace h := h.sub (F' := [(2, (ptr b2 0)), (4, (ptr b3 0)), (5, (.bool ((bG a.num).2))), (6, (ptr b4 0)), (7, (.bool ((bG (aa a)).2)))]) ⟨rfl, rfl, rfl, rfl, rfl, trivial⟩
 refine gz h <| gq fun K4 hK4 => gr fun K5 hK5 => g0 (ak rfl) rfl <| g0 (gG rfl) rfl <| g0 (ak rfl) rfl <| ge2 rfl rfl (fun hg => (Rd.of_nil (ak rfl)).step) rfl <| ge2 rfl rfl (fun hg => (Rd.of_nil (gG (aN rfl hg))).step) rfl <| g0 (nU rfl (fun e => (aN rfl (n7 e)))) rfl <| gn hK5 ?_; clear h ac wo; intro ac wo h
 refine dA h rfl (fun hc1 => ?_) (fun hc1 => ?_)
 ·
  have hq1 := hc1; try simp at hq1
  refine gz h <| gr fun K6 hK6 => g0 (cg nz rfl rfl (v := (vQ oQ)) rfl) rfl <| gs 2 (cQ oQ) rfl zz27 rfl rfl rfl rfl rfl rfl rfl <| g0 (aj rfl) rfl <| gn hK6 <| gT ?_; clear h ac wo; intro ac wo h
  have hd : fA a = (oQ, false) := (cT hc1)
  exact ret h rfl (.cell (v := (vQ oQ)) rfl (i := 2) rfl aa27 zz27 rfl rfl rfl (.tmp rfl .nil)) rfl (h.retP (by rw [hd] <;> rfl) (by rw [hd]; exact ⟨(bY 0 (by decide) (by omega)), (bY 0 (by decide) (by omega))⟩))
 ·
  have hq1 := hc1; try simp at hq1
  have c4 := ew ((bG a.num).1) ((bG (aa a)).1) 27 (by omega) s1 s3
  have s4 := aF (c4 w0)
  refine gz h <| gS <| gx hK4 <| gr fun K7 hK7 => g1 1 rfl (ba aa25 zz25 rfl rfl rfl (v := (vI ((bG a.num).1))) rfl) rfl <| g1 0 rfl (ba aa25 zz25 rfl rfl rfl (v := (vI ((bG (aa a)).1))) rfl) rfl <| gc (bF Tryz.call95 rfl) (kk c4) rfl <| gs 2 (cQ (br ((bG a.num).1) ((bG (aa a)).1))) rfl zz27 rfl rfl rfl rfl rfl rfl rfl <| g0 (aj rfl) rfl <| gn hK7 <| gT ?_; clear h ac wo; intro ac wo h
  have hd : fA a = ((br ((bG a.num).1) ((bG (aa a)).1)), true) := (cF hc1)
  exact ret h rfl (.cell (v := (vQ (br ((bG a.num).1) ((bG (aa a)).1)))) rfl (i := 2) rfl aa27 zz27 rfl rfl rfl (.tmp rfl .nil)) rfl (h.retP (by rw [hd] <;> rfl) (by rw [hd]; exact (ft s4 (by omega))))
attribute [irreducible] fA
def fx (x : GR) : Int :=
 bif (((fi x.p) != 0) || ((fi x.r) != 0)) then
  5
 else
  bif ((aT x.r) == (-1)) then
   5
  else
   bif ((aT x.r) == 0) then
    bif x.neg then
     5
    else
     0
   else
    bif (fA x.r).2 then
     5
    else
     0
theorem lB (x : GR) (hr : RtR x) (zx : SzR 30 x) (w0 : World)  : Calls Tryz.prog 134 #[(vR x)] w0 (RetP w0 (.int .i64 (fx x)) (True)) := by
 refine enter (N := 31) (args := [(vR x)]) Tryz.func134 rfl rfl ?_; intro ac h
 refine ej fun K1 hK1 => ?_
 refine bx h (cR x) rfl rfl rfl fun b1 => g0 (aj rfl) rfl <| gn hK1 <| gq fun K2 hK2 => gr fun K3 hK3 => g0 (fa uu71 rfl zz27 rfl rfl rfl (k' := 0)) rfl <| g1 0 rfl (ba aa27 zz27 rfl rfl rfl (v := (vQ x.p)) rfl) rfl <| gc (bF Tryz.call62 rfl) (kk (jL x.p (ft zx.1 (by omega)))) rfl <| g0 (jB rfl rfl) rfl <| g0 (ak rfl) rfl <| ge2 rfl rfl (fun hg => (Rd.of_nil (fa uu71 rfl zz27 rfl rfl rfl (k' := 4))).step) rfl <| ge2 rfl rfl (fun hg => (Rd.of_mem (i := 0) (ba aa27 zz27 (aN rfl hg) rfl rfl (v := (vQ x.r)) rfl) rfl).step) rfl <| ge2 rfl rfl (fun hg => dy (bF Tryz.call62 (cH (aN rfl hg) rfl)) (kk (jL x.r (ft zx.2 (by omega))))) rfl <| ge2 rfl rfl (fun hg => (Rd.of_nil (jB (aN rfl hg) rfl)).step) rfl <| g0 (nU rfl (fun e => (aN rfl (n7 e)))) rfl <| gn hK3 ?_; clear h ac; intro ac wo h
 refine dA h rfl (fun hc1 => ?_) (fun hc1 => ?_)
 ·
  have hq1 := hc1; try simp at hq1
  refine gz h <| gr fun K4 hK4 => g0 (aj rfl) rfl <| gn hK4 <| gT ?_; clear h ac wo; intro ac wo h
  have hd : fx x = 5 := (cT hc1)
  exact ret h rfl (.tmp rfl .nil) rfl (h.retP (by rw [hd] <;> rfl) trivial)
 ·
  have hq1 := hc1; try simp at hq1
  have p2 := aF ((dC x.r) w0)
  refine gz h <| gS <| gx hK2 <| gq fun K5 hK5 => gr fun K6 hK6 => g0 (fa uu71 rfl zz27 rfl rfl rfl (k' := 4)) rfl <| g1 0 rfl (ba aa27 zz27 rfl rfl rfl (v := (vQ x.r)) rfl) rfl <| gc (bF Tryz.call30 rfl) (kk (dC x.r)) rfl <| gn hK6 <| gB <| gr fun K7 hK7 => g0 (fV rfl rfl) rfl <| g0 (aj rfl) rfl <| gn hK7 ?_; clear h ac wo; intro ac wo h
  replace h := h.sub (F' := [(1, (ptr b1 0)), (17, (.int .i64 (aT x.r))), (18, (.bool ((aT x.r) == (-1))))]) ⟨rfl, rfl, rfl, trivial⟩
  refine dA h rfl (fun hc2 => ?_) (fun hc2 => ?_)
  ·
   have hd2 := eq_of_beq hc2
   refine gz h <| gr fun K8 hK8 => g0 (aj rfl) rfl <| gn hK8 <| gT ?_; clear h ac wo; intro ac wo h
   have hd : fx x = 5 := (Eq.trans (cF hc1) (cT hc2))
   exact ret h rfl (.tmp rfl .nil) rfl (h.retP (by rw [hd] <;> rfl) trivial)
  ·
   have hd2 := ne_of_beq_false hc2
   refine gz h <| gr fun K9 hK9 => g0 (fV rfl rfl) rfl <| g0 (aj rfl) rfl <| gn hK9 ?_; clear h ac wo; intro ac wo h
   refine dA h rfl (fun hc3 => ?_) (fun hc3 => ?_)
   ·
    have hd3 := eq_of_beq hc3
    refine gz h <| gq fun K10 hK10 => gr fun K11 hK11 => g0 (fa uu71 rfl zz4 rfl rfl rfl (k' := 8)) rfl <| g1 0 rfl (ba aa4 zz4 rfl rfl rfl (v := (.bool x.neg)) rfl) rfl <| gn hK11 ?_; clear h ac wo; intro ac wo h
    refine dA h rfl (fun hc4 => ?_) (fun hc4 => ?_)
    ·
     have hq4 := hc4; try simp at hq4
     refine gz h <| gr fun K12 hK12 => g0 (aj rfl) rfl <| gn hK12 <| gT ?_; clear h ac wo; intro ac wo h
     have hd : fx x = 5 := (Eq.trans (cF hc1) (Eq.trans (cF hc2) (Eq.trans (cT hc3) (cT hc4))))
     exact ret h rfl (.tmp rfl .nil) rfl (h.retP (by rw [hd] <;> rfl) trivial)
    ·
     have hq4 := hc4; try simp at hq4
     refine gz h <| gS <| gx hK10 <| gr fun K13 hK13 => g0 (aj rfl) rfl <| gn hK13 <| gT ?_; clear h ac wo; intro ac wo h
     have hd : fx x = 0 := (Eq.trans (cF hc1) (Eq.trans (cF hc2) (Eq.trans (cT hc3) (cF hc4))))
     exact ret h rfl (.tmp rfl .nil) rfl (h.retP (by rw [hd] <;> rfl) trivial)
   ·
    have hd3 := ne_of_beq_false hc3
    have c3 := mv x.r (root_pre hr (by assumption)) zx.2
    have s3 := Calls.pr (c3 w0)
    refine gz h <| gS <| gN <| gx hK5 <| gq fun K14 hK14 => gr fun K15 hK15 => g0 (fa uu71 rfl zz27 rfl rfl rfl (k' := 4)) rfl <| g1 0 rfl (ba aa27 zz27 rfl rfl rfl (v := (vQ x.r)) rfl) rfl <| gc (bF Tryz.call219 rfl) (kk c3) rfl <| g0 (ak rfl) rfl <| g0 (bf rfl rfl) rfl <| g0 (bf rfl rfl) rfl <| ga (cQ oQ) vv27 rfl rfl fun b2 => gs 0 (cQ ((fA x.r).1)) rfl zz27 rfl rfl rfl rfl rfl rfl rfl <| g0 (aj rfl) rfl <| gn hK15 <| gr fun K16 hK16 => g0 (ak rfl) rfl <| gn hK16 ?_; clear h ac wo; intro ac wo h
    refine dA h rfl (fun hc5 => ?_) (fun hc5 => ?_)
    ·
     have hq5 := hc5; try simp at hq5
     refine gz h <| gr fun K17 hK17 => g0 (aj rfl) rfl <| gn hK17 <| gT ?_; clear h ac wo; intro ac wo h
     have hd : fx x = 5 := (Eq.trans (cF hc1) (Eq.trans (cF hc2) (Eq.trans (cF hc3) (cT hc5))))
     exact ret h rfl (.tmp rfl .nil) rfl (h.retP (by rw [hd] <;> rfl) trivial)
    ·
     have hq5 := hc5; try simp at hq5
     refine gz h <| gS <| gx hK14 <| gr fun K18 hK18 => g0 (aj rfl) rfl <| gn hK18 <| gT ?_; clear h ac wo; intro ac wo h
     have hd : fx x = 0 := (Eq.trans (cF hc1) (Eq.trans (cF hc2) (Eq.trans (cF hc3) (cF hc5))))
     exact ret h rfl (.tmp rfl .nil) rfl (h.retP (by rw [hd] <;> rfl) trivial)
attribute [irreducible] fx
def cL (i : Iv) : Int :=
 bif (((fx i.lo) != 0) || ((fx i.hi) != 0)) then
  5
 else
  bif (decide ((aR (ay i) (aI i)) ≥ 0)) then
   10
  else
   0
theorem j0 (i : Iv) (hv : RtV i) (zi : SzV 30 i) (w0 : World)  : Calls Tryz.prog 44 #[(vV i)] w0 (RetP w0 (.int .i64 (cL i)) (True)) := by
 refine enter (N := 19) (args := [(vV i)]) Tryz.func44 rfl rfl ?_; intro ac h
 refine ej fun K1 hK1 => ?_
 refine bx h (cV i) rfl rfl rfl fun b1 => g0 (aj rfl) rfl <| gn hK1 <| gq fun K2 hK2 => gr fun K3 hK3 => g0 (fa uu86 rfl zz71 rfl rfl rfl (k' := 0)) rfl <| g1 0 rfl (ba aa71 zz71 rfl rfl rfl (v := (vR i.lo)) rfl) rfl <| gc (bF Tryz.call134 rfl) (kk (lB i.lo hv.1 zi.1)) rfl <| g0 (jB rfl rfl) rfl <| g0 (ak rfl) rfl <| ge2 rfl rfl (fun hg => (Rd.of_nil (fa uu86 rfl zz71 rfl rfl rfl (k' := 9))).step) rfl <| ge2 rfl rfl (fun hg => (Rd.of_mem (i := 0) (ba aa71 zz71 (aN rfl hg) rfl rfl (v := (vR i.hi)) rfl) rfl).step) rfl <| ge2 rfl rfl (fun hg => dy (bF Tryz.call134 (cH (aN rfl hg) rfl)) (kk (lB i.hi hv.2 zi.2))) rfl <| ge2 rfl rfl (fun hg => (Rd.of_nil (jB (aN rfl hg) rfl)).step) rfl <| g0 (nU rfl (fun e => (aN rfl (n7 e)))) rfl <| gn hK3 ?_; clear h ac; intro ac wo h
 refine dA h rfl (fun hc1 => ?_) (fun hc1 => ?_)
 ·skip
  have hq1 := hc1; try simp at hq1
  refine gz h <| gr fun K4 hK4 => g0 (aj rfl) rfl <| gn hK4 <| gT ?_; clear h ac wo; intro ac wo h
  have hd : cL i = 5 := (cT hc1)
  exact ret h rfl (.tmp rfl .nil) rfl (h.retP (by rw [hd] <;> rfl) trivial)
 ·skip
  have hq1 := hc1; try simp at hq1
  refine eL ?_
  refine hK2 _ _ ?_
  refine dV fun K5 hK5 => ?_
  refine dV fun K6 hK6 => ?_
  have s1 := Calls.pr ((fun w_ hB_ hS_ => em i zi w_ ) _ h.bel h.sep)
  have s2 := Calls.pr ((fun w_ hB_ hS_ => eE i zi w_ ) _ h.bel h.sep)
  have s3 := Calls.pr ((fun w_ hB_ hS_ => dD (ay i) (aI i) s1 s2 w_ ) _ h.bel h.sep)
  have p4 := s3
  refine cZ mixed [⟨.det (vV i), [0]⟩, ⟨.det (vW (ay i)), []⟩, ⟨.det (vV i), [0]⟩, ⟨.det (vW (aI i)), []⟩, ⟨.det (.int .i64 (aR (ay i) (aI i))), []⟩, ⟨.det (.bool (decide ((aR (ay i) (aI i)) ≥ 0))), []⟩] [⟨.blk b1 (cV i) 86, []⟩] h rfl (by kernel_rfl) ⟨?_, ?_, ?_, ?_, ?_, ?_, trivial⟩ ?_
  ·intro ξ hφ; exact cY [.blk b1 (cV i) 86] rfl rfl (ba Tryz.isAgg86 Tryz.sizeOf86 rfl rfl rfl (v := (vV i)) rfl)
  ·intro ξ hφ; exact d7 (dy (vs := [(vV i)]) (bF Tryz.call136 rfl) (fun w_ hB_ hS_ => em i zi w_ ))
  ·intro ξ hφ; exact cY [.blk b1 (cV i) 86] rfl rfl (ba Tryz.isAgg86 Tryz.sizeOf86 rfl rfl rfl (v := (vV i)) rfl)
  ·intro ξ hφ; exact d7 (dy (bF Tryz.call137 rfl) (kk (eE i zi)))
  ·intro ξ hφ; exact d7 (dy (bF Tryz.call135 rfl) (kk (dD (ay i) (aI i) s1 s2)))
  ·intro ξ hφ; exact aL (oC rfl rfl)
  clear h ac wo; intro ξ ac wo hφ h
  replace h : St w0 19 [(18, (.bool (decide ((aR (ay i) (aI i)) ≥ 0))))] [.blk b1 (cV i) 86] ac wo := (h.pick [0] (by decide)).sub ⟨rfl, trivial⟩
  clear hφ ξ
  refine hK6 _ _ ?_
  refine dA h rfl (fun hc2 => ?_) (fun hc2 => ?_)
  ·skip
   have hd2 := of_decide_eq_true hc2
   refine gz h <| gr fun K7 hK7 => g0 (aj rfl) rfl <| gn hK7 <| gT ?_; clear h ac wo; intro ac wo h
   have hd : cL i = 10 := (Eq.trans (cF hc1) (cT hc2))
   exact ret h rfl (.tmp rfl .nil) rfl (h.retP (by rw [hd] <;> rfl) trivial)
  ·skip
   have hd2 := of_decide_eq_false hc2
   refine gz h <| gS <| gx hK5 <| gr fun K8 hK8 => g0 (aj rfl) rfl <| gn hK8 <| gT ?_; clear h ac wo; intro ac wo h
   have hd : cL i = 0 := (Eq.trans (cF hc1) (cF hc2))
   exact ret h rfl (.tmp rfl .nil) rfl (h.retP (by rw [hd] <;> rfl) trivial)
attribute [irreducible] cL
end Go.Sx
