/- A part of the proof of movingpointNumbers. -/
import Derived.Test.YtbenbmdkhcfcfaaGreatDoorH7
import Derived.Test.YtbenbmdkhcfcfaaGreatDoorH5
import Derived.Test.YtbenbmdkhcfcfaaGreatDoorH3
import Derived.Test.YtbenbmdkhcfcfaaGreatDoorH1
import Derived.Test.YtbenbmdkhcfcfaaGreatDoorH4
set_option linter.unusedVariables false
set_option linter.unusedSimpArgs false
open Go.Proofs.Tryz renaming sizeOf4 → zz4, underlying216 → nn216, runUnderlying55 → uu55, isAgg25 → aa25, sizeOf25 → zz25
namespace Go.Sx
open Go Go.RowKit Go.Proofs
set_option maxRecDepth 100000
set_option maxHeartbeats 40000000
attribute [local irreducible] Code.wp wpList Rd Step ObS Ent
attribute [local irreducible] ap aN ak au aA bO
def kR (data : List (U Qd)) (n : Nat) (a : Nat) (b : Nat) (data1 : List (U Qd)) (blockSize : Nat) (data2 : List (U Qd)) : List (U Qd) :=
 data2
def kQ (data : List (U Qd)) (n : Nat) (a : Nat) (b : Nat) (data1 : List (U Qd)) (blockSize : Nat) (data2 : List (U Qd)) (a3 : Nat) (b3 : Nat) (data3 : List (U Qd)) : Nx (Nat × (List (U Qd))) (List (U Qd)) :=
 bif (decide (((a3 + blockSize : Nat) : Int) < ((n : Nat) : Int))) then
  .go ((blockSize * 2), (cv data3 a3 (a3 + blockSize) n))
 else
  .go ((blockSize * 2), data3)
def gm (data : List (U Qd)) (n : Nat) (a : Nat) (b : Nat) (data1 : List (U Qd)) (blockSize : Nat) (data2 : List (U Qd)) (a3 : Nat) (b3 : Nat) (data3 : List (U Qd)) : Nx (Nat × Nat × (List (U Qd))) (List (U Qd)) :=
 bif (decide (((b3 : Nat) : Int) ≤ ((n : Nat) : Int))) then
  .go (b3, (b3 + (2 * blockSize)), (cv data3 a3 (a3 + blockSize) b3))
 else
  .out (a3, b3, data3)
def fq (data : List (U Qd)) (n : Nat) (a : Nat) (b : Nat) (data1 : List (U Qd)) (blockSize : Nat) (data2 : List (U Qd)) : Nx (Nat × (List (U Qd))) (List (U Qd)) :=
 bif (decide (((blockSize : Nat) : Int) < ((n : Nat) : Int))) then
  fin (cr (fun s => gm data n a b data1 blockSize data2 s.1 s.2.1 s.2.2) (n - 0 + 1) (0, (2 * blockSize), data2)) (fun s => kQ data n a b data1 blockSize data2 s.1 s.2.1 s.2.2) (fun r => .ret r)
 else
  .out (blockSize, data2)
def gk (data : List (U Qd)) (n : Nat) (a : Nat) (b : Nat) (data1 : List (U Qd)) : List (U Qd) :=
 fin (cr (fun s => fq data n a b data1 s.1 s.2) (n - 20 + 1) (20, (bh data1 a n))) (fun s => kR data n a b data1 s.1 s.2) (fun r => r)
def eC (data : List (U Qd)) (n : Nat) (a : Nat) (b : Nat) (data1 : List (U Qd)) : Nx (Nat × Nat × (List (U Qd))) (List (U Qd)) :=
 bif (decide (((b : Nat) : Int) ≤ ((n : Nat) : Int))) then
  .go (b, (b + 20), (bh data1 a b))
 else
  .out (a, b, data1)
def dg (data : List (U Qd)) (n : Nat) : List (U Qd) :=
 fin (cr (fun s => eC data n s.1 s.2.1 s.2.2) (n + 20 - 20 + 1) (0, 20, data)) (fun s => gk data n s.1 s.2.1 s.2.2) (fun r => r)
theorem kP (data : List (U Qd)) (datav : Value) (n : Nat) (hn : n = data.length) (hl : data.length ≤ 1000) (zdata : All (iI 30) data) (w0 w : World) (B : Asn) (hbel : Below w0.heap.size w0 w) (hsep : ∃ Z_, Sep w0.heap.size w [.row (α := U Qd) 126 datav data, B] Z_)  : Calls Tryz.prog 279 #[datav, (.int .i64 ((n : Nat) : Int)), (.func (.func 225) #[] #[])] w (RetY w0 (fun v => v = .tuple #[] ∧ (All (iI 30) (dg data n) ∧ (dg data n).length = data.length)) (fun v => [.row (α := U Qd) 126 datav (dg data n), B])) := by
 refine jP (N := 63) (args := [datav, (.int .i64 ((n : Nat) : Int)), (.func (.func 225) #[] #[])]) Tryz.func279 rfl rfl hbel hsep ?_; intro ac h
 have hlendata := h.len 0 rfl
 obtain ⟨X1, hX1⟩ : ∃ X, cr (fun s => eC data n s.1 s.2.1 s.2.2) (n + 20 - 20 + 1) (0, 20, data) = X := ⟨_, rfl⟩
 refine gz h <| (W) ?_; clear h ac; intro ac wo h
 refine wp_loop_ghost (fun n_ a_ w_ => ∃ (a : Nat) (b : Nat) (data1 : List (U Qd)), (n + 20 - b < n_) ∧ (cr (fun s => eC data n s.1 s.2.1 s.2.2) n_ (a, b, data1) = X1) ∧ (All (iI 30) data1) ∧ (b = a + 20) ∧ (a ≤ n) ∧ (data1.length = data.length) ∧ St w0 63 [(0, datav), (1, (.int .i64 ((n : Nat) : Int))), (2, (.func (.func 225) #[] #[])), (6, (.int .i64 20)), (7, (.int .i64 ((a : Nat) : Int))), (8, (.int .i64 ((b : Nat) : Int)))] [.row (α := U Qd) 126 datav data1, B] a_ w_) (n + 20 - 20 + 1) ⟨0, 20, data, og, hX1, zdata, og, og, og, h.rs⟩ ?_
 clear h ac wo; rintro n1 ac wo ⟨a, b, data1, hm1, hL1, zdata1, hb0, ha0, hdl, h⟩
 obtain ⟨m1, rfl⟩ : ∃ m, n1 = m + 1 := ⟨n1 - 1, by omega⟩
 refine gz h <| (ai) ?_ ?_ <;> clear h ac wo <;> intro ac wo h hc1
 ·
  have hd1 := of_decide_eq_true hc1
  refine gz h <| (W) ?_; clear h ac wo; intro ac wo h
  refine on1 h 0 rfl (iz (vs := [datav, (.int .i64 ((a : Nat) : Int)), (.int .i64 ((b : Nat) : Int)), (.func (.func 225) #[] #[])]) (A := fun v => [.row (α := U Qd) 126 datav (bh data1 a b)]) (ch Tryz.call294 rfl) (fun w_ B_ hB_ hS_ => fk data1 datav a b og og og zdata1 w0 w_ B_ hB_ hS_ )) rfl ?_; clear h ac wo; intro vc ac wo s2 h
  obtain rfl : vc = _ := s2.1
  have p3 := s2.2.2
  refine gz h <| (W) ?_; clear h ac wo; intro ac wo h
  have hg := bZ hL1 pt
  exact az ⟨m1, og, _, _, _, og, hg, s2.2.1, og, og, og, h.re [0, 1]⟩
 ·
  have hd1 := of_decide_eq_false hc1
  have hx1 := dK hL1 pt
  refine gz h <| (W) ?_; clear h ac wo; intro ac wo h
  refine on1 h 0 rfl (iz (vs := [datav, (.int .i64 ((a : Nat) : Int)), (.int .i64 ((n : Nat) : Int)), (.func (.func 225) #[] #[])]) (A := fun v => [.row (α := U Qd) 126 datav (bh data1 a n)]) (ch Tryz.call294 rfl) (fun w_ B_ hB_ hS_ => fk data1 datav a n og og og zdata1 w0 w_ B_ hB_ hS_ )) rfl ?_; clear h ac wo; intro vc ac wo s5 h
  obtain rfl : vc = _ := s5.1
  have p6 := s5.2.2
  obtain ⟨X2, hX2⟩ : ∃ X, cr (fun s => fq data n a b data1 s.1 s.2) (n - 20 + 1) (20, (bh data1 a n)) = X := ⟨_, rfl⟩
  refine gz h <| (W) ?_; clear h ac wo; intro ac wo h
  refine wp_loop_ghost (fun n_ a_ w_ => ∃ (blockSize : Nat) (data2 : List (U Qd)), (n - blockSize < n_) ∧ (cr (fun s => fq data n a b data1 s.1 s.2) n_ (blockSize, data2) = X2) ∧ (All (iI 30) data2) ∧ (20 ≤ blockSize) ∧ (blockSize ≤ 2 * n + 20) ∧ (data2.length = data.length) ∧ St w0 63 [(0, datav), (1, (.int .i64 ((n : Nat) : Int))), (2, (.func (.func 225) #[] #[])), (6, (.int .i64 ((blockSize : Nat) : Int)))] [.row (α := U Qd) 126 datav data2, B] a_ w_) (n - 20 + 1) ⟨20, (bh data1 a n), og, hX2, s5.2.1, og, og, og, h.rs⟩ ?_
  clear h ac wo; rintro n2 ac wo ⟨blockSize, data2, hm2, hL2, zdata2, hbs, hbl, hdl2, h⟩
  obtain ⟨m2, rfl⟩ : ∃ m, n2 = m + 1 := ⟨n2 - 1, by omega⟩
  refine gz h <| (ai) ?_ ?_ <;> clear h ac wo <;> intro ac wo h hc2
  ·
   have hd2 := of_decide_eq_true hc2
   obtain ⟨X3, hX3⟩ : ∃ X, cr (fun s => gm data n a b data1 blockSize data2 s.1 s.2.1 s.2.2) (n - 0 + 1) (0, (2 * blockSize), data2) = X := ⟨_, rfl⟩
   refine gz h <| (xo (hs := by exact k7 rfl rfl (r := ((2 * blockSize : Nat) : Int)) (by first | (rw [IntKind.wrap_i64]; omega) | exact ik og og))) <| (W) ?_; clear h ac wo; intro ac wo h
   refine wp_loop_ghost (fun n_ a_ w_ => ∃ (a3 : Nat) (b3 : Nat) (data3 : List (U Qd)), (n - a3 < n_) ∧ (cr (fun s => gm data n a b data1 blockSize data2 s.1 s.2.1 s.2.2) n_ (a3, b3, data3) = X3) ∧ (All (iI 30) data3) ∧ (b3 = a3 + 2 * blockSize) ∧ (a3 ≤ n) ∧ (data3.length = data.length) ∧ St w0 63 [(0, datav), (1, (.int .i64 ((n : Nat) : Int))), (2, (.func (.func 225) #[] #[])), (6, (.int .i64 ((blockSize : Nat) : Int))), (7, (.int .i64 ((a3 : Nat) : Int))), (8, (.int .i64 ((b3 : Nat) : Int)))] [.row (α := U Qd) 126 datav data3, B] a_ w_) (n - 0 + 1) ⟨0, (2 * blockSize), data2, og, hX3, zdata2, og, og, og, h.rs⟩ ?_
   clear h ac wo; rintro n3 ac wo ⟨a3, b3, data3, hm3, hL3, zdata3, hb3, ha3, hdl3, h⟩
   obtain ⟨m3, rfl⟩ : ∃ m, n3 = m + 1 := ⟨n3 - 1, by omega⟩
   refine gz h <| (ai) ?_ ?_ <;> clear h ac wo <;> intro ac wo h hc3
   ·
    have hd3 := of_decide_eq_true hc3
    refine gz h <| (W) ?_; clear h ac wo; intro ac wo h
    refine on1 h 0 rfl (iz (vs := [datav, (.int .i64 ((a3 : Nat) : Int)), (.int .i64 ((a3 + blockSize : Nat) : Int)), (.int .i64 ((b3 : Nat) : Int)), (.func (.func 225) #[] #[])]) (A := fun v => [.row (α := U Qd) 126 datav (cv data3 a3 (a3 + blockSize) b3)]) (ch Tryz.call295 rfl) (fun w_ B_ hB_ hS_ => f5 data3 datav a3 (a3 + blockSize) b3 og og og og zdata3 w0 w_ B_ hB_ hS_ )) rfl ?_; clear h ac wo; intro vc ac wo s8 h
    obtain rfl : vc = _ := s8.1
    have p9 := s8.2.2
    refine gz h <| (xo (hs := by exact k7 rfl rfl (r := ((2 * blockSize : Nat) : Int)) (by first | (rw [IntKind.wrap_i64]; omega) | exact ik og og))) <| (W) ?_; clear h ac wo; intro ac wo h
    have hg := bZ hL3 pt
    exact az ⟨m3, og, _, _, _, og, hg, s8.2.1, og, og, og, h.re [0, 1]⟩
   ·
    have hd3 := of_decide_eq_false hc3
    have hx3 := dK hL3 pt
    refine gz h <| (ai) ?_ ?_ <;> clear h ac wo <;> intro ac wo h hc4
    ·
     have hd4 := of_decide_eq_true hc4
     refine gz h <| (W) ?_; clear h ac wo; intro ac wo h
     refine on1 h 0 rfl (iz (vs := [datav, (.int .i64 ((a3 : Nat) : Int)), (.int .i64 ((a3 + blockSize : Nat) : Int)), (.int .i64 ((n : Nat) : Int)), (.func (.func 225) #[] #[])]) (A := fun v => [.row (α := U Qd) 126 datav (cv data3 a3 (a3 + blockSize) n)]) (ch Tryz.call295 rfl) (fun w_ B_ hB_ hS_ => f5 data3 datav a3 (a3 + blockSize) n og og og og zdata3 w0 w_ B_ hB_ hS_ )) rfl ?_; clear h ac wo; intro vc ac wo s11 h
     obtain rfl : vc = _ := s11.1
     have p12 := s11.2.2
     refine gz h <| (xo (hs := by exact k7 rfl rfl (r := ((blockSize * 2 : Nat) : Int)) (by first | (rw [IntKind.wrap_i64]; omega) | exact ik og og))) <| (W) ?_; clear h ac wo; intro ac wo h
     have hg := bZ hL2 pt
     exact az ⟨m2, og, _, _, og, hg, s11.2.1, og, og, og, h.re [0, 1]⟩
    ·
     have hd4 := of_decide_eq_false hc4
     refine gz h <| (xo (hs := by exact k7 rfl rfl (r := ((blockSize * 2 : Nat) : Int)) (by first | (rw [IntKind.wrap_i64]; omega) | exact ik og og))) <| (W) ?_; clear h ac wo; intro ac wo h
     have hg := bZ hL2 pt
     exact az ⟨m2, og, _, _, og, hg, zdata3, og, og, og, h.re [0, 1]⟩
  ·
   have hd2 := of_decide_eq_false hc2
   have hx2 := dK hL2 pt
   have hd : dg data n = data2 := pt
   refine gz h <| (W) ?_; clear h ac wo; intro ac wo h
   exact lO (vs := []) h rfl .nil rfl ((h.pick [0, 1] (by decide)).retY ⟨rfl, (by rw [hd]; exact ⟨zdata2, og⟩)⟩ (by rw [hd]; rfl))
attribute [irreducible] dg
def de (x : List (U Qd)) : List (U Qd) :=
 (dg x x.length)
theorem jR (x : List (U Qd)) (xv : Value) (hl : x.length ≤ 1000) (zx : All (iI 30) x) (w0 w : World) (B : Asn) (hbel : Below w0.heap.size w0 w) (hsep : ∃ Z_, Sep w0.heap.size w [.row (α := U Qd) 126 xv x, B] Z_)  : Calls Tryz.prog 224 #[xv, (.func (.func 225) #[] #[])] w (RetY w0 (fun v => v = .tuple #[] ∧ (All (iI 30) (de x) ∧ (de x).length = x.length)) (fun v => [.row (α := U Qd) 126 xv (de x), B])) := by
 refine jP (N := 9) (args := [xv, (.func (.func 225) #[] #[])]) Tryz.func224 rfl rfl hbel hsep ?_; intro ac h
 have hlenx := h.len 0 rfl
 refine gz h <| (W) ?_; clear h ac; intro ac wo h
 refine on1 h 0 rfl (iz (vs := [xv, (.int .i64 ((x.length : Nat) : Int)), (.func (.func 225) #[] #[])]) (A := fun v => [.row (α := U Qd) 126 xv (dg x x.length)]) (ch Tryz.call279 rfl) (fun w_ B_ hB_ hS_ => kP x xv x.length og og zx w0 w_ B_ hB_ hS_ )) rfl ?_; clear h ac wo; intro vc ac wo s2 h
 obtain rfl : vc = _ := s2.1
 have p3 := s2.2.2
 have hd : de x = (dg x x.length) := rfl
 refine gz h <| (W) ?_; clear h ac wo; intro ac wo h
 exact lO (vs := []) h rfl .nil rfl ((h.pick [0, 1] (by decide)).retY ⟨rfl, (by rw [hd]; exact ⟨s2.2.1, og⟩)⟩ (by rw [hd]; rfl))
attribute [irreducible] de
def ag (l : List (U Qd)) : (List (U Qd)) :=
 (de (aX l))
theorem iK (l : List (U Qd)) (lv : Value) (hl : l.length ≤ 1000) (zl : All (iI 30) l) (w0 : World) (hlv : View w0 lv l) : Calls Tryz.prog 148 #[lv] w0 (RetR w0 126 (ag l) (All (iI 30) (ag l) ∧ (ag l).length = l.length)) := by
 refine enter (N := 9) (args := [lv]) Tryz.func148 rfl rfl ?_; intro ac h
 have hlenl := hlv.len
 refine gz h <| (W) ?_; clear h ac; intro ac wo h
 have s1 := RetR.pr ((fun w_ hB_ hS_ => e6 l lv og zl w_ (hlv.below hB_)) _ h.bel h.sep)
 have p2 := s1.2
 have p2_0 := p2.1
 have p2_1 := p2.2
 refine f4 (xs := (aX l)) h (ch Tryz.call223 rfl) (fun w_ hB_ hS_ => e6 l lv og zl w_ (hlv.below hB_)) rfl ?_; clear h ac wo; intro sv3 ac wo _ h
 refine gz h <| (W) ?_; clear h ac wo; intro ac wo h
 refine on1 h 0 rfl (iz (vs := [sv3, (.func (.func 225) #[] #[])]) (A := fun v => [.row (α := U Qd) 126 sv3 (de (aX l))]) (ch Tryz.call224 rfl) (fun w_ B_ hB_ hS_ => jR (aX l) sv3 og s1.1 w0 w_ B_ hB_ hS_ )) rfl ?_; clear h ac wo; intro vc ac wo s5 h
 obtain rfl : vc = _ := s5.1
 have p6 := s5.2.2
 refine gz h <| (W) ?_; clear h ac wo; intro ac wo h
 exact (rt h) (by unfold ag; exact h.retR 0 rfl ⟨s5.2.1, og⟩)
attribute [irreducible] ag
def gp (l : List (U Qd)) (x18 : Nat) (out : List (U Qd)) (x43 : Nat) : (List (U Qd)) × Int :=
 (out, 0)
def eD (l : List (U Qd)) (x18 : Nat) (out : List (U Qd)) (x43 : Nat) : Nx ((List (U Qd)) × Nat) ((List (U Qd)) × Int) :=
 bif (decide (((x43 : Nat) : Int) < (((af (ag l)).length : Nat) : Int))) then
  bif (((decide (((out.length : Nat) : Int) > 0)) && (decide (((gt out (out.length - 1)).iv).hi = ((gt (af (ag l)) x43).iv).lo))) && (!(aU ((gt out (out.length - 1)).iv)))) then
   bif (!(aU ((gt (af (ag l)) x43).iv))) then
    bif ((!((gt out (out.length - 1)).iv).openHi) && (fB ((gt out (out.length - 1)).f) ((gt (af (ag l)) x43).f))) then
     .go ((out.set (out.length - 1) (⟨(⟨((gt out (out.length - 1)).iv).lo, ((gt (af (ag l)) x43).iv).hi, ((gt out (out.length - 1)).iv).openLo, true⟩ : Iv), (gt out (out.length - 1)).f⟩ : U Qd)), (x43 + 1))
    else
     bif ((((decide (((x43 : Nat) : Int) > 0)) && (aU ((gt (af (ag l)) (x43 - 1)).iv))) && (decide (((gt (af (ag l)) (x43 - 1)).iv).lo = ((gt (af (ag l)) x43).iv).lo))) && (!(eZ out (((gt (af (ag l)) x43).iv).lo)))) then
      .go ((out ++ [(⟨(⟨((gt (af (ag l)) x43).iv).lo, ((gt (af (ag l)) x43).iv).hi, false, ((gt (af (ag l)) x43).iv).openHi⟩ : Iv), (gt (af (ag l)) x43).f⟩ : U Qd)]), (x43 + 1))
     else
      .go ((out ++ [(gt (af (ag l)) x43)]), (x43 + 1))
   else
    bif (dO ((gt out (out.length - 1)).f) ((gt (af (ag l)) x43).f) (((gt (af (ag l)) x43).iv).lo)) then
     .go ((out.set (out.length - 1) (⟨(⟨((gt out (out.length - 1)).iv).lo, ((gt out (out.length - 1)).iv).hi, ((gt out (out.length - 1)).iv).openLo, false⟩ : Iv), (gt out (out.length - 1)).f⟩ : U Qd)), (x43 + 1))
    else
     bif (((decide (((x43 + 1 : Nat) : Int) < (((af (ag l)).length : Nat) : Int))) && (decide (((gt (af (ag l)) (x43 + 1)).iv).lo = ((gt (af (ag l)) x43).iv).lo))) && (dO ((gt (af (ag l)) (x43 + 1)).f) ((gt (af (ag l)) x43).f) (((gt (af (ag l)) x43).iv).lo))) then
      .go (out, (x43 + 1))
     else
      .go ((out ++ [(⟨(gt (af (ag l)) x43).iv, (bF ((gt (af (ag l)) x43).f) (((gt (af (ag l)) x43).iv).lo))⟩ : U Qd)]), (x43 + 1))
  else
   bif (!(aU ((gt (af (ag l)) x43).iv))) then
    bif ((((decide (((x43 : Nat) : Int) > 0)) && (aU ((gt (af (ag l)) (x43 - 1)).iv))) && (decide (((gt (af (ag l)) (x43 - 1)).iv).lo = ((gt (af (ag l)) x43).iv).lo))) && (!(eZ out (((gt (af (ag l)) x43).iv).lo)))) then
     .go ((out ++ [(⟨(⟨((gt (af (ag l)) x43).iv).lo, ((gt (af (ag l)) x43).iv).hi, false, ((gt (af (ag l)) x43).iv).openHi⟩ : Iv), (gt (af (ag l)) x43).f⟩ : U Qd)]), (x43 + 1))
    else
     .go ((out ++ [(gt (af (ag l)) x43)]), (x43 + 1))
   else
    bif (((decide (((x43 + 1 : Nat) : Int) < (((af (ag l)).length : Nat) : Int))) && (decide (((gt (af (ag l)) (x43 + 1)).iv).lo = ((gt (af (ag l)) x43).iv).lo))) && (dO ((gt (af (ag l)) (x43 + 1)).f) ((gt (af (ag l)) x43).f) (((gt (af (ag l)) x43).iv).lo))) then
     .go (out, (x43 + 1))
    else
     .go ((out ++ [(⟨(gt (af (ag l)) x43).iv, (bF ((gt (af (ag l)) x43).f) (((gt (af (ag l)) x43).iv).lo))⟩ : U Qd)]), (x43 + 1))
 else
  .out (out, x43)
def gu (l : List (U Qd)) (x18 : Nat) : (List (U Qd)) × Int :=
 fin (cr (fun s => eD l x18 s.1 s.2) (((af (ag l)).length - 0) + 1) ([], 0)) (fun s => gp l x18 s.1 s.2) (fun r => r)
def eE (l : List (U Qd)) (x18 : Nat) : Nx Nat ((List (U Qd)) × Int) :=
 bif (decide (((x18 : Nat) : Int) < (((ag l).length : Nat) : Int))) then
  bif ((decide (((x18 : Nat) : Int) > 0)) && (!(eA ((gt (ag l) (x18 - 1)).iv) ((gt (ag l) x18).iv)))) then
   .ret ([], 11)
  else
   .go (x18 + 1)
 else
  .out x18
def dz (l : List (U Qd)) : (List (U Qd)) × Int :=
 fin (cr (fun s => eE l s) ((l.length - 0) + 1) 0) (fun s => gu l s) (fun r => r)
theorem kT (l : List (U Qd)) (lv : Value) (hl : l.length ≤ 300) (zl : All (iI 30) l) (w0 : World) (hlv : View w0 lv l) : Calls Tryz.prog 55 #[(.iface 55 (.agg #[])), lv] w0 (RetT w0 126 (dz l).1 [.int .i64 ((dz l).2)] (All (iI 20) ((dz l).1) ∧ (dz l).1.length ≤ 3 * l.length)) := by
 refine enter (N := 219) (args := [(.iface 55 (.agg #[])), lv]) Tryz.func55 rfl rfl ?_; intro ac h
 have hlenl := hlv.len
 refine gz h <| (W) ?_; clear h ac; intro ac wo h
 have s1 := RetR.pr ((fun w_ hB_ hS_ => iK l lv og zl w_ (hlv.below hB_)) _ h.bel h.sep)
 have p2 := s1.2
 refine f4 (xs := (ag l)) h (ch Tryz.call148 rfl) (fun w_ hB_ hS_ => iK l lv og zl w_ (hlv.below hB_)) rfl ?_; clear h ac wo; intro sv3 ac wo _ h
 obtain ⟨X1, hX1⟩ : ∃ X, cr (fun s => eE l s) ((l.length - 0) + 1) 0 = X := ⟨_, rfl⟩
 refine gz h <| (W) ?_; clear h ac wo; intro ac wo h
 refine wp_loop_ghost (fun n_ a_ w_ => ∃ (x18 : Nat), ((l.length - x18) < n_) ∧ (cr (fun s => eE l s) n_ x18 = X1) ∧ (x18 ≤ l.length) ∧ St w0 219 [(0, (.iface 55 (.agg #[]))), (1, sv3), (17, (.int .i64 (((ag l).length : Nat) : Int))), (18, (.int .i64 ((x18 : Nat) : Int)))] [.row (α := U Qd) 126 sv3 (ag l)] a_ w_) ((l.length - 0) + 1) ⟨0, og, hX1, og, h.rs⟩ ?_
 clear h ac wo; rintro n1 ac wo ⟨x18, hm1, hL1, hx18, h⟩
 obtain ⟨m1, rfl⟩ : ∃ m, n1 = m + 1 := ⟨n1 - 1, by omega⟩
 refine gz h <| (ai) ?_ ?_ <;> clear h ac wo <;> intro ac wo h hc1
 ·
  have hd1 := of_decide_eq_true hc1
  refine gz h <| (dr0 (hob := (oG (by exact fun hg => k8 ((gt (ag l) (x18 - 1)).iv) ((gt (ag l) x18).iv) 10 og (All.gt s1.1 (bP _)).1 (All.gt s1.1 (bP _)).1)) <| oE)) <| (ai) ?_ ?_ <;> clear h ac wo <;> intro ac wo h hc2
  ·
   have hq2 := hc2; try simp at hq2
   refine gz h <| (W) ?_; clear h ac wo; intro ac wo h
   replace h := h.nilRow (α := U Qd) 126
   have hr1 := qw hL1 pt
   have hd : dz l = ([], 11) := pt
   exact (rt h) (by rw [hd]; exact h.retT 0 rfl rfl ⟨All.nil, og⟩)
  ·
   have hq2 := hc2; try simp at hq2
   refine gz h <| (W) ?_; clear h ac wo; intro ac wo h
   have hg := bZ hL1 pt
   exact az ⟨m1, og, _, og, hg, og, h.re [0]⟩
 ·
  have hd1 := of_decide_eq_false hc1
  have hx1 := dK hL1 pt
  refine gz h <| (W) ?_; clear h ac wo; intro ac wo h
  have s5 := RetR.pr ((fun w_ hB_ hS_ => jt (ag l) sv3 og s1.1 w_ (row_view hS_ 0 rfl)) _ h.bel h.sep)
  have p6 := s5.2
  refine f4 (xs := (af (ag l))) h (ch Tryz.call149 rfl) (fun w_ hB_ hS_ => jt (ag l) sv3 og s1.1 w_ (row_view hS_ 0 rfl)) rfl ?_; clear h ac wo; intro sv7 ac wo _ h
  refine gz h <| (W) ?_; clear h ac wo; intro ac wo h
  replace h := h.nilRow (α := U Qd) 126
  obtain ⟨X2, hX2⟩ : ∃ X, cr (fun s => eD l x18 s.1 s.2) (((af (ag l)).length - 0) + 1) ([], 0) = X := ⟨_, rfl⟩
  refine wp_loop_ghost (fun n_ a_ w_ => ∃ (out : List (U Qd)) (x43 : Nat) (outv : Value), (((af (ag l)).length - x43) < n_) ∧ (cr (fun s => eD l x18 s.1 s.2) n_ (out, x43) = X2) ∧ (x43 ≤ (af (ag l)).length) ∧ (All (iI 20) out) ∧ (out.length ≤ x43) ∧ St w0 219 [(0, (.iface 55 (.agg #[]))), (7, outv), (8, sv7), (41, sv7), (42, (.int .i64 (((af (ag l)).length : Nat) : Int))), (43, (.int .i64 ((x43 : Nat) : Int)))] [.row (α := U Qd) 126 outv out, .row (α := U Qd) 126 sv7 (af (ag l)), .row (α := U Qd) 126 sv3 (ag l)] a_ w_) (((af (ag l)).length - 0) + 1) ⟨[], 0, (.slice none 0 0), og, hX2, og, All.nil, og, h.rs⟩ ?_
  clear h ac wo; rintro n2 ac wo ⟨out, x43, outv, hm2, hL2, hx43, zout, hol, h⟩
  obtain ⟨m2, rfl⟩ : ∃ m, n2 = m + 1 := ⟨n2 - 1, by omega⟩
  refine gz h <| (ai) ?_ ?_ <;> clear h ac wo <;> intro ac wo h hc3
  ·
   have hd3 := of_decide_eq_true hc3
   refine gz h <| (xa) fun b1 => (xa) fun b2 => (dr0 (hob := (oG (by exact fun hg => cC ((gt out (out.length - 1)).iv))) <| oE)) <| (ai) ?_ ?_ <;> clear h ac wo <;> intro ac wo h hc4
   ·
    have hq4 := hc4; try simp at hq4
    refine gz h <| (xk (cC ((gt (af (ag l)) x43).iv))) <| (ai) ?_ ?_ <;> clear h ac wo <;> intro ac wo h hc5
    ·
     have hq5 := hc5; try simp at hq5
     refine gz h <| (dr0 (hob := (oG (by exact fun hg => k9 ((gt out (out.length - 1)).f) ((gt (af (ag l)) x43).f) (All.gt zout (bP _)).2 (ij (All.gt s5.1 (bP _)).2 og))) <| oE)) <| (ai) ?_ ?_ <;> clear h ac wo <;> intro ac wo h hc6
     ·
      have hq6 := hc6; try simp at hq6
      refine gz h <| (W) ?_; clear h ac wo; intro ac wo h
      refine up h 2 rfl (f8 (k := 9) (u' := (⟨(⟨((gt out (out.length - 1)).iv).lo, ((gt (af (ag l)) x43).iv).hi, ((gt out (out.length - 1)).iv).openLo, ((gt out (out.length - 1)).iv).openHi⟩ : Iv), (gt out (out.length - 1)).f⟩ : U Qd)) Tryz.sizeOf71 (iE og) rfl rfl rfl rfl rfl rfl rfl rfl) ?_; clear h ac wo; intro ac wo h
      refine gz h <| (W) ?_; clear h ac wo; intro ac wo h
      refine up h 2 rfl (f8 (k := 19) (u' := (⟨(⟨((gt out (out.length - 1)).iv).lo, ((gt (af (ag l)) x43).iv).hi, ((gt out (out.length - 1)).iv).openLo, true⟩ : Iv), (gt out (out.length - 1)).f⟩ : U Qd)) zz4 (mY og) rfl rfl rfl rfl rfl rfl rfl rfl) ?_; clear h ac wo; intro ac wo h
      replace h := h.rowEq 2 rfl (by rw [List.set_set] : _ = (out.set (out.length - 1) (⟨(⟨((gt out (out.length - 1)).iv).lo, ((gt (af (ag l)) x43).iv).hi, ((gt out (out.length - 1)).iv).openLo, true⟩ : Iv), (gt out (out.length - 1)).f⟩ : U Qd)))
      refine gz h <| (W) ?_; clear h ac wo; intro ac wo h
      have hg := bZ hL2 pt
      exact az ⟨m2, og, _, _, _, og, hg, og, (All.set zout ⟨⟨((All.gt zout (bP _)).1).1, (eW ((All.gt s5.1 (bP _)).1).2 og)⟩, (All.gt zout (bP _)).2⟩), og, h.re [2, 3, 4]⟩
     ·
      have hq6 := hc6; try simp at hq6
      refine gz h <| (dr0 (hob := (oG (by exact fun hg => cC ((gt (af (ag l)) (x43 - 1)).iv))) <| (oX (h := by exact fun _ => og1 (acc := [2]) rfl rfl rfl rfl (fun hg => fu (ch Tryz.call151 (je (fY rfl hg) (je (fY rfl hg) rfl))) (fun w_ hB_ hS_ => jJ out outv (((gt (af (ag l)) x43).iv).lo) zout ((All.gt s5.1 (bP _)).1).1 w_ (row_view hS_ 0 rfl))))) <| oE)) <| (ai) ?_ ?_ <;> clear h ac wo <;> intro ac wo h hc7
      ·
       have hq7 := hc7; try simp at hq7
       refine gz h <| (xs 1 (cUD (⟨(⟨((gt (af (ag l)) x43).iv).lo, ((gt (af (ag l)) x43).iv).hi, false, ((gt (af (ag l)) x43).iv).openHi⟩ : Iv), (gt (af (ag l)) x43).f⟩ : U Qd))) <| (W) ?_; clear h ac wo; intro ac wo h
       refine nw h (cj (α := U Qd) (xs := [.tmp 160]) (vs := [(vUD (⟨(⟨((gt (af (ag l)) x43).iv).lo, ((gt (af (ag l)) x43).iv).hi, false, ((gt (af (ag l)) x43).iv).openHi⟩ : Iv), (gt (af (ag l)) x43).f⟩ : U Qd))]) [(⟨(⟨((gt (af (ag l)) x43).iv).lo, ((gt (af (ag l)) x43).iv).hi, false, ((gt (af (ag l)) x43).iv).openHi⟩ : Iv), (gt (af (ag l)) x43).f⟩ : U Qd)] iS rfl rfl rfl (by decide)) rfl ?_; clear h ac wo; intro sv9 ac wo nnsv9 h
       refine on2 h 3 0 rfl rfl (eM (xs := out) (ys := [(⟨(⟨((gt (af (ag l)) x43).iv).lo, ((gt (af (ag l)) x43).iv).hi, false, ((gt (af (ag l)) x43).iv).openHi⟩ : Iv), (gt (af (ag l)) x43).f⟩ : U Qd)]) iS (fun w hs => (row_view hs 0 rfl)) rfl rfl og) rfl ?_; clear h ac wo; intro sv10 ac wo apsv10 h
       refine gz h <| (W) ?_; clear h ac wo; intro ac wo h
       have hg := bZ hL2 pt
       exact az ⟨m2, og, _, _, _, og, hg, og, (All.app zout (All.cons ⟨⟨(eW ((All.gt s5.1 (bP _)).1).1 og), (eW ((All.gt s5.1 (bP _)).1).2 og)⟩, (ij (All.gt s5.1 (bP _)).2 og)⟩ All.nil)), og, h.re [0, 4, 5]⟩
      ·
       have hq7 := hc7; try simp at hq7
       refine gz h <| (W) ?_; clear h ac wo; intro ac wo h
       refine nw h (cj (α := U Qd) (xs := [.tmp 160]) (vs := [(vUD (gt (af (ag l)) x43))]) [(gt (af (ag l)) x43)] iS rfl rfl rfl (by decide)) rfl ?_; clear h ac wo; intro sv11 ac wo nnsv11 h
       refine on2 h 3 0 rfl rfl (eM (xs := out) (ys := [(gt (af (ag l)) x43)]) iS (fun w hs => (row_view hs 0 rfl)) rfl rfl og) rfl ?_; clear h ac wo; intro sv12 ac wo apsv12 h
       refine gz h <| (W) ?_; clear h ac wo; intro ac wo h
       have hg := bZ hL2 pt
       exact az ⟨m2, og, _, _, _, og, hg, og, (All.app zout (All.cons (xN (All.gt s5.1 (bP _)) og) All.nil)), og, h.re [0, 4, 5]⟩
    ·
     have hq5 := hc5; try simp at hq5
     refine gz h <| (dr0 (hob := (oG (by exact fun hg => gZ ((gt out (out.length - 1)).f) ((gt (af (ag l)) x43).f) (((gt (af (ag l)) x43).iv).lo) (All.gt zout (bP _)).2 (ij (All.gt s5.1 (bP _)).2 og) ((All.gt s5.1 (bP _)).1).1)) <| oE)) <| (ai) ?_ ?_ <;> clear h ac wo <;> intro ac wo h hc8
     ·
      have hq8 := hc8; try simp at hq8
      refine gz h <| (W) ?_; clear h ac wo; intro ac wo h
      refine up h 2 rfl (f8 (k := 19) (u' := (⟨(⟨((gt out (out.length - 1)).iv).lo, ((gt out (out.length - 1)).iv).hi, ((gt out (out.length - 1)).iv).openLo, false⟩ : Iv), (gt out (out.length - 1)).f⟩ : U Qd)) zz4 (iE og) rfl rfl rfl rfl rfl rfl rfl rfl) ?_; clear h ac wo; intro ac wo h
      refine gz h <| (W) ?_; clear h ac wo; intro ac wo h
      have hg := bZ hL2 pt
      exact az ⟨m2, og, _, _, _, og, hg, og, (All.set zout ⟨⟨((All.gt zout (bP _)).1).1, ((All.gt zout (bP _)).1).2⟩, (All.gt zout (bP _)).2⟩), og, h.re [2, 3, 4]⟩
     ·
      have hq8 := hc8; try simp at hq8
      refine gz h <| (dr0 (hob := (oG (by exact fun hg => gZ ((gt (af (ag l)) (x43 + 1)).f) ((gt (af (ag l)) x43).f) (((gt (af (ag l)) x43).iv).lo) (ij (All.gt s5.1 (bP _)).2 og) (ij (All.gt s5.1 (bP _)).2 og) ((All.gt s5.1 (bP _)).1).1)) <| oE)) <| (ai) ?_ ?_ <;> clear h ac wo <;> intro ac wo h hc9
      ·
       have hq9 := hc9; try simp at hq9
       refine gz h <| (W) ?_; clear h ac wo; intro ac wo h
       have hg := bZ hL2 pt
       exact az ⟨m2, og, _, _, _, og, hg, og, zout, og, h.re [2, 3, 4]⟩
      ·
       have hq9 := hc9; try simp at hq9
       have c13 := iL ((gt (af (ag l)) x43).f) (((gt (af (ag l)) x43).iv).lo) (All.gt s5.1 (bP _)).2 ((All.gt s5.1 (bP _)).1).1
       have s13 := Calls.pr (c13 w0)
       refine gz h <| (xk (c13)) <| (xs 1 (cUD (⟨(gt (af (ag l)) x43).iv, (bF ((gt (af (ag l)) x43).f) (((gt (af (ag l)) x43).iv).lo))⟩ : U Qd))) <| (W) ?_; clear h ac wo; intro ac wo h
       refine nw h (cj (α := U Qd) (xs := [.tmp 87]) (vs := [(vUD (⟨(gt (af (ag l)) x43).iv, (bF ((gt (af (ag l)) x43).f) (((gt (af (ag l)) x43).iv).lo))⟩ : U Qd))]) [(⟨(gt (af (ag l)) x43).iv, (bF ((gt (af (ag l)) x43).f) (((gt (af (ag l)) x43).iv).lo))⟩ : U Qd)] iS rfl rfl rfl (by decide)) rfl ?_; clear h ac wo; intro sv14 ac wo nnsv14 h
       refine on2 h 3 0 rfl rfl (eM (xs := out) (ys := [(⟨(gt (af (ag l)) x43).iv, (bF ((gt (af (ag l)) x43).f) (((gt (af (ag l)) x43).iv).lo))⟩ : U Qd)]) iS (fun w hs => (row_view hs 0 rfl)) rfl rfl og) rfl ?_; clear h ac wo; intro sv15 ac wo apsv15 h
       refine gz h <| (W) ?_; clear h ac wo; intro ac wo h
       have hg := bZ hL2 pt
       exact az ⟨m2, og, _, _, _, og, hg, og, (All.app zout (All.cons ⟨(pP (All.gt s5.1 (bP _)).1 og), s13⟩ All.nil)), og, h.re [0, 4, 5]⟩
   ·
    have hq4 := hc4; try simp at hq4
    refine gz h <| (xk (cC ((gt (af (ag l)) x43).iv))) <| (ai) ?_ ?_ <;> clear h ac wo <;> intro ac wo h hc10
    ·
     have hq10 := hc10; try simp at hq10
     refine gz h <| (W) ?_; clear h ac wo; intro ac wo h
     refine fo mixed [dv _, dv _, dv _, ⟨.det (gv false undef), []⟩, ⟨.det (gv false undef), []⟩, ⟨.det (gv false undef), []⟩, ⟨.det (gv false undef), []⟩, ⟨.det (gv false undef), []⟩, ⟨.det (gv false undef), []⟩, dv _, dv _, ⟨.det (gv false undef), []⟩, ⟨.det (gv false undef), []⟩, ⟨.det (gv false undef), []⟩, ⟨.det (gv false undef), []⟩, ⟨.det (gv false undef), []⟩, ⟨.det (gv false undef), []⟩, ⟨.det (gv false undef), []⟩, ⟨.det (gv false undef), []⟩, ⟨.det (gv false undef), []⟩, ⟨.det (gv false undef), []⟩, ⟨.det (gv false undef), []⟩, dv _] [⟨_, []⟩, ⟨_, []⟩, ⟨_, []⟩, ⟨_, []⟩, ⟨_, []⟩] h rfl (by kernel_rfl) ⟨fun _ _ => om rfl, fun _ _ => bk (mQ nn216 rfl (p := none)), fun _ _ => om rfl, (fun ξ hφ => by exact gU (c := true) (b := false) (g := false) [] rfl rfl rfl rfl g_t (fun hg => absurd hg (by decide))), (fun ξ hφ => by exact gU (c := true) (b := false) (g := false) [] rfl rfl rfl rfl g_t (fun hg => absurd hg (by decide))), (fun ξ hφ => by exact gU (c := true) (b := false) (g := false) [] rfl rfl rfl rfl g_t (fun hg => absurd hg (by decide))), (fun ξ hφ => by exact gU (c := true) (b := false) (g := false) [] rfl rfl rfl rfl g_t (fun hg => absurd hg (by decide))), (fun ξ hφ => by exact gU (c := true) (b := false) (g := false) [] rfl rfl rfl rfl g_t (fun hg => absurd hg (by decide))), (fun ξ hφ => by exact gU (c := true) (b := false) (g := false) [] rfl rfl rfl rfl g_t (fun hg => absurd hg (by decide))), fun _ _ => bk (nb (b := false) rfl (fun e => absurd e (by decide)) (fun _ => rfl) (v := .bool false)), fun _ _ => om rfl, (fun ξ hφ => by exact gU (c := true) (b := false) (g := false) [] rfl rfl rfl rfl g_t (fun hg => absurd hg (by decide))), (fun ξ hφ => by exact gU (c := true) (b := false) (g := false) [] rfl rfl rfl rfl g_t (fun hg => absurd hg (by decide))), (fun ξ hφ => by exact gU (c := true) (b := false) (g := false) [] rfl rfl rfl rfl g_t (fun hg => absurd hg (by decide))), (fun ξ hφ => by exact gU (c := true) (b := false) (g := false) [] rfl rfl rfl rfl g_t (fun hg => absurd hg (by decide))), (fun ξ hφ => by exact gU (c := true) (b := false) (g := false) [] rfl rfl rfl rfl g_t (fun hg => absurd hg (by decide))), (fun ξ hφ => by exact gU (c := true) (b := false) (g := false) [] rfl rfl rfl rfl g_t (fun hg => absurd hg (by decide))), (fun ξ hφ => by exact gU (c := true) (b := false) (g := false) [] rfl rfl rfl rfl g_t (fun hg => absurd hg (by decide))), (fun ξ hφ => by exact gU (c := true) (b := false) (g := false) [] rfl rfl rfl rfl g_t (fun hg => absurd hg (by decide))), (fun ξ hφ => by exact gU (c := true) (b := false) (g := false) [] rfl rfl rfl rfl g_t (fun hg => absurd hg (by decide))), (fun ξ hφ => by exact gU (c := true) (b := false) (g := false) [] rfl rfl rfl rfl g_t (fun hg => absurd hg (by decide))), (fun ξ hφ => by exact gU (c := true) (b := false) (g := false) [] rfl rfl rfl rfl g_t (fun hg => absurd hg (by decide))), fun _ _ => bk (nb (b := false) rfl (fun e => absurd e (by decide)) (fun _ => rfl) (v := .bool false)), trivial⟩ ?_
     clear h ac wo; intro ξ ac wo hφ h
     replace h : St w0 219 [(0, (.iface 55 (.agg #[]))), (7, outv), (8, sv7), (41, sv7), (42, (.int .i64 (((af (ag l)).length : Nat) : Int))), (43, (.int .i64 ((x43 : Nat) : Int))), (10, (ptr b1 0)), (9, (.int .i64 ((x43 : Nat) : Int))), (11, (ptr b2 0)), (12, (.pointer none)), (117, (.bool false))] [.blk b2 (cR (((gt (af (ag l)) x43).iv).lo)) 71, .blk b1 (cUD (gt (af (ag l)) x43)) 126, .row (α := U Qd) 126 outv out, .row (α := U Qd) 126 sv7 (af (ag l)), .row (α := U Qd) 126 sv3 (ag l)] ac wo := (h.pick [0, 1, 2, 3, 4] (by decide)).sub ⟨rfl, rfl, rfl, rfl, rfl, rfl, rfl, rfl, rfl, rfl, rfl, trivial⟩
     clear hφ ξ
     refine gz h <| (W) ?_; clear h ac wo; intro ac wo h
     refine tc h rfl ?_
     refine gz h <| (dr0 (hob := (oG (by exact fun hg => cC ((gt (af (ag l)) (x43 - 1)).iv))) <| (oX (h := by exact fun _ => og1 (acc := [2]) rfl rfl rfl rfl (fun hg => fu (ch Tryz.call151 (je (fY rfl hg) (je (fY rfl hg) rfl))) (fun w_ hB_ hS_ => jJ out outv (((gt (af (ag l)) x43).iv).lo) zout ((All.gt s5.1 (bP _)).1).1 w_ (row_view hS_ 0 rfl))))) <| oE)) <| (ai) ?_ ?_ <;> clear h ac wo <;> intro ac wo h hc11
     ·
      have hq11 := hc11; try simp at hq11
      refine gz h <| (xs 1 (cUD (⟨(⟨((gt (af (ag l)) x43).iv).lo, ((gt (af (ag l)) x43).iv).hi, false, ((gt (af (ag l)) x43).iv).openHi⟩ : Iv), (gt (af (ag l)) x43).f⟩ : U Qd))) <| (W) ?_; clear h ac wo; intro ac wo h
      refine nw h (cj (α := U Qd) (xs := [.tmp 160]) (vs := [(vUD (⟨(⟨((gt (af (ag l)) x43).iv).lo, ((gt (af (ag l)) x43).iv).hi, false, ((gt (af (ag l)) x43).iv).openHi⟩ : Iv), (gt (af (ag l)) x43).f⟩ : U Qd))]) [(⟨(⟨((gt (af (ag l)) x43).iv).lo, ((gt (af (ag l)) x43).iv).hi, false, ((gt (af (ag l)) x43).iv).openHi⟩ : Iv), (gt (af (ag l)) x43).f⟩ : U Qd)] iS rfl rfl rfl (by decide)) rfl ?_; clear h ac wo; intro sv16 ac wo nnsv16 h
      refine on2 h 3 0 rfl rfl (eM (xs := out) (ys := [(⟨(⟨((gt (af (ag l)) x43).iv).lo, ((gt (af (ag l)) x43).iv).hi, false, ((gt (af (ag l)) x43).iv).openHi⟩ : Iv), (gt (af (ag l)) x43).f⟩ : U Qd)]) iS (fun w hs => (row_view hs 0 rfl)) rfl rfl og) rfl ?_; clear h ac wo; intro sv17 ac wo apsv17 h
      refine gz h <| (W) ?_; clear h ac wo; intro ac wo h
      have hg := bZ hL2 pt
      exact az ⟨m2, og, _, _, _, og, hg, og, (All.app zout (All.cons ⟨⟨(eW ((All.gt s5.1 (bP _)).1).1 og), (eW ((All.gt s5.1 (bP _)).1).2 og)⟩, (ij (All.gt s5.1 (bP _)).2 og)⟩ All.nil)), og, h.re [0, 4, 5]⟩
     ·
      have hq11 := hc11; try simp at hq11
      refine gz h <| (W) ?_; clear h ac wo; intro ac wo h
      refine nw h (cj (α := U Qd) (xs := [.tmp 160]) (vs := [(vUD (gt (af (ag l)) x43))]) [(gt (af (ag l)) x43)] iS rfl rfl rfl (by decide)) rfl ?_; clear h ac wo; intro sv18 ac wo nnsv18 h
      refine on2 h 3 0 rfl rfl (eM (xs := out) (ys := [(gt (af (ag l)) x43)]) iS (fun w hs => (row_view hs 0 rfl)) rfl rfl og) rfl ?_; clear h ac wo; intro sv19 ac wo apsv19 h
      refine gz h <| (W) ?_; clear h ac wo; intro ac wo h
      have hg := bZ hL2 pt
      exact az ⟨m2, og, _, _, _, og, hg, og, (All.app zout (All.cons (xN (All.gt s5.1 (bP _)) og) All.nil)), og, h.re [0, 4, 5]⟩
    ·
     have hq10 := hc10; try simp at hq10
     refine gz h <| (W) ?_; clear h ac wo; intro ac wo h
     refine fo mixed [dv _, dv _, dv _, ⟨.det (gv false undef), []⟩, ⟨.det (gv false undef), []⟩, ⟨.det (gv false undef), []⟩, ⟨.det (gv false undef), []⟩, ⟨.det (gv false undef), []⟩, ⟨.det (gv false undef), []⟩, ⟨.det (gv false undef), []⟩, ⟨.det (gv false undef), []⟩, ⟨.det (gv false undef), []⟩, ⟨.det (gv false undef), []⟩, ⟨.det (gv false undef), []⟩, ⟨.det (gv false undef), []⟩, dv _, dv _] [⟨_, []⟩, ⟨_, []⟩, ⟨_, []⟩, ⟨_, []⟩, ⟨_, []⟩] h rfl (by kernel_rfl) ⟨fun _ _ => om rfl, fun _ _ => bk (mQ nn216 rfl (p := none)), fun _ _ => om rfl, (fun ξ hφ => by exact gU (c := true) (b := false) (g := false) [] rfl rfl rfl rfl g_t (fun hg => absurd hg (by decide))), (fun ξ hφ => by exact gU (c := true) (b := false) (g := false) [] rfl rfl rfl rfl g_t (fun hg => absurd hg (by decide))), (fun ξ hφ => by exact gU (c := true) (b := false) (g := false) [] rfl rfl rfl rfl g_t (fun hg => absurd hg (by decide))), (fun ξ hφ => by exact gU (c := true) (b := false) (g := false) [] rfl rfl rfl rfl g_t (fun hg => absurd hg (by decide))), (fun ξ hφ => by exact gU (c := true) (b := false) (g := false) [] rfl rfl rfl rfl g_t (fun hg => absurd hg (by decide))), (fun ξ hφ => by exact gU (c := true) (b := false) (g := false) [] rfl rfl rfl rfl g_t (fun hg => absurd hg (by decide))), (fun ξ hφ => by exact gU (c := true) (b := false) (g := false) [] rfl rfl rfl rfl g_t (fun hg => absurd hg (by decide))), (fun ξ hφ => by exact gU (c := true) (b := false) (g := false) [] rfl rfl rfl rfl g_t (fun hg => absurd hg (by decide))), (fun ξ hφ => by exact gU (c := true) (b := false) (g := false) [] rfl rfl rfl rfl g_t (fun hg => absurd hg (by decide))), (fun ξ hφ => by exact gU (c := true) (b := false) (g := false) [] rfl rfl rfl rfl g_t (fun hg => absurd hg (by decide))), (fun ξ hφ => by exact gU (c := true) (b := false) (g := false) [] rfl rfl rfl rfl g_t (fun hg => absurd hg (by decide))), (fun ξ hφ => by exact gU (c := true) (b := false) (g := false) [] rfl rfl rfl rfl g_t (fun hg => absurd hg (by decide))), fun _ _ => bk (nb (b := false) rfl (fun e => absurd e (by decide)) (fun _ => rfl) (v := .bool false)), fun _ _ => bk (aD rfl), trivial⟩ ?_
     clear h ac wo; intro ξ ac wo hφ h
     replace h : St w0 219 [(0, (.iface 55 (.agg #[]))), (7, outv), (8, sv7), (41, sv7), (42, (.int .i64 (((af (ag l)).length : Nat) : Int))), (43, (.int .i64 ((x43 : Nat) : Int))), (10, (ptr b1 0)), (9, (.int .i64 ((x43 : Nat) : Int))), (11, (ptr b2 0)), (12, (.pointer none)), (163, (.bool false))] [.blk b2 (cR (((gt (af (ag l)) x43).iv).lo)) 71, .blk b1 (cUD (gt (af (ag l)) x43)) 126, .row (α := U Qd) 126 outv out, .row (α := U Qd) 126 sv7 (af (ag l)), .row (α := U Qd) 126 sv3 (ag l)] ac wo := (h.pick [0, 1, 2, 3, 4] (by decide)).sub ⟨rfl, rfl, rfl, rfl, rfl, rfl, rfl, rfl, rfl, rfl, rfl, trivial⟩
     clear hφ ξ
     refine gz h <| (W) ?_; clear h ac wo; intro ac wo h
     refine tc h rfl ?_
     refine gz h <| (dr0 (hob := (oG (by exact fun hg => gZ ((gt (af (ag l)) (x43 + 1)).f) ((gt (af (ag l)) x43).f) (((gt (af (ag l)) x43).iv).lo) (ij (All.gt s5.1 (bP _)).2 og) (ij (All.gt s5.1 (bP _)).2 og) ((All.gt s5.1 (bP _)).1).1)) <| oE)) <| (ai) ?_ ?_ <;> clear h ac wo <;> intro ac wo h hc12
     ·
      have hq12 := hc12; try simp at hq12
      refine gz h <| (W) ?_; clear h ac wo; intro ac wo h
      have hg := bZ hL2 pt
      exact az ⟨m2, og, _, _, _, og, hg, og, zout, og, h.re [2, 3, 4]⟩
     ·
      have hq12 := hc12; try simp at hq12
      have c20 := iL ((gt (af (ag l)) x43).f) (((gt (af (ag l)) x43).iv).lo) (All.gt s5.1 (bP _)).2 ((All.gt s5.1 (bP _)).1).1
      have s20 := Calls.pr (c20 w0)
      refine gz h <| (xk (c20)) <| (xs 1 (cUD (⟨(gt (af (ag l)) x43).iv, (bF ((gt (af (ag l)) x43).f) (((gt (af (ag l)) x43).iv).lo))⟩ : U Qd))) <| (W) ?_; clear h ac wo; intro ac wo h
      refine nw h (cj (α := U Qd) (xs := [.tmp 87]) (vs := [(vUD (⟨(gt (af (ag l)) x43).iv, (bF ((gt (af (ag l)) x43).f) (((gt (af (ag l)) x43).iv).lo))⟩ : U Qd))]) [(⟨(gt (af (ag l)) x43).iv, (bF ((gt (af (ag l)) x43).f) (((gt (af (ag l)) x43).iv).lo))⟩ : U Qd)] iS rfl rfl rfl (by decide)) rfl ?_; clear h ac wo; intro sv21 ac wo nnsv21 h
      refine on2 h 3 0 rfl rfl (eM (xs := out) (ys := [(⟨(gt (af (ag l)) x43).iv, (bF ((gt (af (ag l)) x43).f) (((gt (af (ag l)) x43).iv).lo))⟩ : U Qd)]) iS (fun w hs => (row_view hs 0 rfl)) rfl rfl og) rfl ?_; clear h ac wo; intro sv22 ac wo apsv22 h
      refine gz h <| (W) ?_; clear h ac wo; intro ac wo h
      have hg := bZ hL2 pt
      exact az ⟨m2, og, _, _, _, og, hg, og, (All.app zout (All.cons ⟨(pP (All.gt s5.1 (bP _)).1 og), s20⟩ All.nil)), og, h.re [0, 4, 5]⟩
  ·
   have hd3 := of_decide_eq_false hc3
   have hx2 := dK hL2 pt
   have hd : dz l = (out, 0) := pt
   refine gz h <| (W) ?_; clear h ac wo; intro ac wo h
   exact (rt h) (by rw [hd]; exact h.retT 0 rfl rfl ⟨zout, og⟩)
attribute [irreducible] dz
end Go.Sx
namespace Go.Sx
open Go Go.RowKit Go.Proofs
theorem ut (data : List (U Qd)) {n : Nat} (h : n < 20) : dg data n = eJ data n := by
  have hb : ∀ a b d, 20 ≤ b → eC data n a b d = .out (a, b, d) := fun a b d hb => cF (decide_eq_false (by omega))
  have h1 : cr (fun s => eC data n s.1 s.2.1 s.2.2) (n + 20 - 20 + 1) (0, 20, data) = .inl (0, 20, data) := (dK rfl (hb 0 20 data (Nat.le_refl _)))
  have h2 : ∀ a b d e, fq data n a b d 20 e = .out (20, e) := fun a b d e => cF (decide_eq_false (by omega))
  unfold dg
  refine (sV h1).trans ?_
  show gk data n 0 20 data = _
  unfold gk
  refine (sV (dK rfl (h2 0 20 data _))).trans ?_
  unfold eJ
  rfl
theorem uu {l : List (U Qd)} (h : l.length < 20) : ag l = aB l := by
  unfold ag aB de
  have : (aX l).length < 20 := by
    unfold aX; simpa using h
  rw [ut _ this]
  unfold dy
  rfl
theorem nG_eq {l : List (U Qd)} (h : ag l = aB l) : dz l = cp l := by
  have k2 : gp l = gI l := by
    funext a b c
    unfold gp gI
    first | rfl | (simp only [h] <;> rfl)
  have b2 : eD l = gL l := by
    funext a b c
    unfold eD gL
    rw [h]
  have k1 : gu l = gJ l := by
    funext a
    unfold gu gJ
    rw [h, b2, k2]
  have b1 : eE l = gM l := by
    funext a
    unfold eE gM
    rw [h]
  unfold dz cp
  rw [b1, k1]
theorem jj (l : List (U Qd)) (lv : Value) (hl : l.length < 20) (zl : All (iI 30) l) (w0 : World) (hlv : View w0 lv l) : Calls Tryz.prog 55 #[(.iface 55 (.agg #[])), lv] w0 (RetT w0 126 (cp l).1 [.int .i64 ((cp l).2)] (All (iI 20) ((cp l).1) ∧ (cp l).1.length ≤ 3 * l.length)) :=
  nG_eq (uu hl) ▸ kT l lv (by omega) zl w0 hlv
end Go.Sx
namespace Go.Sx
open Go Go.RowKit Go.Proofs
set_option maxRecDepth 100000
set_option maxHeartbeats 40000000
attribute [local irreducible] Code.wp wpList Rd Step ObS Ent
attribute [local irreducible] ap aN ak au aA bO
instance yH8_1 : Ep Tryz.prog 86 Iv inferInstance vV := ⟨eqp86⟩
end Go.Sx
namespace Go.Sx
open Go Go.RowKit Go.Proofs
set_option maxRecDepth 100000
set_option maxHeartbeats 40000000
attribute [local irreducible] Code.wp wpList Rd Step ObS Ent
attribute [local irreducible] ap aN ak au aA bO
def fF (a : GI) : Int :=
 bif (((decide (a.mag = 0)) && a.neg) || ((!(decide (a.mag = 0))) && (((((nq a.mag) : Nat) : Int)) == (((0 : Nat) : Int))))) then
  5
 else
  0
theorem kN (a : GI) (za : SzI 16 a) (w0 : World)  : Calls Tryz.prog 157 #[(vI a)] w0 (dI w0 (.int .i64 (fF a)) (True)) := by
 refine enter (N := 21) (args := [(vI a)]) Tryz.func157 rfl rfl ?_; intro ac h
 refine gz h <| (xb) fun b1 => (xg (hs := by exact fun hg => (Rd.of_nil (tJ Tryz.runUnderlying9 (fY rfl hg) rfl og)).step)) <| (ai) ?_ ?_ <;> clear h ac <;> intro ac wo h hc1
 ·
  have hq1 := hc1; try simp at hq1
  have hd : fF a = 5 := pt
  refine gz h <| (W) ?_; clear h ac wo; intro ac wo h
  exact (rt h) (h.retP (by rw [hd] <;> rfl) trivial)
 ·
  have hq1 := hc1; try simp at hq1
  have hd : fF a = 0 := pt
  refine gz h <| (W) ?_; clear h ac wo; intro ac wo h
  exact (rt h) (h.retP (by rw [hd] <;> rfl) trivial)
attribute [irreducible] fF
def dC (a : GQ) : Int :=
 bif (((fF a.num) != 0) || ((fF a.den) != 0)) then
  5
 else
  bif (decide (a.den = (⟨false, 0⟩ : GI))) then
   0
  else
   bif ((decide ((dB a.den rational_one) ≤ 0)) || (!(decide ((aW a.num a.den) = rational_one)))) then
    5
   else
    0
theorem iU (a : GQ) (za : SzQ 16 a) (w0 : World)  : Calls Tryz.prog 62 #[(vQ a)] w0 (dI w0 (.int .i64 (dC a)) (True)) := by
  refine enter (N := 31) (args := [(vQ a)]) Tryz.func62 rfl rfl ?_; intro ac h
  refine gz h <| (xb) fun b1 => (xk (kN a.num za.1)) <| (xg (hs := by exact fun hg => fu enA (kk (kN a.den za.2)))) <| (ai) ?_ ?_ <;> clear h ac <;> intro ac wo h hc1
  ·
    have hq1 := hc1; try simp at hq1
    have hd : dC a = 5 := pt
    refine gz h <| (W) ?_; clear h ac wo; intro ac wo h
    exact (rt h) (h.retP (by rw [hd] <;> rfl) trivial)
  ·
    have hq1 := hc1; try simp at hq1
    refine gz h <| (xo (hs := by exact bA pj exs rfl (v := (vI (⟨false, 0⟩ : GI))) rfl)) <| (ai) ?_ ?_ <;> clear h ac wo <;> intro ac wo h hc2
    ·
      have hd2 := of_decide_eq_true hc2
      have hd : dC a = 0 := pt
      refine gz h <| (W) ?_; clear h ac wo; intro ac wo h
      exact (rt h) (h.retP (by rw [hd] <;> rfl) trivial)
    ·
      have hd2 := of_decide_eq_false hc2
      refine gz h <| (W) ?_; clear h ac wo; intro ac wo h
      have c1 := eO  40 og
      have s1 := ao (c1 w0)
      have p3 := ao ((gC a.den rational_one 16 og za.2 (gh s1 og)) w0)
      have s4 := ao ((jd a.num a.den 16 og za.1 za.2) w0)
      have s5 := ao ((eO  40 og ) w0)
      refine gz h <| (dr0 (hob := (oK (c1)) <| (oK (gC a.den rational_one 16 og za.2 (gh s1 og))) <| (oG (by exact fun hg => jd a.num a.den 16 og za.1 za.2)) <| (oG (by exact fun hg => eO  40 og)) <| oE)) <| (ai) ?_ ?_ <;> clear h ac wo <;> intro ac wo h hc3
      ·
        have hq3 := hc3; try simp at hq3
        have hd : dC a = 5 := pt
        refine gz h <| (W) ?_; clear h ac wo; intro ac wo h
        exact (rt h) (h.retP (by rw [hd] <;> rfl) trivial)
      ·
        have hq3 := hc3; try simp at hq3
        have hd : dC a = 0 := pt
        refine gz h <| (W) ?_; clear h ac wo; intro ac wo h
        exact (rt h) (h.retP (by rw [hd] <;> rfl) trivial)
attribute [irreducible] dC
end Go.Sx
namespace Go.Sx
open Go Go.RowKit Go.Proofs
set_option maxRecDepth 100000
set_option maxHeartbeats 40000000
attribute [local irreducible] Code.wp wpList Rd Step ObS Ent
attribute [local irreducible] ap aN ak au aA bO
def aL (i : Iv) : Bd :=
 (⟨i.lo, i.openLo⟩ : Bd)
theorem fV (i : Iv) (zi : SzV 30 i) (w0 : World)  : Calls Tryz.prog 136 #[(vV i)] w0 (dI w0 (vW (aL i)) (SzW 30 (aL i))) := by
 refine enter (N := 8) (args := [(vV i)]) Tryz.func136 rfl rfl ?_; intro ac h
 refine gz h <| (xb) fun b1 => (xa) fun b2 => (xo (hs := by exact bA bld206 exs rfl (v := (vW (⟨i.lo, i.openLo⟩ : Bd))) rfl)) <| (W) ?_; clear h ac; intro ac wo h
 exact ret h rfl (.cell (v := (vW (⟨i.lo, i.openLo⟩ : Bd))) rfl (i := 0) rfl Tryz.isAgg206 Tryz.sizeOf206 rfl rfl rfl .nil) rfl (h.retP (by unfold aL; rfl) (by unfold aL; exact zi.1))
attribute [irreducible] aL
def aI (i : Iv) : Bd :=
 (⟨i.hi, (!i.openHi)⟩ : Bd)
theorem gi (i : Iv) (zi : SzV 30 i) (w0 : World)  : Calls Tryz.prog 137 #[(vV i)] w0 (dI w0 (vW (aI i)) (SzW 30 (aI i))) := by
 refine enter (N := 9) (args := [(vV i)]) Tryz.func137 rfl rfl ?_; intro ac h
 refine gz h <| (xb) fun b1 => (xa) fun b2 => (xo (hs := by exact bA bld206 exs rfl (v := (vW (⟨i.hi, (!i.openHi)⟩ : Bd))) rfl)) <| (W) ?_; clear h ac; intro ac wo h
 exact ret h rfl (.cell (v := (vW (⟨i.hi, (!i.openHi)⟩ : Bd))) rfl (i := 0) rfl Tryz.isAgg206 Tryz.sizeOf206 rfl rfl rfl .nil) rfl (h.retP (by unfold aI; rfl) (by unfold aI; exact zi.2))
attribute [irreducible] aI
def bL (a : Bd) (b : Bd) : Int :=
 bif ((ap a.at_ b.at_) != 0) then
  (ap a.at_ b.at_)
 else
  bif (a.behind == b.behind) then
   0
  else
   bif b.behind then
    (-1)
   else
    1
theorem iY (a : Bd) (b : Bd) (za : SzW 30 a) (zb : SzW 30 b) (w0 : World)  : Calls Tryz.prog 135 #[(vW a), (vW b)] w0 (dI w0 (.int .i64 (bL a b)) ((-1 ≤ (bL a b) ∧ (bL a b) ≤ 1))) := by
 refine enter (N := 23) (args := [(vW a), (vW b)]) Tryz.func135 rfl rfl ?_; intro ac h
 have p2 := ao ((cP a.at_ b.at_ 10 og za zb) w0)
 refine gz h <| (xb) fun b1 => (xb) fun b2 => (xk (cP a.at_ b.at_ 10 og za zb)) <| (ai) ?_ ?_ <;> clear h ac <;> intro ac wo h hc1
 ·
  have hq1 := hc1; try simp at hq1
  have hd : bL a b = (ap a.at_ b.at_) := pt
  refine gz h <| (W) ?_; clear h ac wo; intro ac wo h
  exact (rt h) (h.retP (by rw [hd] <;> rfl) (by rw [hd]; exact og))
 ·
  have hq1 := hc1; try simp at hq1
  refine gz h <| (xo (hs := by exact wn Tryz.underlying4 rfl rfl)) <| (ai) ?_ ?_ <;> clear h ac wo <;> intro ac wo h hc2
  ·
   have hd2 := eq_of_beq hc2
   have hd : bL a b = 0 := pt
   refine gz h <| (W) ?_; clear h ac wo; intro ac wo h
   exact (rt h) (h.retP (by rw [hd] <;> rfl) (by rw [hd]; exact og))
  ·
   have hd2 := ne_of_beq_false hc2
   refine gz h <| (ai) ?_ ?_ <;> clear h ac wo <;> intro ac wo h hc3
   ·
    have hq3 := hc3; try simp at hq3
    have hd : bL a b = (-1) := pt
    refine gz h <| (W) ?_; clear h ac wo; intro ac wo h
    exact (rt h) (h.retP (by rw [hd] <;> rfl) (by rw [hd]; exact og))
   ·
    have hq3 := hc3; try simp at hq3
    have hd : bL a b = 1 := pt
    refine gz h <| (W) ?_; clear h ac wo; intro ac wo h
    exact (rt h) (h.retP (by rw [hd] <;> rfl) (by rw [hd]; exact og))
attribute [irreducible] bL
end Go.Sx
namespace Go.Sx
open Go Go.RowKit Go.Proofs
set_option maxRecDepth 100000
set_option maxHeartbeats 40000000
attribute [local irreducible] Code.wp wpList Rd Step ObS Ent
attribute [local irreducible] ap aN ak au aA bO
theorem ry (w : World) : (method (Tryz.prog.types.size + Made.depth) 55 (.agg #[]) "Check").run Tryz.prog w = .ok (366, .agg #[]) w := lR (P := Tryz.prog) (T := 55) Tryz.type55 (by kernel_rfl) uu55 w
instance yH8_2 : Mt Tryz.prog 55 (.agg #[]) "Check" 366 := ⟨ry⟩
theorem qn (w : World) : (nilAhead (Tryz.prog.types.size + Made.depth) 55 (.agg #[]) "Check").run Tryz.prog w = .ok (some false) w := j0 (P := Tryz.prog) (T := 55) (f := 366) Tryz.type55 (by kernel_rfl) uu55 w
instance yH8_3 : Nl Tryz.prog 55 (.agg #[]) "Check" := ⟨qn⟩
def bG (a : GI) : GI × Bool :=
 bif a.neg then
  ((⟨false, 0⟩ : GI), false)
 else
  bif (!(decide ((e5 (cw a.mag) (cw a.mag)) = a.mag))) then
   ((⟨false, 0⟩ : GI), false)
  else
   ((aH false (cw a.mag)), true)
theorem jM (a : GI) (ha : a.mag < 4) (za : SzI 30 a) (w0 : World)  : Calls Tryz.prog 276 #[(vI a)] w0 (dI w0 (.tuple #[(vI ((bG a).1)), (.bool ((bG a).2))]) (SzI 28 ((bG a).1))) := by
  refine enter (N := 20) (args := [(vI a)]) Tryz.func276 rfl rfl ?_; intro ac h
  refine gz h <| (xb) fun b1 => (xa) fun b2 => (ai) ?_ ?_ <;> clear h ac <;> intro ac wo h hc1
  ·
    have hq1 := hc1; try simp at hq1
    have hd : bG a = ((⟨false, 0⟩ : GI), false) := pt
    refine gz h <| (xo (hs := by exact bA pj exs rfl (v := (vI (⟨false, 0⟩ : GI))) rfl)) <| (W) ?_; clear h ac wo; intro ac wo h
    exact ret h rfl (.cell (v := (vI (⟨false, 0⟩ : GI))) rfl (i := 0) rfl aa25 zz25 rfl rfl rfl (.tmp rfl .nil)) rfl (h.retP (by rw [hd] <;> rfl) (by rw [hd]; exact (df 0 (by decide) og)))
  ·
    have hq1 := hc1; try simp at hq1
    have c1 := tH a.mag ha za
    have s1 := Calls.pr (c1 w0)
    refine gz h <| (xk (c1)) <| (W) ?_; clear h ac wo; intro ac wo h
    have c2 := j2 (cw a.mag) (cw a.mag) 28 og s1 s1
    have s2 := ao (c2 w0)
    refine gz h <| (dr0 (hob := (oK (c2)) <| oE)) <| (ai) ?_ ?_ <;> clear h ac wo <;> intro ac wo h hc2
    ·
      have hq2 := hc2; try simp at hq2
      have hd : bG a = ((⟨false, 0⟩ : GI), false) := pt
      refine gz h <| (xo (hs := by exact bA pj exs rfl (v := (vI (⟨false, 0⟩ : GI))) rfl)) <| (W) ?_; clear h ac wo; intro ac wo h
      exact ret h rfl (.cell (v := (vI (⟨false, 0⟩ : GI))) rfl (i := 0) rfl aa25 zz25 rfl rfl rfl (.tmp rfl .nil)) rfl (h.retP (by rw [hd] <;> rfl) (by rw [hd]; exact (df 0 (by decide) og)))
    ·
      have hq2 := hc2; try simp at hq2
      have c3 := bW false (cw a.mag) 29 og s1
      have s3 := ao (c3 w0)
      have hd : bG a = ((aH false (cw a.mag)), true) := pt
      refine gz h <| (xk (c3)) <| (W) ?_; clear h ac wo; intro ac wo h
      exact ret h rfl (.cell (v := (vI (aH false (cw a.mag)))) rfl (i := 0) rfl aa25 zz25 rfl rfl rfl (.tmp rfl .nil)) rfl (h.retP (by rw [hd] <;> rfl) (by rw [hd]; exact (gh s3 og)))
attribute [irreducible] bG
def cZ (a : GQ) : GQ × Bool :=
 bif ((!(bG a.num).2) || (!(bG (aa a)).2)) then
  ((⟨(⟨false, 0⟩ : GI), (⟨false, 0⟩ : GI)⟩ : GQ), false)
 else
  ((bo ((bG a.num).1) ((bG (aa a)).1)), true)
theorem ns (a : GQ) (ha : a.num.mag < 4 ∧ a.den = ⟨false, 0⟩) (za : SzQ 30 a) (w0 : World)  : Calls Tryz.prog 219 #[(vQ a)] w0 (dI w0 (.tuple #[(vQ ((cZ a).1)), (.bool ((cZ a).2))]) (SzQ 20 ((cZ a).1))) := by
 refine enter (N := 30) (args := [(vQ a)]) Tryz.func219 rfl rfl ?_; intro ac h
 have c1 := jM a.num ha.1 za.1
 have s1 := Calls.pr (c1 w0)
 have c2 := bE a 30 og za
 have s2 := ao (c2 w0)
 have c3 := jM (aa a) (xh ha.2).2 s2
 have s3 := Calls.pr (c3 w0)
 refine gz h <| (xb) fun b1 => (xa) fun b2 => (xk (c1)) <| (xa) fun b3 => (xk (c2)) <| (xk (c3)) <| (xa) fun b4 => (ai) ?_ ?_ <;> clear h ac <;> intro ac wo h hc1
 ·
  have hq1 := hc1; try simp at hq1
  have hd : cZ a = (oQ, false) := pt
  refine gz h <| (xo (hs := by exact bA oF exs rfl (v := (vQ oQ)) rfl)) <| (W) ?_; clear h ac wo; intro ac wo h
  exact ret h rfl (.cell (v := (vQ oQ)) rfl (i := 2) rfl Tryz.isAgg27 Tryz.sizeOf27 rfl rfl rfl (.tmp rfl .nil)) rfl (h.retP (by rw [hd] <;> rfl) (by rw [hd]; exact ⟨(df 0 (by decide) og), (df 0 (by decide) og)⟩))
 ·
  have hq1 := hc1; try simp at hq1
  have c4 := d6 ((bG a.num).1) ((bG (aa a)).1) 27 og s1 s3
  have s4 := ao (c4 w0)
  have hd : cZ a = ((bo ((bG a.num).1) ((bG (aa a)).1)), true) := pt
  refine gz h <| (xk (c4)) <| (W) ?_; clear h ac wo; intro ac wo h
  exact ret h rfl (.cell (v := (vQ (bo ((bG a.num).1) ((bG (aa a)).1)))) rfl (i := 2) rfl Tryz.isAgg27 Tryz.sizeOf27 rfl rfl rfl (.tmp rfl .nil)) rfl (h.retP (by rw [hd] <;> rfl) (by rw [hd]; exact (cO s4 og)))
attribute [irreducible] cZ
def kf (x : GR) : Int :=
 bif (((dC x.p) != 0) || ((dC x.r) != 0)) then
  5
 else
  bif ((au x.r) == (-1)) then
   5
  else
   bif ((au x.r) == 0) then
    bif x.neg then
     5
    else
     0
   else
    bif (cZ x.r).2 then
     5
    else
     0
attribute [irreducible] kf
def fO (i : Iv) : Int :=
 bif (((kf i.lo) != 0) || ((kf i.hi) != 0)) then
  5
 else
  bif (decide ((bL (aL i) (aI i)) ≥ 0)) then
   10
  else
   0
attribute [irreducible] fO
end Go.Sx
namespace Go.Sx
theorem tO : ∀ (f n : Nat), n ≤ f → n ≠ 0 → ((leF f n).reverse.headD 0).toNat ≠ 0
  | 0, n, h, h0 => absurd (by omega) h0
  | f + 1, n, h, h0 => by
    unfold leF
    have hb : Nat.beq n 0 = false := by
      cases e : Nat.beq n 0 with
      | false => rfl
      | true => exact absurd (Nat.eq_of_beq_eq_true e) h0
    rw [hb, cond_false, List.reverse_cons]
    by_cases e : n / 256 = 0
    · rw [e, lH]
      show (UInt8.ofNat (n % 256)).toNat ≠ 0
      rw [UInt8.toNat_ofNat']
      omega
    · have ih := tO f (n / 256) (by omega) e
      cases hr : (leF f (n / 256)).reverse with
      | nil =>
        rw [hr] at ih
        exact absurd rfl ih
      | cons x q =>
        rw [hr] at ih
        exact ih
theorem topb_ne {m : Nat} (h : m ≠ 0) : nq m ≠ 0 := tO m m (Nat.le_refl m) h
theorem icheck {a : GI} (h : IOk a) : fF a = 0 := by
  unfold fF
  by_cases e : a.mag = 0
  · rw [decide_eq_true e, h e]; rfl
  · rw [decide_eq_false e, show ((((nq a.mag) : Nat) : Int) == (((0 : Nat) : Int))) = false from beq_eq_false_iff_ne.2 (by have := topb_ne e; omega)]
    rfl
theorem qcheck {a : GQ} (h : QOk a) : dC a = 0 := by
  obtain ⟨h1, h2, h3⟩ := h
  have hd : IOk a.den := by
    rcases h2 with e | ⟨e, _⟩
    · rw [e]; intro _; rfl
    · intro _; exact e
  unfold dC
  rw [icheck h1, icheck hd]
  by_cases e : a.den = z0
  · rw [decide_eq_true (show a.den = ⟨false, 0⟩ from e)]; rfl
  · rw [decide_eq_false (show ¬ a.den = ⟨false, 0⟩ from e)]
    obtain ⟨n1, n2⟩ := h2.resolve_left e
    have h3 : Nat.Coprime a.num.mag a.den.mag := by unfold l5 at h3; rwa [if_neg e] at h3
    have hv : fP a.den = (a.den.mag : Int) := by unfold fP; rw [n1]; rfl
    have c1 : dB a.den rational_one = 1 := by
      rw [oO (b := rational_one) hd (lJ 1), hv, wB]
      unfold icmp
      rw [if_neg (by omega), if_pos (by omega)]
    have c2 : aW a.num a.den = rational_one := by
      unfold aW
      rw [show Nat.gcd a.num.mag a.den.mag = 1 from h3]; rfl
    rw [c1, decide_eq_true c2]; rfl
theorem isq_sq {a : GI} (h : (bG a).2 = true) : ∃ n : Nat, a.mag = n * n := by
  unfold bG at h
  cases hn : a.neg with
  | true => rw [hn] at h; cases h
  | false =>
    rw [hn, cond_false] at h
    by_cases e : e5 (cw a.mag) (cw a.mag) = a.mag
    · exact ⟨cw a.mag, e.symm⟩
    · rw [decide_eq_false e] at h; cases h
theorem v6 {r : GQ} (hr : QOk r) (hp : 0 ≤ ce r) (hs : ∀ q : Rat, q * q ≠ ce r) : (cZ r).2 = false := by
  unfold cZ
  cases h1 : (bG r.num).2 with
  | false => rfl
  | true =>
    cases h2 : (bG (aa r)).2 with
    | false => rfl
    | true =>
      exfalso
      obtain ⟨n, hn⟩ := isq_sq h1
      obtain ⟨d, hd⟩ := isq_sq h2
      obtain ⟨e1, e2⟩ := j4 hr
      have hdm : (aa r).mag = l5 r := by
        have := i4 (aa r); rw [e1] at this; simpa using this.symm
      have hq := sD hr
      have hden : (l5 r : Rat) ≠ 0 := nV hr
      refine hs ((n : Rat) / (d : Rat)) ?_
      have hd2 : (l5 r : Rat) = (d : Rat) * (d : Rat) := by rw [← Rat.natCast_mul, ← hd, hdm]
      have hnum : (fP r.num : Rat) = (n : Rat) * (n : Rat) := by
        have h0 : 0 ≤ (fP r.num : Rat) := by
          have h3 : ce r * (l5 r : Rat) = (fP r.num : Rat) := by unfold ce; rw [Rat.div_mul_cancel hden]
          rw [← h3]; exact ig hp (by rw [hd2]; exact sK _)
        have h4 : 0 ≤ fP r.num := by
          have : ((0 : Int) : Rat) ≤ (fP r.num : Rat) := h0
          exact Rat.intCast_le_intCast.1 this
        have h5 : (fP r.num) = ((r.num.mag : Nat) : Int) := by have := i4 r.num; omega
        rw [h5, Rat.intCast_natCast, hn, Rat.natCast_mul]
      have hd0 : (d : Rat) ≠ 0 := fun e => hden (by rw [hd2, e]; grind)
      unfold ce
      rw [hnum, hd2]
      exact div_sq hd0
theorem nC [K : Key] {x : GR} (hx : Tm x) : kf x = 0 := by
  obtain ⟨hp, hr, h⟩ := hx.ok
  unfold kf
  rw [qcheck hp, qcheck hr, jU hr]
  rcases h with ⟨h1, h2⟩ | ⟨h1, h2⟩
  · rw [h1, h2]; rfl
  · rw [show rsgn (ce x.r) = 1 by unfold rsgn; rw [if_neg (by grind), if_pos h1], v6 hr (by grind) h2]; rfl
theorem vcheck [K : Key] {i : Iv} (h : Wv i) : fO i = 0 := by
  unfold fO
  rw [nC h.1.1, nC h.1.2]
  have hc : bL (aL i) (aI i) = -1 := by
    unfold bL aL aI
    show (bif ((ap i.lo i.hi) != 0) then (ap i.lo i.hi) else bif (i.openLo == !i.openHi) then 0 else bif !i.openHi then (-1) else 1) = -1
    rw [h.1.1.cmp h.1.2]
    rcases Nat.lt_trichotomy (tk i.lo) (tk i.hi) with e | e | e
    · rw [ke e]; rfl
    · obtain ⟨o1, o2⟩ := h.2.2 e
      rw [e, il, o1, o2]; rfl
    · have := h.2.1; omega
  rw [hc]; rfl
end Go.Sx
