/- A part of the proof of movingpointLong. -/
import Derived.Test.YtbenbmdkhcfcfaaGreatDoorC8
import Derived.Test.YtbenbmdkhcfcfaaGreatDoorC1
import Derived.Test.YtbenbmdkhcfcfaaGreatDoorC7
import Derived.Test.YtbenbmdkhcfcfaaGreatDoorC2
import Derived.Test.YtbenbmdkhcfcfaaGreatDoorC6
set_option linter.unusedVariables false
set_option linter.unusedSimpArgs false
open Go.Proofs.Tryz renaming sizeOf4 → zz4, underlying282 → nn282
namespace Go.Sx
open Go Go.RowKit Go.Proofs
set_option maxRecDepth 100000
set_option maxHeartbeats 40000000
attribute [local irreducible] Code.wp wpList Rd Step ObS Ent
attribute [local irreducible] ar aO am au aA bG
def f7 (data : List (U Ln)) (n : Nat) (a : Nat) (b : Nat) (data1 : List (U Ln)) (blockSize : Nat) (data2 : List (U Ln)) : List (U Ln) :=
 data2
def f6 (data : List (U Ln)) (n : Nat) (a : Nat) (b : Nat) (data1 : List (U Ln)) (blockSize : Nat) (data2 : List (U Ln)) (a3 : Nat) (b3 : Nat) (data3 : List (U Ln)) : Nx (Nat × (List (U Ln))) (List (U Ln)) :=
 bif (decide (((a3 + blockSize : Nat) : Int) < ((n : Nat) : Int))) then
  .go ((blockSize * 2), (bo data3 a3 (a3 + blockSize) n))
 else
  .go ((blockSize * 2), data3)
def ec (data : List (U Ln)) (n : Nat) (a : Nat) (b : Nat) (data1 : List (U Ln)) (blockSize : Nat) (data2 : List (U Ln)) (a3 : Nat) (b3 : Nat) (data3 : List (U Ln)) : Nx (Nat × Nat × (List (U Ln))) (List (U Ln)) :=
 bif (decide (((b3 : Nat) : Int) ≤ ((n : Nat) : Int))) then
  .go (b3, (b3 + (2 * blockSize)), (bo data3 a3 (a3 + blockSize) b3))
 else
  .out (a3, b3, data3)
def ed (data : List (U Ln)) (n : Nat) (a : Nat) (b : Nat) (data1 : List (U Ln)) (blockSize : Nat) (data2 : List (U Ln)) : Nx (Nat × (List (U Ln))) (List (U Ln)) :=
 bif (decide (((blockSize : Nat) : Int) < ((n : Nat) : Int))) then
  fin (bC (fun s => ec data n a b data1 blockSize data2 s.1 s.2.1 s.2.2) (n - 0 + 1) (0, (2 * blockSize), data2)) (fun s => f6 data n a b data1 blockSize data2 s.1 s.2.1 s.2.2) (fun r => .ret r)
 else
  .out (blockSize, data2)
def f8 (data : List (U Ln)) (n : Nat) (a : Nat) (b : Nat) (data1 : List (U Ln)) : List (U Ln) :=
 fin (bC (fun s => ed data n a b data1 s.1 s.2) (n - 20 + 1) (20, (aI data1 a n))) (fun s => f7 data n a b data1 s.1 s.2) (fun r => r)
def ee (data : List (U Ln)) (n : Nat) (a : Nat) (b : Nat) (data1 : List (U Ln)) : Nx (Nat × Nat × (List (U Ln))) (List (U Ln)) :=
 bif (decide (((b : Nat) : Int) ≤ ((n : Nat) : Int))) then
  .go (b, (b + 20), (aI data1 a b))
 else
  .out (a, b, data1)
def bS (data : List (U Ln)) (n : Nat) : List (U Ln) :=
 fin (bC (fun s => ee data n s.1 s.2.1 s.2.2) (n + 20 - 20 + 1) (0, 20, data)) (fun s => f8 data n s.1 s.2.1 s.2.2) (fun r => r)
theorem i9 (data : List (U Ln)) (datav : Value) (n : Nat) (hn : n = data.length) (hl : data.length ≤ 1000) (zdata : All (fS 30) data) (w0 w : World) (B : Asn) (hbel : Below w0.heap.size w0 w) (hsep : ∃ Z_, Sep w0.heap.size w [.row (α := U Ln) 199 datav data, B] Z_)  : Calls Tryz.prog 292 #[datav, (.int .i64 ((n : Nat) : Int)), (.func (.func 273) #[] #[])] w (RetY w0 (fun v => v = .tuple #[] ∧ (All (fS 30) (bS data n) ∧ (bS data n).length = data.length)) (fun v => [.row (α := U Ln) 199 datav (bS data n), B])) := by
 refine jP (N := 63) (args := [datav, (.int .i64 ((n : Nat) : Int)), (.func (.func 273) #[] #[])]) Tryz.func292 rfl rfl hbel hsep ?_; intro ac h
 have hlendata := h.len 0 rfl
 obtain ⟨X1, hX1⟩ : ∃ X, bC (fun s => ee data n s.1 s.2.1 s.2.2) (n + 20 - 20 + 1) (0, 20, data) = X := ⟨_, rfl⟩
 refine gz h <| (W) ?_; clear h ac; intro ac wo h
 refine wp_loop_ghost (fun n_ a_ w_ => ∃ (a : Nat) (b : Nat) (data1 : List (U Ln)), (n + 20 - b < n_) ∧ (bC (fun s => ee data n s.1 s.2.1 s.2.2) n_ (a, b, data1) = X1) ∧ (All (fS 30) data1) ∧ (b = a + 20) ∧ (a ≤ n) ∧ (data1.length = data.length) ∧ St w0 63 [(0, datav), (1, (.int .i64 ((n : Nat) : Int))), (2, (.func (.func 273) #[] #[])), (6, (.int .i64 20)), (7, (.int .i64 ((a : Nat) : Int))), (8, (.int .i64 ((b : Nat) : Int)))] [.row (α := U Ln) 199 datav data1, B] a_ w_) (n + 20 - 20 + 1) ⟨0, 20, data, og, hX1, zdata, og, og, og, h.rs⟩ ?_
 clear h ac wo; rintro n1 ac wo ⟨a, b, data1, hm1, hL1, zdata1, hb0, ha0, hdl, h⟩
 obtain ⟨m1, rfl⟩ : ∃ m, n1 = m + 1 := ⟨n1 - 1, by omega⟩
 refine gz h <| (ai) ?_ ?_ <;> clear h ac wo <;> intro ac wo h hc1
 ·
  have hd1 := of_decide_eq_true hc1
  refine gz h <| (W) ?_; clear h ac wo; intro ac wo h
  refine on1 h 0 rfl (gH (vs := [datav, (.int .i64 ((a : Nat) : Int)), (.int .i64 ((b : Nat) : Int)), (.func (.func 273) #[] #[])]) (A := fun v => [.row (α := U Ln) 199 datav (aI data1 a b)]) (cO Tryz.call314 rfl) (fun w_ B_ hB_ hS_ => dc data1 datav a b og og og zdata1 w0 w_ B_ hB_ hS_ )) rfl ?_; clear h ac wo; intro vc ac wo s2 h
  obtain rfl : vc = _ := s2.1
  have p3 := s2.2.2
  refine gz h <| (W) ?_; clear h ac wo; intro ac wo h
  have hg := bQ hL1 pt
  exact aE ⟨m1, og, _, _, _, og, hg, s2.2.1, og, og, og, h.re [0, 1]⟩
 ·
  have hd1 := of_decide_eq_false hc1
  have hx1 := dM hL1 pt
  refine gz h <| (W) ?_; clear h ac wo; intro ac wo h
  refine on1 h 0 rfl (gH (vs := [datav, (.int .i64 ((a : Nat) : Int)), (.int .i64 ((n : Nat) : Int)), (.func (.func 273) #[] #[])]) (A := fun v => [.row (α := U Ln) 199 datav (aI data1 a n)]) (cO Tryz.call314 rfl) (fun w_ B_ hB_ hS_ => dc data1 datav a n og og og zdata1 w0 w_ B_ hB_ hS_ )) rfl ?_; clear h ac wo; intro vc ac wo s5 h
  obtain rfl : vc = _ := s5.1
  have p6 := s5.2.2
  obtain ⟨X2, hX2⟩ : ∃ X, bC (fun s => ed data n a b data1 s.1 s.2) (n - 20 + 1) (20, (aI data1 a n)) = X := ⟨_, rfl⟩
  refine gz h <| (W) ?_; clear h ac wo; intro ac wo h
  refine wp_loop_ghost (fun n_ a_ w_ => ∃ (blockSize : Nat) (data2 : List (U Ln)), (n - blockSize < n_) ∧ (bC (fun s => ed data n a b data1 s.1 s.2) n_ (blockSize, data2) = X2) ∧ (All (fS 30) data2) ∧ (20 ≤ blockSize) ∧ (blockSize ≤ 2 * n + 20) ∧ (data2.length = data.length) ∧ St w0 63 [(0, datav), (1, (.int .i64 ((n : Nat) : Int))), (2, (.func (.func 273) #[] #[])), (6, (.int .i64 ((blockSize : Nat) : Int)))] [.row (α := U Ln) 199 datav data2, B] a_ w_) (n - 20 + 1) ⟨20, (aI data1 a n), og, hX2, s5.2.1, og, og, og, h.rs⟩ ?_
  clear h ac wo; rintro n2 ac wo ⟨blockSize, data2, hm2, hL2, zdata2, hbs, hbl, hdl2, h⟩
  obtain ⟨m2, rfl⟩ : ∃ m, n2 = m + 1 := ⟨n2 - 1, by omega⟩
  refine gz h <| (ai) ?_ ?_ <;> clear h ac wo <;> intro ac wo h hc2
  ·
   have hd2 := of_decide_eq_true hc2
   obtain ⟨X3, hX3⟩ : ∃ X, bC (fun s => ec data n a b data1 blockSize data2 s.1 s.2.1 s.2.2) (n - 0 + 1) (0, (2 * blockSize), data2) = X := ⟨_, rfl⟩
   refine gz h <| (xo (hs := by exact jc rfl rfl (r := ((2 * blockSize : Nat) : Int)) (by first | (rw [IntKind.wrap_i64]; omega) | exact fL og og))) <| (W) ?_; clear h ac wo; intro ac wo h
   refine wp_loop_ghost (fun n_ a_ w_ => ∃ (a3 : Nat) (b3 : Nat) (data3 : List (U Ln)), (n - a3 < n_) ∧ (bC (fun s => ec data n a b data1 blockSize data2 s.1 s.2.1 s.2.2) n_ (a3, b3, data3) = X3) ∧ (All (fS 30) data3) ∧ (b3 = a3 + 2 * blockSize) ∧ (a3 ≤ n) ∧ (data3.length = data.length) ∧ St w0 63 [(0, datav), (1, (.int .i64 ((n : Nat) : Int))), (2, (.func (.func 273) #[] #[])), (6, (.int .i64 ((blockSize : Nat) : Int))), (7, (.int .i64 ((a3 : Nat) : Int))), (8, (.int .i64 ((b3 : Nat) : Int)))] [.row (α := U Ln) 199 datav data3, B] a_ w_) (n - 0 + 1) ⟨0, (2 * blockSize), data2, og, hX3, zdata2, og, og, og, h.rs⟩ ?_
   clear h ac wo; rintro n3 ac wo ⟨a3, b3, data3, hm3, hL3, zdata3, hb3, ha3, hdl3, h⟩
   obtain ⟨m3, rfl⟩ : ∃ m, n3 = m + 1 := ⟨n3 - 1, by omega⟩
   refine gz h <| (ai) ?_ ?_ <;> clear h ac wo <;> intro ac wo h hc3
   ·
    have hd3 := of_decide_eq_true hc3
    refine gz h <| (W) ?_; clear h ac wo; intro ac wo h
    refine on1 h 0 rfl (gH (vs := [datav, (.int .i64 ((a3 : Nat) : Int)), (.int .i64 ((a3 + blockSize : Nat) : Int)), (.int .i64 ((b3 : Nat) : Int)), (.func (.func 273) #[] #[])]) (A := fun v => [.row (α := U Ln) 199 datav (bo data3 a3 (a3 + blockSize) b3)]) (cO Tryz.call315 rfl) (fun w_ B_ hB_ hS_ => eO data3 datav a3 (a3 + blockSize) b3 og og og og zdata3 w0 w_ B_ hB_ hS_ )) rfl ?_; clear h ac wo; intro vc ac wo s8 h
    obtain rfl : vc = _ := s8.1
    have p9 := s8.2.2
    refine gz h <| (xo (hs := by exact jc rfl rfl (r := ((2 * blockSize : Nat) : Int)) (by first | (rw [IntKind.wrap_i64]; omega) | exact fL og og))) <| (W) ?_; clear h ac wo; intro ac wo h
    have hg := bQ hL3 pt
    exact aE ⟨m3, og, _, _, _, og, hg, s8.2.1, og, og, og, h.re [0, 1]⟩
   ·
    have hd3 := of_decide_eq_false hc3
    have hx3 := dM hL3 pt
    refine gz h <| (ai) ?_ ?_ <;> clear h ac wo <;> intro ac wo h hc4
    ·
     have hd4 := of_decide_eq_true hc4
     refine gz h <| (W) ?_; clear h ac wo; intro ac wo h
     refine on1 h 0 rfl (gH (vs := [datav, (.int .i64 ((a3 : Nat) : Int)), (.int .i64 ((a3 + blockSize : Nat) : Int)), (.int .i64 ((n : Nat) : Int)), (.func (.func 273) #[] #[])]) (A := fun v => [.row (α := U Ln) 199 datav (bo data3 a3 (a3 + blockSize) n)]) (cO Tryz.call315 rfl) (fun w_ B_ hB_ hS_ => eO data3 datav a3 (a3 + blockSize) n og og og og zdata3 w0 w_ B_ hB_ hS_ )) rfl ?_; clear h ac wo; intro vc ac wo s11 h
     obtain rfl : vc = _ := s11.1
     have p12 := s11.2.2
     refine gz h <| (xo (hs := by exact jc rfl rfl (r := ((blockSize * 2 : Nat) : Int)) (by first | (rw [IntKind.wrap_i64]; omega) | exact fL og og))) <| (W) ?_; clear h ac wo; intro ac wo h
     have hg := bQ hL2 pt
     exact aE ⟨m2, og, _, _, og, hg, s11.2.1, og, og, og, h.re [0, 1]⟩
    ·
     have hd4 := of_decide_eq_false hc4
     refine gz h <| (xo (hs := by exact jc rfl rfl (r := ((blockSize * 2 : Nat) : Int)) (by first | (rw [IntKind.wrap_i64]; omega) | exact fL og og))) <| (W) ?_; clear h ac wo; intro ac wo h
     have hg := bQ hL2 pt
     exact aE ⟨m2, og, _, _, og, hg, zdata3, og, og, og, h.re [0, 1]⟩
  ·
   have hd2 := of_decide_eq_false hc2
   have hx2 := dM hL2 pt
   have hd : bS data n = data2 := pt
   refine gz h <| (W) ?_; clear h ac wo; intro ac wo h
   exact kP (vs := []) h rfl .nil rfl ((h.pick [0, 1] (by decide)).retY ⟨rfl, (by rw [hd]; exact ⟨zdata2, og⟩)⟩ (by rw [hd]; rfl))
attribute [irreducible] bS
def cj (x : List (U Ln)) : List (U Ln) :=
 (bS x x.length)
theorem io (x : List (U Ln)) (xv : Value) (hl : x.length ≤ 1000) (zx : All (fS 30) x) (w0 w : World) (B : Asn) (hbel : Below w0.heap.size w0 w) (hsep : ∃ Z_, Sep w0.heap.size w [.row (α := U Ln) 199 xv x, B] Z_)  : Calls Tryz.prog 272 #[xv, (.func (.func 273) #[] #[])] w (RetY w0 (fun v => v = .tuple #[] ∧ (All (fS 30) (cj x) ∧ (cj x).length = x.length)) (fun v => [.row (α := U Ln) 199 xv (cj x), B])) := by
 refine jP (N := 9) (args := [xv, (.func (.func 273) #[] #[])]) Tryz.func272 rfl rfl hbel hsep ?_; intro ac h
 have hlenx := h.len 0 rfl
 refine gz h <| (W) ?_; clear h ac; intro ac wo h
 refine on1 h 0 rfl (gH (vs := [xv, (.int .i64 ((x.length : Nat) : Int)), (.func (.func 273) #[] #[])]) (A := fun v => [.row (α := U Ln) 199 xv (bS x x.length)]) (cO Tryz.call292 rfl) (fun w_ B_ hB_ hS_ => i9 x xv x.length og og zx w0 w_ B_ hB_ hS_ )) rfl ?_; clear h ac wo; intro vc ac wo s2 h
 obtain rfl : vc = _ := s2.1
 have p3 := s2.2.2
 have hd : cj x = (bS x x.length) := rfl
 refine gz h <| (W) ?_; clear h ac wo; intro ac wo h
 exact kP (vs := []) h rfl .nil rfl ((h.pick [0, 1] (by decide)).retY ⟨rfl, (by rw [hd]; exact ⟨s2.2.1, og⟩)⟩ (by rw [hd]; rfl))
attribute [irreducible] cj
def ag (l : List (U Ln)) : (List (U Ln)) :=
 (cj (aL l))
theorem f9 (l : List (U Ln)) (lv : Value) (hl : l.length ≤ 1000) (zl : All (fS 30) l) (w0 : World) (hlv : View w0 lv l) : Calls Tryz.prog 214 #[lv] w0 (RetR w0 199 (ag l) (All (fS 30) (ag l) ∧ (ag l).length = l.length)) := by
 refine enter (N := 9) (args := [lv]) Tryz.func214 rfl rfl ?_; intro ac h
 have hlenl := hlv.len
 refine gz h <| (W) ?_; clear h ac; intro ac wo h
 have s1 := RetR.pr ((fun w_ hB_ hS_ => cc l lv og zl w_ (hlv.below hB_)) _ h.bel h.sep)
 have p2 := s1.2
 have p2_0 := p2.1
 have p2_1 := p2.2
 refine jZ (xs := (aL l)) h (cO Tryz.call271 rfl) (fun w_ hB_ hS_ => cc l lv og zl w_ (hlv.below hB_)) rfl ?_; clear h ac wo; intro sv3 ac wo _ h
 refine gz h <| (W) ?_; clear h ac wo; intro ac wo h
 refine on1 h 0 rfl (gH (vs := [sv3, (.func (.func 273) #[] #[])]) (A := fun v => [.row (α := U Ln) 199 sv3 (cj (aL l))]) (cO Tryz.call272 rfl) (fun w_ B_ hB_ hS_ => io (aL l) sv3 og s1.1 w0 w_ B_ hB_ hS_ )) rfl ?_; clear h ac wo; intro vc ac wo s5 h
 obtain rfl : vc = _ := s5.1
 have p6 := s5.2.2
 refine gz h <| (W) ?_; clear h ac wo; intro ac wo h
 exact (rt h) (by unfold ag; exact h.retR 0 rfl ⟨s5.2.1, og⟩)
attribute [irreducible] ag
def fe (l : List (U Ln)) (x18 : Nat) (out : List (U Ln)) (x43 : Nat) : (List (U Ln)) × Int :=
 (out, 0)
def dF (l : List (U Ln)) (x18 : Nat) (out : List (U Ln)) (x43 : Nat) : Nx ((List (U Ln)) × Nat) ((List (U Ln)) × Int) :=
 bif (decide (((x43 : Nat) : Int) < (((ab (ag l)).length : Nat) : Int))) then
  bif (((decide (((out.length : Nat) : Int) > 0)) && (decide (((gt out (out.length - 1)).iv).hi = ((gt (ab (ag l)) x43).iv).lo))) && (!(aH ((gt out (out.length - 1)).iv)))) then
   bif (!(aH ((gt (ab (ag l)) x43).iv))) then
    bif ((!((gt out (out.length - 1)).iv).openHi) && (bK ((gt out (out.length - 1)).f) ((gt (ab (ag l)) x43).f))) then
     .go ((out.set (out.length - 1) (⟨(⟨((gt out (out.length - 1)).iv).lo, ((gt (ab (ag l)) x43).iv).hi, ((gt out (out.length - 1)).iv).openLo, true⟩ : Iv), (gt out (out.length - 1)).f⟩ : U Ln)), (x43 + 1))
    else
     bif ((((decide (((x43 : Nat) : Int) > 0)) && (aH ((gt (ab (ag l)) (x43 - 1)).iv))) && (decide (((gt (ab (ag l)) (x43 - 1)).iv).lo = ((gt (ab (ag l)) x43).iv).lo))) && (!(dC out (((gt (ab (ag l)) x43).iv).lo)))) then
      .go ((out ++ [(⟨(⟨((gt (ab (ag l)) x43).iv).lo, ((gt (ab (ag l)) x43).iv).hi, false, ((gt (ab (ag l)) x43).iv).openHi⟩ : Iv), (gt (ab (ag l)) x43).f⟩ : U Ln)]), (x43 + 1))
     else
      .go ((out ++ [(gt (ab (ag l)) x43)]), (x43 + 1))
   else
    bif (bh ((gt out (out.length - 1)).f) ((gt (ab (ag l)) x43).f) (((gt (ab (ag l)) x43).iv).lo)) then
     .go ((out.set (out.length - 1) (⟨(⟨((gt out (out.length - 1)).iv).lo, ((gt out (out.length - 1)).iv).hi, ((gt out (out.length - 1)).iv).openLo, false⟩ : Iv), (gt out (out.length - 1)).f⟩ : U Ln)), (x43 + 1))
    else
     bif (((decide (((x43 + 1 : Nat) : Int) < (((ab (ag l)).length : Nat) : Int))) && (decide (((gt (ab (ag l)) (x43 + 1)).iv).lo = ((gt (ab (ag l)) x43).iv).lo))) && (bh ((gt (ab (ag l)) (x43 + 1)).f) ((gt (ab (ag l)) x43).f) (((gt (ab (ag l)) x43).iv).lo))) then
      .go (out, (x43 + 1))
     else
      .go ((out ++ [(⟨(gt (ab (ag l)) x43).iv, (av ((gt (ab (ag l)) x43).f) (((gt (ab (ag l)) x43).iv).lo))⟩ : U Ln)]), (x43 + 1))
  else
   bif (!(aH ((gt (ab (ag l)) x43).iv))) then
    bif ((((decide (((x43 : Nat) : Int) > 0)) && (aH ((gt (ab (ag l)) (x43 - 1)).iv))) && (decide (((gt (ab (ag l)) (x43 - 1)).iv).lo = ((gt (ab (ag l)) x43).iv).lo))) && (!(dC out (((gt (ab (ag l)) x43).iv).lo)))) then
     .go ((out ++ [(⟨(⟨((gt (ab (ag l)) x43).iv).lo, ((gt (ab (ag l)) x43).iv).hi, false, ((gt (ab (ag l)) x43).iv).openHi⟩ : Iv), (gt (ab (ag l)) x43).f⟩ : U Ln)]), (x43 + 1))
    else
     .go ((out ++ [(gt (ab (ag l)) x43)]), (x43 + 1))
   else
    bif (((decide (((x43 + 1 : Nat) : Int) < (((ab (ag l)).length : Nat) : Int))) && (decide (((gt (ab (ag l)) (x43 + 1)).iv).lo = ((gt (ab (ag l)) x43).iv).lo))) && (bh ((gt (ab (ag l)) (x43 + 1)).f) ((gt (ab (ag l)) x43).f) (((gt (ab (ag l)) x43).iv).lo))) then
     .go (out, (x43 + 1))
    else
     .go ((out ++ [(⟨(gt (ab (ag l)) x43).iv, (av ((gt (ab (ag l)) x43).f) (((gt (ab (ag l)) x43).iv).lo))⟩ : U Ln)]), (x43 + 1))
 else
  .out (out, x43)
def ff (l : List (U Ln)) (x18 : Nat) : (List (U Ln)) × Int :=
 fin (bC (fun s => dF l x18 s.1 s.2) (((ab (ag l)).length - 0) + 1) ([], 0)) (fun s => fe l x18 s.1 s.2) (fun r => r)
def dG (l : List (U Ln)) (x18 : Nat) : Nx Nat ((List (U Ln)) × Int) :=
 bif (decide (((x18 : Nat) : Int) < (((ag l).length : Nat) : Int))) then
  bif ((decide (((x18 : Nat) : Int) > 0)) && (!(dD ((gt (ag l) (x18 - 1)).iv) ((gt (ag l) x18).iv)))) then
   .ret ([], 11)
  else
   .go (x18 + 1)
 else
  .out x18
def bu (l : List (U Ln)) : (List (U Ln)) × Int :=
 fin (bC (fun s => dG l s) ((l.length - 0) + 1) 0) (fun s => ff l s) (fun r => r)
theorem gb (l : List (U Ln)) (lv : Value) (hl : l.length ≤ 300) (zl : All (fS 30) l) (w0 : World) (hlv : View w0 lv l) : Calls Tryz.prog 132 #[(.iface 80 (.agg #[])), lv] w0 (RetT w0 199 (bu l).1 [.int .i64 ((bu l).2)] (All (fS 20) ((bu l).1) ∧ (bu l).1.length ≤ 3 * l.length)) := by
 refine enter (N := 219) (args := [(.iface 80 (.agg #[])), lv]) Tryz.func132 rfl rfl ?_; intro ac h
 have hlenl := hlv.len
 refine gz h <| (W) ?_; clear h ac; intro ac wo h
 have s1 := RetR.pr ((fun w_ hB_ hS_ => f9 l lv og zl w_ (hlv.below hB_)) _ h.bel h.sep)
 have p2 := s1.2
 refine jZ (xs := (ag l)) h (cO Tryz.call214 rfl) (fun w_ hB_ hS_ => f9 l lv og zl w_ (hlv.below hB_)) rfl ?_; clear h ac wo; intro sv3 ac wo _ h
 obtain ⟨X1, hX1⟩ : ∃ X, bC (fun s => dG l s) ((l.length - 0) + 1) 0 = X := ⟨_, rfl⟩
 refine gz h <| (W) ?_; clear h ac wo; intro ac wo h
 refine wp_loop_ghost (fun n_ a_ w_ => ∃ (x18 : Nat), ((l.length - x18) < n_) ∧ (bC (fun s => dG l s) n_ x18 = X1) ∧ (x18 ≤ l.length) ∧ St w0 219 [(0, (.iface 80 (.agg #[]))), (1, sv3), (17, (.int .i64 (((ag l).length : Nat) : Int))), (18, (.int .i64 ((x18 : Nat) : Int)))] [.row (α := U Ln) 199 sv3 (ag l)] a_ w_) ((l.length - 0) + 1) ⟨0, og, hX1, og, h.rs⟩ ?_
 clear h ac wo; rintro n1 ac wo ⟨x18, hm1, hL1, hx18, h⟩
 obtain ⟨m1, rfl⟩ : ∃ m, n1 = m + 1 := ⟨n1 - 1, by omega⟩
 refine gz h <| (ai) ?_ ?_ <;> clear h ac wo <;> intro ac wo h hc1
 ·
  have hd1 := of_decide_eq_true hc1
  refine gz h <| (dr0 (hob := (oG (by exact fun hg => jk ((gt (ag l) (x18 - 1)).iv) ((gt (ag l) x18).iv) 10 og (All.gt s1.1 (bc _)).1 (All.gt s1.1 (bc _)).1)) <| oE)) <| (ai) ?_ ?_ <;> clear h ac wo <;> intro ac wo h hc2
  ·
   have hq2 := hc2; try simp at hq2
   refine gz h <| (W) ?_; clear h ac wo; intro ac wo h
   replace h := h.nilRow (α := U Ln) 199
   have hr1 := nt hL1 pt
   have hd : bu l = ([], 11) := pt
   exact (rt h) (by rw [hd]; exact h.retT 0 rfl rfl ⟨All.nil, og⟩)
  ·
   have hq2 := hc2; try simp at hq2
   refine gz h <| (W) ?_; clear h ac wo; intro ac wo h
   have hg := bQ hL1 pt
   exact aE ⟨m1, og, _, og, hg, og, h.re [0]⟩
 ·
  have hd1 := of_decide_eq_false hc1
  have hx1 := dM hL1 pt
  refine gz h <| (W) ?_; clear h ac wo; intro ac wo h
  have s5 := RetR.pr ((fun w_ hB_ hS_ => eG (ag l) sv3 og s1.1 w_ (row_view hS_ 0 rfl)) _ h.bel h.sep)
  have p6 := s5.2
  refine jZ (xs := (ab (ag l))) h (cO Tryz.call215 rfl) (fun w_ hB_ hS_ => eG (ag l) sv3 og s1.1 w_ (row_view hS_ 0 rfl)) rfl ?_; clear h ac wo; intro sv7 ac wo _ h
  refine gz h <| (W) ?_; clear h ac wo; intro ac wo h
  replace h := h.nilRow (α := U Ln) 199
  obtain ⟨X2, hX2⟩ : ∃ X, bC (fun s => dF l x18 s.1 s.2) (((ab (ag l)).length - 0) + 1) ([], 0) = X := ⟨_, rfl⟩
  refine wp_loop_ghost (fun n_ a_ w_ => ∃ (out : List (U Ln)) (x43 : Nat) (outv : Value), (((ab (ag l)).length - x43) < n_) ∧ (bC (fun s => dF l x18 s.1 s.2) n_ (out, x43) = X2) ∧ (x43 ≤ (ab (ag l)).length) ∧ (All (fS 20) out) ∧ (out.length ≤ x43) ∧ St w0 219 [(0, (.iface 80 (.agg #[]))), (7, outv), (8, sv7), (41, sv7), (42, (.int .i64 (((ab (ag l)).length : Nat) : Int))), (43, (.int .i64 ((x43 : Nat) : Int)))] [.row (α := U Ln) 199 outv out, .row (α := U Ln) 199 sv7 (ab (ag l)), .row (α := U Ln) 199 sv3 (ag l)] a_ w_) (((ab (ag l)).length - 0) + 1) ⟨[], 0, (.slice none 0 0), og, hX2, og, All.nil, og, h.rs⟩ ?_
  clear h ac wo; rintro n2 ac wo ⟨out, x43, outv, hm2, hL2, hx43, zout, hol, h⟩
  obtain ⟨m2, rfl⟩ : ∃ m, n2 = m + 1 := ⟨n2 - 1, by omega⟩
  refine gz h <| (ai) ?_ ?_ <;> clear h ac wo <;> intro ac wo h hc3
  ·
   have hd3 := of_decide_eq_true hc3
   refine gz h <| (xa) fun b1 => (xa) fun b2 => (dr0 (hob := (oG (by exact fun hg => bZ ((gt out (out.length - 1)).iv))) <| oE)) <| (ai) ?_ ?_ <;> clear h ac wo <;> intro ac wo h hc4
   ·
    have hq4 := hc4; try simp at hq4
    refine gz h <| (xk (bZ ((gt (ab (ag l)) x43).iv))) <| (ai) ?_ ?_ <;> clear h ac wo <;> intro ac wo h hc5
    ·
     have hq5 := hc5; try simp at hq5
     refine gz h <| (dr0 (hob := (oG (by exact fun hg => gK ((gt out (out.length - 1)).f) ((gt (ab (ag l)) x43).f) (All.gt zout (bc _)).2 (gi (All.gt s5.1 (bc _)).2 og))) <| oE)) <| (ai) ?_ ?_ <;> clear h ac wo <;> intro ac wo h hc6
     ·
      have hq6 := hc6; try simp at hq6
      refine gz h <| (W) ?_; clear h ac wo; intro ac wo h
      refine up h 2 rfl (fw (k := 9) (u' := (⟨(⟨((gt out (out.length - 1)).iv).lo, ((gt (ab (ag l)) x43).iv).hi, ((gt out (out.length - 1)).iv).openLo, ((gt out (out.length - 1)).iv).openHi⟩ : Iv), (gt out (out.length - 1)).f⟩ : U Ln)) Tryz.sizeOf71 (iL og) rfl rfl rfl rfl rfl rfl rfl rfl) ?_; clear h ac wo; intro ac wo h
      refine gz h <| (W) ?_; clear h ac wo; intro ac wo h
      refine up h 2 rfl (fw (k := 19) (u' := (⟨(⟨((gt out (out.length - 1)).iv).lo, ((gt (ab (ag l)) x43).iv).hi, ((gt out (out.length - 1)).iv).openLo, true⟩ : Iv), (gt out (out.length - 1)).f⟩ : U Ln)) zz4 (kJ og) rfl rfl rfl rfl rfl rfl rfl rfl) ?_; clear h ac wo; intro ac wo h
      replace h := h.rowEq 2 rfl (by rw [List.set_set] : _ = (out.set (out.length - 1) (⟨(⟨((gt out (out.length - 1)).iv).lo, ((gt (ab (ag l)) x43).iv).hi, ((gt out (out.length - 1)).iv).openLo, true⟩ : Iv), (gt out (out.length - 1)).f⟩ : U Ln)))
      refine gz h <| (W) ?_; clear h ac wo; intro ac wo h
      have hg := bQ hL2 pt
      exact aE ⟨m2, og, _, _, _, og, hg, og, (All.set zout ⟨⟨((All.gt zout (bc _)).1).1, (dY ((All.gt s5.1 (bc _)).1).2 og)⟩, (All.gt zout (bc _)).2⟩), og, h.re [2, 3, 4]⟩
     ·
      have hq6 := hc6; try simp at hq6
      refine gz h <| (dr0 (hob := (oG (by exact fun hg => bZ ((gt (ab (ag l)) (x43 - 1)).iv))) <| (oX (h := by exact fun _ => og1 (acc := [2]) rfl rfl rfl rfl (fun hg => fO (cO Tryz.call216 (gG (eM rfl hg) (gG (eM rfl hg) rfl))) (fun w_ hB_ hS_ => eQ out outv (((gt (ab (ag l)) x43).iv).lo) zout ((All.gt s5.1 (bc _)).1).1 w_ (row_view hS_ 0 rfl))))) <| oE)) <| (ai) ?_ ?_ <;> clear h ac wo <;> intro ac wo h hc7
      ·
       have hq7 := hc7; try simp at hq7
       refine gz h <| (xs 1 (cUN (⟨(⟨((gt (ab (ag l)) x43).iv).lo, ((gt (ab (ag l)) x43).iv).hi, false, ((gt (ab (ag l)) x43).iv).openHi⟩ : Iv), (gt (ab (ag l)) x43).f⟩ : U Ln))) <| (W) ?_; clear h ac wo; intro ac wo h
       refine nw h (cA (α := U Ln) (xs := [.tmp 160]) (vs := [(vUN (⟨(⟨((gt (ab (ag l)) x43).iv).lo, ((gt (ab (ag l)) x43).iv).hi, false, ((gt (ab (ag l)) x43).iv).openHi⟩ : Iv), (gt (ab (ag l)) x43).f⟩ : U Ln))]) [(⟨(⟨((gt (ab (ag l)) x43).iv).lo, ((gt (ab (ag l)) x43).iv).hi, false, ((gt (ab (ag l)) x43).iv).openHi⟩ : Iv), (gt (ab (ag l)) x43).f⟩ : U Ln)] eU rfl rfl rfl (by decide)) rfl ?_; clear h ac wo; intro sv9 ac wo nnsv9 h
       refine on2 h 3 0 rfl rfl (fm (xs := out) (ys := [(⟨(⟨((gt (ab (ag l)) x43).iv).lo, ((gt (ab (ag l)) x43).iv).hi, false, ((gt (ab (ag l)) x43).iv).openHi⟩ : Iv), (gt (ab (ag l)) x43).f⟩ : U Ln)]) eU (fun w hs => (row_view hs 0 rfl)) rfl rfl og) rfl ?_; clear h ac wo; intro sv10 ac wo apsv10 h
       refine gz h <| (W) ?_; clear h ac wo; intro ac wo h
       have hg := bQ hL2 pt
       exact aE ⟨m2, og, _, _, _, og, hg, og, (All.app zout (All.cons ⟨⟨(dY ((All.gt s5.1 (bc _)).1).1 og), (dY ((All.gt s5.1 (bc _)).1).2 og)⟩, (gi (All.gt s5.1 (bc _)).2 og)⟩ All.nil)), og, h.re [0, 4, 5]⟩
      ·
       have hq7 := hc7; try simp at hq7
       refine gz h <| (W) ?_; clear h ac wo; intro ac wo h
       refine nw h (cA (α := U Ln) (xs := [.tmp 160]) (vs := [(vUN (gt (ab (ag l)) x43))]) [(gt (ab (ag l)) x43)] eU rfl rfl rfl (by decide)) rfl ?_; clear h ac wo; intro sv11 ac wo nnsv11 h
       refine on2 h 3 0 rfl rfl (fm (xs := out) (ys := [(gt (ab (ag l)) x43)]) eU (fun w hs => (row_view hs 0 rfl)) rfl rfl og) rfl ?_; clear h ac wo; intro sv12 ac wo apsv12 h
       refine gz h <| (W) ?_; clear h ac wo; intro ac wo h
       have hg := bQ hL2 pt
       exact aE ⟨m2, og, _, _, _, og, hg, og, (All.app zout (All.cons (l8 (All.gt s5.1 (bc _)) og) All.nil)), og, h.re [0, 4, 5]⟩
    ·
     have hq5 := hc5; try simp at hq5
     refine gz h <| (dr0 (hob := (oG (by exact fun hg => cX ((gt out (out.length - 1)).f) ((gt (ab (ag l)) x43).f) (((gt (ab (ag l)) x43).iv).lo) (All.gt zout (bc _)).2 (gi (All.gt s5.1 (bc _)).2 og) ((All.gt s5.1 (bc _)).1).1)) <| oE)) <| (ai) ?_ ?_ <;> clear h ac wo <;> intro ac wo h hc8
     ·
      have hq8 := hc8; try simp at hq8
      refine gz h <| (W) ?_; clear h ac wo; intro ac wo h
      refine up h 2 rfl (fw (k := 19) (u' := (⟨(⟨((gt out (out.length - 1)).iv).lo, ((gt out (out.length - 1)).iv).hi, ((gt out (out.length - 1)).iv).openLo, false⟩ : Iv), (gt out (out.length - 1)).f⟩ : U Ln)) zz4 (iL og) rfl rfl rfl rfl rfl rfl rfl rfl) ?_; clear h ac wo; intro ac wo h
      refine gz h <| (W) ?_; clear h ac wo; intro ac wo h
      have hg := bQ hL2 pt
      exact aE ⟨m2, og, _, _, _, og, hg, og, (All.set zout ⟨⟨((All.gt zout (bc _)).1).1, ((All.gt zout (bc _)).1).2⟩, (All.gt zout (bc _)).2⟩), og, h.re [2, 3, 4]⟩
     ·
      have hq8 := hc8; try simp at hq8
      refine gz h <| (dr0 (hob := (oG (by exact fun hg => cX ((gt (ab (ag l)) (x43 + 1)).f) ((gt (ab (ag l)) x43).f) (((gt (ab (ag l)) x43).iv).lo) (gi (All.gt s5.1 (bc _)).2 og) (gi (All.gt s5.1 (bc _)).2 og) ((All.gt s5.1 (bc _)).1).1)) <| oE)) <| (ai) ?_ ?_ <;> clear h ac wo <;> intro ac wo h hc9
      ·
       have hq9 := hc9; try simp at hq9
       refine gz h <| (W) ?_; clear h ac wo; intro ac wo h
       have hg := bQ hL2 pt
       exact aE ⟨m2, og, _, _, _, og, hg, og, zout, og, h.re [2, 3, 4]⟩
      ·
       have hq9 := hc9; try simp at hq9
       have c13 := ef ((gt (ab (ag l)) x43).f) (((gt (ab (ag l)) x43).iv).lo) (All.gt s5.1 (bc _)).2 ((All.gt s5.1 (bc _)).1).1
       have s13 := Calls.pr (c13 w0)
       refine gz h <| (xk (c13)) <| (xs 1 (cUN (⟨(gt (ab (ag l)) x43).iv, (av ((gt (ab (ag l)) x43).f) (((gt (ab (ag l)) x43).iv).lo))⟩ : U Ln))) <| (W) ?_; clear h ac wo; intro ac wo h
       refine nw h (cA (α := U Ln) (xs := [.tmp 87]) (vs := [(vUN (⟨(gt (ab (ag l)) x43).iv, (av ((gt (ab (ag l)) x43).f) (((gt (ab (ag l)) x43).iv).lo))⟩ : U Ln))]) [(⟨(gt (ab (ag l)) x43).iv, (av ((gt (ab (ag l)) x43).f) (((gt (ab (ag l)) x43).iv).lo))⟩ : U Ln)] eU rfl rfl rfl (by decide)) rfl ?_; clear h ac wo; intro sv14 ac wo nnsv14 h
       refine on2 h 3 0 rfl rfl (fm (xs := out) (ys := [(⟨(gt (ab (ag l)) x43).iv, (av ((gt (ab (ag l)) x43).f) (((gt (ab (ag l)) x43).iv).lo))⟩ : U Ln)]) eU (fun w hs => (row_view hs 0 rfl)) rfl rfl og) rfl ?_; clear h ac wo; intro sv15 ac wo apsv15 h
       refine gz h <| (W) ?_; clear h ac wo; intro ac wo h
       have hg := bQ hL2 pt
       exact aE ⟨m2, og, _, _, _, og, hg, og, (All.app zout (All.cons ⟨(pz (All.gt s5.1 (bc _)).1 og), s13⟩ All.nil)), og, h.re [0, 4, 5]⟩
   ·
    have hq4 := hc4; try simp at hq4
    refine gz h <| (xk (bZ ((gt (ab (ag l)) x43).iv))) <| (ai) ?_ ?_ <;> clear h ac wo <;> intro ac wo h hc10
    ·
     have hq10 := hc10; try simp at hq10
     refine gz h <| (W) ?_; clear h ac wo; intro ac wo h
     refine fK mixed [dv _, dv _, dv _, ⟨.det (gv false undef), []⟩, ⟨.det (gv false undef), []⟩, ⟨.det (gv false undef), []⟩, ⟨.det (gv false undef), []⟩, ⟨.det (gv false undef), []⟩, ⟨.det (gv false undef), []⟩, dv _, dv _, ⟨.det (gv false undef), []⟩, ⟨.det (gv false undef), []⟩, ⟨.det (gv false undef), []⟩, ⟨.det (gv false undef), []⟩, ⟨.det (gv false undef), []⟩, ⟨.det (gv false undef), []⟩, ⟨.det (gv false undef), []⟩, ⟨.det (gv false undef), []⟩, ⟨.det (gv false undef), []⟩, ⟨.det (gv false undef), []⟩, ⟨.det (gv false undef), []⟩, dv _] [⟨_, []⟩, ⟨_, []⟩, ⟨_, []⟩, ⟨_, []⟩, ⟨_, []⟩] h rfl (by kernel_rfl) ⟨fun _ _ => om rfl, fun _ _ => bm (kA nn282 rfl (p := none)), fun _ _ => om rfl, (fun ξ hφ => by exact fD (c := true) (b := false) (g := false) [] rfl rfl rfl rfl g_t (fun hg => absurd hg (by decide))), (fun ξ hφ => by exact fD (c := true) (b := false) (g := false) [] rfl rfl rfl rfl g_t (fun hg => absurd hg (by decide))), (fun ξ hφ => by exact fD (c := true) (b := false) (g := false) [] rfl rfl rfl rfl g_t (fun hg => absurd hg (by decide))), (fun ξ hφ => by exact fD (c := true) (b := false) (g := false) [] rfl rfl rfl rfl g_t (fun hg => absurd hg (by decide))), (fun ξ hφ => by exact fD (c := true) (b := false) (g := false) [] rfl rfl rfl rfl g_t (fun hg => absurd hg (by decide))), (fun ξ hφ => by exact fD (c := true) (b := false) (g := false) [] rfl rfl rfl rfl g_t (fun hg => absurd hg (by decide))), fun _ _ => bm (kQ (b := false) rfl (fun e => absurd e (by decide)) (fun _ => rfl) (v := .bool false)), fun _ _ => om rfl, (fun ξ hφ => by exact fD (c := true) (b := false) (g := false) [] rfl rfl rfl rfl g_t (fun hg => absurd hg (by decide))), (fun ξ hφ => by exact fD (c := true) (b := false) (g := false) [] rfl rfl rfl rfl g_t (fun hg => absurd hg (by decide))), (fun ξ hφ => by exact fD (c := true) (b := false) (g := false) [] rfl rfl rfl rfl g_t (fun hg => absurd hg (by decide))), (fun ξ hφ => by exact fD (c := true) (b := false) (g := false) [] rfl rfl rfl rfl g_t (fun hg => absurd hg (by decide))), (fun ξ hφ => by exact fD (c := true) (b := false) (g := false) [] rfl rfl rfl rfl g_t (fun hg => absurd hg (by decide))), (fun ξ hφ => by exact fD (c := true) (b := false) (g := false) [] rfl rfl rfl rfl g_t (fun hg => absurd hg (by decide))), (fun ξ hφ => by exact fD (c := true) (b := false) (g := false) [] rfl rfl rfl rfl g_t (fun hg => absurd hg (by decide))), (fun ξ hφ => by exact fD (c := true) (b := false) (g := false) [] rfl rfl rfl rfl g_t (fun hg => absurd hg (by decide))), (fun ξ hφ => by exact fD (c := true) (b := false) (g := false) [] rfl rfl rfl rfl g_t (fun hg => absurd hg (by decide))), (fun ξ hφ => by exact fD (c := true) (b := false) (g := false) [] rfl rfl rfl rfl g_t (fun hg => absurd hg (by decide))), (fun ξ hφ => by exact fD (c := true) (b := false) (g := false) [] rfl rfl rfl rfl g_t (fun hg => absurd hg (by decide))), fun _ _ => bm (kQ (b := false) rfl (fun e => absurd e (by decide)) (fun _ => rfl) (v := .bool false)), trivial⟩ ?_
     clear h ac wo; intro ξ ac wo hφ h
     replace h : St w0 219 [(0, (.iface 80 (.agg #[]))), (7, outv), (8, sv7), (41, sv7), (42, (.int .i64 (((ab (ag l)).length : Nat) : Int))), (43, (.int .i64 ((x43 : Nat) : Int))), (10, (ptr b1 0)), (9, (.int .i64 ((x43 : Nat) : Int))), (11, (ptr b2 0)), (12, (.pointer none)), (117, (.bool false))] [.blk b2 (cR (((gt (ab (ag l)) x43).iv).lo)) 71, .blk b1 (cUN (gt (ab (ag l)) x43)) 199, .row (α := U Ln) 199 outv out, .row (α := U Ln) 199 sv7 (ab (ag l)), .row (α := U Ln) 199 sv3 (ag l)] ac wo := (h.pick [0, 1, 2, 3, 4] (by decide)).sub ⟨rfl, rfl, rfl, rfl, rfl, rfl, rfl, rfl, rfl, rfl, rfl, trivial⟩
     clear hφ ξ
     refine gz h <| (W) ?_; clear h ac wo; intro ac wo h
     refine rV h rfl ?_
     refine gz h <| (dr0 (hob := (oG (by exact fun hg => bZ ((gt (ab (ag l)) (x43 - 1)).iv))) <| (oX (h := by exact fun _ => og1 (acc := [2]) rfl rfl rfl rfl (fun hg => fO (cO Tryz.call216 (gG (eM rfl hg) (gG (eM rfl hg) rfl))) (fun w_ hB_ hS_ => eQ out outv (((gt (ab (ag l)) x43).iv).lo) zout ((All.gt s5.1 (bc _)).1).1 w_ (row_view hS_ 0 rfl))))) <| oE)) <| (ai) ?_ ?_ <;> clear h ac wo <;> intro ac wo h hc11
     ·
      have hq11 := hc11; try simp at hq11
      refine gz h <| (xs 1 (cUN (⟨(⟨((gt (ab (ag l)) x43).iv).lo, ((gt (ab (ag l)) x43).iv).hi, false, ((gt (ab (ag l)) x43).iv).openHi⟩ : Iv), (gt (ab (ag l)) x43).f⟩ : U Ln))) <| (W) ?_; clear h ac wo; intro ac wo h
      refine nw h (cA (α := U Ln) (xs := [.tmp 160]) (vs := [(vUN (⟨(⟨((gt (ab (ag l)) x43).iv).lo, ((gt (ab (ag l)) x43).iv).hi, false, ((gt (ab (ag l)) x43).iv).openHi⟩ : Iv), (gt (ab (ag l)) x43).f⟩ : U Ln))]) [(⟨(⟨((gt (ab (ag l)) x43).iv).lo, ((gt (ab (ag l)) x43).iv).hi, false, ((gt (ab (ag l)) x43).iv).openHi⟩ : Iv), (gt (ab (ag l)) x43).f⟩ : U Ln)] eU rfl rfl rfl (by decide)) rfl ?_; clear h ac wo; intro sv16 ac wo nnsv16 h
      refine on2 h 3 0 rfl rfl (fm (xs := out) (ys := [(⟨(⟨((gt (ab (ag l)) x43).iv).lo, ((gt (ab (ag l)) x43).iv).hi, false, ((gt (ab (ag l)) x43).iv).openHi⟩ : Iv), (gt (ab (ag l)) x43).f⟩ : U Ln)]) eU (fun w hs => (row_view hs 0 rfl)) rfl rfl og) rfl ?_; clear h ac wo; intro sv17 ac wo apsv17 h
      refine gz h <| (W) ?_; clear h ac wo; intro ac wo h
      have hg := bQ hL2 pt
      exact aE ⟨m2, og, _, _, _, og, hg, og, (All.app zout (All.cons ⟨⟨(dY ((All.gt s5.1 (bc _)).1).1 og), (dY ((All.gt s5.1 (bc _)).1).2 og)⟩, (gi (All.gt s5.1 (bc _)).2 og)⟩ All.nil)), og, h.re [0, 4, 5]⟩
     ·
      have hq11 := hc11; try simp at hq11
      refine gz h <| (W) ?_; clear h ac wo; intro ac wo h
      refine nw h (cA (α := U Ln) (xs := [.tmp 160]) (vs := [(vUN (gt (ab (ag l)) x43))]) [(gt (ab (ag l)) x43)] eU rfl rfl rfl (by decide)) rfl ?_; clear h ac wo; intro sv18 ac wo nnsv18 h
      refine on2 h 3 0 rfl rfl (fm (xs := out) (ys := [(gt (ab (ag l)) x43)]) eU (fun w hs => (row_view hs 0 rfl)) rfl rfl og) rfl ?_; clear h ac wo; intro sv19 ac wo apsv19 h
      refine gz h <| (W) ?_; clear h ac wo; intro ac wo h
      have hg := bQ hL2 pt
      exact aE ⟨m2, og, _, _, _, og, hg, og, (All.app zout (All.cons (l8 (All.gt s5.1 (bc _)) og) All.nil)), og, h.re [0, 4, 5]⟩
    ·
     have hq10 := hc10; try simp at hq10
     refine gz h <| (W) ?_; clear h ac wo; intro ac wo h
     refine fK mixed [dv _, dv _, dv _, ⟨.det (gv false undef), []⟩, ⟨.det (gv false undef), []⟩, ⟨.det (gv false undef), []⟩, ⟨.det (gv false undef), []⟩, ⟨.det (gv false undef), []⟩, ⟨.det (gv false undef), []⟩, ⟨.det (gv false undef), []⟩, ⟨.det (gv false undef), []⟩, ⟨.det (gv false undef), []⟩, ⟨.det (gv false undef), []⟩, ⟨.det (gv false undef), []⟩, ⟨.det (gv false undef), []⟩, dv _, dv _] [⟨_, []⟩, ⟨_, []⟩, ⟨_, []⟩, ⟨_, []⟩, ⟨_, []⟩] h rfl (by kernel_rfl) ⟨fun _ _ => om rfl, fun _ _ => bm (kA nn282 rfl (p := none)), fun _ _ => om rfl, (fun ξ hφ => by exact fD (c := true) (b := false) (g := false) [] rfl rfl rfl rfl g_t (fun hg => absurd hg (by decide))), (fun ξ hφ => by exact fD (c := true) (b := false) (g := false) [] rfl rfl rfl rfl g_t (fun hg => absurd hg (by decide))), (fun ξ hφ => by exact fD (c := true) (b := false) (g := false) [] rfl rfl rfl rfl g_t (fun hg => absurd hg (by decide))), (fun ξ hφ => by exact fD (c := true) (b := false) (g := false) [] rfl rfl rfl rfl g_t (fun hg => absurd hg (by decide))), (fun ξ hφ => by exact fD (c := true) (b := false) (g := false) [] rfl rfl rfl rfl g_t (fun hg => absurd hg (by decide))), (fun ξ hφ => by exact fD (c := true) (b := false) (g := false) [] rfl rfl rfl rfl g_t (fun hg => absurd hg (by decide))), (fun ξ hφ => by exact fD (c := true) (b := false) (g := false) [] rfl rfl rfl rfl g_t (fun hg => absurd hg (by decide))), (fun ξ hφ => by exact fD (c := true) (b := false) (g := false) [] rfl rfl rfl rfl g_t (fun hg => absurd hg (by decide))), (fun ξ hφ => by exact fD (c := true) (b := false) (g := false) [] rfl rfl rfl rfl g_t (fun hg => absurd hg (by decide))), (fun ξ hφ => by exact fD (c := true) (b := false) (g := false) [] rfl rfl rfl rfl g_t (fun hg => absurd hg (by decide))), (fun ξ hφ => by exact fD (c := true) (b := false) (g := false) [] rfl rfl rfl rfl g_t (fun hg => absurd hg (by decide))), (fun ξ hφ => by exact fD (c := true) (b := false) (g := false) [] rfl rfl rfl rfl g_t (fun hg => absurd hg (by decide))), fun _ _ => bm (kQ (b := false) rfl (fun e => absurd e (by decide)) (fun _ => rfl) (v := .bool false)), fun _ _ => bm (az rfl), trivial⟩ ?_
     clear h ac wo; intro ξ ac wo hφ h
     replace h : St w0 219 [(0, (.iface 80 (.agg #[]))), (7, outv), (8, sv7), (41, sv7), (42, (.int .i64 (((ab (ag l)).length : Nat) : Int))), (43, (.int .i64 ((x43 : Nat) : Int))), (10, (ptr b1 0)), (9, (.int .i64 ((x43 : Nat) : Int))), (11, (ptr b2 0)), (12, (.pointer none)), (163, (.bool false))] [.blk b2 (cR (((gt (ab (ag l)) x43).iv).lo)) 71, .blk b1 (cUN (gt (ab (ag l)) x43)) 199, .row (α := U Ln) 199 outv out, .row (α := U Ln) 199 sv7 (ab (ag l)), .row (α := U Ln) 199 sv3 (ag l)] ac wo := (h.pick [0, 1, 2, 3, 4] (by decide)).sub ⟨rfl, rfl, rfl, rfl, rfl, rfl, rfl, rfl, rfl, rfl, rfl, trivial⟩
     clear hφ ξ
     refine gz h <| (W) ?_; clear h ac wo; intro ac wo h
     refine rV h rfl ?_
     refine gz h <| (dr0 (hob := (oG (by exact fun hg => cX ((gt (ab (ag l)) (x43 + 1)).f) ((gt (ab (ag l)) x43).f) (((gt (ab (ag l)) x43).iv).lo) (gi (All.gt s5.1 (bc _)).2 og) (gi (All.gt s5.1 (bc _)).2 og) ((All.gt s5.1 (bc _)).1).1)) <| oE)) <| (ai) ?_ ?_ <;> clear h ac wo <;> intro ac wo h hc12
     ·
      have hq12 := hc12; try simp at hq12
      refine gz h <| (W) ?_; clear h ac wo; intro ac wo h
      have hg := bQ hL2 pt
      exact aE ⟨m2, og, _, _, _, og, hg, og, zout, og, h.re [2, 3, 4]⟩
     ·
      have hq12 := hc12; try simp at hq12
      have c20 := ef ((gt (ab (ag l)) x43).f) (((gt (ab (ag l)) x43).iv).lo) (All.gt s5.1 (bc _)).2 ((All.gt s5.1 (bc _)).1).1
      have s20 := Calls.pr (c20 w0)
      refine gz h <| (xk (c20)) <| (xs 1 (cUN (⟨(gt (ab (ag l)) x43).iv, (av ((gt (ab (ag l)) x43).f) (((gt (ab (ag l)) x43).iv).lo))⟩ : U Ln))) <| (W) ?_; clear h ac wo; intro ac wo h
      refine nw h (cA (α := U Ln) (xs := [.tmp 87]) (vs := [(vUN (⟨(gt (ab (ag l)) x43).iv, (av ((gt (ab (ag l)) x43).f) (((gt (ab (ag l)) x43).iv).lo))⟩ : U Ln))]) [(⟨(gt (ab (ag l)) x43).iv, (av ((gt (ab (ag l)) x43).f) (((gt (ab (ag l)) x43).iv).lo))⟩ : U Ln)] eU rfl rfl rfl (by decide)) rfl ?_; clear h ac wo; intro sv21 ac wo nnsv21 h
      refine on2 h 3 0 rfl rfl (fm (xs := out) (ys := [(⟨(gt (ab (ag l)) x43).iv, (av ((gt (ab (ag l)) x43).f) (((gt (ab (ag l)) x43).iv).lo))⟩ : U Ln)]) eU (fun w hs => (row_view hs 0 rfl)) rfl rfl og) rfl ?_; clear h ac wo; intro sv22 ac wo apsv22 h
      refine gz h <| (W) ?_; clear h ac wo; intro ac wo h
      have hg := bQ hL2 pt
      exact aE ⟨m2, og, _, _, _, og, hg, og, (All.app zout (All.cons ⟨(pz (All.gt s5.1 (bc _)).1 og), s20⟩ All.nil)), og, h.re [0, 4, 5]⟩
  ·
   have hd3 := of_decide_eq_false hc3
   have hx2 := dM hL2 pt
   have hd : bu l = (out, 0) := pt
   refine gz h <| (W) ?_; clear h ac wo; intro ac wo h
   exact (rt h) (by rw [hd]; exact h.retT 0 rfl rfl ⟨zout, og⟩)
attribute [irreducible] bu
end Go.Sx
namespace Go.Sx
theorem ins_Line (d : List (U Ln)) (a b : Nat) : aI d a b = jt aW d a b := by with_unfolding_all rfl
theorem sj (f : List (U Ln) → Nat → Nat → Nat → List (U Ln)) (d : List (U Ln)) (a m b : Nat) : aS f d a m b = pB aW f d a m b := by with_unfolding_all rfl
theorem nT : ∀ n, bA n = symN aW n
  | 0 => rfl
  | n + 1 => by
    funext d a m b
    show aS (bA n) d a m b = pB aW (symN aW n) d a m b
    rw [nT n, sj]
theorem sym_Line (d : List (U Ln)) (a m b : Nat) : bo d a m b = sym aW d a m b := by
  have h : bo d a m b = bA (b - a + 1) d a m b := by with_unfolding_all rfl
  rw [h, nT]; rfl
theorem stb_Line (d : List (U Ln)) (n : Nat) : bS d n = stb aW d n := by
  have e1 : bo = sym aW := by funext d a m b; exact sym_Line d a m b
  have e2 : aI = jt aW := by funext d a b; exact ins_Line d a b
  unfold bS stb
  simp only [ee, f8, ed, f7, ec, f6, e1, e2]
  rfl
theorem pG (l : List (U Ln)) : ag l = stb aW l l.length := by
  have h : ag l = bS l l.length := by with_unfolding_all rfl
  rw [h, stb_Line]
theorem nX [Key] {d : List (U Ln)} (hd : ∀ u ∈ d, Tv u.iv) : (ag d).Perm d ∧ (ag d).Pairwise fun a b => kU a.iv ≤ kU b.iv := by
  rw [pG]
  obtain ⟨h1, h2⟩ := stb_spec (c := aW) (K := fun u => kU u.iv) (S := fun u => Tv u.iv) (fun x y hx hy => by rw [lU, qn hx hy, jQ]) (d := d) rfl hd
  refine ⟨h1, List.pairwise_iff_getElem.2 fun i j hi hj hij => ?_⟩
  have hl := h1.length_eq
  have := h2 i j (Nat.zero_le _) hij (by omega)
  unfold gt at this
  rw [List.getD_eq_getElem?_getD, List.getD_eq_getElem?_getD, List.getElem?_eq_getElem hi, List.getElem?_eq_getElem hj] at this
  exact this
theorem kE {α : Type} {K : α → Nat} : ∀ {l m : List α}, l.Perm m → l.Pairwise (fun a b => K a < K b) → m.Pairwise (fun a b => K a ≤ K b) → l = m
  | [], m, hp, _, _ => (List.nil_perm.1 hp).symm
  | x :: l, [], hp, _, _ => by simpa using hp.length_eq
  | x :: l, y :: m, hp, hl, hm => by
    have hx : x ∈ y :: m := hp.mem_iff.1 List.mem_cons_self
    have hy : y ∈ x :: l := hp.mem_iff.2 List.mem_cons_self
    obtain ⟨l1, l2⟩ := List.pairwise_cons.1 hl
    obtain ⟨m1, m2⟩ := List.pairwise_cons.1 hm
    have e : x = y := by
      rcases List.mem_cons.1 hy with h | h
      · exact h.symm
      · rcases List.mem_cons.1 hx with h' | h'
        · exact h'
        · have := l1 y h
          have := m1 x h'
          omega
    subst e
    rw [kE (hp.cons_inv) l2 m2]
theorem mQ [Key] {d s : List (U Ln)} (hd : ∀ u ∈ d, Tv u.iv) (hp : s.Perm d) (hs : s.Pairwise fun a b => kU a.iv < kU b.iv) : ag d = s ∧ af d = s := by
  obtain ⟨p1, p2⟩ := nX hd
  obtain ⟨q1, q2⟩ := lC hd
  exact ⟨(kE (hp.trans p1.symm) hs p2).symm, (kE (hp.trans q1.symm) hs q2).symm⟩
theorem pV {l : List (U Ln)} (h : ag l = af l) : bu l = a7 l := by
  have k2 : fe l = fq l := by
    funext a b c
    unfold fe fq
    first | rfl | (simp only [h] <;> rfl)
  have b2 : dF l = bO l := by
    funext a b c
    unfold dF bO
    rw [h]
  have k1 : ff l = dh l := by
    funext a
    unfold ff dh
    rw [h, b2, k2]
  have b1 : dG l = cC l := by
    funext a
    unfold dG cC
    rw [h]
  unfold bu a7
  rw [b1, k1]
end Go.Sx
namespace Go.Sx
def sL (n k : Nat) : List Smp := (List.range n).map fun i : Nat => fH ((i : Nat) : Int) ((i * k : Nat) : Int) 3
theorem mv (n k : Nat) : (sL n k).length = n := by unfold sL; simp
theorem sL_succ (n k : Nat) : sL (n + 1) k = sL n k ++ [fH ((n : Nat) : Int) ((n * k : Nat) : Int) 3] := by unfold sL; rw [List.range_succ, List.map_append]; rfl
theorem sG {n k i : Nat} (h : i < n) : gt (sL n k) i = fH ((i : Nat) : Int) ((i * k : Nat) : Int) 3 := by
  rw [gV (by rw [mv]; exact h)]; unfold sL; simp
theorem sL_ok {n k : Nat} (hn : n ≤ 300) (hk : k < 4) {i : Nat} (hi : i < n) : SOk (gt (sL n k) i) := by
  rw [sG hi]
  have h1 : i * k ≤ 300 * 4 := Nat.mul_le_mul (by omega) (by omega)
  exact ⟨Bq.int _ (by omega) (by decide), Bq.int _ (by omega) (by decide), Bq.int _ (by decide) (by decide)⟩
theorem sL_up {n k : Nat} {i : Nat} (hi : i + 1 < n) : ba (gt (sL n k) i).t < ba (gt (sL n k) (i + 1)).t := by
  rw [sG (by omega), sG hi, (ll _ _ _).2.1, (ll _ _ _).2.1, Rat.intCast_lt_intCast]; omega
def gL (k : Nat) : Ln := ⟨am 0, am ((k : Nat) : Int), am 3, am 0⟩
theorem sL_thr {n k i : Nat} (hi : i + 1 < n) : dN (gt (sL n k) i) (gt (sL n k) (i + 1)) = gL k := by
  rw [sG (by omega), sG hi]
  obtain ⟨a1, a2, a3, a4⟩ := ll ((i : Nat) : Int) ((i * k : Nat) : Int) 3
  obtain ⟨b1, b2, b3, b4⟩ := ll ((i + 1 : Nat) : Int) (((i + 1) * k : Nat) : Int) 3
  have e1 : (((i + 1 : Nat) : Int) : Rat) = ((i : Int) : Rat) + 1 := by push_cast; rfl
  have e2 : ((((i + 1) * k : Nat) : Int) : Rat) = ((i : Int) : Rat) * ((k : Int) : Rat) + ((k : Int) : Rat) := by push_cast; grind
  have e3 : (((i * k : Nat) : Int) : Rat) = ((i : Int) : Rat) * ((k : Int) : Rat) := by push_cast; rfl
  obtain ⟨⟨o1, o2, o3, o4⟩, h1, h2, h3, h4⟩ := ku a1 b1 (by rw [a2, b2, e1]; grind)
  rw [a2, b2, a3, b3, e1, e2, e3] at h1 h2
  rw [a2, b2, a4, b4, e1] at h3 h4
  have z : ((0 : Int) : Rat) = 0 := rfl
  refine Ln.ext4 (dq o1 (cM 0).1 ?_) (dq o2 (cM _).1 ?_) (dq o3 (cM 3).1 ?_) (dq o4 (cM 0).1 ?_)
  · rw [h2, show ba (gL k).x0 = 0 from (cM 0).2.trans z]; grind
  · rw [h1, show ba (gL k).x1 = ((k : Int) : Rat) from (cM _).2]; grind
  · rw [h4, show ba (gL k).y0 = ((3 : Int) : Rat) from (cM _).2]; grind
  · rw [h3, show ba (gL k).y1 = 0 from (cM 0).2.trans z]; grind
def pQ (n k : Nat) : U Ln := ⟨⟨ao (gt (sL n k) 0).t, ao (gt (sL n k) (n - 1)).t, false, false⟩, gL k⟩
section
variable [K : Key] [KR : KeyR]
omit KR in
theorem qJ {l : List Smp} (h : Ups l) (q : Nat) (h0 : 2 * tk (ao (gt l 0).t) ≤ q) : ∀ m, m + 1 < l.length → (q : Int) ≤ 2 * (tk (ao (gt l (m + 1)).t) : Int) → ∃ i, i ≤ m ∧ inU (frF l i).iv q
  | 0, hm, hq => ⟨0, Nat.le_refl _, by
      refine ⟨?_, ?_⟩
      · have : d8 (frF l 0).iv = 2 * tk (ao (gt l 0).t) := by unfold d8 frF; simp
        omega
      · have : dU (frF l 0).iv = 2 * (tk (ao (gt l 1).t) : Int) := by unfold dU frF; simp
        rw [this]; exact hq⟩
  | m + 1, hm, hq => by
    by_cases e : (q : Int) ≤ 2 * (tk (ao (gt l (m + 1)).t) : Int)
    · obtain ⟨i, hi, h2⟩ := qJ h q h0 m (by omega) e
      exact ⟨i, by omega, h2⟩
    · refine ⟨m + 1, Nat.le_refl _, ?_, ?_⟩
      · have : d8 (frF l (m + 1)).iv = 2 * tk (ao (gt l (m + 1)).t) + 1 := by unfold d8 frF; simp
        omega
      · have : dU (frF l (m + 1)).iv = 2 * (tk (ao (gt l (m + 1 + 1)).t) : Int) := by unfold dU frF; simp
        rw [this]; exact hq
theorem oneL_nf {n k : Nat} (hn : 2 ≤ n) (h : Ups (sL n k)) (hk : k < 4) : a7 (frP (sL n k) (n - 1)) = ([pQ n k], 0) := by
  have hl := mv n k
  obtain ⟨N, e, hN⟩ := h.normal
  rw [hl] at e hN
  have ht : tk (ao (gt (sL n k) 0).t) < tk (ao (gt (sL n k) (n - 1)).t) := h.tk (by omega) (by omega)
  have w1 : Wv (pQ n k).iv := ⟨⟨h.tm 0 (by omega), h.tm (n - 1) (by omega)⟩, Nat.le_of_lt ht, fun e => absurd e (Nat.ne_of_lt ht)⟩
  have d1 : DSm (gL k) := .inl ⟨(Bq.int (m := 64) _ (by decide) (by decide)).le (by decide), (Bq.int (m := 64) _ (by omega) (by decide)).le (by decide), (Bq.int (m := 64) _ (by decide) (by decide)).le (by decide), (Bq.int (m := 64) _ (by decide) (by decide)).le (by decide)⟩
  have D1 : ∀ v ∈ [pQ n k], DSm v.f := fun v hv => by rw [List.mem_singleton.1 hv]; exact d1
  have DP : ∀ v ∈ frP (sL n k) (n - 1), DSm v.f := fun v hv => by
    obtain ⟨i, hi, rfl⟩ := kK hv
    exact (h.wv (by omega)).2
  have fP : ∀ i, i < n - 1 → (frF (sL n k) i).f = gL k := fun i hi => sL_thr (by omega)
  have n1 : NFl [pQ n k] := ⟨fun x hx => by rw [List.mem_singleton.1 hx]; exact w1, List.pairwise_singleton _ _, fun i hi => by have : i + 1 < 1 := hi; omega, fun x hx e => by
    rw [List.mem_singleton.1 hx] at e
    have := congrArg tk e
    exact absurd this (Nat.ne_of_lt ht)⟩
  have f0 : d8 (pQ n k).iv = 2 * tk (ao (gt (sL n k) 0).t) := by unfold d8 pQ; simp
  have l0 : dU (pQ n k).iv = 2 * (tk (ao (gt (sL n k) (n - 1)).t) : Int) := by unfold dU pQ; simp
  have up : ∀ {q : Nat}, inU (pQ n k).iv q → ∃ w ∈ frP (sL n k) (n - 1), inU w.iv q ∧ w.f = gL k := fun {q} hq => by
    obtain ⟨i, hi, h2⟩ := qJ h q (by have := hq.1; omega) (n - 2) (by omega) (by have := hq.2; rw [show n - 2 + 1 = n - 1 by omega]; omega)
    exact ⟨frF (sL n k) i, by unfold frP; exact List.mem_map_of_mem (List.mem_range.2 (by omega)), h2, fP i (by omega)⟩
  have dn : ∀ {q : Nat} {w : U Ln}, w ∈ frP (sL n k) (n - 1) → inU w.iv q → inU (pQ n k).iv q ∧ w.f = gL k := fun {q w} hw hq => by
    obtain ⟨i, hi, rfl⟩ := kK hw
    have a1 := h.tkle (show 0 ≤ i by omega) (by omega)
    have a2 := h.tkle (show i + 1 ≤ n - 1 by omega) (by omega)
    have a3 : 2 * tk (ao (gt (sL n k) i).t) ≤ d8 (frF (sL n k) i).iv := by unfold d8 frF; simp only; omega
    have a4 : dU (frF (sL n k) i).iv = 2 * (tk (ao (gt (sL n k) (i + 1)).t) : Int) := by unfold dU frF; simp
    have b1 := hq.1
    have b2 := hq.2
    exact ⟨⟨by omega, by omega⟩, fP i hi⟩
  have S1 : Sml (frP (sL n k) (n - 1)) [pQ n k] := by
    refine ⟨fun t ht u hu hi => ?_, fun q u hu hi => ?_, fun t ht w hw hi => ?_, fun q w hw hi => ?_⟩
    · rw [List.mem_singleton.1 hu] at hi ⊢
      obtain ⟨w, hw, h2, h3⟩ := up hi
      exact ⟨w, hw, h2, by rw [h3]; exact dkS.ru.refl t ht _ d1⟩
    · rw [List.mem_singleton.1 hu] at hi ⊢
      obtain ⟨w, hw, h2, h3⟩ := up hi
      exact ⟨w, hw, h2, h3.symm⟩
    · obtain ⟨h2, h3⟩ := dn hw hi
      exact ⟨_, List.mem_singleton.2 rfl, h2, by rw [h3]; exact dkS.ru.refl t ht _ d1⟩
    · obtain ⟨h2, h3⟩ := dn hw hi
      exact ⟨_, List.mem_singleton.2 rfl, h2, h3.symm⟩
  rw [e, dkS.uniq hN.nf n1 hN.ok D1 (Sem.trans dkS.ru hN.ok DP D1 (hN.sem.symm dkS.ru DP hN.ok) S1)]
omit KR in
theorem rN {l : List Smp} (h : Ups l) : ag (frP l (l.length - 1)) = af (frP l (l.length - 1)) := by
  have hT : ∀ u ∈ frP l (l.length - 1), Tv u.iv := fun u hu => by
    obtain ⟨i, hi, rfl⟩ := kK hu
    exact (h.wv (by omega)).1.1
  have hs : (frP l (l.length - 1)).Pairwise fun a b => kU a.iv < kU b.iv := by
    unfold frP
    refine List.pairwise_map.2 ((List.pairwise_lt_range (n := l.length - 1)).imp_of_mem fun {i j} hi hj hij => ?_)
    have hj := List.mem_range.1 hj
    have h1 := h.tk hij (by omega)
    have h2 := sf (h.tm (i + 1) (by omega))
    unfold kU frF
    simp only
    cases decide (0 < i) <;> cases decide (0 < j) <;> simp only [cond_true, cond_false] <;> omega
  obtain ⟨a, b⟩ := mQ hT (List.Perm.refl _) hs
  rw [a, b]
end
theorem long_nf {n k : Nat} (hn : 2 ≤ n) (hn2 : n ≤ 300) (hk : k < 4) : bu (frP (sL n k) (n - 1)) = ([pQ n k], 0) := by
  have hl := mv n k
  have hg : ∀ i, i < (sL n k).length → SOk (gt (sL n k) i) := fun i hi => sL_ok hn2 hk (by omega)
  have hr : Bq 4 (ptQ 0) := ptQ_bq (by decide)
  have hU := ups_of (r := ptQ 0) (by omega) hg hr (fun i hi => sL_up (by omega))
  letI : Key := keyQ (smK (sL n k) (ptQ 0)) (smK_b hg hr) (mR (by omega))
  haveI : KeyR := kqR (smK (sL n k) (ptQ 0)) (smK_b hg hr) (mR (by omega))
  have h1 := rN hU
  rw [hl] at h1
  rw [pV h1, oneL_nf hn hU hk]
theorem long_fr {n k : Nat} (hn : 2 ≤ n) (hn2 : n ≤ 300) (hk : k < 4) : frS (sL n k) (bu (frP (sL n k) ((sL n k).length - 1))) = if 256 < n then ([], 3) else ([pQ n k], 0) := by
  have hl := mv n k
  have hg : ∀ i, i < n → SOk (gt (sL n k) i) := fun i hi => sL_ok hn2 hk hi
  have h5 : ¬ ∃ i, i < n ∧ badS (gt (sL n k) i) = true := fun ⟨i, hi, h2⟩ => by
    have h := hg i hi
    unfold badS at h2
    rw [sW h.1.1, sW h.2.1.1, sW h.2.2.1] at h2
    cases h2
  have h7 : ¬ ∃ i, i < n ∧ nh (sL n k) i = true := fun ⟨i, hi, h2⟩ => by
    unfold nh at h2
    rw [Bool.and_eq_true, decide_eq_true_eq, decide_eq_true_eq] at h2
    obtain ⟨h0, h2⟩ := h2
    rw [lQ (hg i hi).1.1 (hg (i - 1) (by omega)).1.1] at h2
    have h3 := sL_up (n := n) (k := k) (i := i - 1) (by omega)
    rw [show i - 1 + 1 = i by omega] at h3
    unfold rcmp at h2
    rw [if_neg (by grind), if_pos h3] at h2
    exact absurd h2 (by decide)
  unfold frS
  rw [hl, long_nf hn hn2 hk]
  by_cases h : 256 < n
  · rw [if_pos h, if_pos h]
  · rw [if_neg h, if_neg h, if_neg h5, if_neg h7, if_neg (show ¬ n = 1 by omega)]
end Go.Sx
namespace Go.Sx
open Go Go.RowKit Go.Proofs
set_option maxRecDepth 100000
set_option maxHeartbeats 40000000
attribute [local irreducible] Code.wp wpList Rd Step ObS Ent
attribute [local irreducible] ar aO am au aA bG ao aM fH
attribute [local irreducible] aN aT ak ax aU aj aY dN kw bN aw
theorem p7 (l : List (U Ln)) (lv : Value) (hl : l.length ≤ 300) (zl : All (fS 30) l) (w0 : World) (hlv : View w0 lv l) : Calls Tryz.prog 46 #[lv] w0 (RetT w0 88 (bu l).1 [.int .i64 (bu l).2] True) := by
 refine enter (N := 17) (args := [lv]) Tryz.func46 rfl rfl ?_; intro ac h
 have p1 := RetT.pr (gb l lv hl zl w0 hlv)
 refine gz h <| (W) ?_; clear h ac; intro ac wo h
 refine jZ (xs := l) h (cO Tryz.call100 rfl) (fun w_ hB_ hS_ => to_ct l lv (by omega) w_ (hlv.below hB_)) rfl ?_; clear h ac wo; intro s1 ac wo _ h
 refine gz h <| (W) ?_; clear h ac wo; intro ac wo h
 refine uf (xs := (bu l).1) h (cO Tryz.call132 rfl) (fun w_ hB_ hS_ => gb l s1 hl zl w_ (row_view hS_ 0 rfl)) rfl ?_; clear h ac wo; intro s2 ac wo _ h
 refine gz h <| (W) ?_; clear h ac wo; intro ac wo h
 refine jZ (xs := (bu l).1) h (cO Tryz.call138 rfl) (fun w_ hB_ hS_ => tL _ s2 (by omega) w_ (row_view hS_ 0 rfl)) rfl ?_; clear h ac wo; intro s3 ac wo _ h
 refine gz h <| (W) ?_; clear h ac wo; intro ac wo h
 exact (rt h) (h.retT 0 rfl rfl trivial)
theorem long_ct (more : Bool) (x : Nat) (hx : x < 256) (w0 : World) : Calls Tryz.prog 3 #[.bool more, .int .u8 (x : Int)] w0 (dH w0 (.bool true) True) := by
 refine enter (N := 50) (args := [.bool more, .int .u8 (x : Int)]) Tryz.func3 rfl rfl ?_; intro ac h
 refine gz h <| (xk known_ct) <| (ai) ?_ ?_ <;> clear h ac <;> intro ac wo h hc1
 · cases hc1
 obtain ⟨n, hn⟩ : ∃ n : Nat, (bif more then 257 else 256) = n := ⟨_, rfl⟩
 have hn2 : 256 ≤ n ∧ n ≤ 257 := by cases more <;> simp at hn <;> omega
 refine gz h <| (W) ?_; clear h ac wo; intro ac wo h
 refine jn (fun a w => St w0 50 [(0, .bool more), (1, .int .u8 (x : Int)), (5, iN n)] [] a w) ?_ ?_
 ·
  refine gz h <| (ai) ?_ ?_ <;> clear h ac wo <;> intro ac wo h hc2
  · rw [hc2] at hn
    refine gz h <| (W) ?_; clear h ac wo; intro ac wo h
    refine ⟨rfl, ?_⟩
    rw [← hn]; exact h.re []
  · rw [hc2] at hn
    refine gz h <| (W) ?_; clear h ac wo; intro ac wo h
    refine ⟨rfl, ?_⟩
    rw [← hn]; exact h.re []
 clear h ac wo; intro ac wo h
 obtain ⟨k, hk⟩ : ∃ k, x % 4 = k := ⟨_, rfl⟩
 have hk4 : k < 4 := by omega
 refine gz h <| (W) ?_; clear h ac wo; intro ac wo h
 replace h := h.nilRow (α := Smp) 31
 refine gz h <| (W) ?_; clear h ac wo; intro ac wo h
 refine wp_loop_ghost (fun n_ a_ w_ => ∃ (i : Nat) (sv : Value), (n - i < n_) ∧ (i ≤ n) ∧ St w0 50 [(0, .bool more), (1, .int .u8 (x : Int)), (5, iN n), (6, sv), (7, iN i)] [.row (α := Smp) 31 sv (sL i k)] a_ w_) (n + 1) ⟨0, _, by omega, by omega, h.re [0]⟩ ?_
 clear h ac wo; rintro n1 ac wo ⟨i, sv, hm1, hi, h⟩
 obtain ⟨m1, rfl⟩ : ∃ m, n1 = m + 1 := ⟨n1 - 1, by omega⟩
 refine gz h <| (ai) ?_ ?_ <;> clear h ac wo <;> intro ac wo h hc2
 ·
  have hd1 : i < n := by have := of_decide_eq_true hc2; omega
  have hik : i * k ≤ 257 * 4 := Nat.mul_le_mul (by omega) (by omega)
  have cs := j7 ((i : Nat) : Int) ((i * k : Nat) : Int) 3 40 (by omega) (by omega) (by omega) (by omega)
  refine gz h <| (xo (hs := by exact rmN 4 rfl rfl rfl)) <| (xo (hs := by exact cvI (by omega) rfl)) <| (xo (hs := by exact jc rfl rfl (r := ((i * k : Nat) : Int)) (by rw [hk, IntKind.wrap_i64]; push_cast; omega))) <| (xk cs) <| (W) ?_; clear h ac wo; intro ac wo h
  obtain ⟨a, ha⟩ : ∃ a, fH ((i : Nat) : Int) ((i * k : Nat) : Int) 3 = a := ⟨_, rfl⟩
  rw [ha] at h
  refine nw h (cA (α := Smp) (xs := [.tmp 27]) (vs := [vSm a]) [a] slt23 rfl rfl rfl (by decide)) rfl ?_; clear h ac wo; intro s1 ac wo _ h
  refine on2 h 1 0 rfl rfl (fm (xs := sL i k) (ys := [a]) slt23 (fun w hs => (row_view hs 0 rfl)) rfl rfl (by rw [mv]; show _ + 1 ≤ _; omega)) rfl ?_; clear h ac wo; intro s2 ac wo _ h
  rw [← ha, ← sL_succ] at h
  refine gz h <| (W) ?_; clear h ac wo; intro ac wo h
  exact aE ⟨m1, by omega, i + 1, s2, by omega, by omega, h.re [0]⟩
 have hie : i = n := by have := of_decide_eq_false hc2; omega
 subst hie
 have hl := mv i k
 have zs : ∀ j, SzSm 40 (gt (sL i k) j) := fun j => by
  by_cases h : j < i
  · have := sL_ok (n := i) (k := k) (by omega) hk4 h
    exact ⟨this.1.sz (by decide), this.2.1.sz (by decide), this.2.2.sz (by decide)⟩
  · have e : gt (sL i k) j = default := by unfold gt; rw [List.getD_eq_getElem?_getD, List.getElem?_eq_none (by omega)]; rfl
    rw [e]; exact nG.2.2.2.2
 have zF : ∀ n, All (fS 30) (frP (sL i k) n) := fun n u hu => by
  obtain ⟨j, _, rfl⟩ := kK hu
  exact ⟨⟨dY (an (fo (gt (sL i k) j).t 40 og (zs j).1 w0)) og, dY (an (fo (gt (sL i k) (j + 1)).t 40 og (zs _).1 w0)) og⟩, an (rj (gt (sL i k) j) (gt (sL i k) (j + 1)) ⟨zs j, zs _⟩ w0)⟩
 have cS : ∀ lv w, View w lv (sL i k) → Calls Tryz.prog 16 #[lv] w (RetT w 88 (if 256 < i then ([] : List (U Ln)) else [pQ i k]) [.int .i64 (if 256 < i then 3 else 0)] True) := fun lv w hv => by
  have h1 := frS_ct (sL i k) lv (by omega) zs (bu (frP (sL i k) ((sL i k).length - 1))) _ (fun lv' w' hv' => p7 (frP (sL i k) ((sL i k).length - 1)) lv' (by rw [tM]; omega) (zF _) w' hv') w hv
  rw [long_fr (by omega) (by omega) hk4] at h1
  by_cases hh : 256 < i
  · rw [if_pos hh] at h1; rw [if_pos hh, if_pos hh]; exact h1
  · rw [if_neg hh] at h1; rw [if_neg hh, if_neg hh]; exact h1
 refine gz h <| (W) ?_; clear h ac wo; intro ac wo h
 refine uf (xs := (if 256 < i then ([] : List (U Ln)) else [pQ i k])) h (cO Tryz.call16 rfl) (fun w_ hB_ hS_ => cS sv w_ (row_view hS_ 0 rfl)) rfl ?_; clear h ac wo; intro s2 ac wo _ h
 refine gz h <| (ai) ?_ ?_ <;> clear h ac wo <;> intro ac wo h hc3
 ·
  rw [hc3] at hn
  have hi7 : i = 257 := hn.symm
  subst hi7
  refine gz h <| (W) ?_; clear h ac wo; intro ac wo h
  exact (rt h) (h.retP rfl trivial)
 ·
  rw [hc3] at hn
  have hi7 : i = 256 := hn.symm
  subst hi7
  refine gz h <| (W) ?_; clear h ac wo; intro ac wo h
  exact (rt h) (h.retP rfl trivial)
end Go.Sx
