/- A part of the proof of movingpointLong. -/
import Derived.Test.YtbenbmdkhcfcfaaGreatDoorB9
set_option linter.unusedVariables false
set_option linter.unusedSimpArgs false
open Go.Proofs.Tryz renaming runUnderlying80 → uu80, sizeOf4 → zz4, underlying282 → nn282
namespace Go.Sx
open Go Go.RowKit Go.Proofs
set_option maxRecDepth 100000
set_option maxHeartbeats 40000000
attribute [local irreducible] Code.wp wpList Rd Step ObS Ent
attribute [local irreducible] ar aO am au aA bG
theorem oJ (w : World) : (method (Tryz.prog.types.size + Made.depth) 80 (.agg #[]) "Equal").run Tryz.prog w = .ok (375, .agg #[]) w := jl (P := Tryz.prog) (T := 80) Tryz.type80 (by kernel_rfl) uu80 w
instance yC1_1 : Mt Tryz.prog 80 (.agg #[]) "Equal" 375 := ⟨oJ⟩
theorem ni (w : World) : (nilAhead (Tryz.prog.types.size + Made.depth) 80 (.agg #[]) "Equal").run Tryz.prog w = .ok (some false) w := ia (P := Tryz.prog) (T := 80) (f := 375) Tryz.type80 (by kernel_rfl) uu80 w
instance yC1_2 : Nl Tryz.prog 80 (.agg #[]) "Equal" := ⟨ni⟩
theorem np (w : World) : (method (Tryz.prog.types.size + Made.depth) 80 (.agg #[]) "Reduce").run Tryz.prog w = .ok (376, .agg #[]) w := jl (P := Tryz.prog) (T := 80) Tryz.type80 (by kernel_rfl) uu80 w
instance yC1_3 : Mt Tryz.prog 80 (.agg #[]) "Reduce" 376 := ⟨np⟩
theorem mg (w : World) : (nilAhead (Tryz.prog.types.size + Made.depth) 80 (.agg #[]) "Reduce").run Tryz.prog w = .ok (some false) w := ia (P := Tryz.prog) (T := 80) (f := 376) Tryz.type80 (by kernel_rfl) uu80 w
instance yC1_4 : Nl Tryz.prog 80 (.agg #[]) "Reduce" := ⟨mg⟩
theorem pX (w : World) : (method (Tryz.prog.types.size + Made.depth) 80 (.agg #[]) "Same").run Tryz.prog w = .ok (278, .agg #[]) w := jl (P := Tryz.prog) (T := 80) Tryz.type80 (by kernel_rfl) uu80 w
instance yC1_5 : Mt Tryz.prog 80 (.agg #[]) "Same" 278 := ⟨pX⟩
theorem oF (w : World) : (nilAhead (Tryz.prog.types.size + Made.depth) 80 (.agg #[]) "Same").run Tryz.prog w = .ok (some false) w := ia (P := Tryz.prog) (T := 80) (f := 278) Tryz.type80 (by kernel_rfl) uu80 w
instance yC1_6 : Nl Tryz.prog 80 (.agg #[]) "Same" := ⟨oF⟩
def fq (l : List (U Ln)) (x18 : Nat) (out : List (U Ln)) (x43 : Nat) : (List (U Ln)) × Int :=
 (out, 0)
def bO (l : List (U Ln)) (x18 : Nat) (out : List (U Ln)) (x43 : Nat) : Nx ((List (U Ln)) × Nat) ((List (U Ln)) × Int) :=
 bif (decide (((x43 : Nat) : Int) < (((ab (af l)).length : Nat) : Int))) then
  bif (((decide (((out.length : Nat) : Int) > 0)) && (decide (((gt out (out.length - 1)).iv).hi = ((gt (ab (af l)) x43).iv).lo))) && (!(aH ((gt out (out.length - 1)).iv)))) then
   bif (!(aH ((gt (ab (af l)) x43).iv))) then
    bif ((!((gt out (out.length - 1)).iv).openHi) && (bK ((gt out (out.length - 1)).f) ((gt (ab (af l)) x43).f))) then
     .go ((out.set (out.length - 1) (⟨(⟨((gt out (out.length - 1)).iv).lo, ((gt (ab (af l)) x43).iv).hi, ((gt out (out.length - 1)).iv).openLo, true⟩ : Iv), (gt out (out.length - 1)).f⟩ : U Ln)), (x43 + 1))
    else
     bif ((((decide (((x43 : Nat) : Int) > 0)) && (aH ((gt (ab (af l)) (x43 - 1)).iv))) && (decide (((gt (ab (af l)) (x43 - 1)).iv).lo = ((gt (ab (af l)) x43).iv).lo))) && (!(dC out (((gt (ab (af l)) x43).iv).lo)))) then
      .go ((out ++ [(⟨(⟨((gt (ab (af l)) x43).iv).lo, ((gt (ab (af l)) x43).iv).hi, false, ((gt (ab (af l)) x43).iv).openHi⟩ : Iv), (gt (ab (af l)) x43).f⟩ : U Ln)]), (x43 + 1))
     else
      .go ((out ++ [(gt (ab (af l)) x43)]), (x43 + 1))
   else
    bif (bh ((gt out (out.length - 1)).f) ((gt (ab (af l)) x43).f) (((gt (ab (af l)) x43).iv).lo)) then
     .go ((out.set (out.length - 1) (⟨(⟨((gt out (out.length - 1)).iv).lo, ((gt out (out.length - 1)).iv).hi, ((gt out (out.length - 1)).iv).openLo, false⟩ : Iv), (gt out (out.length - 1)).f⟩ : U Ln)), (x43 + 1))
    else
     bif (((decide (((x43 + 1 : Nat) : Int) < (((ab (af l)).length : Nat) : Int))) && (decide (((gt (ab (af l)) (x43 + 1)).iv).lo = ((gt (ab (af l)) x43).iv).lo))) && (bh ((gt (ab (af l)) (x43 + 1)).f) ((gt (ab (af l)) x43).f) (((gt (ab (af l)) x43).iv).lo))) then
      .go (out, (x43 + 1))
     else
      .go ((out ++ [(⟨(gt (ab (af l)) x43).iv, (av ((gt (ab (af l)) x43).f) (((gt (ab (af l)) x43).iv).lo))⟩ : U Ln)]), (x43 + 1))
  else
   bif (!(aH ((gt (ab (af l)) x43).iv))) then
    bif ((((decide (((x43 : Nat) : Int) > 0)) && (aH ((gt (ab (af l)) (x43 - 1)).iv))) && (decide (((gt (ab (af l)) (x43 - 1)).iv).lo = ((gt (ab (af l)) x43).iv).lo))) && (!(dC out (((gt (ab (af l)) x43).iv).lo)))) then
     .go ((out ++ [(⟨(⟨((gt (ab (af l)) x43).iv).lo, ((gt (ab (af l)) x43).iv).hi, false, ((gt (ab (af l)) x43).iv).openHi⟩ : Iv), (gt (ab (af l)) x43).f⟩ : U Ln)]), (x43 + 1))
    else
     .go ((out ++ [(gt (ab (af l)) x43)]), (x43 + 1))
   else
    bif (((decide (((x43 + 1 : Nat) : Int) < (((ab (af l)).length : Nat) : Int))) && (decide (((gt (ab (af l)) (x43 + 1)).iv).lo = ((gt (ab (af l)) x43).iv).lo))) && (bh ((gt (ab (af l)) (x43 + 1)).f) ((gt (ab (af l)) x43).f) (((gt (ab (af l)) x43).iv).lo))) then
     .go (out, (x43 + 1))
    else
     .go ((out ++ [(⟨(gt (ab (af l)) x43).iv, (av ((gt (ab (af l)) x43).f) (((gt (ab (af l)) x43).iv).lo))⟩ : U Ln)]), (x43 + 1))
 else
  .out (out, x43)
def dh (l : List (U Ln)) (x18 : Nat) : (List (U Ln)) × Int :=
 fin (bC (fun s => bO l x18 s.1 s.2) (((ab (af l)).length - 0) + 1) ([], 0)) (fun s => fq l x18 s.1 s.2) (fun r => r)
def cC (l : List (U Ln)) (x18 : Nat) : Nx Nat ((List (U Ln)) × Int) :=
 bif (decide (((x18 : Nat) : Int) < (((af l).length : Nat) : Int))) then
  bif ((decide (((x18 : Nat) : Int) > 0)) && (!(dD ((gt (af l) (x18 - 1)).iv) ((gt (af l) x18).iv)))) then
   .ret ([], 11)
  else
   .go (x18 + 1)
 else
  .out x18
def a7 (l : List (U Ln)) : (List (U Ln)) × Int :=
 fin (bC (fun s => cC l s) ((l.length - 0) + 1) 0) (fun s => dh l s) (fun r => r)
theorem gJ (l : List (U Ln)) (lv : Value) (hl : l.length < 20) (zl : All (fS 30) l) (w0 : World) (hlv : View w0 lv l) : Calls Tryz.prog 132 #[(.iface 80 (.agg #[])), lv] w0 (RetT w0 199 (a7 l).1 [.int .i64 ((a7 l).2)] (All (fS 20) ((a7 l).1) ∧ (a7 l).1.length ≤ 3 * l.length)) := by
 refine enter (N := 219) (args := [(.iface 80 (.agg #[])), lv]) Tryz.func132 rfl rfl ?_; intro ac h
 have hlenl := hlv.len
 refine gz h <| (W) ?_; clear h ac; intro ac wo h
 have s1 := RetR.pr ((fun w_ hB_ hS_ => gI l lv og zl w_ (hlv.below hB_)) _ h.bel h.sep)
 have p2 := s1.2
 refine jZ (xs := (af l)) h (cO Tryz.call214 rfl) (fun w_ hB_ hS_ => gI l lv og zl w_ (hlv.below hB_)) rfl ?_; clear h ac wo; intro sv3 ac wo _ h
 obtain ⟨X1, hX1⟩ : ∃ X, bC (fun s => cC l s) ((l.length - 0) + 1) 0 = X := ⟨_, rfl⟩
 refine gz h <| (W) ?_; clear h ac wo; intro ac wo h
 refine wp_loop_ghost (fun n_ a_ w_ => ∃ (x18 : Nat), ((l.length - x18) < n_) ∧ (bC (fun s => cC l s) n_ x18 = X1) ∧ (x18 ≤ l.length) ∧ St w0 219 [(0, (.iface 80 (.agg #[]))), (1, sv3), (17, (.int .i64 (((af l).length : Nat) : Int))), (18, (.int .i64 ((x18 : Nat) : Int)))] [.row (α := U Ln) 199 sv3 (af l)] a_ w_) ((l.length - 0) + 1) ⟨0, og, hX1, og, h.rs⟩ ?_
 clear h ac wo; rintro n1 ac wo ⟨x18, hm1, hL1, hx18, h⟩
 obtain ⟨m1, rfl⟩ : ∃ m, n1 = m + 1 := ⟨n1 - 1, by omega⟩
 refine gz h <| (ai) ?_ ?_ <;> clear h ac wo <;> intro ac wo h hc1
 ·
  have hd1 := of_decide_eq_true hc1
  refine gz h <| (dr0 (hob := (oG (by exact fun hg => jk ((gt (af l) (x18 - 1)).iv) ((gt (af l) x18).iv) 10 og (All.gt s1.1 (bc _)).1 (All.gt s1.1 (bc _)).1)) <| oE)) <| (ai) ?_ ?_ <;> clear h ac wo <;> intro ac wo h hc2
  ·
   have hq2 := hc2; try simp at hq2
   refine gz h <| (W) ?_; clear h ac wo; intro ac wo h
   replace h := h.nilRow (α := U Ln) 199
   have hr1 := nt hL1 pt
   have hd : a7 l = ([], 11) := pt
   exact (rt h) (by rw [hd]; exact h.retT 0 rfl rfl ⟨All.nil, og⟩)
  ·
   have hq2 := hc2; try simp at hq2
   refine gz h <| (W) ?_; clear h ac wo; intro ac wo h
   have hg := bQ hL1 pt
   exact aE ⟨m1, og, _, og, hg, og, h.re [0]⟩
 ·
  have hd1 := of_decide_eq_false hc1
  have hx1 := dM hL1 pt
  refine gz h <| (W) ?_; clear h ac wo; intro ac wo h
  have s5 := RetR.pr ((fun w_ hB_ hS_ => eG (af l) sv3 og s1.1 w_ (row_view hS_ 0 rfl)) _ h.bel h.sep)
  have p6 := s5.2
  refine jZ (xs := (ab (af l))) h (cO Tryz.call215 rfl) (fun w_ hB_ hS_ => eG (af l) sv3 og s1.1 w_ (row_view hS_ 0 rfl)) rfl ?_; clear h ac wo; intro sv7 ac wo _ h
  refine gz h <| (W) ?_; clear h ac wo; intro ac wo h
  replace h := h.nilRow (α := U Ln) 199
  obtain ⟨X2, hX2⟩ : ∃ X, bC (fun s => bO l x18 s.1 s.2) (((ab (af l)).length - 0) + 1) ([], 0) = X := ⟨_, rfl⟩
  refine wp_loop_ghost (fun n_ a_ w_ => ∃ (out : List (U Ln)) (x43 : Nat) (outv : Value), (((ab (af l)).length - x43) < n_) ∧ (bC (fun s => bO l x18 s.1 s.2) n_ (out, x43) = X2) ∧ (x43 ≤ (ab (af l)).length) ∧ (All (fS 20) out) ∧ (out.length ≤ x43) ∧ St w0 219 [(0, (.iface 80 (.agg #[]))), (7, outv), (8, sv7), (41, sv7), (42, (.int .i64 (((ab (af l)).length : Nat) : Int))), (43, (.int .i64 ((x43 : Nat) : Int)))] [.row (α := U Ln) 199 outv out, .row (α := U Ln) 199 sv7 (ab (af l)), .row (α := U Ln) 199 sv3 (af l)] a_ w_) (((ab (af l)).length - 0) + 1) ⟨[], 0, (.slice none 0 0), og, hX2, og, All.nil, og, h.rs⟩ ?_
  clear h ac wo; rintro n2 ac wo ⟨out, x43, outv, hm2, hL2, hx43, zout, hol, h⟩
  obtain ⟨m2, rfl⟩ : ∃ m, n2 = m + 1 := ⟨n2 - 1, by omega⟩
  refine gz h <| (ai) ?_ ?_ <;> clear h ac wo <;> intro ac wo h hc3
  ·
   have hd3 := of_decide_eq_true hc3
   refine gz h <| (xa) fun b1 => (xa) fun b2 => (dr0 (hob := (oG (by exact fun hg => bZ ((gt out (out.length - 1)).iv))) <| oE)) <| (ai) ?_ ?_ <;> clear h ac wo <;> intro ac wo h hc4
   ·
    have hq4 := hc4; try simp at hq4
    refine gz h <| (xk (bZ ((gt (ab (af l)) x43).iv))) <| (ai) ?_ ?_ <;> clear h ac wo <;> intro ac wo h hc5
    ·
     have hq5 := hc5; try simp at hq5
     refine gz h <| (dr0 (hob := (oG (by exact fun hg => gK ((gt out (out.length - 1)).f) ((gt (ab (af l)) x43).f) (All.gt zout (bc _)).2 (gi (All.gt s5.1 (bc _)).2 og))) <| oE)) <| (ai) ?_ ?_ <;> clear h ac wo <;> intro ac wo h hc6
     ·
      have hq6 := hc6; try simp at hq6
      refine gz h <| (W) ?_; clear h ac wo; intro ac wo h
      refine up h 2 rfl (fw (k := 9) (u' := (⟨(⟨((gt out (out.length - 1)).iv).lo, ((gt (ab (af l)) x43).iv).hi, ((gt out (out.length - 1)).iv).openLo, ((gt out (out.length - 1)).iv).openHi⟩ : Iv), (gt out (out.length - 1)).f⟩ : U Ln)) Tryz.sizeOf71 (iL og) rfl rfl rfl rfl rfl rfl rfl rfl) ?_; clear h ac wo; intro ac wo h
      refine gz h <| (W) ?_; clear h ac wo; intro ac wo h
      refine up h 2 rfl (fw (k := 19) (u' := (⟨(⟨((gt out (out.length - 1)).iv).lo, ((gt (ab (af l)) x43).iv).hi, ((gt out (out.length - 1)).iv).openLo, true⟩ : Iv), (gt out (out.length - 1)).f⟩ : U Ln)) zz4 (kJ og) rfl rfl rfl rfl rfl rfl rfl rfl) ?_; clear h ac wo; intro ac wo h
      replace h := h.rowEq 2 rfl (by rw [List.set_set] : _ = (out.set (out.length - 1) (⟨(⟨((gt out (out.length - 1)).iv).lo, ((gt (ab (af l)) x43).iv).hi, ((gt out (out.length - 1)).iv).openLo, true⟩ : Iv), (gt out (out.length - 1)).f⟩ : U Ln)))
      refine gz h <| (W) ?_; clear h ac wo; intro ac wo h
      have hg := bQ hL2 pt
      exact aE ⟨m2, og, _, _, _, og, hg, og, (All.set zout ⟨⟨((All.gt zout (bc _)).1).1, (dY ((All.gt s5.1 (bc _)).1).2 og)⟩, (All.gt zout (bc _)).2⟩), og, h.re [2, 3, 4]⟩
     ·
      have hq6 := hc6; try simp at hq6
      refine gz h <| (dr0 (hob := (oG (by exact fun hg => bZ ((gt (ab (af l)) (x43 - 1)).iv))) <| (oX (h := by exact fun _ => og1 (acc := [2]) rfl rfl rfl rfl (fun hg => fO (cO Tryz.call216 (gG (eM rfl hg) (gG (eM rfl hg) rfl))) (fun w_ hB_ hS_ => eQ out outv (((gt (ab (af l)) x43).iv).lo) zout ((All.gt s5.1 (bc _)).1).1 w_ (row_view hS_ 0 rfl))))) <| oE)) <| (ai) ?_ ?_ <;> clear h ac wo <;> intro ac wo h hc7
      ·
       have hq7 := hc7; try simp at hq7
       refine gz h <| (xs 1 (cUN (⟨(⟨((gt (ab (af l)) x43).iv).lo, ((gt (ab (af l)) x43).iv).hi, false, ((gt (ab (af l)) x43).iv).openHi⟩ : Iv), (gt (ab (af l)) x43).f⟩ : U Ln))) <| (W) ?_; clear h ac wo; intro ac wo h
       refine nw h (cA (α := U Ln) (xs := [.tmp 160]) (vs := [(vUN (⟨(⟨((gt (ab (af l)) x43).iv).lo, ((gt (ab (af l)) x43).iv).hi, false, ((gt (ab (af l)) x43).iv).openHi⟩ : Iv), (gt (ab (af l)) x43).f⟩ : U Ln))]) [(⟨(⟨((gt (ab (af l)) x43).iv).lo, ((gt (ab (af l)) x43).iv).hi, false, ((gt (ab (af l)) x43).iv).openHi⟩ : Iv), (gt (ab (af l)) x43).f⟩ : U Ln)] eU rfl rfl rfl (by decide)) rfl ?_; clear h ac wo; intro sv9 ac wo nnsv9 h
       refine on2 h 3 0 rfl rfl (fm (xs := out) (ys := [(⟨(⟨((gt (ab (af l)) x43).iv).lo, ((gt (ab (af l)) x43).iv).hi, false, ((gt (ab (af l)) x43).iv).openHi⟩ : Iv), (gt (ab (af l)) x43).f⟩ : U Ln)]) eU (fun w hs => (row_view hs 0 rfl)) rfl rfl og) rfl ?_; clear h ac wo; intro sv10 ac wo apsv10 h
       refine gz h <| (W) ?_; clear h ac wo; intro ac wo h
       have hg := bQ hL2 pt
       exact aE ⟨m2, og, _, _, _, og, hg, og, (All.app zout (All.cons ⟨⟨(dY ((All.gt s5.1 (bc _)).1).1 og), (dY ((All.gt s5.1 (bc _)).1).2 og)⟩, (gi (All.gt s5.1 (bc _)).2 og)⟩ All.nil)), og, h.re [0, 4, 5]⟩
      ·
       have hq7 := hc7; try simp at hq7
       refine gz h <| (W) ?_; clear h ac wo; intro ac wo h
       refine nw h (cA (α := U Ln) (xs := [.tmp 160]) (vs := [(vUN (gt (ab (af l)) x43))]) [(gt (ab (af l)) x43)] eU rfl rfl rfl (by decide)) rfl ?_; clear h ac wo; intro sv11 ac wo nnsv11 h
       refine on2 h 3 0 rfl rfl (fm (xs := out) (ys := [(gt (ab (af l)) x43)]) eU (fun w hs => (row_view hs 0 rfl)) rfl rfl og) rfl ?_; clear h ac wo; intro sv12 ac wo apsv12 h
       refine gz h <| (W) ?_; clear h ac wo; intro ac wo h
       have hg := bQ hL2 pt
       exact aE ⟨m2, og, _, _, _, og, hg, og, (All.app zout (All.cons (l8 (All.gt s5.1 (bc _)) og) All.nil)), og, h.re [0, 4, 5]⟩
    ·
     have hq5 := hc5; try simp at hq5
     refine gz h <| (dr0 (hob := (oG (by exact fun hg => cX ((gt out (out.length - 1)).f) ((gt (ab (af l)) x43).f) (((gt (ab (af l)) x43).iv).lo) (All.gt zout (bc _)).2 (gi (All.gt s5.1 (bc _)).2 og) ((All.gt s5.1 (bc _)).1).1)) <| oE)) <| (ai) ?_ ?_ <;> clear h ac wo <;> intro ac wo h hc8
     ·
      have hq8 := hc8; try simp at hq8
      refine gz h <| (W) ?_; clear h ac wo; intro ac wo h
      refine up h 2 rfl (fw (k := 19) (u' := (⟨(⟨((gt out (out.length - 1)).iv).lo, ((gt out (out.length - 1)).iv).hi, ((gt out (out.length - 1)).iv).openLo, false⟩ : Iv), (gt out (out.length - 1)).f⟩ : U Ln)) zz4 (iL og) rfl rfl rfl rfl rfl rfl rfl rfl) ?_; clear h ac wo; intro ac wo h
      refine gz h <| (W) ?_; clear h ac wo; intro ac wo h
      have hg := bQ hL2 pt
      exact aE ⟨m2, og, _, _, _, og, hg, og, (All.set zout ⟨⟨((All.gt zout (bc _)).1).1, ((All.gt zout (bc _)).1).2⟩, (All.gt zout (bc _)).2⟩), og, h.re [2, 3, 4]⟩
     ·
      have hq8 := hc8; try simp at hq8
      refine gz h <| (dr0 (hob := (oG (by exact fun hg => cX ((gt (ab (af l)) (x43 + 1)).f) ((gt (ab (af l)) x43).f) (((gt (ab (af l)) x43).iv).lo) (gi (All.gt s5.1 (bc _)).2 og) (gi (All.gt s5.1 (bc _)).2 og) ((All.gt s5.1 (bc _)).1).1)) <| oE)) <| (ai) ?_ ?_ <;> clear h ac wo <;> intro ac wo h hc9
      ·
       have hq9 := hc9; try simp at hq9
       refine gz h <| (W) ?_; clear h ac wo; intro ac wo h
       have hg := bQ hL2 pt
       exact aE ⟨m2, og, _, _, _, og, hg, og, zout, og, h.re [2, 3, 4]⟩
      ·
       have hq9 := hc9; try simp at hq9
       have c13 := ef ((gt (ab (af l)) x43).f) (((gt (ab (af l)) x43).iv).lo) (All.gt s5.1 (bc _)).2 ((All.gt s5.1 (bc _)).1).1
       have s13 := Calls.pr (c13 w0)
       refine gz h <| (xk (c13)) <| (xs 1 (cUN (⟨(gt (ab (af l)) x43).iv, (av ((gt (ab (af l)) x43).f) (((gt (ab (af l)) x43).iv).lo))⟩ : U Ln))) <| (W) ?_; clear h ac wo; intro ac wo h
       refine nw h (cA (α := U Ln) (xs := [.tmp 87]) (vs := [(vUN (⟨(gt (ab (af l)) x43).iv, (av ((gt (ab (af l)) x43).f) (((gt (ab (af l)) x43).iv).lo))⟩ : U Ln))]) [(⟨(gt (ab (af l)) x43).iv, (av ((gt (ab (af l)) x43).f) (((gt (ab (af l)) x43).iv).lo))⟩ : U Ln)] eU rfl rfl rfl (by decide)) rfl ?_; clear h ac wo; intro sv14 ac wo nnsv14 h
       refine on2 h 3 0 rfl rfl (fm (xs := out) (ys := [(⟨(gt (ab (af l)) x43).iv, (av ((gt (ab (af l)) x43).f) (((gt (ab (af l)) x43).iv).lo))⟩ : U Ln)]) eU (fun w hs => (row_view hs 0 rfl)) rfl rfl og) rfl ?_; clear h ac wo; intro sv15 ac wo apsv15 h
       refine gz h <| (W) ?_; clear h ac wo; intro ac wo h
       have hg := bQ hL2 pt
       exact aE ⟨m2, og, _, _, _, og, hg, og, (All.app zout (All.cons ⟨(pz (All.gt s5.1 (bc _)).1 og), s13⟩ All.nil)), og, h.re [0, 4, 5]⟩
   ·
    have hq4 := hc4; try simp at hq4
    refine gz h <| (xk (bZ ((gt (ab (af l)) x43).iv))) <| (ai) ?_ ?_ <;> clear h ac wo <;> intro ac wo h hc10
    ·
     have hq10 := hc10; try simp at hq10
     refine gz h <| (W) ?_; clear h ac wo; intro ac wo h
     refine fK mixed [dv _, dv _, dv _, ⟨.det (gv false undef), []⟩, ⟨.det (gv false undef), []⟩, ⟨.det (gv false undef), []⟩, ⟨.det (gv false undef), []⟩, ⟨.det (gv false undef), []⟩, ⟨.det (gv false undef), []⟩, dv _, dv _, ⟨.det (gv false undef), []⟩, ⟨.det (gv false undef), []⟩, ⟨.det (gv false undef), []⟩, ⟨.det (gv false undef), []⟩, ⟨.det (gv false undef), []⟩, ⟨.det (gv false undef), []⟩, ⟨.det (gv false undef), []⟩, ⟨.det (gv false undef), []⟩, ⟨.det (gv false undef), []⟩, ⟨.det (gv false undef), []⟩, ⟨.det (gv false undef), []⟩, dv _] [⟨_, []⟩, ⟨_, []⟩, ⟨_, []⟩, ⟨_, []⟩, ⟨_, []⟩] h rfl (by kernel_rfl) ⟨fun _ _ => om rfl, fun _ _ => bm (kA nn282 rfl (p := none)), fun _ _ => om rfl, (fun ξ hφ => by exact fD (c := true) (b := false) (g := false) [] rfl rfl rfl rfl g_t (fun hg => absurd hg (by decide))), (fun ξ hφ => by exact fD (c := true) (b := false) (g := false) [] rfl rfl rfl rfl g_t (fun hg => absurd hg (by decide))), (fun ξ hφ => by exact fD (c := true) (b := false) (g := false) [] rfl rfl rfl rfl g_t (fun hg => absurd hg (by decide))), (fun ξ hφ => by exact fD (c := true) (b := false) (g := false) [] rfl rfl rfl rfl g_t (fun hg => absurd hg (by decide))), (fun ξ hφ => by exact fD (c := true) (b := false) (g := false) [] rfl rfl rfl rfl g_t (fun hg => absurd hg (by decide))), (fun ξ hφ => by exact fD (c := true) (b := false) (g := false) [] rfl rfl rfl rfl g_t (fun hg => absurd hg (by decide))), fun _ _ => bm (kQ (b := false) rfl (fun e => absurd e (by decide)) (fun _ => rfl) (v := .bool false)), fun _ _ => om rfl, (fun ξ hφ => by exact fD (c := true) (b := false) (g := false) [] rfl rfl rfl rfl g_t (fun hg => absurd hg (by decide))), (fun ξ hφ => by exact fD (c := true) (b := false) (g := false) [] rfl rfl rfl rfl g_t (fun hg => absurd hg (by decide))), (fun ξ hφ => by exact fD (c := true) (b := false) (g := false) [] rfl rfl rfl rfl g_t (fun hg => absurd hg (by decide))), (fun ξ hφ => by exact fD (c := true) (b := false) (g := false) [] rfl rfl rfl rfl g_t (fun hg => absurd hg (by decide))), (fun ξ hφ => by exact fD (c := true) (b := false) (g := false) [] rfl rfl rfl rfl g_t (fun hg => absurd hg (by decide))), (fun ξ hφ => by exact fD (c := true) (b := false) (g := false) [] rfl rfl rfl rfl g_t (fun hg => absurd hg (by decide))), (fun ξ hφ => by exact fD (c := true) (b := false) (g := false) [] rfl rfl rfl rfl g_t (fun hg => absurd hg (by decide))), (fun ξ hφ => by exact fD (c := true) (b := false) (g := false) [] rfl rfl rfl rfl g_t (fun hg => absurd hg (by decide))), (fun ξ hφ => by exact fD (c := true) (b := false) (g := false) [] rfl rfl rfl rfl g_t (fun hg => absurd hg (by decide))), (fun ξ hφ => by exact fD (c := true) (b := false) (g := false) [] rfl rfl rfl rfl g_t (fun hg => absurd hg (by decide))), (fun ξ hφ => by exact fD (c := true) (b := false) (g := false) [] rfl rfl rfl rfl g_t (fun hg => absurd hg (by decide))), fun _ _ => bm (kQ (b := false) rfl (fun e => absurd e (by decide)) (fun _ => rfl) (v := .bool false)), trivial⟩ ?_
     clear h ac wo; intro ξ ac wo hφ h
     replace h : St w0 219 [(0, (.iface 80 (.agg #[]))), (7, outv), (8, sv7), (41, sv7), (42, (.int .i64 (((ab (af l)).length : Nat) : Int))), (43, (.int .i64 ((x43 : Nat) : Int))), (10, (ptr b1 0)), (9, (.int .i64 ((x43 : Nat) : Int))), (11, (ptr b2 0)), (12, (.pointer none)), (117, (.bool false))] [.blk b2 (cR (((gt (ab (af l)) x43).iv).lo)) 71, .blk b1 (cUN (gt (ab (af l)) x43)) 199, .row (α := U Ln) 199 outv out, .row (α := U Ln) 199 sv7 (ab (af l)), .row (α := U Ln) 199 sv3 (af l)] ac wo := (h.pick [0, 1, 2, 3, 4] (by decide)).sub ⟨rfl, rfl, rfl, rfl, rfl, rfl, rfl, rfl, rfl, rfl, rfl, trivial⟩
     clear hφ ξ
     refine gz h <| (W) ?_; clear h ac wo; intro ac wo h
     refine rV h rfl ?_
     refine gz h <| (dr0 (hob := (oG (by exact fun hg => bZ ((gt (ab (af l)) (x43 - 1)).iv))) <| (oX (h := by exact fun _ => og1 (acc := [2]) rfl rfl rfl rfl (fun hg => fO (cO Tryz.call216 (gG (eM rfl hg) (gG (eM rfl hg) rfl))) (fun w_ hB_ hS_ => eQ out outv (((gt (ab (af l)) x43).iv).lo) zout ((All.gt s5.1 (bc _)).1).1 w_ (row_view hS_ 0 rfl))))) <| oE)) <| (ai) ?_ ?_ <;> clear h ac wo <;> intro ac wo h hc11
     ·
      have hq11 := hc11; try simp at hq11
      refine gz h <| (xs 1 (cUN (⟨(⟨((gt (ab (af l)) x43).iv).lo, ((gt (ab (af l)) x43).iv).hi, false, ((gt (ab (af l)) x43).iv).openHi⟩ : Iv), (gt (ab (af l)) x43).f⟩ : U Ln))) <| (W) ?_; clear h ac wo; intro ac wo h
      refine nw h (cA (α := U Ln) (xs := [.tmp 160]) (vs := [(vUN (⟨(⟨((gt (ab (af l)) x43).iv).lo, ((gt (ab (af l)) x43).iv).hi, false, ((gt (ab (af l)) x43).iv).openHi⟩ : Iv), (gt (ab (af l)) x43).f⟩ : U Ln))]) [(⟨(⟨((gt (ab (af l)) x43).iv).lo, ((gt (ab (af l)) x43).iv).hi, false, ((gt (ab (af l)) x43).iv).openHi⟩ : Iv), (gt (ab (af l)) x43).f⟩ : U Ln)] eU rfl rfl rfl (by decide)) rfl ?_; clear h ac wo; intro sv16 ac wo nnsv16 h
      refine on2 h 3 0 rfl rfl (fm (xs := out) (ys := [(⟨(⟨((gt (ab (af l)) x43).iv).lo, ((gt (ab (af l)) x43).iv).hi, false, ((gt (ab (af l)) x43).iv).openHi⟩ : Iv), (gt (ab (af l)) x43).f⟩ : U Ln)]) eU (fun w hs => (row_view hs 0 rfl)) rfl rfl og) rfl ?_; clear h ac wo; intro sv17 ac wo apsv17 h
      refine gz h <| (W) ?_; clear h ac wo; intro ac wo h
      have hg := bQ hL2 pt
      exact aE ⟨m2, og, _, _, _, og, hg, og, (All.app zout (All.cons ⟨⟨(dY ((All.gt s5.1 (bc _)).1).1 og), (dY ((All.gt s5.1 (bc _)).1).2 og)⟩, (gi (All.gt s5.1 (bc _)).2 og)⟩ All.nil)), og, h.re [0, 4, 5]⟩
     ·
      have hq11 := hc11; try simp at hq11
      refine gz h <| (W) ?_; clear h ac wo; intro ac wo h
      refine nw h (cA (α := U Ln) (xs := [.tmp 160]) (vs := [(vUN (gt (ab (af l)) x43))]) [(gt (ab (af l)) x43)] eU rfl rfl rfl (by decide)) rfl ?_; clear h ac wo; intro sv18 ac wo nnsv18 h
      refine on2 h 3 0 rfl rfl (fm (xs := out) (ys := [(gt (ab (af l)) x43)]) eU (fun w hs => (row_view hs 0 rfl)) rfl rfl og) rfl ?_; clear h ac wo; intro sv19 ac wo apsv19 h
      refine gz h <| (W) ?_; clear h ac wo; intro ac wo h
      have hg := bQ hL2 pt
      exact aE ⟨m2, og, _, _, _, og, hg, og, (All.app zout (All.cons (l8 (All.gt s5.1 (bc _)) og) All.nil)), og, h.re [0, 4, 5]⟩
    ·
     have hq10 := hc10; try simp at hq10
     refine gz h <| (W) ?_; clear h ac wo; intro ac wo h
     refine fK mixed [dv _, dv _, dv _, ⟨.det (gv false undef), []⟩, ⟨.det (gv false undef), []⟩, ⟨.det (gv false undef), []⟩, ⟨.det (gv false undef), []⟩, ⟨.det (gv false undef), []⟩, ⟨.det (gv false undef), []⟩, ⟨.det (gv false undef), []⟩, ⟨.det (gv false undef), []⟩, ⟨.det (gv false undef), []⟩, ⟨.det (gv false undef), []⟩, ⟨.det (gv false undef), []⟩, ⟨.det (gv false undef), []⟩, dv _, dv _] [⟨_, []⟩, ⟨_, []⟩, ⟨_, []⟩, ⟨_, []⟩, ⟨_, []⟩] h rfl (by kernel_rfl) ⟨fun _ _ => om rfl, fun _ _ => bm (kA nn282 rfl (p := none)), fun _ _ => om rfl, (fun ξ hφ => by exact fD (c := true) (b := false) (g := false) [] rfl rfl rfl rfl g_t (fun hg => absurd hg (by decide))), (fun ξ hφ => by exact fD (c := true) (b := false) (g := false) [] rfl rfl rfl rfl g_t (fun hg => absurd hg (by decide))), (fun ξ hφ => by exact fD (c := true) (b := false) (g := false) [] rfl rfl rfl rfl g_t (fun hg => absurd hg (by decide))), (fun ξ hφ => by exact fD (c := true) (b := false) (g := false) [] rfl rfl rfl rfl g_t (fun hg => absurd hg (by decide))), (fun ξ hφ => by exact fD (c := true) (b := false) (g := false) [] rfl rfl rfl rfl g_t (fun hg => absurd hg (by decide))), (fun ξ hφ => by exact fD (c := true) (b := false) (g := false) [] rfl rfl rfl rfl g_t (fun hg => absurd hg (by decide))), (fun ξ hφ => by exact fD (c := true) (b := false) (g := false) [] rfl rfl rfl rfl g_t (fun hg => absurd hg (by decide))), (fun ξ hφ => by exact fD (c := true) (b := false) (g := false) [] rfl rfl rfl rfl g_t (fun hg => absurd hg (by decide))), (fun ξ hφ => by exact fD (c := true) (b := false) (g := false) [] rfl rfl rfl rfl g_t (fun hg => absurd hg (by decide))), (fun ξ hφ => by exact fD (c := true) (b := false) (g := false) [] rfl rfl rfl rfl g_t (fun hg => absurd hg (by decide))), (fun ξ hφ => by exact fD (c := true) (b := false) (g := false) [] rfl rfl rfl rfl g_t (fun hg => absurd hg (by decide))), (fun ξ hφ => by exact fD (c := true) (b := false) (g := false) [] rfl rfl rfl rfl g_t (fun hg => absurd hg (by decide))), fun _ _ => bm (kQ (b := false) rfl (fun e => absurd e (by decide)) (fun _ => rfl) (v := .bool false)), fun _ _ => bm (az rfl), trivial⟩ ?_
     clear h ac wo; intro ξ ac wo hφ h
     replace h : St w0 219 [(0, (.iface 80 (.agg #[]))), (7, outv), (8, sv7), (41, sv7), (42, (.int .i64 (((ab (af l)).length : Nat) : Int))), (43, (.int .i64 ((x43 : Nat) : Int))), (10, (ptr b1 0)), (9, (.int .i64 ((x43 : Nat) : Int))), (11, (ptr b2 0)), (12, (.pointer none)), (163, (.bool false))] [.blk b2 (cR (((gt (ab (af l)) x43).iv).lo)) 71, .blk b1 (cUN (gt (ab (af l)) x43)) 199, .row (α := U Ln) 199 outv out, .row (α := U Ln) 199 sv7 (ab (af l)), .row (α := U Ln) 199 sv3 (af l)] ac wo := (h.pick [0, 1, 2, 3, 4] (by decide)).sub ⟨rfl, rfl, rfl, rfl, rfl, rfl, rfl, rfl, rfl, rfl, rfl, trivial⟩
     clear hφ ξ
     refine gz h <| (W) ?_; clear h ac wo; intro ac wo h
     refine rV h rfl ?_
     refine gz h <| (dr0 (hob := (oG (by exact fun hg => cX ((gt (ab (af l)) (x43 + 1)).f) ((gt (ab (af l)) x43).f) (((gt (ab (af l)) x43).iv).lo) (gi (All.gt s5.1 (bc _)).2 og) (gi (All.gt s5.1 (bc _)).2 og) ((All.gt s5.1 (bc _)).1).1)) <| oE)) <| (ai) ?_ ?_ <;> clear h ac wo <;> intro ac wo h hc12
     ·
      have hq12 := hc12; try simp at hq12
      refine gz h <| (W) ?_; clear h ac wo; intro ac wo h
      have hg := bQ hL2 pt
      exact aE ⟨m2, og, _, _, _, og, hg, og, zout, og, h.re [2, 3, 4]⟩
     ·
      have hq12 := hc12; try simp at hq12
      have c20 := ef ((gt (ab (af l)) x43).f) (((gt (ab (af l)) x43).iv).lo) (All.gt s5.1 (bc _)).2 ((All.gt s5.1 (bc _)).1).1
      have s20 := Calls.pr (c20 w0)
      refine gz h <| (xk (c20)) <| (xs 1 (cUN (⟨(gt (ab (af l)) x43).iv, (av ((gt (ab (af l)) x43).f) (((gt (ab (af l)) x43).iv).lo))⟩ : U Ln))) <| (W) ?_; clear h ac wo; intro ac wo h
      refine nw h (cA (α := U Ln) (xs := [.tmp 87]) (vs := [(vUN (⟨(gt (ab (af l)) x43).iv, (av ((gt (ab (af l)) x43).f) (((gt (ab (af l)) x43).iv).lo))⟩ : U Ln))]) [(⟨(gt (ab (af l)) x43).iv, (av ((gt (ab (af l)) x43).f) (((gt (ab (af l)) x43).iv).lo))⟩ : U Ln)] eU rfl rfl rfl (by decide)) rfl ?_; clear h ac wo; intro sv21 ac wo nnsv21 h
      refine on2 h 3 0 rfl rfl (fm (xs := out) (ys := [(⟨(gt (ab (af l)) x43).iv, (av ((gt (ab (af l)) x43).f) (((gt (ab (af l)) x43).iv).lo))⟩ : U Ln)]) eU (fun w hs => (row_view hs 0 rfl)) rfl rfl og) rfl ?_; clear h ac wo; intro sv22 ac wo apsv22 h
      refine gz h <| (W) ?_; clear h ac wo; intro ac wo h
      have hg := bQ hL2 pt
      exact aE ⟨m2, og, _, _, _, og, hg, og, (All.app zout (All.cons ⟨(pz (All.gt s5.1 (bc _)).1 og), s20⟩ All.nil)), og, h.re [0, 4, 5]⟩
  ·
   have hd3 := of_decide_eq_false hc3
   have hx2 := dM hL2 pt
   have hd : a7 l = (out, 0) := pt
   refine gz h <| (W) ?_; clear h ac wo; intro ac wo h
   exact (rt h) (by rw [hd]; exact h.retT 0 rfl rfl ⟨zout, og⟩)
attribute [irreducible] a7
end Go.Sx
