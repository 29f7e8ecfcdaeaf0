/- A part of the proof of movingpointNumbers. -/
import Derived.Test.YtbenbmdkhcfcfaaGreatDoorG9
set_option linter.unusedVariables false
set_option linter.unusedSimpArgs false
open Go.Proofs.Tryz renaming underlying50 → nn50, call229 → cc229, sizeOf50 → zz50, runUnderlying126 → uu126, sizeOf86 → zz86, runUnderlying86 → uu86, sizeOf71 → zz71, isAgg71 → aa71, runUnderlying55 → uu55, isAgg4 → aa4, underlying4 → nn4
namespace Go.Sx
open Go Go.RowKit Go.Proofs
set_option maxRecDepth 100000
set_option maxHeartbeats 40000000
attribute [local irreducible] Code.wp wpList Rd Step ObS Ent
attribute [local irreducible] ap aN ak au aA bO
theorem iS : SlT Tryz.prog 50 126 32 360 [.bool false, .string ⟨#[]⟩, .bool false, .string ⟨#[]⟩, .bool false, .string ⟨#[]⟩, .bool false, .string ⟨#[]⟩, .bool false, .bool false, .string ⟨#[]⟩, .bool false, .string ⟨#[]⟩, .bool false, .string ⟨#[]⟩, .bool false, .string ⟨#[]⟩, .bool false, .bool false, .bool false, .bool false, .string ⟨#[]⟩, .bool false, .string ⟨#[]⟩, .bool false, .string ⟨#[]⟩, .bool false, .string ⟨#[]⟩, .bool false, .string ⟨#[]⟩, .bool false, .string ⟨#[]⟩] := ⟨nn50, Tryz.t126, _, Tryz.type126, rfl, rfl, rfl, rfl, rfl, by decide, by decide⟩
def fB (f : Qd) (g : Qd) : Bool :=
 (decide (f = g))
theorem k9 (f : Qd) (g : Qd) (zf : SzD 20 f) (zg : SzD 20 g) (w0 : World)  : Calls Tryz.prog 367 #[(.agg #[]), (vD f), (vD g)] w0 (dI w0 (.bool (fB f g)) (True)) := by
 refine enter (N := 10) (args := [(.agg #[]), (vD f), (vD g)]) Tryz.func367 rfl rfl ?_; intro ac h
 refine gz h <| (xb) fun b1 => (xb) fun b2 => (xb) fun b3 => (W) ?_; clear h ac; intro ac wo h
 exact (rt h) (h.retP (by unfold fB; rfl) trivial)
attribute [irreducible] fB
def dO (f : Qd) (g : Qd) (t : GR) : Bool :=
 (fH f g t)
theorem gZ (f : Qd) (g : Qd) (t : GR) (zf : SzD 20 f) (zg : SzD 20 g) (zt : SzR 30 t) (w0 : World)  : Calls Tryz.prog 369 #[(.agg #[]), (vD f), (vD g), (vR t)] w0 (dI w0 (.bool (dO f g t)) (True)) := by
 refine enter (N := 13) (args := [(.agg #[]), (vD f), (vD g), (vR t)]) Tryz.func369 rfl rfl ?_; intro ac h
 refine gz h <| (xb) fun b1 => (xb) fun b2 => (xb) fun b3 => (xb) fun b4 => (xk (iV f g t 6 og zf zg (eW zt og))) <| (W) ?_; clear h ac; intro ac wo h
 exact (rt h) (h.retP (by unfold dO; rfl) trivial)
attribute [irreducible] dO
def bF (f : Qd) (t : GR) : Qd :=
 (aQ f t)
theorem iL (f : Qd) (t : GR) (zf : SzD 30 f) (zt : SzR 30 t) (w0 : World)  : Calls Tryz.prog 368 #[(.agg #[]), (vD f), (vR t)] w0 (dI w0 (vD (bF f t)) (SzD 20 (bF f t))) := by
 refine enter (N := 10) (args := [(.agg #[]), (vD f), (vR t)]) Tryz.func368 rfl rfl ?_; intro ac h
 have c1 := eI f t 20 og zf zt
 have s1 := ao (c1 w0)
 refine gz h <| (xb) fun b1 => (xb) fun b2 => (xb) fun b3 => (xa) fun b4 => (xk (c1)) <| (W) ?_; clear h ac; intro ac wo h
 exact ret h rfl (.cell (v := (vD (aQ f t))) rfl (i := 0) rfl Tryz.isAgg53 Tryz.sizeOf53 rfl rfl rfl .nil) rfl (h.retP (by unfold bF; rfl) (by unfold bF; exact s1))
attribute [irreducible] bF
def aX (s : List (U Qd)) : (List (U Qd)) := s
theorem e6 (s : List (U Qd)) (sv : Value) (hl : s.length ≤ 1000) (zs : All (iI 30) s) (w0 : World) (hsv : View w0 sv s) : Calls Tryz.prog 223 #[sv] w0 (RetR w0 126 (aX s) (All (iI 30) (aX s) ∧ (aX s) = s ∧ (aX s).length = s.length)) := by
 refine enter (N := 8) (args := [sv]) Tryz.func223 rfl rfl ?_; intro ac h
 have hlens := hsv.len
 refine gz h <| (xo (hs := by exact sB nn50 hsv.sl rfl)) <| (ai) ?_ ?_ <;> clear h ac <;> intro ac wo h hc1
 ·
  have hq1 := hc1; try simp at hq1
  refine gz h <| (W) ?_; clear h ac wo; intro ac wo h
  replace h := h.nilRow (α := U Qd) 126
  have hd : aX s = [] := (hsv.nil hc1).1
  exact (rt h) (by rw [hd]; exact h.retR 0 rfl ⟨All.nil, ⟨(hsv.nil hc1).1.symm, by rw [(hsv.nil hc1).1]⟩⟩)
 ·
  have hq1 := hc1; try simp at hq1
  refine gz h <| (W) ?_; clear h ac wo; intro ac wo h
  refine nw h (cj (α := U Qd) (xs := []) (vs := []) [] iS rfl rfl rfl (by decide)) rfl ?_; clear h ac wo; intro sv2 ac wo nnsv2 h
  refine gz h <| (W) ?_; clear h ac wo; intro ac wo h
  refine on1 h 0 rfl (vM (xs := []) (ys := s) iS hsv rfl rfl og) rfl ?_; clear h ac wo; intro sv3 ac wo apsv3 h
  refine gz h <| (W) ?_; clear h ac wo; intro ac wo h
  exact (rt h) (by unfold aX; exact h.retR 0 rfl ⟨(All.app All.nil zs), ⟨rfl, rfl⟩⟩)
attribute [irreducible] aX
def aR (i : Iv) : Int :=
 bif i.openLo then
  1
 else
  0
theorem eK (i : Iv) (zi : SzV 30 i) (w0 : World)  : Calls Tryz.prog 226 #[(vV i)] w0 (dI w0 (.int .i64 (aR i)) ((-1 ≤ (aR i) ∧ (aR i) ≤ 1))) := by
 refine enter (N := 5) (args := [(vV i)]) Tryz.func226 rfl rfl ?_; intro ac h
 refine gz h <| (xb) fun b1 => (ai) ?_ ?_ <;> clear h ac <;> intro ac wo h hc1
 ·
  have hq1 := hc1; try simp at hq1
  have hd : aR i = 1 := pt
  refine gz h <| (W) ?_; clear h ac wo; intro ac wo h
  exact (rt h) (h.retP (by rw [hd] <;> rfl) (by rw [hd]; exact og))
 ·
  have hq1 := hc1; try simp at hq1
  have hd : aR i = 0 := pt
  refine gz h <| (W) ?_; clear h ac wo; intro ac wo h
  exact (rt h) (h.retP (by rw [hd] <;> rfl) (by rw [hd]; exact og))
attribute [irreducible] aR
def eZ (l : List (U Qd)) (t : GR) : Bool :=
 (((decide (((l.length : Nat) : Int) > 0)) && (decide (((gt l (l.length - 1)).iv).hi = t))) && (!((gt l (l.length - 1)).iv).openHi))
theorem jJ (l : List (U Qd)) (lv : Value) (t : GR) (zl : All (iI 20) l) (zt : SzR 30 t) (w0 : World) (hlv : View w0 lv l) : Calls Tryz.prog 151 #[lv, (vR t)] w0 (dI w0 (.bool (eZ l t)) (True)) := by
 refine enter (N := 31) (args := [lv, (vR t)]) Tryz.func151 rfl rfl ?_; intro ac h
 have hlenl := hlv.len
 refine gz h <| (xb) fun b1 => (dr0 (hob := oE)) <| (W) ?_; clear h ac; intro ac wo h
 exact (rt h) (h.retP (by unfold eZ; rfl) trivial)
attribute [irreducible] eZ
def lK (l : List (U Qd)) (x10 : Nat) (out : List (U Qd)) : (List (U Qd)) :=
 out
def gW (l : List (U Qd)) (x10 : Nat) (out : List (U Qd)) : Nx (Nat × (List (U Qd))) (List (U Qd)) :=
 bif (decide (((x10 : Nat) : Int) < ((l.length : Nat) : Int))) then
  bif (!((gt l x10).iv).openLo) then
   bif (aU ((gt l x10).iv)) then
    .go ((x10 + 1), (out ++ [(⟨(⟨((gt l x10).iv).lo, ((gt l x10).iv).lo, false, false⟩ : Iv), (gt l x10).f⟩ : U Qd)]))
   else
    bif (!((gt l x10).iv).openHi) then
     .go ((x10 + 1), (((out ++ [(⟨(⟨((gt l x10).iv).lo, ((gt l x10).iv).lo, false, false⟩ : Iv), (gt l x10).f⟩ : U Qd)]) ++ [(⟨(⟨((gt l x10).iv).lo, ((gt l x10).iv).hi, true, true⟩ : Iv), (gt l x10).f⟩ : U Qd)]) ++ [(⟨(⟨((gt l x10).iv).hi, ((gt l x10).iv).hi, false, false⟩ : Iv), (gt l x10).f⟩ : U Qd)]))
    else
     .go ((x10 + 1), ((out ++ [(⟨(⟨((gt l x10).iv).lo, ((gt l x10).iv).lo, false, false⟩ : Iv), (gt l x10).f⟩ : U Qd)]) ++ [(⟨(⟨((gt l x10).iv).lo, ((gt l x10).iv).hi, true, true⟩ : Iv), (gt l x10).f⟩ : U Qd)]))
  else
   bif (aU ((gt l x10).iv)) then
    .go ((x10 + 1), out)
   else
    bif (!((gt l x10).iv).openHi) then
     .go ((x10 + 1), ((out ++ [(⟨(⟨((gt l x10).iv).lo, ((gt l x10).iv).hi, true, true⟩ : Iv), (gt l x10).f⟩ : U Qd)]) ++ [(⟨(⟨((gt l x10).iv).hi, ((gt l x10).iv).hi, false, false⟩ : Iv), (gt l x10).f⟩ : U Qd)]))
    else
     .go ((x10 + 1), (out ++ [(⟨(⟨((gt l x10).iv).lo, ((gt l x10).iv).hi, true, true⟩ : Iv), (gt l x10).f⟩ : U Qd)]))
 else
  .out (x10, out)
def af (l : List (U Qd)) : (List (U Qd)) :=
 fin (cr (fun s => gW l s.1 s.2) ((l.length - 0) + 1) (0, [])) (fun s => lK l s.1 s.2) (fun r => r)
theorem jt (l : List (U Qd)) (lv : Value) (hl : l.length ≤ 1000) (zl : All (iI 30) l) (w0 : World) (hlv : View w0 lv l) : Calls Tryz.prog 149 #[lv] w0 (RetR w0 126 (af l) (All (iI 30) (af l) ∧ (af l).length ≤ 3 * l.length)) := by
 refine enter (N := 54) (args := [lv]) Tryz.func149 rfl rfl ?_; intro ac h
 have hlenl := hlv.len
 refine gz h <| (xa) fun b1 => (xo (hs := by exact lE rfl)) <| (W) ?_; clear h ac; intro ac wo h
 replace h := h.nilRow (α := U Qd) 126
 obtain ⟨X1, hX1⟩ : ∃ X, cr (fun s => gW l s.1 s.2) ((l.length - 0) + 1) (0, []) = X := ⟨_, rfl⟩
 refine wp_loop_ghost (fun n_ a_ w_ => ∃ (x10 : Nat) (out : List (U Qd)) (outv : Value), ((l.length - x10) < n_) ∧ (cr (fun s => gW l s.1 s.2) n_ (x10, out) = X1) ∧ (x10 ≤ l.length) ∧ (All (iI 30) out) ∧ (out.length ≤ 3 * x10) ∧ St w0 54 [(3, (ptr b1 0)), (4, (.func (.func 229) #[] #[(ptr b1 0)])), (8, lv), (9, (.int .i64 ((l.length : Nat) : Int))), (10, (.int .i64 ((x10 : Nat) : Int)))] [.row (α := U Qd) 126 outv out, .blk b1 [outv] 50] a_ w_) ((l.length - 0) + 1) ⟨0, [], (.slice none 0 0), og, hX1, og, All.nil, og, h.rs⟩ ?_
 clear h ac wo; rintro n1 ac wo ⟨x10, out, outv, hm1, hL1, hx10, zout, hol, h⟩
 obtain ⟨m1, rfl⟩ : ∃ m, n1 = m + 1 := ⟨n1 - 1, by omega⟩
 refine gz h <| (ai) ?_ ?_ <;> clear h ac wo <;> intro ac wo h hc1
 ·
  have hd1 := of_decide_eq_true hc1
  refine gz h <| (xa) fun b2 => (ai) ?_ ?_ <;> clear h ac wo <;> intro ac wo h hc2
  ·
   have hq2 := hc2; try simp at hq2
   refine gz h <| (W) ?_; clear h ac wo; intro ac wo h
   refine inl (vs := [(vR (((gt l x10).iv).lo)), (vD ((gt l x10).f)), (ptr b1 0)]) (M := 13) h (ow (vs := [(vR (((gt l x10).iv).lo)), (vD ((gt l x10).f))]) (cap := [(ptr b1 0)]) cc229 rfl rfl) Tryz.func229 rfl rfl rfl ?_
   clear h ac; intro R1 hR1 ac h
   refine gz h <| (xb) fun b3 => (xb) fun b4 => (xo (hs := by exact bA kH exs rfl (v := (vV (⟨((gt l x10).iv).lo, ((gt l x10).iv).lo, false, false⟩ : Iv))) rfl)) <| (xo (hs := by exact bA pN exs rfl (v := (vUD (⟨(⟨((gt l x10).iv).lo, ((gt l x10).iv).lo, false, false⟩ : Iv), (gt l x10).f⟩ : U Qd))) rfl)) <| ?_; clear h ac wo; intro ac wo h
   refine nw h (cj (α := U Qd) (xs := [.tmp 10]) (vs := [(vUD (⟨(⟨((gt l x10).iv).lo, ((gt l x10).iv).lo, false, false⟩ : Iv), (gt l x10).f⟩ : U Qd))]) [(⟨(⟨((gt l x10).iv).lo, ((gt l x10).iv).lo, false, false⟩ : Iv), (gt l x10).f⟩ : U Qd)] iS rfl rfl rfl (by decide)) rfl ?_; clear h ac wo; intro sv2 ac wo nnsv2 h
   refine on2 h 4 0 rfl rfl (eM (xs := out) (ys := [(⟨(⟨((gt l x10).iv).lo, ((gt l x10).iv).lo, false, false⟩ : Iv), (gt l x10).f⟩ : U Qd)]) iS (fun w hs => (row_view hs 0 rfl)) rfl rfl og) rfl ?_; clear h ac wo; intro sv3 ac wo apsv3 h
   refine st h 5 [sv3] rfl zz50 rfl rfl (i9 (h.row_sl 0 rfl)) rfl (lN (h.row_sl 0 rfl)) rfl rfl ?_; clear h ac wo; intro ac wo h
   refine gz h <| (W) ?_; clear h ac wo; intro ac wo h
   refine lO (rs := []) (vs := []) h rfl .nil rfl (hR1 _ _ _ h.bel h.sep ?_)
   clear h ac hR1; intro ac h
   refine gz h <| (xk (cC ((gt l x10).iv))) <| (ai) ?_ ?_ <;> clear h ac wo <;> intro ac wo h hc3
   ·
    have hq3 := hc3; try simp at hq3
    refine gz h <| (W) ?_; clear h ac wo; intro ac wo h
    have hg := bZ hL1 pt
    exact az ⟨m1, og, _, _, _, og, hg, og, (All.app zout (All.cons ⟨⟨((All.gt zl (bP _)).1).1, ((All.gt zl (bP _)).1).1⟩, (All.gt zl (bP _)).2⟩ All.nil)), og, h.re [0, 5]⟩
   ·
    have hq3 := hc3; try simp at hq3
    refine gz h <| (xo (hs := by exact bA kH exs rfl (v := (vV (⟨((gt l x10).iv).lo, ((gt l x10).iv).hi, true, true⟩ : Iv))) rfl)) <| (xo (hs := by exact bA pN exs rfl (v := (vUD (⟨(⟨((gt l x10).iv).lo, ((gt l x10).iv).hi, true, true⟩ : Iv), (gt l x10).f⟩ : U Qd))) rfl)) <| ?_; clear h ac wo; intro ac wo h
    refine nw h (cj (α := U Qd) (xs := [.tmp 38]) (vs := [(vUD (⟨(⟨((gt l x10).iv).lo, ((gt l x10).iv).hi, true, true⟩ : Iv), (gt l x10).f⟩ : U Qd))]) [(⟨(⟨((gt l x10).iv).lo, ((gt l x10).iv).hi, true, true⟩ : Iv), (gt l x10).f⟩ : U Qd)] iS rfl rfl rfl (by decide)) rfl ?_; clear h ac wo; intro sv4 ac wo nnsv4 h
    refine on2 h 1 0 rfl rfl (eM (xs := (out ++ [(⟨(⟨((gt l x10).iv).lo, ((gt l x10).iv).lo, false, false⟩ : Iv), (gt l x10).f⟩ : U Qd)])) (ys := [(⟨(⟨((gt l x10).iv).lo, ((gt l x10).iv).hi, true, true⟩ : Iv), (gt l x10).f⟩ : U Qd)]) iS (fun w hs => (row_view hs 0 rfl)) rfl rfl og) rfl ?_; clear h ac wo; intro sv5 ac wo apsv5 h
    refine st h 6 [sv5] rfl zz50 rfl rfl (i9 (h.row_sl 0 rfl)) rfl (lN (h.row_sl 0 rfl)) rfl rfl ?_; clear h ac wo; intro ac wo h
    refine gz h <| (ai) ?_ ?_ <;> clear h ac wo <;> intro ac wo h hc4
    ·
     have hq4 := hc4; try simp at hq4
     refine gz h <| (W) ?_; clear h ac wo; intro ac wo h
     refine inl (vs := [(vR (((gt l x10).iv).hi)), (vD ((gt l x10).f)), (ptr b1 0)]) (M := 13) h (ow (vs := [(vR (((gt l x10).iv).hi)), (vD ((gt l x10).f))]) (cap := [(ptr b1 0)]) cc229 rfl rfl) Tryz.func229 rfl rfl rfl ?_
     clear h ac; intro R2 hR2 ac h
     refine gz h <| (xb) fun b5 => (xb) fun b6 => (xo (hs := by exact bA kH exs rfl (v := (vV (⟨((gt l x10).iv).hi, ((gt l x10).iv).hi, false, false⟩ : Iv))) rfl)) <| (xo (hs := by exact bA pN exs rfl (v := (vUD (⟨(⟨((gt l x10).iv).hi, ((gt l x10).iv).hi, false, false⟩ : Iv), (gt l x10).f⟩ : U Qd))) rfl)) <| ?_; clear h ac wo; intro ac wo h
     refine nw h (cj (α := U Qd) (xs := [.tmp 10]) (vs := [(vUD (⟨(⟨((gt l x10).iv).hi, ((gt l x10).iv).hi, false, false⟩ : Iv), (gt l x10).f⟩ : U Qd))]) [(⟨(⟨((gt l x10).iv).hi, ((gt l x10).iv).hi, false, false⟩ : Iv), (gt l x10).f⟩ : U Qd)] iS rfl rfl rfl (by decide)) rfl ?_; clear h ac wo; intro sv6 ac wo nnsv6 h
     refine on2 h 3 0 rfl rfl (eM (xs := ((out ++ [(⟨(⟨((gt l x10).iv).lo, ((gt l x10).iv).lo, false, false⟩ : Iv), (gt l x10).f⟩ : U Qd)]) ++ [(⟨(⟨((gt l x10).iv).lo, ((gt l x10).iv).hi, true, true⟩ : Iv), (gt l x10).f⟩ : U Qd)])) (ys := [(⟨(⟨((gt l x10).iv).hi, ((gt l x10).iv).hi, false, false⟩ : Iv), (gt l x10).f⟩ : U Qd)]) iS (fun w hs => (row_view hs 0 rfl)) rfl rfl og) rfl ?_; clear h ac wo; intro sv7 ac wo apsv7 h
     refine st h 9 [sv7] rfl zz50 rfl rfl (i9 (h.row_sl 0 rfl)) rfl (lN (h.row_sl 0 rfl)) rfl rfl ?_; clear h ac wo; intro ac wo h
     refine gz h <| (W) ?_; clear h ac wo; intro ac wo h
     refine lO (rs := []) (vs := []) h rfl .nil rfl (hR2 _ _ _ h.bel h.sep ?_)
     clear h ac hR2; intro ac h
     refine gz h <| (W) ?_; clear h ac wo; intro ac wo h
     have hg := bZ hL1 pt
     exact az ⟨m1, og, _, _, _, og, hg, og, (All.app (All.app (All.app zout (All.cons ⟨⟨((All.gt zl (bP _)).1).1, ((All.gt zl (bP _)).1).1⟩, (All.gt zl (bP _)).2⟩ All.nil)) (All.cons ⟨⟨((All.gt zl (bP _)).1).1, ((All.gt zl (bP _)).1).2⟩, (All.gt zl (bP _)).2⟩ All.nil)) (All.cons ⟨⟨((All.gt zl (bP _)).1).2, ((All.gt zl (bP _)).1).2⟩, (All.gt zl (bP _)).2⟩ All.nil)), og, h.re [0, 9]⟩
    ·
     have hq4 := hc4; try simp at hq4
     refine gz h <| (W) ?_; clear h ac wo; intro ac wo h
     have hg := bZ hL1 pt
     exact az ⟨m1, og, _, _, _, og, hg, og, (All.app (All.app zout (All.cons ⟨⟨((All.gt zl (bP _)).1).1, ((All.gt zl (bP _)).1).1⟩, (All.gt zl (bP _)).2⟩ All.nil)) (All.cons ⟨⟨((All.gt zl (bP _)).1).1, ((All.gt zl (bP _)).1).2⟩, (All.gt zl (bP _)).2⟩ All.nil)), og, h.re [0, 6]⟩
  ·
   have hq2 := hc2; try simp at hq2
   refine gz h <| (xk (cC ((gt l x10).iv))) <| (ai) ?_ ?_ <;> clear h ac wo <;> intro ac wo h hc5
   ·
    have hq5 := hc5; try simp at hq5
    refine gz h <| (W) ?_; clear h ac wo; intro ac wo h
    have hg := bZ hL1 pt
    exact az ⟨m1, og, _, _, _, og, hg, og, zout, og, h.re [1, 2]⟩
   ·
    have hq5 := hc5; try simp at hq5
    refine gz h <| (xo (hs := by exact bA kH exs rfl (v := (vV (⟨((gt l x10).iv).lo, ((gt l x10).iv).hi, true, true⟩ : Iv))) rfl)) <| (xo (hs := by exact bA pN exs rfl (v := (vUD (⟨(⟨((gt l x10).iv).lo, ((gt l x10).iv).hi, true, true⟩ : Iv), (gt l x10).f⟩ : U Qd))) rfl)) <| ?_; clear h ac wo; intro ac wo h
    refine nw h (cj (α := U Qd) (xs := [.tmp 38]) (vs := [(vUD (⟨(⟨((gt l x10).iv).lo, ((gt l x10).iv).hi, true, true⟩ : Iv), (gt l x10).f⟩ : U Qd))]) [(⟨(⟨((gt l x10).iv).lo, ((gt l x10).iv).hi, true, true⟩ : Iv), (gt l x10).f⟩ : U Qd)] iS rfl rfl rfl (by decide)) rfl ?_; clear h ac wo; intro sv8 ac wo nnsv8 h
    refine on2 h 2 0 rfl rfl (eM (xs := out) (ys := [(⟨(⟨((gt l x10).iv).lo, ((gt l x10).iv).hi, true, true⟩ : Iv), (gt l x10).f⟩ : U Qd)]) iS (fun w hs => (row_view hs 0 rfl)) rfl rfl og) rfl ?_; clear h ac wo; intro sv9 ac wo apsv9 h
    refine st h 3 [sv9] rfl zz50 rfl rfl (i9 (h.row_sl 0 rfl)) rfl (lN (h.row_sl 0 rfl)) rfl rfl ?_; clear h ac wo; intro ac wo h
    refine gz h <| (ai) ?_ ?_ <;> clear h ac wo <;> intro ac wo h hc6
    ·
     have hq6 := hc6; try simp at hq6
     refine gz h <| (W) ?_; clear h ac wo; intro ac wo h
     refine inl (vs := [(vR (((gt l x10).iv).hi)), (vD ((gt l x10).f)), (ptr b1 0)]) (M := 13) h (ow (vs := [(vR (((gt l x10).iv).hi)), (vD ((gt l x10).f))]) (cap := [(ptr b1 0)]) cc229 rfl rfl) Tryz.func229 rfl rfl rfl ?_
     clear h ac; intro R3 hR3 ac h
     refine gz h <| (xb) fun b7 => (xb) fun b8 => (xo (hs := by exact bA kH exs rfl (v := (vV (⟨((gt l x10).iv).hi, ((gt l x10).iv).hi, false, false⟩ : Iv))) rfl)) <| (xo (hs := by exact bA pN exs rfl (v := (vUD (⟨(⟨((gt l x10).iv).hi, ((gt l x10).iv).hi, false, false⟩ : Iv), (gt l x10).f⟩ : U Qd))) rfl)) <| ?_; clear h ac wo; intro ac wo h
     refine nw h (cj (α := U Qd) (xs := [.tmp 10]) (vs := [(vUD (⟨(⟨((gt l x10).iv).hi, ((gt l x10).iv).hi, false, false⟩ : Iv), (gt l x10).f⟩ : U Qd))]) [(⟨(⟨((gt l x10).iv).hi, ((gt l x10).iv).hi, false, false⟩ : Iv), (gt l x10).f⟩ : U Qd)] iS rfl rfl rfl (by decide)) rfl ?_; clear h ac wo; intro sv10 ac wo nnsv10 h
     refine on2 h 3 0 rfl rfl (eM (xs := (out ++ [(⟨(⟨((gt l x10).iv).lo, ((gt l x10).iv).hi, true, true⟩ : Iv), (gt l x10).f⟩ : U Qd)])) (ys := [(⟨(⟨((gt l x10).iv).hi, ((gt l x10).iv).hi, false, false⟩ : Iv), (gt l x10).f⟩ : U Qd)]) iS (fun w hs => (row_view hs 0 rfl)) rfl rfl og) rfl ?_; clear h ac wo; intro sv11 ac wo apsv11 h
     refine st h 6 [sv11] rfl zz50 rfl rfl (i9 (h.row_sl 0 rfl)) rfl (lN (h.row_sl 0 rfl)) rfl rfl ?_; clear h ac wo; intro ac wo h
     refine gz h <| (W) ?_; clear h ac wo; intro ac wo h
     refine lO (rs := []) (vs := []) h rfl .nil rfl (hR3 _ _ _ h.bel h.sep ?_)
     clear h ac hR3; intro ac h
     refine gz h <| (W) ?_; clear h ac wo; intro ac wo h
     have hg := bZ hL1 pt
     exact az ⟨m1, og, _, _, _, og, hg, og, (All.app (All.app zout (All.cons ⟨⟨((All.gt zl (bP _)).1).1, ((All.gt zl (bP _)).1).2⟩, (All.gt zl (bP _)).2⟩ All.nil)) (All.cons ⟨⟨((All.gt zl (bP _)).1).2, ((All.gt zl (bP _)).1).2⟩, (All.gt zl (bP _)).2⟩ All.nil)), og, h.re [0, 6]⟩
    ·
     have hq6 := hc6; try simp at hq6
     refine gz h <| (W) ?_; clear h ac wo; intro ac wo h
     have hg := bZ hL1 pt
     exact az ⟨m1, og, _, _, _, og, hg, og, (All.app zout (All.cons ⟨⟨((All.gt zl (bP _)).1).1, ((All.gt zl (bP _)).1).2⟩, (All.gt zl (bP _)).2⟩ All.nil)), og, h.re [0, 3]⟩
 ·
  have hd1 := of_decide_eq_false hc1
  have hx1 := dK hL1 pt
  have hd : af l = out := pt
  refine gz h <| (W) ?_; clear h ac wo; intro ac wo h
  exact (rt h) (by rw [hd]; exact h.retR 0 rfl ⟨zout, og⟩)
attribute [irreducible] af
def dR (a : U Qd) (b : U Qd) : Int :=
 (lz ([(ap a.iv.lo b.iv.lo), (bO (aR a.iv) (aR b.iv)), (ap a.iv.hi b.iv.hi)]))
theorem em (a : U Qd) (b : U Qd) (za : iI 30 a) (zb : iI 30 b) (w0 : World)  : Calls Tryz.prog 225 #[(vUD a), (vUD b)] w0 (dI w0 (.int .i64 (dR a b)) (True)) := by
 refine enter (N := 31) (args := [(vUD a), (vUD b)]) Tryz.func225 rfl rfl ?_; intro ac h
 have p2 := ao ((cP a.iv.lo b.iv.lo 10 og za.1.1 zb.1.1) w0)
 refine gz h <| (xb) fun b1 => (xb) fun b2 => (W) ?_; clear h ac; intro ac wo h
 have s3 := Calls.pr ((fun w_ hB_ hS_ => eK a.iv za.1 w_ ) _ h.bel h.sep)
 have p4 := s3
 have s5 := Calls.pr ((fun w_ hB_ hS_ => eK b.iv zb.1 w_ ) _ h.bel h.sep)
 have p6 := s5
 have p8 := ao ((jo (aR a.iv) (aR b.iv)) w0)
 have p10 := ao ((cP a.iv.hi b.iv.hi 10 og za.1.2 zb.1.2) w0)
 replace h := h.emps 1
 refine fo mixed [dv _, dv _, dw _ [1], dv _, dv _, dw _ [0], dv _, dv _, dv _, dw _ [1], dv _, dv _, dv _, dw _ [0], dv _, dv _, dv _, dv _, dw _ [1], dv _, dv _, dw _ [0], dv _, ⟨.nd (.one 23 fun v => NN v 3), [2]⟩, dw _ [2], dv _] [⟨_, []⟩, ⟨_, []⟩, ⟨.emp, [(23, .one 23 fun v => .row (α := Int) 3 v ([(ap a.iv.lo b.iv.lo), (bO (aR a.iv) (aR b.iv)), (ap a.iv.hi b.iv.hi)]))]⟩] h rfl (by kernel_rfl) ⟨fun _ _ => bk (fa uu126 rfl zz86 rfl rfl rfl (k' := 0)), fun _ _ => bk (fa uu86 rfl zz71 rfl rfl rfl (k' := 0)), fun _ _ => iZ _ rfl rfl (jW aa71 zz71 rfl rfl rfl (v := (vR a.iv.lo)) rfl), fun _ _ => bk (fa uu126 rfl zz86 rfl rfl rfl (k' := 0)), fun _ _ => bk (fa uu86 rfl zz71 rfl rfl rfl (k' := 0)), fun _ _ => iZ _ rfl rfl (jW aa71 zz71 rfl rfl rfl (v := (vR b.iv.lo)) rfl), fun _ _ => g8 (fu (ch Tryz.call127 rfl) (kk (cP a.iv.lo b.iv.lo 10 og za.1.1 zb.1.1))), fun _ _ => om rfl, fun _ _ => bk (fa uu126 rfl zz86 rfl rfl rfl (k' := 0)), fun _ _ => iZ _ rfl rfl (jW Tryz.isAgg86 zz86 rfl rfl rfl (v := (vV a.iv)) rfl), fun _ _ => g8 (fu (ow (cap := []) Tryz.call226 rfl rfl) (kk (eK a.iv za.1))), fun _ _ => om rfl, fun _ _ => bk (fa uu126 rfl zz86 rfl rfl rfl (k' := 0)), fun _ _ => iZ _ rfl rfl (jW Tryz.isAgg86 zz86 rfl rfl rfl (v := (vV b.iv)) rfl), fun _ _ => g8 (fu (ow (cap := []) Tryz.call226 rfl rfl) (kk (eK b.iv zb.1))), fun _ _ => g8 (fu (ch Tryz.call228 rfl) (kk (jo (aR a.iv) (aR b.iv)))), fun _ _ => bk (fa uu126 rfl zz86 rfl rfl rfl (k' := 0)), fun _ _ => bk (fa uu86 rfl zz71 rfl rfl rfl (k' := 9)), fun _ _ => iZ _ rfl rfl (jW aa71 zz71 rfl rfl rfl (v := (vR a.iv.hi)) rfl), fun _ _ => bk (fa uu126 rfl zz86 rfl rfl rfl (k' := 0)), fun _ _ => bk (fa uu86 rfl zz71 rfl rfl rfl (k' := 9)), fun _ _ => iZ _ rfl rfl (jW aa71 zz71 rfl rfl rfl (v := (vR b.iv.hi)) rfl), fun _ _ => g8 (fu (ch Tryz.call127 rfl) (kk (cP a.iv.hi b.iv.hi 10 og za.1.2 zb.1.2))), fun _ _ => oU (ψ := fun v => NN v 3) (B := fun v => [.row (α := Int) 3 v ([(ap a.iv.lo b.iv.lo), (bO (aR a.iv) (aR b.iv)), (ap a.iv.hi b.iv.hi)])]) [.emp] rfl (fun v _ => by simp only [dx, bD] <;> rfl) (fun v hv => by simpa [DF.one, bD] using hv) (kz (cj (α := Int) (xs := [.tmp 12, .tmp 21, .tmp 28]) (vs := [(.int .i64 (ap a.iv.lo b.iv.lo)), (.int .i64 (bO (aR a.iv) (aR b.iv))), (.int .i64 (ap a.iv.hi b.iv.hi))]) [(ap a.iv.lo b.iv.lo), (bO (aR a.iv) (aR b.iv)), (ap a.iv.hi b.iv.hi)] vC rfl rfl rfl (by decide))), fun ξ hφ => kW _ [.row (α := Int) 3 (ξ 23) ([(ap a.iv.lo b.iv.lo), (bO (aR a.iv) (aR b.iv)), (ap a.iv.hi b.iv.hi)])] rfl rfl (fu (ch Tryz.call227 rfl) (fun w_ hB_ hS_ => r5 ([(ap a.iv.lo b.iv.lo), (bO (aR a.iv) (aR b.iv)), (ap a.iv.hi b.iv.hi)]) (ξ 23) w_ (row_view hS_ 0 rfl))), fun _ _ => bk (aD rfl), trivial⟩ ?_
 clear h ac wo; intro ξ ac wo hφ h
 replace h : St w0 31 [(4, (.int .i64 (lz ([(ap a.iv.lo b.iv.lo), (bO (aR a.iv) (aR b.iv)), (ap a.iv.hi b.iv.hi)]))))] [.blk b2 (cUD b) 126, .blk b1 (cUD a) 126] ac wo := (h.pick [0, 1] (by decide)).sub ⟨rfl, trivial⟩
 clear hφ ξ
 refine gz h <| (W) ?_; clear h ac wo; intro ac wo h
 exact (rt h) (h.retP (by unfold dR; rfl) trivial)
attribute [irreducible] dR
def io (data : List (U Qd)) (a : Nat) (b : Nat) (i : Nat) (data1 : List (U Qd)) : List (U Qd) :=
 data1
def im (data : List (U Qd)) (a : Nat) (b : Nat) (i : Nat) (data1 : List (U Qd)) (j : Nat) (data2 : List (U Qd)) : Nx (Nat × (List (U Qd))) (List (U Qd)) :=
 .go ((i + 1), data2)
def dY (data : List (U Qd)) (a : Nat) (b : Nat) (i : Nat) (data1 : List (U Qd)) (j : Nat) (data2 : List (U Qd)) : Nx (Nat × (List (U Qd))) (List (U Qd)) :=
 bif ((decide (((j : Nat) : Int) > ((a : Nat) : Int))) && (decide ((dR (gt data2 j) (gt data2 (j - 1))) < 0))) then
  .go ((j - 1), ((data2.set j (gt data2 (j - 1))).set (j - 1) (gt data2 j)))
 else
  .out (j, data2)
def dZ (data : List (U Qd)) (a : Nat) (b : Nat) (i : Nat) (data1 : List (U Qd)) : Nx (Nat × (List (U Qd))) (List (U Qd)) :=
 bif (decide (((i : Nat) : Int) < ((b : Nat) : Int))) then
  fin (cr (fun s => dY data a b i data1 s.1 s.2) (i + 1) (i, data1)) (fun s => im data a b i data1 s.1 s.2) (fun r => .ret r)
 else
  .out (i, data1)
def bh (data : List (U Qd)) (a : Nat) (b : Nat) : List (U Qd) :=
 fin (cr (fun s => dZ data a b s.1 s.2) ((b + 1 - (a + 1)) + 1) ((a + 1), data)) (fun s => io data a b s.1 s.2) (fun r => r)
theorem fk (data : List (U Qd)) (datav : Value) (a : Nat) (b : Nat) (hab : a ≤ b) (hb : b ≤ data.length) (hb2 : b ≤ 1000) (zdata : All (iI 30) data) (w0 w : World) (B : Asn) (hbel : Below w0.heap.size w0 w) (hsep : ∃ Z_, Sep w0.heap.size w [.row (α := U Qd) 126 datav data, B] Z_)  : Calls Tryz.prog 294 #[datav, (.int .i64 ((a : Nat) : Int)), (.int .i64 ((b : Nat) : Int)), (.func (.func 225) #[] #[])] w (RetY w0 (fun v => v = .tuple #[] ∧ (All (iI 30) (bh data a b) ∧ (bh data a b).length = data.length)) (fun v => [.row (α := U Qd) 126 datav (bh data a b), B])) := by
 refine jP (N := 53) (args := [datav, (.int .i64 ((a : Nat) : Int)), (.int .i64 ((b : Nat) : Int)), (.func (.func 225) #[] #[])]) Tryz.func294 rfl rfl hbel hsep ?_; intro ac h
 have hlendata := h.len 0 rfl
 obtain ⟨X1, hX1⟩ : ∃ X, cr (fun s => dZ data a b s.1 s.2) ((b + 1 - (a + 1)) + 1) ((a + 1), data) = X := ⟨_, rfl⟩
 refine gz h <| (W) ?_; clear h ac; intro ac wo h
 refine wp_loop_ghost (fun n_ a_ w_ => ∃ (i : Nat) (data1 : List (U Qd)), ((b + 1 - i) < n_) ∧ (cr (fun s => dZ data a b s.1 s.2) n_ (i, data1) = X1) ∧ (i ≤ b + 1) ∧ (All (iI 30) data1) ∧ (data1.length = data.length) ∧ St w0 53 [(0, datav), (1, (.int .i64 ((a : Nat) : Int))), (2, (.int .i64 ((b : Nat) : Int))), (3, (.func (.func 225) #[] #[])), (8, (.int .i64 ((i : Nat) : Int)))] [.row (α := U Qd) 126 datav data1, B] a_ w_) ((b + 1 - (a + 1)) + 1) ⟨(a + 1), data, og, hX1, og, zdata, og, h.rs⟩ ?_
 clear h ac wo; rintro n1 ac wo ⟨i, data1, hm1, hL1, hi, zdata1, hdl, h⟩
 obtain ⟨m1, rfl⟩ : ∃ m, n1 = m + 1 := ⟨n1 - 1, by omega⟩
 refine gz h <| (ai) ?_ ?_ <;> clear h ac wo <;> intro ac wo h hc1
 ·
  have hd1 := of_decide_eq_true hc1
  obtain ⟨X2, hX2⟩ : ∃ X, cr (fun s => dY data a b i data1 s.1 s.2) (i + 1) (i, data1) = X := ⟨_, rfl⟩
  refine gz h <| (W) ?_; clear h ac wo; intro ac wo h
  refine wp_loop_ghost (fun n_ a_ w_ => ∃ (j : Nat) (data2 : List (U Qd)), (j < n_) ∧ (cr (fun s => dY data a b i data1 s.1 s.2) n_ (j, data2) = X2) ∧ (All (iI 30) data2) ∧ (j ≤ i) ∧ (data2.length = data.length) ∧ St w0 53 [(0, datav), (1, (.int .i64 ((a : Nat) : Int))), (2, (.int .i64 ((b : Nat) : Int))), (3, (.func (.func 225) #[] #[])), (8, (.int .i64 ((i : Nat) : Int))), (9, (.int .i64 ((j : Nat) : Int)))] [.row (α := U Qd) 126 datav data2, B] a_ w_) (i + 1) ⟨i, data1, og, hX2, zdata1, og, og, h.rs⟩ ?_
  clear h ac wo; rintro n2 ac wo ⟨j, data2, hm2, hL2, zdata2, hj, hdl2, h⟩
  obtain ⟨m2, rfl⟩ : ∃ m, n2 = m + 1 := ⟨n2 - 1, by omega⟩
  refine gz h <| (dr0 (hob := (oG (by exact fun hg => em (gt data2 j) (gt data2 (j - 1)) (All.gt zdata2 (bP _)) (All.gt zdata2 (bP _)))) <| oE)) <| (ai) ?_ ?_ <;> clear h ac wo <;> intro ac wo h hc2
  ·
   have hq2 := hc2; try simp at hq2
   refine gz h <| (dr1 (H := [⟨.row (α := U Qd) 126 datav data2, [(15, .con (.row (α := U Qd) 126 datav (data2.set j (gt data2 (j - 1))))), (17, .con (.row (α := U Qd) 126 datav ((data2.set j (gt data2 (j - 1))).set (j - 1) (gt data2 j))))]⟩, ⟨_, []⟩]) (hob := (oY (h := by exact fun _ => kW (acc := [0]) _ [.row (α := U Qd) 126 datav (data2.set j (gt data2 (j - 1)))] rfl rfl (f8 (k := 0) (u' := (gt data2 (j - 1))) Tryz.sizeOf126 (iE og) rfl (Nat.add_zero _) rfl rfl rfl rfl rfl rfl))) <| (oY (h := by exact fun _ => kW (acc := [0]) _ [.row (α := U Qd) 126 datav ((data2.set j (gt data2 (j - 1))).set (j - 1) (gt data2 j))] rfl rfl (f8 (k := 0) (u' := (gt data2 j)) Tryz.sizeOf126 (iE og) rfl (Nat.add_zero _) rfl rfl rfl rfl rfl rfl))) <| oE)) <| (W) ?_; clear h ac wo; intro ac wo h
   have hg := bZ hL2 pt
   exact az ⟨m2, og, _, _, og, hg, (All.set (All.set zdata2 (All.gt zdata2 (bP _))) (All.gt zdata2 (bP _))), og, og, h.re [0, 1]⟩
  ·
   have hq2 := hc2; try simp at hq2
   have hx2 := dK hL2 pt
   refine gz h <| (W) ?_; clear h ac wo; intro ac wo h
   have hg := bZ hL1 pt
   exact az ⟨m1, og, _, _, og, hg, og, zdata2, og, h.re [0, 1]⟩
 ·
  have hd1 := of_decide_eq_false hc1
  have hx1 := dK hL1 pt
  have hd : bh data a b = data1 := pt
  refine gz h <| (W) ?_; clear h ac wo; intro ac wo h
  exact lO (vs := []) h rfl .nil rfl ((h.pick [0, 1] (by decide)).retY ⟨rfl, (by rw [hd]; exact ⟨zdata1, og⟩)⟩ (by rw [hd]; rfl))
attribute [irreducible] bh
def jy (data : List (U Qd)) (n : Nat) (a : Nat) (b : Nat) (data1 : List (U Qd)) (blockSize : Nat) : List (U Qd) :=
 (bh data1 a n)
def jA (data : List (U Qd)) (n : Nat) (a : Nat) (b : Nat) (data1 : List (U Qd)) (blockSize : Nat) : Nx Nat (List (U Qd)) :=
 .out blockSize
def jz (data : List (U Qd)) (n : Nat) (a : Nat) (b : Nat) (data1 : List (U Qd)) : List (U Qd) :=
 fin (cr (fun s => jA data n a b data1 s) (0 + 1) 20) (fun s => jy data n a b data1 s) (fun r => r)
def jB (data : List (U Qd)) (n : Nat) (a : Nat) (b : Nat) (data1 : List (U Qd)) : Nx (Nat × Nat × (List (U Qd))) (List (U Qd)) :=
 .out (a, b, data1)
def eJ (data : List (U Qd)) (n : Nat) : List (U Qd) :=
 fin (cr (fun s => jB data n s.1 s.2.1 s.2.2) (0 + 1) (0, 20, data)) (fun s => jz data n s.1 s.2.1 s.2.2) (fun r => r)
attribute [irreducible] eJ
def dy (x : List (U Qd)) : List (U Qd) :=
 (eJ x x.length)
attribute [irreducible] dy
def aB (l : List (U Qd)) : (List (U Qd)) :=
 (dy (aX l))
attribute [irreducible] aB
end Go.Sx
namespace Go.Sx
open Go Go.RowKit Go.Proofs
set_option maxRecDepth 100000
set_option maxHeartbeats 40000000
attribute [local irreducible] Code.wp wpList Rd Step ObS Ent
attribute [local irreducible] ap aN ak au aA bO
theorem nh (w : World) : (method (Tryz.prog.types.size + Made.depth) 55 (.agg #[]) "Equal").run Tryz.prog w = .ok (367, .agg #[]) w := lR (P := Tryz.prog) (T := 55) Tryz.type55 (by kernel_rfl) uu55 w
instance yH5_1 : Mt Tryz.prog 55 (.agg #[]) "Equal" 367 := ⟨nh⟩
theorem ms (w : World) : (nilAhead (Tryz.prog.types.size + Made.depth) 55 (.agg #[]) "Equal").run Tryz.prog w = .ok (some false) w := j0 (P := Tryz.prog) (T := 55) (f := 367) Tryz.type55 (by kernel_rfl) uu55 w
instance yH5_2 : Nl Tryz.prog 55 (.agg #[]) "Equal" := ⟨ms⟩
theorem mw (w : World) : (method (Tryz.prog.types.size + Made.depth) 55 (.agg #[]) "Reduce").run Tryz.prog w = .ok (368, .agg #[]) w := lR (P := Tryz.prog) (T := 55) Tryz.type55 (by kernel_rfl) uu55 w
instance yH5_3 : Mt Tryz.prog 55 (.agg #[]) "Reduce" 368 := ⟨mw⟩
theorem lP (w : World) : (nilAhead (Tryz.prog.types.size + Made.depth) 55 (.agg #[]) "Reduce").run Tryz.prog w = .ok (some false) w := j0 (P := Tryz.prog) (T := 55) (f := 368) Tryz.type55 (by kernel_rfl) uu55 w
instance yH5_4 : Nl Tryz.prog 55 (.agg #[]) "Reduce" := ⟨lP⟩
theorem nW (w : World) : (method (Tryz.prog.types.size + Made.depth) 55 (.agg #[]) "Same").run Tryz.prog w = .ok (369, .agg #[]) w := lR (P := Tryz.prog) (T := 55) Tryz.type55 (by kernel_rfl) uu55 w
instance yH5_5 : Mt Tryz.prog 55 (.agg #[]) "Same" 369 := ⟨nW⟩
theorem ng (w : World) : (nilAhead (Tryz.prog.types.size + Made.depth) 55 (.agg #[]) "Same").run Tryz.prog w = .ok (some false) w := j0 (P := Tryz.prog) (T := 55) (f := 369) Tryz.type55 (by kernel_rfl) uu55 w
instance yH5_6 : Nl Tryz.prog 55 (.agg #[]) "Same" := ⟨ng⟩
def gI (l : List (U Qd)) (x18 : Nat) (out : List (U Qd)) (x43 : Nat) : (List (U Qd)) × Int :=
 (out, 0)
def gL (l : List (U Qd)) (x18 : Nat) (out : List (U Qd)) (x43 : Nat) : Nx ((List (U Qd)) × Nat) ((List (U Qd)) × Int) :=
 bif (decide (((x43 : Nat) : Int) < (((af (aB l)).length : Nat) : Int))) then
  bif (((decide (((out.length : Nat) : Int) > 0)) && (decide (((gt out (out.length - 1)).iv).hi = ((gt (af (aB l)) x43).iv).lo))) && (!(aU ((gt out (out.length - 1)).iv)))) then
   bif (!(aU ((gt (af (aB l)) x43).iv))) then
    bif ((!((gt out (out.length - 1)).iv).openHi) && (fB ((gt out (out.length - 1)).f) ((gt (af (aB l)) x43).f))) then
     .go ((out.set (out.length - 1) (⟨(⟨((gt out (out.length - 1)).iv).lo, ((gt (af (aB l)) x43).iv).hi, ((gt out (out.length - 1)).iv).openLo, true⟩ : Iv), (gt out (out.length - 1)).f⟩ : U Qd)), (x43 + 1))
    else
     bif ((((decide (((x43 : Nat) : Int) > 0)) && (aU ((gt (af (aB l)) (x43 - 1)).iv))) && (decide (((gt (af (aB l)) (x43 - 1)).iv).lo = ((gt (af (aB l)) x43).iv).lo))) && (!(eZ out (((gt (af (aB l)) x43).iv).lo)))) then
      .go ((out ++ [(⟨(⟨((gt (af (aB l)) x43).iv).lo, ((gt (af (aB l)) x43).iv).hi, false, ((gt (af (aB l)) x43).iv).openHi⟩ : Iv), (gt (af (aB l)) x43).f⟩ : U Qd)]), (x43 + 1))
     else
      .go ((out ++ [(gt (af (aB l)) x43)]), (x43 + 1))
   else
    bif (dO ((gt out (out.length - 1)).f) ((gt (af (aB l)) x43).f) (((gt (af (aB l)) x43).iv).lo)) then
     .go ((out.set (out.length - 1) (⟨(⟨((gt out (out.length - 1)).iv).lo, ((gt out (out.length - 1)).iv).hi, ((gt out (out.length - 1)).iv).openLo, false⟩ : Iv), (gt out (out.length - 1)).f⟩ : U Qd)), (x43 + 1))
    else
     bif (((decide (((x43 + 1 : Nat) : Int) < (((af (aB l)).length : Nat) : Int))) && (decide (((gt (af (aB l)) (x43 + 1)).iv).lo = ((gt (af (aB l)) x43).iv).lo))) && (dO ((gt (af (aB l)) (x43 + 1)).f) ((gt (af (aB l)) x43).f) (((gt (af (aB l)) x43).iv).lo))) then
      .go (out, (x43 + 1))
     else
      .go ((out ++ [(⟨(gt (af (aB l)) x43).iv, (bF ((gt (af (aB l)) x43).f) (((gt (af (aB l)) x43).iv).lo))⟩ : U Qd)]), (x43 + 1))
  else
   bif (!(aU ((gt (af (aB l)) x43).iv))) then
    bif ((((decide (((x43 : Nat) : Int) > 0)) && (aU ((gt (af (aB l)) (x43 - 1)).iv))) && (decide (((gt (af (aB l)) (x43 - 1)).iv).lo = ((gt (af (aB l)) x43).iv).lo))) && (!(eZ out (((gt (af (aB l)) x43).iv).lo)))) then
     .go ((out ++ [(⟨(⟨((gt (af (aB l)) x43).iv).lo, ((gt (af (aB l)) x43).iv).hi, false, ((gt (af (aB l)) x43).iv).openHi⟩ : Iv), (gt (af (aB l)) x43).f⟩ : U Qd)]), (x43 + 1))
    else
     .go ((out ++ [(gt (af (aB l)) x43)]), (x43 + 1))
   else
    bif (((decide (((x43 + 1 : Nat) : Int) < (((af (aB l)).length : Nat) : Int))) && (decide (((gt (af (aB l)) (x43 + 1)).iv).lo = ((gt (af (aB l)) x43).iv).lo))) && (dO ((gt (af (aB l)) (x43 + 1)).f) ((gt (af (aB l)) x43).f) (((gt (af (aB l)) x43).iv).lo))) then
     .go (out, (x43 + 1))
    else
     .go ((out ++ [(⟨(gt (af (aB l)) x43).iv, (bF ((gt (af (aB l)) x43).f) (((gt (af (aB l)) x43).iv).lo))⟩ : U Qd)]), (x43 + 1))
 else
  .out (out, x43)
def gJ (l : List (U Qd)) (x18 : Nat) : (List (U Qd)) × Int :=
 fin (cr (fun s => gL l x18 s.1 s.2) (((af (aB l)).length - 0) + 1) ([], 0)) (fun s => gI l x18 s.1 s.2) (fun r => r)
def gM (l : List (U Qd)) (x18 : Nat) : Nx Nat ((List (U Qd)) × Int) :=
 bif (decide (((x18 : Nat) : Int) < (((aB l).length : Nat) : Int))) then
  bif ((decide (((x18 : Nat) : Int) > 0)) && (!(eA ((gt (aB l) (x18 - 1)).iv) ((gt (aB l) x18).iv)))) then
   .ret ([], 11)
  else
   .go (x18 + 1)
 else
  .out x18
def cp (l : List (U Qd)) : (List (U Qd)) × Int :=
 fin (cr (fun s => gM l s) ((l.length - 0) + 1) 0) (fun s => gJ l s) (fun r => r)
attribute [irreducible] cp
end Go.Sx
namespace Go.Sx
open Go Go.RowKit Go.Proofs
set_option maxRecDepth 100000
set_option maxHeartbeats 40000000
attribute [local irreducible] Code.wp wpList Rd Step ObS Ent
attribute [local irreducible] ap aN ak au aA bO
theorem eqi86 : EqIn Tryz.prog 5 86 vV := eqS (c := cV) (fun _ => rfl) Tryz.underlying86 Tryz.stoodInHeld86 fun d x y w hd => by
 refine Eq.trans (eqF (by decide) (di aa71 zz71 (v := vR (x.lo)) rfl w) (di aa71 zz71 (v := vR (y.lo)) rfl w) (eqi71 d _ _ w og) (eqF (by decide) (di aa71 zz71 (v := vR (x.hi)) rfl w) (di aa71 zz71 (v := vR (y.hi)) rfl w) (eqi71 d _ _ w og) (eqF (by decide) (eB aa4 rfl w) (eB aa4 rfl w) (eqB nn4 d og _ _ w) (eqF (by decide) (eB aa4 rfl w) (eB aa4 rfl w) (eqB nn4 d og _ _ w) eqF0)))) ?_
 congr 1
 rw [decide_eq_decide]
 cases x; cases y; simp
theorem eqp86 : EqP Tryz.prog 86 vV := EqIn.p (k := 5) rfl (c := fun x => (cV x).toArray) (fun _ => rfl) Tryz.eqGuardType86 eqi86
instance yH5_7 : Ep Tryz.prog 86 Iv inferInstance vV := ⟨eqp86⟩
instance yH5_8 : Mt Tryz.prog 55 (.agg #[]) "Equal" 367 := ⟨nh⟩
instance yH5_9 : Nl Tryz.prog 55 (.agg #[]) "Equal" := ⟨ms⟩
end Go.Sx
namespace Go.Sx
open Go Go.RowKit Go.Proofs
set_option maxRecDepth 100000
set_option maxHeartbeats 40000000
attribute [local irreducible] Code.wp wpList Rd Step ObS Ent
attribute [local irreducible] ap aN ak au aA bO
instance yH5_10 : Mt Tryz.prog 55 (.agg #[]) "Reduce" 368 := ⟨mw⟩
instance yH5_11 : Nl Tryz.prog 55 (.agg #[]) "Reduce" := ⟨lP⟩
instance yH5_12 : Mt Tryz.prog 55 (.agg #[]) "Same" 369 := ⟨nW⟩
instance yH5_13 : Nl Tryz.prog 55 (.agg #[]) "Same" := ⟨ng⟩
end Go.Sx
