/- A part of the proof of movingpointAt. -/
import Derived.Test.YtpfdaoajcnophaaGreatDoorB8
import Derived.Test.YtpfdaoajcnophaaGreatDoorC3
import Derived.Test.YtpfdaoajcnophaaGreatDoorC2
import Derived.Test.YtpfdaoajcnophaaGreatDoorB9
import Derived.Shelf.SlSortCmp.WholeK
import Derived.Test.YtpfdaoajcnophaaGreatDoorB2
set_option linter.unusedVariables false
set_option linter.unusedSimpArgs false
open Go.Proofs.Tryz renaming runUnderlying92 → uu92, isAgg46 → aa46, sizeOf46 → zz46, isAgg4 → aa4, underlying4 → nn4, isAgg27 → aa27, sizeOf27 → zz27
namespace Go.Sx
open Go Go.RowKit Go.Proofs
set_option maxRecDepth 100000
set_option maxHeartbeats 40000000
attribute [local irreducible] Code.wp wpList Rd Step ObS Ent
attribute [local irreducible] ao aK ak ap ax bI
theorem mO (w : World) : (method (Tryz.prog.types.size + Made.depth) 92 (.agg #[]) "Equal").run Tryz.prog w = .ok (403, .agg #[]) w := mN (P := Tryz.prog) (T := 92) Tryz.type92 (by kernel_rfl) uu92 w
instance yC4_1 : Mt Tryz.prog 92 (.agg #[]) "Equal" 403 := ⟨mO⟩
theorem lS (w : World) : (nilAhead (Tryz.prog.types.size + Made.depth) 92 (.agg #[]) "Equal").run Tryz.prog w = .ok (some false) w := kx (P := Tryz.prog) (T := 92) (f := 403) Tryz.type92 (by kernel_rfl) uu92 w
instance yC4_2 : Nl Tryz.prog 92 (.agg #[]) "Equal" := ⟨lS⟩
theorem lV (w : World) : (method (Tryz.prog.types.size + Made.depth) 92 (.agg #[]) "Reduce").run Tryz.prog w = .ok (404, .agg #[]) w := mN (P := Tryz.prog) (T := 92) Tryz.type92 (by kernel_rfl) uu92 w
instance yC4_3 : Mt Tryz.prog 92 (.agg #[]) "Reduce" 404 := ⟨lV⟩
theorem lh (w : World) : (nilAhead (Tryz.prog.types.size + Made.depth) 92 (.agg #[]) "Reduce").run Tryz.prog w = .ok (some false) w := kx (P := Tryz.prog) (T := 92) (f := 404) Tryz.type92 (by kernel_rfl) uu92 w
instance yC4_4 : Nl Tryz.prog 92 (.agg #[]) "Reduce" := ⟨lh⟩
theorem nN (w : World) : (method (Tryz.prog.types.size + Made.depth) 92 (.agg #[]) "Same").run Tryz.prog w = .ok (405, .agg #[]) w := mN (P := Tryz.prog) (T := 92) Tryz.type92 (by kernel_rfl) uu92 w
instance yC4_5 : Mt Tryz.prog 92 (.agg #[]) "Same" 405 := ⟨nN⟩
theorem mM (w : World) : (nilAhead (Tryz.prog.types.size + Made.depth) 92 (.agg #[]) "Same").run Tryz.prog w = .ok (some false) w := kx (P := Tryz.prog) (T := 92) (f := 405) Tryz.type92 (by kernel_rfl) uu92 w
instance yC4_6 : Nl Tryz.prog 92 (.agg #[]) "Same" := ⟨mM⟩
end Go.Sx
namespace Go.Sx
open Go Go.RowKit Go.Proofs
set_option maxRecDepth 100000
set_option maxHeartbeats 40000000
attribute [local irreducible] Code.wp wpList Rd Step ObS Ent
attribute [local irreducible] ao aK ak ap ax bI
theorem eqi86 : EqIn Tryz.prog 5 74 vV := eqS (c := cV) (fun _ => rfl) Tryz.underlying74 Tryz.stoodInHeld74 fun d x y w hd => by
 refine Eq.trans (eqF (by decide) (cZ aa46 zz46 (v := vR (x.lo)) rfl w) (cZ aa46 zz46 (v := vR (y.lo)) rfl w) (xH d _ _ w og) (eqF (by decide) (cZ aa46 zz46 (v := vR (x.hi)) rfl w) (cZ aa46 zz46 (v := vR (y.hi)) rfl w) (xH d _ _ w og) (eqF (by decide) (eD aa4 rfl w) (eD aa4 rfl w) (eqB nn4 d og _ _ w) (eqF (by decide) (eD aa4 rfl w) (eD aa4 rfl w) (eqB nn4 d og _ _ w) eqF0)))) ?_
 congr 1
 rw [decide_eq_decide]
 cases x; cases y; simp
theorem eqp86 : EqP Tryz.prog 74 vV := EqIn.p (k := 5) rfl (c := fun x => (cV x).toArray) (fun _ => rfl) Tryz.eqGuardType74 eqi86
instance yC4_7 : Ep Tryz.prog 74 Iv inferInstance vV := ⟨eqp86⟩
instance yC4_8 : Mt Tryz.prog 92 (.agg #[]) "Equal" 403 := ⟨mO⟩
instance yC4_9 : Nl Tryz.prog 92 (.agg #[]) "Equal" := ⟨lS⟩
end Go.Sx
namespace Go.Sx
open Go Go.RowKit Go.Proofs
set_option maxRecDepth 100000
set_option maxHeartbeats 40000000
attribute [local irreducible] Code.wp wpList Rd Step ObS Ent
attribute [local irreducible] ao aK ak ap ax bI
instance yC4_10 : Mt Tryz.prog 92 (.agg #[]) "Reduce" 404 := ⟨lV⟩
instance yC4_11 : Nl Tryz.prog 92 (.agg #[]) "Reduce" := ⟨lh⟩
instance yC4_12 : Mt Tryz.prog 92 (.agg #[]) "Same" 405 := ⟨nN⟩
instance yC4_13 : Nl Tryz.prog 92 (.agg #[]) "Same" := ⟨mM⟩
end Go.Sx
namespace Go.Sx
end Go.Sx
namespace Go.Sx
open Go Go.RowKit Go.Proofs
set_option maxRecDepth 100000
set_option maxHeartbeats 40000000
attribute [local irreducible] Code.wp wpList Rd Step ObS Ent
attribute [local irreducible] ao aK ak ap ax bI
instance yC4_14 : Ep Tryz.prog 74 Iv inferInstance vV := ⟨eqp86⟩
end Go.Sx
namespace Go.Sx
open Go Go.RowKit Go.Proofs
set_option maxRecDepth 100000
set_option maxHeartbeats 40000000
attribute [local irreducible] Code.wp wpList Rd Step ObS Ent
attribute [local irreducible] ao aK ak ap ax bI
def dq (a : GI) : Int :=
 bif (((decide (a.mag = 0)) && a.neg) || ((!(decide (a.mag = 0))) && (((((mH a.mag) : Nat) : Int)) == (((0 : Nat) : Int))))) then
  5
 else
  0
theorem iZ (a : GI) (za : SzI 16 a) (w0 : World)  : Calls Tryz.prog 94 #[(vI a)] w0 (RetP w0 (.int .i64 (dq a)) (True)) := by
 refine enter (N := 21) (args := [(vI a)]) Tryz.func94 rfl rfl ?_; intro ac h
 refine gz h <| (xb) fun b1 => (xg (hs := by exact fun hg => (Rd.of_nil (tP Tryz.runUnderlying9 (dr rfl hg) rfl og)).step)) <| (ai) ?_ ?_ <;> clear h ac <;> intro ac wo h hc1
 ·
  have hq1 := hc1; try simp at hq1
  have hd : dq a = 5 := pt
  refine gz h <| (W) ?_; clear h ac wo; intro ac wo h
  exact (rt h) (h.retP (by rw [hd] <;> rfl) trivial)
 ·
  have hq1 := hc1; try simp at hq1
  have hd : dq a = 0 := pt
  refine gz h <| (W) ?_; clear h ac wo; intro ac wo h
  exact (rt h) (h.retP (by rw [hd] <;> rfl) trivial)
attribute [irreducible] dq
def bQ (a : GQ) : Int :=
 bif (((dq a.num) != 0) || ((dq a.den) != 0)) then
  5
 else
  bif (decide (a.den = (⟨false, 0⟩ : GI))) then
   0
  else
   bif ((decide ((dg a.den rational_one) ≤ 0)) || (!(decide ((aT a.num a.den) = rational_one)))) then
    5
   else
    0
theorem fj (a : GQ) (za : SzQ 16 a) (w0 : World)  : Calls Tryz.prog 15 #[(vQ a)] w0 (RetP w0 (.int .i64 (bQ a)) (True)) := by
  refine enter (N := 31) (args := [(vQ a)]) Tryz.func15 rfl rfl ?_; intro ac h
  refine gz h <| (xb) fun b1 => (xk (iZ a.num za.1)) <| (xg (hs := by exact fun hg => eZ enA (kk (iZ a.den za.2)))) <| (ai) ?_ ?_ <;> clear h ac <;> intro ac wo h hc1
  ·
    have hq1 := hc1; try simp at hq1
    have hd : bQ a = 5 := pt
    refine gz h <| (W) ?_; clear h ac wo; intro ac wo h
    exact (rt h) (h.retP (by rw [hd] <;> rfl) trivial)
  ·
    have hq1 := hc1; try simp at hq1
    refine gz h <| (xo (hs := by exact bF o6 exs rfl (v := (vI (⟨false, 0⟩ : GI))) rfl)) <| (ai) ?_ ?_ <;> clear h ac wo <;> intro ac wo h hc2
    ·
      have hd2 := of_decide_eq_true hc2
      have hd : bQ a = 0 := pt
      refine gz h <| (W) ?_; clear h ac wo; intro ac wo h
      exact (rt h) (h.retP (by rw [hd] <;> rfl) trivial)
    ·
      have hd2 := of_decide_eq_false hc2
      refine gz h <| (W) ?_; clear h ac wo; intro ac wo h
      have c1 := eL  40 og
      have s1 := an (c1 w0)
      have p3 := an ((f9 a.den rational_one 16 og za.2 (fV s1 og)) w0)
      have s4 := an ((iK a.num a.den 16 og za.1 za.2) w0)
      have s5 := an ((eL  40 og ) w0)
      refine gz h <| (dr0 (hob := (oK (c1)) <| (oK (f9 a.den rational_one 16 og za.2 (fV s1 og))) <| (oG (by exact fun hg => iK a.num a.den 16 og za.1 za.2)) <| (oG (by exact fun hg => eL  40 og)) <| oE)) <| (ai) ?_ ?_ <;> clear h ac wo <;> intro ac wo h hc3
      ·
        have hq3 := hc3; try simp at hq3
        have hd : bQ a = 5 := pt
        refine gz h <| (W) ?_; clear h ac wo; intro ac wo h
        exact (rt h) (h.retP (by rw [hd] <;> rfl) trivial)
      ·
        have hq3 := hc3; try simp at hq3
        have hd : bQ a = 0 := pt
        refine gz h <| (W) ?_; clear h ac wo; intro ac wo h
        exact (rt h) (h.retP (by rw [hd] <;> rfl) trivial)
attribute [irreducible] bQ
end Go.Sx
namespace Go.Sx
open Go Go.RowKit Go.Proofs
set_option maxRecDepth 100000
set_option maxHeartbeats 40000000
attribute [local irreducible] Code.wp wpList Rd Step ObS Ent
attribute [local irreducible] ao aK ak ap ax bI
def aw (i : Iv) : Bd :=
 (⟨i.lo, i.openLo⟩ : Bd)
theorem eN (i : Iv) (zi : SzV 30 i) (w0 : World)  : Calls Tryz.prog 136 #[(vV i)] w0 (RetP w0 (vW (aw i)) (SzW 30 (aw i))) := by
 refine enter (N := 8) (args := [(vV i)]) Tryz.func136 rfl rfl ?_; intro ac h
 refine gz h <| (xb) fun b1 => (xa) fun b2 => (xo (hs := by exact bF ur exs rfl (v := (vW (⟨i.lo, i.openLo⟩ : Bd))) rfl)) <| (W) ?_; clear h ac; intro ac wo h
 exact ret h rfl (.cell (v := (vW (⟨i.lo, i.openLo⟩ : Bd))) rfl (i := 0) rfl Tryz.isAgg199 Tryz.sizeOf199 rfl rfl rfl .nil) rfl (h.retP (by unfold aw; rfl) (by unfold aw; exact zi.1))
attribute [irreducible] aw
def aB (i : Iv) : Bd :=
 (⟨i.hi, (!i.openHi)⟩ : Bd)
theorem fg (i : Iv) (zi : SzV 30 i) (w0 : World)  : Calls Tryz.prog 137 #[(vV i)] w0 (RetP w0 (vW (aB i)) (SzW 30 (aB i))) := by
 refine enter (N := 9) (args := [(vV i)]) Tryz.func137 rfl rfl ?_; intro ac h
 refine gz h <| (xb) fun b1 => (xa) fun b2 => (xo (hs := by exact bF ur exs rfl (v := (vW (⟨i.hi, (!i.openHi)⟩ : Bd))) rfl)) <| (W) ?_; clear h ac; intro ac wo h
 exact ret h rfl (.cell (v := (vW (⟨i.hi, (!i.openHi)⟩ : Bd))) rfl (i := 0) rfl Tryz.isAgg199 Tryz.sizeOf199 rfl rfl rfl .nil) rfl (h.retP (by unfold aB; rfl) (by unfold aB; exact zi.2))
attribute [irreducible] aB
def aI (a : Bd) (b : Bd) : Int :=
 bif ((ao a.at_ b.at_) != 0) then
  (ao a.at_ b.at_)
 else
  bif (a.behind == b.behind) then
   0
  else
   bif b.behind then
    (-1)
   else
    1
theorem eF (a : Bd) (b : Bd) (za : SzW 30 a) (zb : SzW 30 b) (w0 : World)  : Calls Tryz.prog 135 #[(vW a), (vW b)] w0 (RetP w0 (.int .i64 (aI a b)) ((-1 ≤ (aI a b) ∧ (aI a b) ≤ 1))) := by
 refine enter (N := 23) (args := [(vW a), (vW b)]) Tryz.func135 rfl rfl ?_; intro ac h
 have p2 := an ((cH a.at_ b.at_ 10 og za zb) w0)
 refine gz h <| (xb) fun b1 => (xb) fun b2 => (xk (cH a.at_ b.at_ 10 og za zb)) <| (ai) ?_ ?_ <;> clear h ac <;> intro ac wo h hc1
 ·
  have hq1 := hc1; try simp at hq1
  have hd : aI a b = (ao a.at_ b.at_) := pt
  refine gz h <| (W) ?_; clear h ac wo; intro ac wo h
  exact (rt h) (h.retP (by rw [hd] <;> rfl) (by rw [hd]; exact og))
 ·
  have hq1 := hc1; try simp at hq1
  refine gz h <| (xo (hs := by exact pe nn4 rfl rfl)) <| (ai) ?_ ?_ <;> clear h ac wo <;> intro ac wo h hc2
  ·
   have hd2 := eq_of_beq hc2
   have hd : aI a b = 0 := pt
   refine gz h <| (W) ?_; clear h ac wo; intro ac wo h
   exact (rt h) (h.retP (by rw [hd] <;> rfl) (by rw [hd]; exact og))
  ·
   have hd2 := ne_of_beq_false hc2
   refine gz h <| (ai) ?_ ?_ <;> clear h ac wo <;> intro ac wo h hc3
   ·
    have hq3 := hc3; try simp at hq3
    have hd : aI a b = (-1) := pt
    refine gz h <| (W) ?_; clear h ac wo; intro ac wo h
    exact (rt h) (h.retP (by rw [hd] <;> rfl) (by rw [hd]; exact og))
   ·
    have hq3 := hc3; try simp at hq3
    have hd : aI a b = 1 := pt
    refine gz h <| (W) ?_; clear h ac wo; intro ac wo h
    exact (rt h) (h.retP (by rw [hd] <;> rfl) (by rw [hd]; exact og))
attribute [irreducible] aI
end Go.Sx
namespace Go.Sx
open Go Go.RowKit Go.Proofs
set_option maxRecDepth 100000
set_option maxHeartbeats 40000000
attribute [local irreducible] Code.wp wpList Rd Step ObS Ent
attribute [local irreducible] ao aK ak ap ax bI
theorem rq (w : World) : (method (Tryz.prog.types.size + Made.depth) 92 (.agg #[]) "Check").run Tryz.prog w = .ok (402, .agg #[]) w := mN (P := Tryz.prog) (T := 92) Tryz.type92 (by kernel_rfl) uu92 w
instance yC4_15 : Mt Tryz.prog 92 (.agg #[]) "Check" 402 := ⟨rq⟩
theorem qg (w : World) : (nilAhead (Tryz.prog.types.size + Made.depth) 92 (.agg #[]) "Check").run Tryz.prog w = .ok (some false) w := kx (P := Tryz.prog) (T := 92) (f := 402) Tryz.type92 (by kernel_rfl) uu92 w
instance yC4_16 : Nl Tryz.prog 92 (.agg #[]) "Check" := ⟨qg⟩
def bn (a : GI) : GI × Bool :=
 bif a.neg then
  ((⟨false, 0⟩ : GI), false)
 else
  bif (!(decide ((ed (bH a.mag) (bH a.mag)) = a.mag))) then
   ((⟨false, 0⟩ : GI), false)
  else
   ((aF false (bH a.mag)), true)
theorem i6 (a : GI) (za : SzI 30 a) (w0 : World)  : Calls Tryz.prog 228 #[(vI a)] w0 (RetP w0 (.tuple #[(vI ((bn a).1)), (.bool ((bn a).2))]) (SzI 28 ((bn a).1))) := by
  refine enter (N := 20) (args := [(vI a)]) Tryz.func228 rfl rfl ?_; intro ac h
  refine gz h <| (xb) fun b1 => (xa) fun b2 => (ai) ?_ ?_ <;> clear h ac <;> intro ac wo h hc1
  ·
    have hq1 := hc1; try simp at hq1
    have hd : bn a = ((⟨false, 0⟩ : GI), false) := pt
    refine gz h <| (xo (hs := by exact bF o6 exs rfl (v := (vI (⟨false, 0⟩ : GI))) rfl)) <| (W) ?_; clear h ac wo; intro ac wo h
    exact ret h rfl (.cell (v := (vI (⟨false, 0⟩ : GI))) rfl (i := 0) rfl aa27 zz27 rfl rfl rfl (.tmp rfl .nil)) rfl (h.retP (by rw [hd] <;> rfl) (by rw [hd]; exact (bu 0 (by decide) og)))
  ·
    have hq1 := hc1; try simp at hq1
    have c1 := root_ct a.mag za
    have s1 := Calls.pr (c1 w0)
    refine gz h <| (xk (c1)) <| (W) ?_; clear h ac wo; intro ac wo h
    have c2 := jG (bH a.mag) (bH a.mag) 28 og s1 s1
    have s2 := an (c2 w0)
    refine gz h <| (dr0 (hob := (oK (c2)) <| oE)) <| (ai) ?_ ?_ <;> clear h ac wo <;> intro ac wo h hc2
    ·
      have hq2 := hc2; try simp at hq2
      have hd : bn a = ((⟨false, 0⟩ : GI), false) := pt
      refine gz h <| (xo (hs := by exact bF o6 exs rfl (v := (vI (⟨false, 0⟩ : GI))) rfl)) <| (W) ?_; clear h ac wo; intro ac wo h
      exact ret h rfl (.cell (v := (vI (⟨false, 0⟩ : GI))) rfl (i := 0) rfl aa27 zz27 rfl rfl rfl (.tmp rfl .nil)) rfl (h.retP (by rw [hd] <;> rfl) (by rw [hd]; exact (bu 0 (by decide) og)))
    ·
      have hq2 := hc2; try simp at hq2
      have c3 := bO false (bH a.mag) 29 og s1
      have s3 := an (c3 w0)
      have hd : bn a = ((aF false (bH a.mag)), true) := pt
      refine gz h <| (xk (c3)) <| (W) ?_; clear h ac wo; intro ac wo h
      exact ret h rfl (.cell (v := (vI (aF false (bH a.mag)))) rfl (i := 0) rfl aa27 zz27 rfl rfl rfl (.tmp rfl .nil)) rfl (h.retP (by rw [hd] <;> rfl) (by rw [hd]; exact (fV s3 og)))
attribute [irreducible] bn
def ch (a : GQ) : GQ × Bool :=
 bif ((!(bn a.num).2) || (!(bn (aa a)).2)) then
  ((⟨(⟨false, 0⟩ : GI), (⟨false, 0⟩ : GI)⟩ : GQ), false)
 else
  ((ba ((bn a.num).1) ((bn (aa a)).1)), true)
theorem jN (a : GQ) (za : SzQ 30 a) (w0 : World)  : Calls Tryz.prog 124 #[(vQ a)] w0 (RetP w0 (.tuple #[(vQ ((ch a).1)), (.bool ((ch a).2))]) (SzQ 20 ((ch a).1))) := by
 refine enter (N := 30) (args := [(vQ a)]) Tryz.func124 rfl rfl ?_; intro ac h
 have c1 := i6 a.num za.1
 have s1 := Calls.pr (c1 w0)
 have c2 := bA a 30 og za
 have s2 := an (c2 w0)
 have c3 := i6 (aa a) s2
 have s3 := Calls.pr (c3 w0)
 refine gz h <| (xb) fun b1 => (xa) fun b2 => (xk (c1)) <| (xa) fun b3 => (xk (c2)) <| (xk (c3)) <| (xa) fun b4 => (ai) ?_ ?_ <;> clear h ac <;> intro ac wo h hc1
 ·
  have hq1 := hc1; try simp at hq1
  have hd : ch a = (oQ, false) := pt
  refine gz h <| (xo (hs := by exact bF ni exs rfl (v := (vQ oQ)) rfl)) <| (W) ?_; clear h ac wo; intro ac wo h
  exact ret h rfl (.cell (v := (vQ oQ)) rfl (i := 2) rfl Tryz.isAgg29 Tryz.sizeOf29 rfl rfl rfl (.tmp rfl .nil)) rfl (h.retP (by rw [hd] <;> rfl) (by rw [hd]; exact ⟨(bu 0 (by decide) og), (bu 0 (by decide) og)⟩))
 ·
  have hq1 := hc1; try simp at hq1
  have c4 := dV ((bn a.num).1) ((bn (aa a)).1) 27 og s1 s3
  have s4 := an (c4 w0)
  have hd : ch a = ((ba ((bn a.num).1) ((bn (aa a)).1)), true) := pt
  refine gz h <| (xk (c4)) <| (W) ?_; clear h ac wo; intro ac wo h
  exact ret h rfl (.cell (v := (vQ (ba ((bn a.num).1) ((bn (aa a)).1)))) rfl (i := 2) rfl Tryz.isAgg29 Tryz.sizeOf29 rfl rfl rfl (.tmp rfl .nil)) rfl (h.retP (by rw [hd] <;> rfl) (by rw [hd]; exact (cX s4 og)))
attribute [irreducible] ch
def ef (x : GR) : Int :=
 bif (((bQ x.p) != 0) || ((bQ x.r) != 0)) then
  5
 else
  bif ((ap x.r) == (-1)) then
   5
  else
   bif ((ap x.r) == 0) then
    bif x.neg then
     5
    else
     0
   else
    bif (ch x.r).2 then
     5
    else
     0
theorem lP (x : GR) (hr : RtR x) (zx : SzR 30 x) (w0 : World)  : Calls Tryz.prog 22 #[(vR x)] w0 (RetP w0 (.int .i64 (ef x)) (True)) := by
 refine enter (N := 31) (args := [(vR x)]) Tryz.func22 rfl rfl ?_; intro ac h
 refine gz h <| (xb) fun b1 => (xk (fj x.p (cX zx.1 og))) <| (xg (hs := by exact fun hg => eZ enA (kk (fj x.r (cX zx.2 og))))) <| (ai) ?_ ?_ <;> clear h ac <;> intro ac wo h hc1
 ·
  have hq1 := hc1; try simp at hq1
  have hd : ef x = 5 := pt
  refine gz h <| (W) ?_; clear h ac wo; intro ac wo h
  exact (rt h) (h.retP (by rw [hd] <;> rfl) trivial)
 ·
  have hq1 := hc1; try simp at hq1
  have p2 := an ((cC x.r) w0)
  refine gz h <| (xk (cC x.r)) <| (ai) ?_ ?_ <;> clear h ac wo <;> intro ac wo h hc2
  ·
   have hd2 := eq_of_beq hc2
   have hd : ef x = 5 := pt
   refine gz h <| (W) ?_; clear h ac wo; intro ac wo h
   exact (rt h) (h.retP (by rw [hd] <;> rfl) trivial)
  ·
   have hd2 := ne_of_beq_false hc2
   refine gz h <| (ai) ?_ ?_ <;> clear h ac wo <;> intro ac wo h hc3
   ·
    have hd3 := eq_of_beq hc3
    refine gz h <| (ai) ?_ ?_ <;> clear h ac wo <;> intro ac wo h hc4
    ·
     have hq4 := hc4; try simp at hq4
     have hd : ef x = 5 := pt
     refine gz h <| (W) ?_; clear h ac wo; intro ac wo h
     exact (rt h) (h.retP (by rw [hd] <;> rfl) trivial)
    ·
     have hq4 := hc4; try simp at hq4
     have hd : ef x = 0 := pt
     refine gz h <| (W) ?_; clear h ac wo; intro ac wo h
     exact (rt h) (h.retP (by rw [hd] <;> rfl) trivial)
   ·
    have hd3 := ne_of_beq_false hc3
    have c3 := jN x.r zx.2
    have s3 := Calls.pr (c3 w0)
    refine gz h <| (xk (c3)) <| (xa) fun b2 => (ai) ?_ ?_ <;> clear h ac wo <;> intro ac wo h hc5
    ·
     have hq5 := hc5; try simp at hq5
     have hd : ef x = 5 := pt
     refine gz h <| (W) ?_; clear h ac wo; intro ac wo h
     exact (rt h) (h.retP (by rw [hd] <;> rfl) trivial)
    ·
     have hq5 := hc5; try simp at hq5
     have hd : ef x = 0 := pt
     refine gz h <| (W) ?_; clear h ac wo; intro ac wo h
     exact (rt h) (h.retP (by rw [hd] <;> rfl) trivial)
attribute [irreducible] ef
def fL (i : Iv) : Int :=
 bif (((ef i.lo) != 0) || ((ef i.hi) != 0)) then
  5
 else
  bif (decide ((aI (aw i) (aB i)) ≥ 0)) then
   10
  else
   0
attribute [irreducible] fL
end Go.Sx
namespace Go.Sx
theorem t6 : ∀ (f n : Nat), n ≤ f → n ≠ 0 → ((leF f n).reverse.headD 0).toNat ≠ 0
  | 0, n, h, h0 => absurd (by omega) h0
  | f + 1, n, h, h0 => by
    unfold leF
    have hb : Nat.beq n 0 = false := by
      cases e : Nat.beq n 0 with
      | false => rfl
      | true => exact absurd (Nat.eq_of_beq_eq_true e) h0
    rw [hb, cond_false, List.reverse_cons]
    by_cases e : n / 256 = 0
    · rw [e, kR]
      show (UInt8.ofNat (n % 256)).toNat ≠ 0
      rw [UInt8.toNat_ofNat']
      omega
    · have ih := t6 f (n / 256) (by omega) e
      cases hr : (leF f (n / 256)).reverse with
      | nil =>
        rw [hr] at ih
        exact absurd rfl ih
      | cons x q =>
        rw [hr] at ih
        exact ih
theorem topb_ne {m : Nat} (h : m ≠ 0) : mH m ≠ 0 := t6 m m (Nat.le_refl m) h
theorem icheck {a : GI} (h : IOk a) : dq a = 0 := by
  unfold dq
  by_cases e : a.mag = 0
  · rw [decide_eq_true e, h e]; rfl
  · rw [decide_eq_false e, show ((((mH a.mag) : Nat) : Int) == (((0 : Nat) : Int))) = false from beq_eq_false_iff_ne.2 (by have := topb_ne e; omega)]
    rfl
theorem qcheck {a : GQ} (h : QOk a) : bQ a = 0 := by
  obtain ⟨h1, h2, h3⟩ := h
  have hd : IOk a.den := by
    rcases h2 with e | ⟨e, _⟩
    · rw [e]; intro _; rfl
    · intro _; exact e
  unfold bQ
  rw [icheck h1, icheck hd]
  by_cases e : a.den = z0
  · rw [decide_eq_true (show a.den = ⟨false, 0⟩ from e)]; rfl
  · rw [decide_eq_false (show ¬ a.den = ⟨false, 0⟩ from e)]
    obtain ⟨n1, n2⟩ := h2.resolve_left e
    have h3 : Nat.Coprime a.num.mag a.den.mag := by unfold je at h3; rwa [if_neg e] at h3
    have hv : fi a.den = (a.den.mag : Int) := by unfold fi; rw [n1]; rfl
    have c1 : dg a.den rational_one = 1 := by
      rw [lG (b := rational_one) hd (j4 1), hv, p9]
      unfold icmp
      rw [if_neg (by omega), if_pos (by omega)]
    have c2 : aT a.num a.den = rational_one := by
      unfold aT
      rw [show Nat.gcd a.num.mag a.den.mag = 1 from h3]; rfl
    rw [c1, decide_eq_true c2]; rfl
theorem isq_sq {a : GI} (h : (bn a).2 = true) : ∃ n : Nat, a.mag = n * n := by
  unfold bn at h
  cases hn : a.neg with
  | true => rw [hn] at h; cases h
  | false =>
    rw [hn, cond_false] at h
    by_cases e : ed (bH a.mag) (bH a.mag) = a.mag
    · exact ⟨bH a.mag, e.symm⟩
    · rw [decide_eq_false e] at h; cases h
theorem wq {r : GQ} (hr : QOk r) (hp : 0 ≤ a6 r) (hs : ∀ q : Rat, q * q ≠ a6 r) : (ch r).2 = false := by
  unfold ch
  cases h1 : (bn r.num).2 with
  | false => rfl
  | true =>
    cases h2 : (bn (aa r)).2 with
    | false => rfl
    | true =>
      exfalso
      obtain ⟨n, hn⟩ := isq_sq h1
      obtain ⟨d, hd⟩ := isq_sq h2
      obtain ⟨e1, e2⟩ := jv hr
      have hdm : (aa r).mag = je r := by
        have := fP (aa r); rw [e1] at this; simpa using this.symm
      have hq := sJ hr
      have hden : (je r : Rat) ≠ 0 := mw hr
      refine hs ((n : Rat) / (d : Rat)) ?_
      have hd2 : (je r : Rat) = (d : Rat) * (d : Rat) := by rw [← Rat.natCast_mul, ← hd, hdm]
      have hnum : (fi r.num : Rat) = (n : Rat) * (n : Rat) := by
        have h0 : 0 ≤ (fi r.num : Rat) := by
          have h3 : a6 r * (je r : Rat) = (fi r.num : Rat) := by unfold a6; rw [Rat.div_mul_cancel hden]
          rw [← h3]; exact gu hp (by rw [hd2]; exact nM _)
        have h4 : 0 ≤ fi r.num := by
          have : ((0 : Int) : Rat) ≤ (fi r.num : Rat) := h0
          exact Rat.intCast_le_intCast.1 this
        have h5 : (fi r.num) = ((r.num.mag : Nat) : Int) := by have := fP r.num; omega
        rw [h5, Rat.intCast_natCast, hn, Rat.natCast_mul]
      have hd0 : (d : Rat) ≠ 0 := fun e => hden (by rw [hd2, e]; grind)
      unfold a6
      rw [hnum, hd2]
      exact div_sq hd0
theorem nk [K : Key] {x : GR} (hx : Tm x) : ef x = 0 := by
  obtain ⟨hp, hr, h⟩ := hx.ok
  unfold ef
  rw [qcheck hp, qcheck hr, jc hr]
  rcases h with ⟨h1, h2⟩ | ⟨h1, h2⟩
  · rw [h1, h2]; rfl
  · rw [show rsgn (a6 x.r) = 1 by unfold rsgn; rw [if_neg (by grind), if_pos h1], wq hr (by grind) h2]; rfl
theorem vcheck [K : Key] {i : Iv} (h : Wv i) : fL i = 0 := by
  unfold fL
  rw [nk h.1.1, nk h.1.2]
  have hc : aI (aw i) (aB i) = -1 := by
    unfold aI aw aB
    show (bif ((ao i.lo i.hi) != 0) then (ao i.lo i.hi) else bif (i.openLo == !i.openHi) then 0 else bif !i.openHi then (-1) else 1) = -1
    rw [h.1.1.cmp h.1.2]
    rcases Nat.lt_trichotomy (tk i.lo) (tk i.hi) with e | e | e
    · rw [iO e]; rfl
    · obtain ⟨o1, o2⟩ := h.2.2 e
      rw [e, fI, o1, o2]; rfl
    · have := h.2.1; omega
  rw [hc]; rfl
end Go.Sx
namespace Go.Sx
section
variable {α : Type} [Inhabited α] {eqf : α → α → Bool} {same : α → α → GR → Bool} {red : α → GR → α} {L out : List (U α)} {x : Nat} {t t' : GR} {f : α}
def Vl [K : Key] (out : List (U α)) : Prop := ∀ u ∈ out, Tv u.iv ∧ tk u.iv.lo ≤ tk u.iv.hi
omit [Inhabited α] in
theorem Vl.app [K : Key] {y : U α} (h : Vl out) (h1 : Tv y.iv) (h2 : tk y.iv.lo ≤ tk y.iv.hi) : Vl (out ++ [y]) := fun u hu => by
  rcases List.mem_append.1 hu with hu | hu
  · exact h u hu
  · rw [List.mem_singleton.1 hu]; exact ⟨h1, h2⟩
omit [Inhabited α] in
theorem Vl.set [K : Key] {y : U α} {i : Nat} (h : Vl out) (h1 : Tv y.iv) (h2 : tk y.iv.lo ≤ tk y.iv.hi) : Vl (out.set i y) := fun u hu => by
  rcases List.mem_or_eq_of_mem_set hu with hu | rfl
  · exact h u hu
  · exact ⟨h1, h2⟩
theorem newPt_or : kh same red L out x = out ∨ kh same red L out x = out ++ [⟨(gt L x).iv, red (gt L x).f (gt L x).iv.lo⟩] := by
  unfold kh
  cases (((decide (((x + 1 : Nat) : Int) < ((L.length : Nat) : Int))) && (decide (((gt L (x + 1)).iv).lo = ((gt L x).iv).lo))) && (same ((gt L (x + 1)).f) ((gt L x).f) (((gt L x).iv).lo)))
  · exact .inr rfl
  · exact .inl rfl
theorem pt_any [K : Key] (hx : gt L x = ptU t f) (ht : Tm t) (h : Vl out) : Vl (eU eqf same red L out x) ∧ (eU eqf same red L out x).length ≤ out.length + 1 := by
  have hn : Vl (kh same red L out x) ∧ (kh same red L out x).length ≤ out.length + 1 := by
    rcases newPt_or (same := same) (red := red) (L := L) (out := out) (x := x) with e | e
    · rw [e]; exact ⟨h, Nat.le_succ _⟩
    · rw [e, hx]; exact ⟨h.app ⟨ht, ht⟩ (Nat.le_refl _), by simp⟩
  unfold eU
  rw [hx, show aP (ptU t f).iv = true from decide_eq_true rfl, Bool.not_true, cond_false, cond_false]
  cases hb : sc L out x with
  | false => exact hn
  | true =>
    rw [cond_true]
    cases same (gt out (out.length - 1)).f (ptU t f).f (ptU t f).iv.lo with
    | false => exact hn
    | true =>
      obtain ⟨b1, _, _⟩ := jg.1 hb
      have hm := h _ (fZ b1)
      exact ⟨h.set hm.1 hm.2, by rw [cond_true, List.length_set]; exact Nat.le_succ _⟩
theorem pt_left [K : Key] (hx : gt L x = ptU t f) (ht : Tm t) (h : Vl out) (hn : x + 1 < L.length) (h2 : (gt L (x + 1)).iv.lo = t) (h3 : same (gt L (x + 1)).f f t = true) : Vl (eU eqf same red L out x) ∧ (eU eqf same red L out x).length ≤ out.length := by
  have hp : kh same red L out x = out := by
    unfold kh
    rw [hx]
    show (bif (((decide (((x + 1 : Nat) : Int) < ((L.length : Nat) : Int))) && (decide ((gt L (x + 1)).iv.lo = t))) && (same ((gt L (x + 1)).f) f t)) then out else _) = out
    rw [decide_eq_true (by omega : ((x + 1 : Nat) : Int) < ((L.length : Nat) : Int)), h2, decide_eq_true rfl, h3]
    rfl
  unfold eU
  rw [hp, hx, show aP (ptU t f).iv = true from decide_eq_true rfl, Bool.not_true, cond_false, cond_false]
  cases hb : sc L out x with
  | false => exact ⟨h, Nat.le_refl _⟩
  | true =>
    rw [cond_true]
    cases same (gt out (out.length - 1)).f (ptU t f).f (ptU t f).iv.lo with
    | false => exact ⟨h, Nat.le_refl _⟩
    | true =>
      obtain ⟨b1, _, _⟩ := jg.1 hb
      have hm := h _ (fZ b1)
      exact ⟨h.set hm.1 hm.2, by rw [cond_true, List.length_set]; exact Nat.le_refl _⟩
theorem wZ (hx : gt L x = nu t t' f) : ∃ b, iQ L out x = out ++ [⟨⟨t, t', b, true⟩, f⟩] := by
  unfold iQ
  rw [hx]
  cases ((((decide (((x : Nat) : Int) > 0)) && (aP ((gt L (x - 1)).iv))) && (decide (((gt L (x - 1)).iv).lo = ((nu t t' f).iv).lo))) && (!(jt out (((nu t t' f).iv).lo))))
  · exact ⟨true, rfl⟩
  · exact ⟨false, rfl⟩
theorem gap_any [K : Key] (heq : ∀ a b, eqf a b = true → a = b) (hx : gt L x = nu t t' f) (ht : Tm t) (ht' : Tm t') (hlt : tk t < tk t') (h : Vl out) :
    Vl (eU eqf same red L out x) ∧ (eU eqf same red L out x).length ≤ out.length + 1 ∧ 0 < (eU eqf same red L out x).length ∧ (lst (eU eqf same red L out x)).iv.hi = t' ∧ (lst (eU eqf same red L out x)).iv.lo ≠ t' ∧ (lst (eU eqf same red L out x)).f = f := by
  have hne : t ≠ t' := fun e => by rw [e] at hlt; omega
  have hn : Vl (iQ L out x) ∧ (iQ L out x).length ≤ out.length + 1 ∧ 0 < (iQ L out x).length ∧ (lst (iQ L out x)).iv.hi = t' ∧ (lst (iQ L out x)).iv.lo ≠ t' ∧ (lst (iQ L out x)).f = f := by
    obtain ⟨b, e⟩ := wZ (out := out) hx
    rw [e, mD]
    exact ⟨h.app ⟨ht, ht'⟩ (Nat.le_of_lt hlt), by simp, by simp, rfl, hne, rfl⟩
  unfold eU
  rw [show aP (gt L x).iv = false by rw [hx]; exact decide_eq_false hne, Bool.not_false, cond_true, cond_true]
  cases hb : sc L out x with
  | false => exact hn
  | true =>
    rw [cond_true]
    cases hq : ((!((gt out (out.length - 1)).iv).openHi) && (eqf ((gt out (out.length - 1)).f) ((gt L x).f))) with
    | false => exact hn
    | true =>
      obtain ⟨b1, b2, b3⟩ := jg.1 hb
      have hm := h _ (fZ b1)
      rw [Bool.and_eq_true] at hq
      have e := heq _ _ hq.2
      rw [hx] at b2 e ⊢
      have b2 : (lst out).iv.hi = t := b2
      have hl : tk (lst out).iv.lo < tk t' := by rw [b2] at hm; omega
      rw [cond_true]
      show Vl (out.set (out.length - 1) ⟨⟨(lst out).iv.lo, t', (lst out).iv.openLo, true⟩, (lst out).f⟩) ∧ (out.set (out.length - 1) (⟨⟨(lst out).iv.lo, t', (lst out).iv.openLo, true⟩, (lst out).f⟩ : U α)).length ≤ _ ∧ 0 < (out.set (out.length - 1) (⟨⟨(lst out).iv.lo, t', (lst out).iv.openLo, true⟩, (lst out).f⟩ : U α)).length ∧ (lst (out.set (out.length - 1) ⟨⟨(lst out).iv.lo, t', (lst out).iv.openLo, true⟩, (lst out).f⟩)).iv.hi = t' ∧ (lst (out.set (out.length - 1) ⟨⟨(lst out).iv.lo, t', (lst out).iv.openLo, true⟩, (lst out).f⟩)).iv.lo ≠ t' ∧ (lst (out.set (out.length - 1) ⟨⟨(lst out).iv.lo, t', (lst out).iv.openLo, true⟩, (lst out).f⟩)).f = f
      rw [lst_set b1, List.length_set]
      exact ⟨h.set ⟨hm.1.1, ht'⟩ (Nat.le_of_lt hl), Nat.le_succ _, b1, rfl, fun e => by
        have e : (lst out).iv.lo = t' := e
        rw [e] at hl; omega, e⟩
theorem len_le [K : Key] (heq : ∀ a b, eqf a b = true → a = b) {n : List (U α)} (hw : ∀ u ∈ n, Wv u.iv) (hr : ∀ u ∈ n, ∀ t, Tm t → same u.f u.f t = true) :
    ∀ (s p : List (U α)), n = p ++ s → (Vl (jf (eU eqf same red (n.flatMap atU)) [] (p.flatMap atU).length) ∧ (jf (eU eqf same red (n.flatMap atU)) [] (p.flatMap atU).length).length ≤ p.length) → (jf (eU eqf same red (n.flatMap atU)) [] (n.flatMap atU).length).length ≤ n.length
  | [], p, hn, hp => by
    rw [List.append_nil] at hn
    rw [← hn] at hp
    exact hp.2
  | y :: s, p, hn, hp => by
    refine len_le heq hw hr s (p ++ [y]) (by rw [hn]; simp) ?_
    have hL : n.flatMap atU = p.flatMap atU ++ (atU y ++ s.flatMap atU) := by rw [hn]; simp
    have hy : y ∈ n := by rw [hn]; simp
    have hwy := hw y hy
    have hc : ((p ++ [y]).flatMap atU).length = (p.flatMap atU).length + (atU y).length := by simp
    rw [hc, List.length_append, List.length_singleton]
    generalize hcc : (p.flatMap atU).length = c at *
    generalize hLL : n.flatMap atU = L at *
    have hLl : L.length = c + ((atU y).length + (s.flatMap atU).length) := by rw [hL, List.length_append, List.length_append, hcc]
    have hI : ∀ k, jf (eU eqf same red L) [] (c + (k + 1)) = eU eqf same red L (jf (eU eqf same red L) [] (c + k)) (c + k) := fun _ => rfl
    have hgt : ∀ k, k < (atU y).length → gt L (c + k) = gt (atU y) k := fun k hk => by
      rw [hL, ← hcc]
      have : ∀ (A B : List (U α)), gt (A ++ B) (A.length + k) = gt B k := fun A B => by simp [gt, List.getD, List.getElem?_append_right]
      rw [this, iS hk]
    by_cases hi : y.iv.lo = y.iv.hi
    · obtain ⟨o1, o2⟩ := hwy.2.2 (by rw [hi])
      have ea : atU y = [ptU y.iv.lo y.f] := by
        unfold atU aP
        rw [o1, decide_eq_true hi]; rfl
      have hx0 : gt L (c + 0) = ptU y.iv.lo y.f := by rw [hgt 0 (by rw [ea]; simp), ea]; rfl
      rw [ea]
      show Vl (jf _ [] (c + (0 + 1))) ∧ (jf _ [] (c + (0 + 1))).length ≤ _
      rw [hI 0]
      have := pt_any (eqf := eqf) (same := same) (red := red) hx0 hwy.1.1 hp.1
      exact ⟨this.1, Nat.le_trans this.2 (Nat.succ_le_succ hp.2)⟩
    · have hini : aP y.iv = false := decide_eq_false hi
      have hlt : tk y.iv.lo < tk y.iv.hi := by
        have := hwy.2.1
        by_cases e : tk y.iv.lo = tk y.iv.hi
        · exact absurd ((hwy.1.1.inj hwy.1.2).1 e) hi
        · omega
      have hE : ∀ (k : Nat), (Vl (jf (eU eqf same red L) [] (c + k)) ∧ (jf (eU eqf same red L) [] (c + k)).length ≤ p.length) → gt L (c + k) = nu y.iv.lo y.iv.hi y.f → (y.iv.openHi = false → gt L (c + (k + 1)) = ptU y.iv.hi y.f) →
          (Vl (jf (eU eqf same red L) [] (c + (k + 1 + (bif y.iv.openHi then 0 else 1)))) ∧ (jf (eU eqf same red L) [] (c + (k + 1 + (bif y.iv.openHi then 0 else 1)))).length ≤ p.length + 1) := fun k h1 h2 h3 => by
        obtain ⟨g1, g2, g3, g4, g5, g6⟩ := gap_any (eqf := eqf) (same := same) (red := red) heq h2 hwy.1.1 hwy.1.2 hlt h1.1
        rw [← hI k] at g1 g2 g3 g4 g5 g6
        cases ho : y.iv.openHi with
        | true => exact ⟨g1, Nat.le_trans g2 (Nat.succ_le_succ h1.2)⟩
        | false =>
          show Vl (jf _ [] (c + (k + 1 + 1))) ∧ (jf _ [] (c + (k + 1 + 1))).length ≤ _
          rw [hI (k + 1)]
          rw [sn_end (h3 ho) g3 g4 (by rw [g4]; exact g5) (by rw [g6]; exact hr y hy _ hwy.1.2)]
          have hm := g1 _ (fZ g3)
          exact ⟨g1.set hm.1 hm.2, by rw [List.length_set]; exact Nat.le_trans g2 (Nat.succ_le_succ h1.2)⟩
      cases hol : y.iv.openLo with
      | false =>
        have ea : atU y = ptU y.iv.lo y.f :: nu y.iv.lo y.iv.hi y.f :: (bif y.iv.openHi then [] else [ptU y.iv.hi y.f]) := by
          unfold atU; rw [hol, hini]; rfl
        have hl2 : (atU y).length = 1 + 1 + (bif y.iv.openHi then 0 else 1) := by rw [ea]; cases y.iv.openHi <;> rfl
        have hx0 : gt L (c + 0) = ptU y.iv.lo y.f := by rw [hgt 0 (by rw [hl2]; omega), ea]; rfl
        have hx1 : gt L (c + 1) = nu y.iv.lo y.iv.hi y.f := by rw [hgt 1 (by rw [hl2]; omega), ea]; rfl
        rw [hl2]
        have st1 := pt_left (eqf := eqf) (same := same) (red := red) (out := jf (eU eqf same red L) [] c) hx0 hwy.1.1 hp.1 (by rw [hl2] at hLl; omega) (by show (gt L (c + 1)).iv.lo = _; rw [hx1]; rfl) (by show same (gt L (c + 1)).f _ _ = true; rw [hx1]; exact hr y hy _ hwy.1.1)
        exact hE 1 ⟨st1.1, Nat.le_trans st1.2 hp.2⟩ hx1 (fun e => by rw [hgt 2 (by rw [hl2, e]; decide), ea, e]; rfl)
      | true =>
        have ea : atU y = nu y.iv.lo y.iv.hi y.f :: (bif y.iv.openHi then [] else [ptU y.iv.hi y.f]) := by
          unfold atU; rw [hol, hini]; rfl
        have hl2 : (atU y).length = 0 + 1 + (bif y.iv.openHi then 0 else 1) := by rw [ea]; cases y.iv.openHi <;> rfl
        have hx0 : gt L (c + 0) = nu y.iv.lo y.iv.hi y.f := by rw [hgt 0 (by rw [hl2]; omega), ea]; rfl
        rw [hl2]
        exact hE 0 hp hx0 (fun e => by rw [hgt 1 (by rw [hl2, e]; decide), ea, e]; rfl)
end
end Go.Sx
namespace Go.Sx
section
variable [K : Key]
abbrev NFl (n : List (U Ln)) : Prop := NF cG bt aG n
abbrev Sml (n m : List (U Ln)) : Prop := Sem bt n m
structure Dk (D : Ln → Prop) : Prop where
  ru : Ru D bt aG
  ok : ∀ f, D f → LOk f
theorem Dk.rc {D : Ln → Prop} (h : Dk D) {t : GR} (ht : Tm t) {f g : Ln} (hf : D f) (hg : D g) (e : bt f g t = true) : aG f t = aG g t :=
  mQ (h.ok _ hf) (h.ok _ hg) ht.ok.tok ((gk (h.ok _ hf) (h.ok _ hg) ht.ok.tok).1 e)
theorem Dk.uniq {D : Ln → Prop} (h : Dk D) {n m : List (U Ln)} (hn : NFl n) (hm : NFl m) (dn : ∀ v ∈ n, D v.f) (dm : ∀ v ∈ m, D v.f) (hS : Sml n m) : n = m :=
  wW h.ru (fun t ht f g hf hg e => h.rc ht hf hg e) (fun a => (lB a a).2 rfl) hn hm dn dm hS
structure NFL (D : Ln → Prop) (n N : List (U Ln)) : Prop where
  nf : NFl N
  ok : ∀ x ∈ N, D x.f
  sem : Sml n N
  len : N.length ≤ n.length
theorem Dk.normal {D : Ln → Prop} (h : Dk D) {n : List (U Ln)} (hW : ∀ x ∈ n, Wv x.iv ∧ D x.f) (hD : n.Pairwise fun a b => Dj a.iv b.iv) : ∃ N, aW n = (N, 0) ∧ NFL D n N := by
  obtain ⟨s1, s2⟩ := ss (fun x hx => (hW x hx).1.1)
  have hs := qR (fun x hx => (hW x hx).1) hD s1 s2
  have hWs : ∀ x ∈ ae n, Wv x.iv ∧ D x.f := fun x hx => hW x (s1.mem_iff.1 hx)
  have e := oH s1.length_eq fun i h0 h1 => (apart_dj (fun x hx => (hW x hx).1) s1 s2).2 hD i h0 (by rw [s1.length_eq]; exact h1)
  rw [oL, sL] at e
  have hsem := sem_loop (eqf := cG) (red := aG) h.ru (fun a b => (lB a b).1) hWs hs
  have hl := len_le (eqf := cG) (same := bt) (red := aG) (fun a b => (lB a b).1) (fun x hx => (hWs x hx).1) (fun x hx t ht => h.ru.refl t ht _ (hWs x hx).2) _ [] rfl ⟨fun _ h => (by cases h), Nat.le_refl 0⟩
  rw [s1.length_eq] at hl
  refine ⟨_, e, hsem.1, hsem.2.1, ⟨fun t ht u hu hi => ?_, fun q u hu hi => ?_, fun t ht w hw hi => ?_, fun q w hw hi => ?_⟩, hl⟩
  · obtain ⟨w, a, b⟩ := hsem.2.2.s1 t ht u hu hi; exact ⟨w, s1.mem_iff.1 a, b⟩
  · obtain ⟨w, a, b⟩ := hsem.2.2.s2 q u hu hi; exact ⟨w, s1.mem_iff.1 a, b⟩
  · exact hsem.2.2.c1 t ht w (s1.mem_iff.2 hw) hi
  · exact hsem.2.2.c2 q w (s1.mem_iff.2 hw) hi
theorem Sml.app {n n' N N' : List (U Ln)} (h : Sml n N) (h' : Sml n' N') : Sml (n ++ n') (N ++ N') := by
  refine ⟨fun t ht u hu hi => ?_, fun q u hu hi => ?_, fun t ht u hu hi => ?_, fun q u hu hi => ?_⟩
  all_goals rcases List.mem_append.1 hu with hu | hu
  · obtain ⟨w, a, b⟩ := h.s1 t ht u hu hi; exact ⟨w, List.mem_append_left _ a, b⟩
  · obtain ⟨w, a, b⟩ := h'.s1 t ht u hu hi; exact ⟨w, List.mem_append_right _ a, b⟩
  · obtain ⟨w, a, b⟩ := h.s2 q u hu hi; exact ⟨w, List.mem_append_left _ a, b⟩
  · obtain ⟨w, a, b⟩ := h'.s2 q u hu hi; exact ⟨w, List.mem_append_right _ a, b⟩
  · obtain ⟨w, a, b⟩ := h.c1 t ht u hu hi; exact ⟨w, List.mem_append_left _ a, b⟩
  · obtain ⟨w, a, b⟩ := h'.c1 t ht u hu hi; exact ⟨w, List.mem_append_right _ a, b⟩
  · obtain ⟨w, a, b⟩ := h.c2 q u hu hi; exact ⟨w, List.mem_append_left _ a, b⟩
  · obtain ⟨w, a, b⟩ := h'.c2 q u hu hi; exact ⟨w, List.mem_append_right _ a, b⟩
def Plc (q : Nat) : Prop := (∃ t, Tm t ∧ q = 2 * tk t) ∨ ∃ k, q = 2 * k + 1
theorem Sml.place {n N : List (U Ln)} (h : Sml n N) {u : U Ln} (hu : u ∈ N) {q : Nat} (hq : Plc q) (hi : inU u.iv q) : ∃ w ∈ n, inU w.iv q := by
  rcases hq with ⟨t, ht, rfl⟩ | ⟨k, rfl⟩
  · obtain ⟨w, a, b, _⟩ := h.s1 t ht u hu hi; exact ⟨w, a, b⟩
  · obtain ⟨w, a, b, _⟩ := h.s2 k u hu hi; exact ⟨w, a, b⟩
theorem dj_plc {x y : Iv} (hx : Wv x) (hy : Wv y) (h : ∀ q, Plc q → ¬ (inU x q ∧ inU y q)) : Dj x y := by
  have a := hx.le
  have b := hy.le
  by_cases e : e6 x ≤ e6 y
  · left
    have := h (e6 y) (by rcases gC y with ⟨_, e⟩ | ⟨_, e⟩; exact .inl ⟨_, hy.1.1, e⟩; exact .inr ⟨_, e⟩)
    unfold inU at this
    omega
  · right
    have := h (e6 x) (by rcases gC x with ⟨_, e⟩ | ⟨_, e⟩; exact .inl ⟨_, hx.1.1, e⟩; exact .inr ⟨_, e⟩)
    unfold inU at this
    omega
theorem no_dj {x y : Iv} (h : Dj x y) (q : Nat) : ¬ (inU x q ∧ inU y q) := by
  unfold Dj at h; unfold inU
  omega
theorem NFl.dj {n : List (U Ln)} (h : NFl n) : n.Pairwise fun a b => Dj a.iv b.iv := h.ord.imp fun h => .inl h
theorem Dk.self {D : Ln → Prop} (h : Dk D) {n : List (U Ln)} (hn : NFl n) (dn : ∀ v ∈ n, D v.f) : aW n = (n, 0) := by
  obtain ⟨N, e, k⟩ := h.normal (fun x hx => ⟨hn.wv x hx, dn x hx⟩) hn.dj
  rw [e, h.uniq k.nf hn k.ok dn (k.sem.symm h.ru dn k.ok)]
end
end Go.Sx
namespace Go.Sx
open Go Go.RowKit Go.Proofs
instance yC4_17 : Bu Tryz.prog 92 [] [] (.agg #[]) := Bu.of bld55 rfl rfl
instance yC4_18 : Ie Tryz.prog 92 := ⟨fun hx => wC uu92 rfl hx⟩
end Go.Sx
namespace Go.Sx
open Go Go.RowKit Go.Proofs Go.Sort Go.Lib
section
variable {P : Program} {α β : Type} [Inhabited α] [Cod β]
theorem pz (val : α → β) (d : Array α) : (flatK (fun x => Cod.enc (val x)) (Cod.n β) d).toList = flat (d.toList.map val) := by
  apply List.ext_getElem?
  intro t
  by_cases ht : t < d.size * Cod.n β
  · have hn : 0 < Cod.n β := Cod.pos
    have hi : t / Cod.n β < d.size := Nat.div_lt_of_lt_mul (by rw [Nat.mul_comm]; exact ht)
    have hm : t % Cod.n β < Cod.n β := Nat.mod_lt _ hn
    have e1 : (d.toList.map val)[t / Cod.n β]? = some (val d[t / Cod.n β]!) := by
      rw [List.getElem?_map, Array.getElem?_toList, Array.getElem?_eq_getElem hi, Option.map_some, getElem!_pos d _ hi]
    have e2 := qu e1 hm
    rw [show t / Cod.n β * Cod.n β + t % Cod.n β = t by rw [Nat.mul_comm]; exact Nat.div_add_mod t _] at e2
    have hs : t < (flatK (fun x => Cod.enc (val x)) (Cod.n β) d).size := by rw [size_flatK]; exact ht
    have hl : t % Cod.n β < (Cod.enc (val d[t / Cod.n β]!)).length := by rw [Cod.len]; exact hm
    rw [e2, Array.getElem?_toList, Array.getElem?_eq_getElem hs, ← getElem!_pos _ t hs, get_flatK _ _ _ _ ht, List.getElem?_eq_getElem hl]
    exact congrArg some (getElem!_pos (Cod.enc (val d[t / Cod.n β]!)) (t % Cod.n β) hl)
  · rw [List.getElem?_eq_none (by rw [Array.length_toList, size_flatK]; omega), List.getElem?_eq_none (by rw [bP, List.length_map, Array.length_toList]; omega)]
theorem vL (enc : α → List Value) (k : Nat) (w : World) (blk n : Nat) (d : Array α) (os : Array Obj) :
    (∀ j, j < w.heap.size → j ≠ blk → (sortWorldK enc k w blk 0 n d os).heap[j]? = w.heap[j]?) ∧
    (∀ cur e fr, w.heap[blk]? = some (.cells cur e fr) → (sortWorldK enc k w blk 0 n d os).heap[blk]? = some (.cells (putCells id 0 (flatK enc k d) cur) e fr)) ∧
    w.heap.size ≤ (sortWorldK enc k w blk 0 n d os).heap.size := by
  have hh : (sortWorldK enc k w blk 0 n d os).heap = (w.heap.modify blk (onCells (putCells id 0 (flatK enc k d)))) ++ os := rfl
  have hz : (w.heap.modify blk (onCells (putCells id 0 (flatK enc k d)))).size = w.heap.size := by simp
  refine ⟨fun j hj hne => ?_, fun cur e fr hc => ?_, ?_⟩
  · rw [hh, Array.getElem?_append_left (by rw [hz]; exact hj), Array.getElem?_modify, if_neg (fun e => hne e.symm)]
  · have hlt : blk < w.heap.size := (Array.getElem?_eq_some_iff.1 hc).1
    rw [hh, Array.getElem?_append_left (by rw [hz]; exact hlt), Array.getElem?_modify, if_pos rfl, hc]; rfl
  · rw [hh, Array.size_append, hz]; omega
theorem put_take (F cur : Array Value) (h : F.size ≤ cur.size) : (putCells id 0 F cur).toList.take F.size = F.toList := by
  apply List.ext_getElem?
  intro t
  by_cases ht : t < F.size
  · rw [List.getElem?_take_of_lt ht, Array.getElem?_toList, Array.getElem?_toList]
    unfold putCells
    rw [Array.getElem?_mapIdx, Array.getElem?_eq_getElem (by omega : t < cur.size), Option.map_some, if_pos ⟨Nat.zero_le _, by omega⟩, Array.getElem?_eq_getElem ht, Nat.sub_zero]
    show some F[t]! = _
    rw [getElem!_pos F t ht]
  · rw [List.getElem?_eq_none (by rw [List.length_take]; omega), List.getElem?_eq_none (by rw [Array.length_toList]; omega)]
theorem sort_own {val : α → β} {e : TypeId} {sv : Value} {d D' : Array α} {F : FuncId} {more : List Value} {w0 w : World} {B : Asn} {p : Prop} (hd0 : 0 < d.size) (hD : D'.size = d.size) (hp : p)
    (hbel : Below w0.heap.size w0 w) (hsep : ∃ U, Sep w0.heap.size w [Asn.row (α := β) e sv (d.toList.map val), B] U)
    (hC : ∀ blk cap, sv = .slice (some ⟨blk, 0, none⟩) d.size cap → HoldsK (fun x => Cod.enc (val x)) (Cod.n β) w blk 0 d → blk < w.heap.size → w0.heap.size ≤ blk →
      Calls P F (sv :: more).toArray w fun r w' => r = .returned (.tuple #[]) ∧ ∃ n os, w' = sortWorldK (fun x => Cod.enc (val x)) (Cod.n β) w blk 0 n D' os) :
    Calls P F (sv :: more).toArray w (RetY w0 (fun v => v = .tuple #[] ∧ p) (fun _ => [Asn.row (α := β) e sv (D'.toList.map val), B])) := by
  obtain ⟨U, f, V, hU, hdis, hlt, ⟨hown, hf⟩, hB⟩ := hsep
  have hl1 : (d.toList.map val).length = d.size := by rw [List.length_map, Array.length_toList]
  have hl2 : (D'.toList.map val).length = d.size := by rw [List.length_map, Array.length_toList, hD]
  rcases hown.2 with ⟨_, h0⟩ | ⟨blk, cap, cur, hv, _, hg, hcap, hmx, hcs, htk⟩
  · omega
  rw [hl1] at hv hcap htk
  have hfb : f blk := (hf blk).2 (by rw [hv]; rfl)
  obtain ⟨hlo, hhi⟩ := hlt blk hfb
  have hcur : d.size * Cod.n β ≤ cur.size := by rw [hcs]; exact Nat.mul_le_mul_right _ hcap
  have hH : HoldsK (fun x => Cod.enc (val x)) (Cod.n β) w blk 0 d := by
    intro j hj
    have hj' : j < d.size * Cod.n β := by rw [← size_flatK (fun x => Cod.enc (val x)) (Cod.n β) d]; exact hj
    refine ⟨?_, ?_⟩
    · have h1 : cur[j]? = some (flatK (fun x => Cod.enc (val x)) (Cod.n β) d)[j]! := by
        have h2 : (cur.toList.take (d.size * Cod.n β))[j]? = (flat (d.toList.map val))[j]? := by rw [htk]
        rw [List.getElem?_take_of_lt hj', Array.getElem?_toList, ← pz, Array.getElem?_toList, Array.getElem?_eq_getElem hj] at h2
        rw [h2, getElem!_pos _ j hj]
      unfold World.cell?
      rw [hg, Nat.zero_add]
      exact h1
    · unfold World.frozen?
      rw [hg]
      simp
  refine (hC blk cap hv hH hhi hlo).mono fun r w' ⟨hr, n, os, hw⟩ => ?_
  subst hw
  obtain ⟨g1, g2, g3⟩ := vL (fun x => Cod.enc (val x)) (Cod.n β) w blk n D' os
  refine ⟨.tuple #[], hr, ⟨rfl, hp⟩, ⟨hbel.os, hbel.tape, hbel.output, Nat.le_trans hbel.size g3, fun k hk => ?_, Nat.le_trans hbel.drawn (Nat.le_add_right _ _)⟩, U, f, V, hU, hdis, fun k hk => ⟨(hlt k hk).1, Nat.lt_of_lt_of_le (hlt k hk).2 g3⟩, ⟨⟨bP _, .inr ⟨blk, cap, _, ?_, Nat.zero_le _, g2 cur e (0, 0) hg, ?_, hmx, ?_, ?_⟩⟩, hf⟩, hB.keep g3 fun k hk => ?_⟩
  · rw [g1 k (Nat.lt_of_lt_of_le hk hbel.size) (by omega)]
    exact hbel.block k hk
  · rw [hl2]; exact hv
  · rw [hl2]; exact hcap
  · unfold putCells; rw [Array.size_mapIdx]; exact hcs
  · have hF : (flatK (fun x => Cod.enc (val x)) (Cod.n β) D').size = d.size * Cod.n β := by rw [size_flatK, hD]
    rw [hl2, ← hF, put_take _ _ (by rw [hF]; exact hcur), pz]
  · exact g1 k ((hB.range k hk).2) fun ek => hdis blk hfb (ek ▸ hk)
theorem lays_of {val : α → β} {g : Nat} {cf : α → α → Int} {blk size : Nat} {w : World} {p : α → α → Prop}
    (ct : ∀ x y w, Calls P g #[.agg (Cod.enc (val x)).toArray, .agg (Cod.enc (val y)).toArray] w (RetP w (.int .i64 (cf x y)) (p x y))) : CmpLays P g #[] (fun x => Cod.enc (val x)) (Cod.n β) cf blk 0 size w := by
  intro m os dk _ x y
  refine (ct x y (sortWorldK (fun x => Cod.enc (val x)) (Cod.n β) w blk 0 m dk os)).mono fun r w' ⟨hr, _, hb⟩ => ⟨hr, ?_⟩
  generalize sortWorldK (fun x => Cod.enc (val x)) (Cod.n β) w blk 0 m dk os = W at *
  refine ⟨w'.drawn - W.drawn, w'.heap.extract W.heap.size w'.heap.size, ?_⟩
  have hheap : w'.heap = W.heap ++ w'.heap.extract W.heap.size w'.heap.size := by
    apply Array.ext_getElem?
    intro k
    by_cases hk : k < W.heap.size
    · rw [Array.getElem?_append_left hk, hb.block k hk]
    · rw [Array.getElem?_append_right (by omega), Array.getElem?_extract]
      by_cases hk2 : k < w'.heap.size
      · rw [if_pos (by have := hb.size; omega), show W.heap.size + (k - W.heap.size) = k by omega]
      · rw [if_neg (by omega), Array.getElem?_eq_none (by omega)]
  have hd : w'.drawn = W.drawn + (w'.drawn - W.drawn) := by have := hb.drawn; omega
  have hR : grow (W.drewN (w'.drawn - W.drawn)) (w'.heap.extract W.heap.size w'.heap.size) = (⟨W.heap ++ w'.heap.extract W.heap.size w'.heap.size, W.tape, W.drawn + (w'.drawn - W.drawn), W.os, W.output⟩ : World) := rfl
  rw [hR, ← hheap, ← hd, ← hb.os, ← hb.tape, ← hb.output]
end
end Go.Sx
