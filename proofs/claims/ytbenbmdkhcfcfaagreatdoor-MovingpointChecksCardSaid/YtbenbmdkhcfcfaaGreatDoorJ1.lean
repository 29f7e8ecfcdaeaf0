/- A part of the proof of movingpointChecks. -/
import Derived.Test.YtbenbmdkhcfcfaaGreatDoorI4
import Derived.Test.YtbenbmdkhcfcfaaGreatDoorI9
import Derived.Test.YtbenbmdkhcfcfaaGreatDoorI8
import Derived.Test.YtbenbmdkhcfcfaaGreatDoorI5
import Derived.Shelf.SlSortCmp.WholeK
import Derived.Test.YtbenbmdkhcfcfaaGreatDoorH6
import Derived.RangeFuncRecord
set_option linter.unusedVariables false
set_option linter.unusedSimpArgs false
open Go.Proofs.Tryz renaming runUnderlying55 → uu55, isAgg71 → aa71, sizeOf71 → zz71, isAgg4 → aa4, underlying4 → nn4, isAgg25 → aa25, sizeOf25 → zz25, sizeOf27 → zz27, runUnderlying29 → uu29, runUnderlying31 → uu31, runUnderlying88 → uu88, runUnderlying247 → uu247, zeroValue29 → vv29, zeroValue31 → vv31, zeroValue88 → vv88, zeroValue247 → vv247
namespace Go.Sx
open Go Go.RowKit Go.Proofs
set_option maxRecDepth 100000
set_option maxHeartbeats 40000000
attribute [local irreducible] Code.wp wpList Rd Step ObS Ent
attribute [local irreducible] ao aM ak ar aA bD
theorem kh (w : World) : (method (Tryz.prog.types.size + Made.depth) 55 (.agg #[]) "Equal").run Tryz.prog w = .ok (367, .agg #[]) w := iL (P := Tryz.prog) (T := 55) Tryz.type55 (by kernel_rfl) uu55 w
instance yJ1_1 : Mt Tryz.prog 55 (.agg #[]) "Equal" 367 := ⟨kh⟩
theorem jD (w : World) : (nilAhead (Tryz.prog.types.size + Made.depth) 55 (.agg #[]) "Equal").run Tryz.prog w = .ok (some false) w := f8 (P := Tryz.prog) (T := 55) (f := 367) Tryz.type55 (by kernel_rfl) uu55 w
instance yJ1_2 : Nl Tryz.prog 55 (.agg #[]) "Equal" := ⟨jD⟩
theorem jE (w : World) : (method (Tryz.prog.types.size + Made.depth) 55 (.agg #[]) "Reduce").run Tryz.prog w = .ok (368, .agg #[]) w := iL (P := Tryz.prog) (T := 55) Tryz.type55 (by kernel_rfl) uu55 w
instance yJ1_3 : Mt Tryz.prog 55 (.agg #[]) "Reduce" 368 := ⟨jE⟩
theorem jf (w : World) : (nilAhead (Tryz.prog.types.size + Made.depth) 55 (.agg #[]) "Reduce").run Tryz.prog w = .ok (some false) w := f8 (P := Tryz.prog) (T := 55) (f := 368) Tryz.type55 (by kernel_rfl) uu55 w
instance yJ1_4 : Nl Tryz.prog 55 (.agg #[]) "Reduce" := ⟨jf⟩
theorem kY (w : World) : (method (Tryz.prog.types.size + Made.depth) 55 (.agg #[]) "Same").run Tryz.prog w = .ok (369, .agg #[]) w := iL (P := Tryz.prog) (T := 55) Tryz.type55 (by kernel_rfl) uu55 w
instance yJ1_5 : Mt Tryz.prog 55 (.agg #[]) "Same" 369 := ⟨kY⟩
theorem kg (w : World) : (nilAhead (Tryz.prog.types.size + Made.depth) 55 (.agg #[]) "Same").run Tryz.prog w = .ok (some false) w := f8 (P := Tryz.prog) (T := 55) (f := 369) Tryz.type55 (by kernel_rfl) uu55 w
instance yJ1_6 : Nl Tryz.prog 55 (.agg #[]) "Same" := ⟨kg⟩
end Go.Sx
namespace Go.Sx
open Go Go.RowKit Go.Proofs
set_option maxRecDepth 100000
set_option maxHeartbeats 40000000
attribute [local irreducible] Code.wp wpList Rd Step ObS Ent
attribute [local irreducible] ao aM ak ar aA bD
theorem eqi86 : EqIn Tryz.prog 5 86 vV := eqS (c := cV) (fun _ => rfl) Tryz.underlying86 Tryz.stoodInHeld86 fun d x y w hd => by
 refine Eq.trans (eqF (by decide) (cg aa71 zz71 (v := vR (x.lo)) rfl w) (cg aa71 zz71 (v := vR (y.lo)) rfl w) (eqi71 d _ _ w og) (eqF (by decide) (cg aa71 zz71 (v := vR (x.hi)) rfl w) (cg aa71 zz71 (v := vR (y.hi)) rfl w) (eqi71 d _ _ w og) (eqF (by decide) (dl aa4 rfl w) (dl aa4 rfl w) (eqB nn4 d og _ _ w) (eqF (by decide) (dl aa4 rfl w) (dl aa4 rfl w) (eqB nn4 d og _ _ w) eqF0)))) ?_
 congr 1
 rw [decide_eq_decide]
 cases x; cases y; simp
theorem eqp86 : EqP Tryz.prog 86 vV := EqIn.p (k := 5) rfl (c := fun x => (cV x).toArray) (fun _ => rfl) Tryz.eqGuardType86 eqi86
instance yJ1_7 : Ep Tryz.prog 86 Iv inferInstance vV := ⟨eqp86⟩
instance yJ1_8 : Mt Tryz.prog 55 (.agg #[]) "Equal" 367 := ⟨kh⟩
instance yJ1_9 : Nl Tryz.prog 55 (.agg #[]) "Equal" := ⟨jD⟩
end Go.Sx
namespace Go.Sx
open Go Go.RowKit Go.Proofs
set_option maxRecDepth 100000
set_option maxHeartbeats 40000000
attribute [local irreducible] Code.wp wpList Rd Step ObS Ent
attribute [local irreducible] ao aM ak ar aA bD
instance yJ1_10 : Mt Tryz.prog 55 (.agg #[]) "Reduce" 368 := ⟨jE⟩
instance yJ1_11 : Nl Tryz.prog 55 (.agg #[]) "Reduce" := ⟨jf⟩
instance yJ1_12 : Mt Tryz.prog 55 (.agg #[]) "Same" 369 := ⟨kY⟩
instance yJ1_13 : Nl Tryz.prog 55 (.agg #[]) "Same" := ⟨kg⟩
end Go.Sx
namespace Go.Sx
end Go.Sx
namespace Go.Sx
open Go Go.RowKit Go.Proofs
set_option maxRecDepth 100000
set_option maxHeartbeats 40000000
attribute [local irreducible] Code.wp wpList Rd Step ObS Ent
attribute [local irreducible] ao aM ak ar aA bD
instance yJ1_14 : Ep Tryz.prog 86 Iv inferInstance vV := ⟨eqp86⟩
end Go.Sx
namespace Go.Sx
open Go Go.RowKit Go.Proofs
set_option maxRecDepth 100000
set_option maxHeartbeats 40000000
attribute [local irreducible] Code.wp wpList Rd Step ObS Ent
attribute [local irreducible] ao aM ak ar aA bD
def cz (a : GI) : Int :=
 bif (((decide (a.mag = 0)) && a.neg) || ((!(decide (a.mag = 0))) && (((((ky a.mag) : Nat) : Int)) == (((0 : Nat) : Int))))) then
  5
 else
  0
theorem fQ (a : GI) (za : SzI 16 a) (w0 : World)  : Calls Tryz.prog 157 #[(vI a)] w0 (cq w0 (.int .i64 (cz a)) (True)) := by
 refine enter (N := 21) (args := [(vI a)]) Tryz.func157 rfl rfl ?_; intro ac h
 refine gz h <| (xb) fun b1 => (xg (hs := by exact fun hg => (Rd.of_nil (qi Tryz.runUnderlying9 (ec rfl hg) rfl og)).step)) <| (ai) ?_ ?_ <;> clear h ac <;> intro ac wo h hc1
 ·
  have hq1 := hc1; try simp at hq1
  have hd : cz a = 5 := pt
  refine gz h <| (W) ?_; clear h ac wo; intro ac wo h
  exact (rt h) (h.retP (by rw [hd] <;> rfl) trivial)
 ·
  have hq1 := hc1; try simp at hq1
  have hd : cz a = 0 := pt
  refine gz h <| (W) ?_; clear h ac wo; intro ac wo h
  exact (rt h) (h.retP (by rw [hd] <;> rfl) trivial)
attribute [irreducible] cz
def bW (a : GQ) : Int :=
 bif (((cz a.num) != 0) || ((cz a.den) != 0)) then
  5
 else
  bif (decide (a.den = (⟨false, 0⟩ : GI))) then
   0
  else
   bif ((decide ((ce a.den rational_one) ≤ 0)) || (!(decide ((aS a.num a.den) = rational_one)))) then
    5
   else
    0
theorem dM (a : GQ) (za : SzQ 16 a) (w0 : World)  : Calls Tryz.prog 62 #[(vQ a)] w0 (cq w0 (.int .i64 (bW a)) (True)) := by
  refine enter (N := 31) (args := [(vQ a)]) Tryz.func62 rfl rfl ?_; intro ac h
  refine gz h <| (xb) fun b1 => (xk (fQ a.num za.1)) <| (xg (hs := by exact fun hg => d6 enA (kk (fQ a.den za.2)))) <| (ai) ?_ ?_ <;> clear h ac <;> intro ac wo h hc1
  ·
    have hq1 := hc1; try simp at hq1
    have hd : bW a = 5 := pt
    refine gz h <| (W) ?_; clear h ac wo; intro ac wo h
    exact (rt h) (h.retP (by rw [hd] <;> rfl) trivial)
  ·
    have hq1 := hc1; try simp at hq1
    refine gz h <| (xo (hs := by exact bF lO exs rfl (v := (vI (⟨false, 0⟩ : GI))) rfl)) <| (ai) ?_ ?_ <;> clear h ac wo <;> intro ac wo h hc2
    ·
      have hd2 := of_decide_eq_true hc2
      have hd : bW a = 0 := pt
      refine gz h <| (W) ?_; clear h ac wo; intro ac wo h
      exact (rt h) (h.retP (by rw [hd] <;> rfl) trivial)
    ·
      have hd2 := of_decide_eq_false hc2
      refine gz h <| (W) ?_; clear h ac wo; intro ac wo h
      have c1 := dB  40 og
      have s1 := am (c1 w0)
      have p3 := am ((eK a.den rational_one 16 og za.2 (eC s1 og)) w0)
      have s4 := am ((fI a.num a.den 16 og za.1 za.2) w0)
      have s5 := am ((dB  40 og ) w0)
      refine gz h <| (dr0 (hob := (oK (c1)) <| (oK (eK a.den rational_one 16 og za.2 (eC s1 og))) <| (oG (by exact fun hg => fI a.num a.den 16 og za.1 za.2)) <| (oG (by exact fun hg => dB  40 og)) <| oE)) <| (ai) ?_ ?_ <;> clear h ac wo <;> intro ac wo h hc3
      ·
        have hq3 := hc3; try simp at hq3
        have hd : bW a = 5 := pt
        refine gz h <| (W) ?_; clear h ac wo; intro ac wo h
        exact (rt h) (h.retP (by rw [hd] <;> rfl) trivial)
      ·
        have hq3 := hc3; try simp at hq3
        have hd : bW a = 0 := pt
        refine gz h <| (W) ?_; clear h ac wo; intro ac wo h
        exact (rt h) (h.retP (by rw [hd] <;> rfl) trivial)
attribute [irreducible] bW
end Go.Sx
namespace Go.Sx
open Go Go.RowKit Go.Proofs
set_option maxRecDepth 100000
set_option maxHeartbeats 40000000
attribute [local irreducible] Code.wp wpList Rd Step ObS Ent
attribute [local irreducible] ao aM ak ar aA bD
def bG (i : Iv) : Bd :=
 (⟨i.lo, i.openLo⟩ : Bd)
theorem iK (i : Iv) (zi : SzV 30 i) (w0 : World)  : Calls Tryz.prog 136 #[(vV i)] w0 (cq w0 (vW (bG i)) (SzW 30 (bG i))) := by
 refine enter (N := 8) (args := [(vV i)]) Tryz.func136 rfl rfl ?_; intro ac h
 refine gz h <| (xb) fun b1 => (xa) fun b2 => (xo (hs := by exact bF bld206 exs rfl (v := (vW (⟨i.lo, i.openLo⟩ : Bd))) rfl)) <| (W) ?_; clear h ac; intro ac wo h
 exact ret h rfl (.cell (v := (vW (⟨i.lo, i.openLo⟩ : Bd))) rfl (i := 0) rfl Tryz.isAgg206 Tryz.sizeOf206 rfl rfl rfl .nil) rfl (h.retP (by unfold bG; rfl) (by unfold bG; exact zi.1))
attribute [irreducible] bG
def bB (i : Iv) : Bd :=
 (⟨i.hi, (!i.openHi)⟩ : Bd)
theorem je (i : Iv) (zi : SzV 30 i) (w0 : World)  : Calls Tryz.prog 137 #[(vV i)] w0 (cq w0 (vW (bB i)) (SzW 30 (bB i))) := by
 refine enter (N := 9) (args := [(vV i)]) Tryz.func137 rfl rfl ?_; intro ac h
 refine gz h <| (xb) fun b1 => (xa) fun b2 => (xo (hs := by exact bF bld206 exs rfl (v := (vW (⟨i.hi, (!i.openHi)⟩ : Bd))) rfl)) <| (W) ?_; clear h ac; intro ac wo h
 exact ret h rfl (.cell (v := (vW (⟨i.hi, (!i.openHi)⟩ : Bd))) rfl (i := 0) rfl Tryz.isAgg206 Tryz.sizeOf206 rfl rfl rfl .nil) rfl (h.retP (by unfold bB; rfl) (by unfold bB; exact zi.2))
attribute [irreducible] bB
def dA (a : Bd) (b : Bd) : Int :=
 bif ((ao a.at_ b.at_) != 0) then
  (ao a.at_ b.at_)
 else
  bif (a.behind == b.behind) then
   0
  else
   bif b.behind then
    (-1)
   else
    1
theorem gQ (a : Bd) (b : Bd) (za : SzW 30 a) (zb : SzW 30 b) (w0 : World)  : Calls Tryz.prog 135 #[(vW a), (vW b)] w0 (cq w0 (.int .i64 (dA a b)) ((-1 ≤ (dA a b) ∧ (dA a b) ≤ 1))) := by
 refine enter (N := 23) (args := [(vW a), (vW b)]) Tryz.func135 rfl rfl ?_; intro ac h
 have p2 := am ((cH a.at_ b.at_ 10 og za zb) w0)
 refine gz h <| (xb) fun b1 => (xb) fun b2 => (xk (cH a.at_ b.at_ 10 og za zb)) <| (ai) ?_ ?_ <;> clear h ac <;> intro ac wo h hc1
 ·
  have hq1 := hc1; try simp at hq1
  have hd : dA a b = (ao a.at_ b.at_) := pt
  refine gz h <| (W) ?_; clear h ac wo; intro ac wo h
  exact (rt h) (h.retP (by rw [hd] <;> rfl) (by rw [hd]; exact og))
 ·
  have hq1 := hc1; try simp at hq1
  refine gz h <| (xo (hs := by exact qj nn4 rfl rfl)) <| (ai) ?_ ?_ <;> clear h ac wo <;> intro ac wo h hc2
  ·
   have hd2 := eq_of_beq hc2
   have hd : dA a b = 0 := pt
   refine gz h <| (W) ?_; clear h ac wo; intro ac wo h
   exact (rt h) (h.retP (by rw [hd] <;> rfl) (by rw [hd]; exact og))
  ·
   have hd2 := ne_of_beq_false hc2
   refine gz h <| (ai) ?_ ?_ <;> clear h ac wo <;> intro ac wo h hc3
   ·
    have hq3 := hc3; try simp at hq3
    have hd : dA a b = (-1) := pt
    refine gz h <| (W) ?_; clear h ac wo; intro ac wo h
    exact (rt h) (h.retP (by rw [hd] <;> rfl) (by rw [hd]; exact og))
   ·
    have hq3 := hc3; try simp at hq3
    have hd : dA a b = 1 := pt
    refine gz h <| (W) ?_; clear h ac wo; intro ac wo h
    exact (rt h) (h.retP (by rw [hd] <;> rfl) (by rw [hd]; exact og))
attribute [irreducible] dA
end Go.Sx
namespace Go.Sx
open Go Go.RowKit Go.Proofs
set_option maxRecDepth 100000
set_option maxHeartbeats 40000000
attribute [local irreducible] Code.wp wpList Rd Step ObS Ent
attribute [local irreducible] ao aM ak ar aA bD
theorem nS (w : World) : (method (Tryz.prog.types.size + Made.depth) 55 (.agg #[]) "Check").run Tryz.prog w = .ok (366, .agg #[]) w := iL (P := Tryz.prog) (T := 55) Tryz.type55 (by kernel_rfl) uu55 w
instance yJ1_15 : Mt Tryz.prog 55 (.agg #[]) "Check" 366 := ⟨nS⟩
theorem mN (w : World) : (nilAhead (Tryz.prog.types.size + Made.depth) 55 (.agg #[]) "Check").run Tryz.prog w = .ok (some false) w := f8 (P := Tryz.prog) (T := 55) (f := 366) Tryz.type55 (by kernel_rfl) uu55 w
instance yJ1_16 : Nl Tryz.prog 55 (.agg #[]) "Check" := ⟨mN⟩
def br (a : GI) : GI × Bool :=
 bif a.neg then
  ((⟨false, 0⟩ : GI), false)
 else
  bif (!(decide ((dQ (bJ a.mag) (bJ a.mag)) = a.mag))) then
   ((⟨false, 0⟩ : GI), false)
  else
   ((aC false (bJ a.mag)), true)
theorem fT (a : GI) (za : SzI 30 a) (w0 : World)  : Calls Tryz.prog 276 #[(vI a)] w0 (cq w0 (.tuple #[(vI ((br a).1)), (.bool ((br a).2))]) (SzI 28 ((br a).1))) := by
  refine enter (N := 20) (args := [(vI a)]) Tryz.func276 rfl rfl ?_; intro ac h
  refine gz h <| (xb) fun b1 => (xa) fun b2 => (ai) ?_ ?_ <;> clear h ac <;> intro ac wo h hc1
  ·
    have hq1 := hc1; try simp at hq1
    have hd : br a = ((⟨false, 0⟩ : GI), false) := pt
    refine gz h <| (xo (hs := by exact bF lO exs rfl (v := (vI (⟨false, 0⟩ : GI))) rfl)) <| (W) ?_; clear h ac wo; intro ac wo h
    exact ret h rfl (.cell (v := (vI (⟨false, 0⟩ : GI))) rfl (i := 0) rfl aa25 zz25 rfl rfl rfl (.tmp rfl .nil)) rfl (h.retP (by rw [hd] <;> rfl) (by rw [hd]; exact (bZ 0 (by decide) og)))
  ·
    have hq1 := hc1; try simp at hq1
    have c1 := root_ct a.mag za
    have s1 := Calls.pr (c1 w0)
    refine gz h <| (xk (c1)) <| (W) ?_; clear h ac wo; intro ac wo h
    have c2 := gF (bJ a.mag) (bJ a.mag) 28 og s1 s1
    have s2 := am (c2 w0)
    refine gz h <| (dr0 (hob := (oK (c2)) <| oE)) <| (ai) ?_ ?_ <;> clear h ac wo <;> intro ac wo h hc2
    ·
      have hq2 := hc2; try simp at hq2
      have hd : br a = ((⟨false, 0⟩ : GI), false) := pt
      refine gz h <| (xo (hs := by exact bF lO exs rfl (v := (vI (⟨false, 0⟩ : GI))) rfl)) <| (W) ?_; clear h ac wo; intro ac wo h
      exact ret h rfl (.cell (v := (vI (⟨false, 0⟩ : GI))) rfl (i := 0) rfl aa25 zz25 rfl rfl rfl (.tmp rfl .nil)) rfl (h.retP (by rw [hd] <;> rfl) (by rw [hd]; exact (bZ 0 (by decide) og)))
    ·
      have hq2 := hc2; try simp at hq2
      have c3 := bq false (bJ a.mag) 29 og s1
      have s3 := am (c3 w0)
      have hd : br a = ((aC false (bJ a.mag)), true) := pt
      refine gz h <| (xk (c3)) <| (W) ?_; clear h ac wo; intro ac wo h
      exact ret h rfl (.cell (v := (vI (aC false (bJ a.mag)))) rfl (i := 0) rfl aa25 zz25 rfl rfl rfl (.tmp rfl .nil)) rfl (h.retP (by rw [hd] <;> rfl) (by rw [hd]; exact (eC s3 og)))
attribute [irreducible] br
def bQ (a : GQ) : GQ × Bool :=
 bif ((!(br a.num).2) || (!(br (aa a)).2)) then
  ((⟨(⟨false, 0⟩ : GI), (⟨false, 0⟩ : GI)⟩ : GQ), false)
 else
  ((aX ((br a.num).1) ((br (aa a)).1)), true)
theorem gL (a : GQ) (za : SzQ 30 a) (w0 : World)  : Calls Tryz.prog 219 #[(vQ a)] w0 (cq w0 (.tuple #[(vQ ((bQ a).1)), (.bool ((bQ a).2))]) (SzQ 20 ((bQ a).1))) := by
 refine enter (N := 30) (args := [(vQ a)]) Tryz.func219 rfl rfl ?_; intro ac h
 have c1 := fT a.num za.1
 have s1 := Calls.pr (c1 w0)
 have c2 := bh a 30 og za
 have s2 := am (c2 w0)
 have c3 := fT (aa a) s2
 have s3 := Calls.pr (c3 w0)
 refine gz h <| (xb) fun b1 => (xa) fun b2 => (xk (c1)) <| (xa) fun b3 => (xk (c2)) <| (xk (c3)) <| (xa) fun b4 => (ai) ?_ ?_ <;> clear h ac <;> intro ac wo h hc1
 ·
  have hq1 := hc1; try simp at hq1
  have hd : bQ a = (oQ, false) := pt
  refine gz h <| (xo (hs := by exact bF kx exs rfl (v := (vQ oQ)) rfl)) <| (W) ?_; clear h ac wo; intro ac wo h
  exact ret h rfl (.cell (v := (vQ oQ)) rfl (i := 2) rfl Tryz.isAgg27 zz27 rfl rfl rfl (.tmp rfl .nil)) rfl (h.retP (by rw [hd] <;> rfl) (by rw [hd]; exact ⟨(bZ 0 (by decide) og), (bZ 0 (by decide) og)⟩))
 ·
  have hq1 := hc1; try simp at hq1
  have c4 := cM ((br a.num).1) ((br (aa a)).1) 27 og s1 s3
  have s4 := am (c4 w0)
  have hd : bQ a = ((aX ((br a.num).1) ((br (aa a)).1)), true) := pt
  refine gz h <| (xk (c4)) <| (W) ?_; clear h ac wo; intro ac wo h
  exact ret h rfl (.cell (v := (vQ (aX ((br a.num).1) ((br (aa a)).1)))) rfl (i := 2) rfl Tryz.isAgg27 zz27 rfl rfl rfl (.tmp rfl .nil)) rfl (h.retP (by rw [hd] <;> rfl) (by rw [hd]; exact (cn s4 og)))
attribute [irreducible] bQ
def d7 (x : GR) : Int :=
 bif (((bW x.p) != 0) || ((bW x.r) != 0)) then
  5
 else
  bif ((ar x.r) == (-1)) then
   5
  else
   bif ((ar x.r) == 0) then
    bif x.neg then
     5
    else
     0
   else
    bif (bQ x.r).2 then
     5
    else
     0
theorem ic (x : GR) (hr : RtR x) (zx : SzR 30 x) (w0 : World)  : Calls Tryz.prog 134 #[(vR x)] w0 (cq w0 (.int .i64 (d7 x)) (True)) := by
 refine enter (N := 31) (args := [(vR x)]) Tryz.func134 rfl rfl ?_; intro ac h
 refine gz h <| (xb) fun b1 => (xk (dM x.p (cn zx.1 og))) <| (xg (hs := by exact fun hg => d6 enA (kk (dM x.r (cn zx.2 og))))) <| (ai) ?_ ?_ <;> clear h ac <;> intro ac wo h hc1
 ·
  have hq1 := hc1; try simp at hq1
  have hd : d7 x = 5 := pt
  refine gz h <| (W) ?_; clear h ac wo; intro ac wo h
  exact (rt h) (h.retP (by rw [hd] <;> rfl) trivial)
 ·
  have hq1 := hc1; try simp at hq1
  have p2 := am ((bN x.r) w0)
  refine gz h <| (xk (bN x.r)) <| (ai) ?_ ?_ <;> clear h ac wo <;> intro ac wo h hc2
  ·
   have hd2 := eq_of_beq hc2
   have hd : d7 x = 5 := pt
   refine gz h <| (W) ?_; clear h ac wo; intro ac wo h
   exact (rt h) (h.retP (by rw [hd] <;> rfl) trivial)
  ·
   have hd2 := ne_of_beq_false hc2
   refine gz h <| (ai) ?_ ?_ <;> clear h ac wo <;> intro ac wo h hc3
   ·
    have hd3 := eq_of_beq hc3
    refine gz h <| (ai) ?_ ?_ <;> clear h ac wo <;> intro ac wo h hc4
    ·
     have hq4 := hc4; try simp at hq4
     have hd : d7 x = 5 := pt
     refine gz h <| (W) ?_; clear h ac wo; intro ac wo h
     exact (rt h) (h.retP (by rw [hd] <;> rfl) trivial)
    ·
     have hq4 := hc4; try simp at hq4
     have hd : d7 x = 0 := pt
     refine gz h <| (W) ?_; clear h ac wo; intro ac wo h
     exact (rt h) (h.retP (by rw [hd] <;> rfl) trivial)
   ·
    have hd3 := ne_of_beq_false hc3
    have c3 := gL x.r zx.2
    have s3 := Calls.pr (c3 w0)
    refine gz h <| (xk (c3)) <| (xa) fun b2 => (ai) ?_ ?_ <;> clear h ac wo <;> intro ac wo h hc5
    ·
     have hq5 := hc5; try simp at hq5
     have hd : d7 x = 5 := pt
     refine gz h <| (W) ?_; clear h ac wo; intro ac wo h
     exact (rt h) (h.retP (by rw [hd] <;> rfl) trivial)
    ·
     have hq5 := hc5; try simp at hq5
     have hd : d7 x = 0 := pt
     refine gz h <| (W) ?_; clear h ac wo; intro ac wo h
     exact (rt h) (h.retP (by rw [hd] <;> rfl) trivial)
attribute [irreducible] d7
def dh (i : Iv) : Int :=
 bif (((d7 i.lo) != 0) || ((d7 i.hi) != 0)) then
  5
 else
  bif (decide ((dA (bG i) (bB i)) ≥ 0)) then
   10
  else
   0
theorem ig (i : Iv) (hv : RtV i) (zi : SzV 30 i) (w0 : World)  : Calls Tryz.prog 44 #[(vV i)] w0 (cq w0 (.int .i64 (dh i)) (True)) := by
  refine enter (N := 19) (args := [(vV i)]) Tryz.func44 rfl rfl ?_; intro ac h
  refine gz h <| (xb) fun b1 => (xk (ic i.lo hv.1 zi.1)) <| (xg (hs := by exact fun hg => d6 enA (kk (ic i.hi hv.2 zi.2)))) <| (ai) ?_ ?_ <;> clear h ac <;> intro ac wo h hc1
  ·
    have hq1 := hc1; try simp at hq1
    have hd : dh i = 5 := pt
    refine gz h <| (W) ?_; clear h ac wo; intro ac wo h
    exact (rt h) (h.retP (by rw [hd] <;> rfl) trivial)
  ·
    have hq1 := hc1; try simp at hq1
    refine gz h <| (W) ?_; clear h ac wo; intro ac wo h
    have s1 := Calls.pr ((fun w_ hB_ hS_ => iK i zi w_ ) _ h.bel h.sep)
    have s2 := Calls.pr ((fun w_ hB_ hS_ => je i zi w_ ) _ h.bel h.sep)
    have s3 := Calls.pr ((fun w_ hB_ hS_ => gQ (bG i) (bB i) s1 s2 w_ ) _ h.bel h.sep)
    have p4 := s3
    refine gz h <| (dr0 (hob := (oX (h := by exact fun _ => hH (d6 (vs := [(vV i)]) (dR Tryz.call136 rfl) (fun w_ hB_ hS_ => iK i zi w_ )))) <| (oK (je i zi)) <| (oK (gQ (bG i) (bB i) s1 s2)) <| oE)) <| (ai) ?_ ?_ <;> clear h ac wo <;> intro ac wo h hc2
    ·
      have hd2 := of_decide_eq_true hc2
      have hd : dh i = 10 := pt
      refine gz h <| (W) ?_; clear h ac wo; intro ac wo h
      exact (rt h) (h.retP (by rw [hd] <;> rfl) trivial)
    ·
      have hd2 := of_decide_eq_false hc2
      have hd : dh i = 0 := pt
      refine gz h <| (W) ?_; clear h ac wo; intro ac wo h
      exact (rt h) (h.retP (by rw [hd] <;> rfl) trivial)
attribute [irreducible] dh
end Go.Sx
namespace Go.Sx
section
variable {α : Type} [Inhabited α] {eqf : α → α → Bool} {same : α → α → GR → Bool} {red : α → GR → α} {L out : List (U α)} {x : Nat} {t t' : GR} {f : α}
def Vl [K : Key] (out : List (U α)) : Prop := ∀ u ∈ out, Tv u.iv ∧ tk u.iv.lo ≤ tk u.iv.hi
omit [Inhabited α] in
theorem Vl.app [K : Key] {y : U α} (h : Vl out) (h1 : Tv y.iv) (h2 : tk y.iv.lo ≤ tk y.iv.hi) : Vl (out ++ [y]) := fun u hu => by
  rcases List.mem_append.1 hu with hu | hu
  · exact h u hu
  · rw [List.mem_singleton.1 hu]; exact ⟨h1, h2⟩
omit [Inhabited α] in
theorem Vl.set [K : Key] {y : U α} {i : Nat} (h : Vl out) (h1 : Tv y.iv) (h2 : tk y.iv.lo ≤ tk y.iv.hi) : Vl (out.set i y) := fun u hu => by
  rcases List.mem_or_eq_of_mem_set hu with hu | rfl
  · exact h u hu
  · exact ⟨h1, h2⟩
theorem newPt_or : iC same red L out x = out ∨ iC same red L out x = out ++ [⟨(gt L x).iv, red (gt L x).f (gt L x).iv.lo⟩] := by
  unfold iC
  cases (((decide (((x + 1 : Nat) : Int) < ((L.length : Nat) : Int))) && (decide (((gt L (x + 1)).iv).lo = ((gt L x).iv).lo))) && (same ((gt L (x + 1)).f) ((gt L x).f) (((gt L x).iv).lo)))
  · exact .inr rfl
  · exact .inl rfl
theorem pt_any [K : Key] (hx : gt L x = ptU t f) (ht : Tm t) (h : Vl out) : Vl (dI eqf same red L out x) ∧ (dI eqf same red L out x).length ≤ out.length + 1 := by
  have hn : Vl (iC same red L out x) ∧ (iC same red L out x).length ≤ out.length + 1 := by
    rcases newPt_or (same := same) (red := red) (L := L) (out := out) (x := x) with e | e
    · rw [e]; exact ⟨h, Nat.le_succ _⟩
    · rw [e, hx]; exact ⟨h.app ⟨ht, ht⟩ (Nat.le_refl _), by simp⟩
  unfold dI
  rw [hx, show aK (ptU t f).iv = true from decide_eq_true rfl, Bool.not_true, cond_false, cond_false]
  cases hb : oO L out x with
  | false => exact hn
  | true =>
    rw [cond_true]
    cases same (gt out (out.length - 1)).f (ptU t f).f (ptU t f).iv.lo with
    | false => exact hn
    | true =>
      obtain ⟨b1, _, _⟩ := f4.1 hb
      have hm := h _ (eG b1)
      exact ⟨h.set hm.1 hm.2, by rw [cond_true, List.length_set]; exact Nat.le_succ _⟩
theorem pt_left [K : Key] (hx : gt L x = ptU t f) (ht : Tm t) (h : Vl out) (hn : x + 1 < L.length) (h2 : (gt L (x + 1)).iv.lo = t) (h3 : same (gt L (x + 1)).f f t = true) : Vl (dI eqf same red L out x) ∧ (dI eqf same red L out x).length ≤ out.length := by
  have hp : iC same red L out x = out := by
    unfold iC
    rw [hx]
    show (bif (((decide (((x + 1 : Nat) : Int) < ((L.length : Nat) : Int))) && (decide ((gt L (x + 1)).iv.lo = t))) && (same ((gt L (x + 1)).f) f t)) then out else _) = out
    rw [decide_eq_true (by omega : ((x + 1 : Nat) : Int) < ((L.length : Nat) : Int)), h2, decide_eq_true rfl, h3]
    rfl
  unfold dI
  rw [hp, hx, show aK (ptU t f).iv = true from decide_eq_true rfl, Bool.not_true, cond_false, cond_false]
  cases hb : oO L out x with
  | false => exact ⟨h, Nat.le_refl _⟩
  | true =>
    rw [cond_true]
    cases same (gt out (out.length - 1)).f (ptU t f).f (ptU t f).iv.lo with
    | false => exact ⟨h, Nat.le_refl _⟩
    | true =>
      obtain ⟨b1, _, _⟩ := f4.1 hb
      have hm := h _ (eG b1)
      exact ⟨h.set hm.1 hm.2, by rw [cond_true, List.length_set]; exact Nat.le_refl _⟩
theorem sC (hx : gt L x = kF t t' f) : ∃ b, fL L out x = out ++ [⟨⟨t, t', b, true⟩, f⟩] := by
  unfold fL
  rw [hx]
  cases ((((decide (((x : Nat) : Int) > 0)) && (aK ((gt L (x - 1)).iv))) && (decide (((gt L (x - 1)).iv).lo = ((kF t t' f).iv).lo))) && (!(gi out (((kF t t' f).iv).lo))))
  · exact ⟨true, rfl⟩
  · exact ⟨false, rfl⟩
theorem gap_any [K : Key] (heq : ∀ a b, eqf a b = true → a = b) (hx : gt L x = kF t t' f) (ht : Tm t) (ht' : Tm t') (hlt : tk t < tk t') (h : Vl out) :
    Vl (dI eqf same red L out x) ∧ (dI eqf same red L out x).length ≤ out.length + 1 ∧ 0 < (dI eqf same red L out x).length ∧ (lst (dI eqf same red L out x)).iv.hi = t' ∧ (lst (dI eqf same red L out x)).iv.lo ≠ t' ∧ (lst (dI eqf same red L out x)).f = f := by
  have hne : t ≠ t' := fun e => by rw [e] at hlt; omega
  have hn : Vl (fL L out x) ∧ (fL L out x).length ≤ out.length + 1 ∧ 0 < (fL L out x).length ∧ (lst (fL L out x)).iv.hi = t' ∧ (lst (fL L out x)).iv.lo ≠ t' ∧ (lst (fL L out x)).f = f := by
    obtain ⟨b, e⟩ := sC (out := out) hx
    rw [e, j7]
    exact ⟨h.app ⟨ht, ht'⟩ (Nat.le_of_lt hlt), by simp, by simp, rfl, hne, rfl⟩
  unfold dI
  rw [show aK (gt L x).iv = false by rw [hx]; exact decide_eq_false hne, Bool.not_false, cond_true, cond_true]
  cases hb : oO L out x with
  | false => exact hn
  | true =>
    rw [cond_true]
    cases hq : ((!((gt out (out.length - 1)).iv).openHi) && (eqf ((gt out (out.length - 1)).f) ((gt L x).f))) with
    | false => exact hn
    | true =>
      obtain ⟨b1, b2, b3⟩ := f4.1 hb
      have hm := h _ (eG b1)
      rw [Bool.and_eq_true] at hq
      have e := heq _ _ hq.2
      rw [hx] at b2 e ⊢
      have b2 : (lst out).iv.hi = t := b2
      have hl : tk (lst out).iv.lo < tk t' := by rw [b2] at hm; omega
      rw [cond_true]
      show Vl (out.set (out.length - 1) ⟨⟨(lst out).iv.lo, t', (lst out).iv.openLo, true⟩, (lst out).f⟩) ∧ (out.set (out.length - 1) (⟨⟨(lst out).iv.lo, t', (lst out).iv.openLo, true⟩, (lst out).f⟩ : U α)).length ≤ _ ∧ 0 < (out.set (out.length - 1) (⟨⟨(lst out).iv.lo, t', (lst out).iv.openLo, true⟩, (lst out).f⟩ : U α)).length ∧ (lst (out.set (out.length - 1) ⟨⟨(lst out).iv.lo, t', (lst out).iv.openLo, true⟩, (lst out).f⟩)).iv.hi = t' ∧ (lst (out.set (out.length - 1) ⟨⟨(lst out).iv.lo, t', (lst out).iv.openLo, true⟩, (lst out).f⟩)).iv.lo ≠ t' ∧ (lst (out.set (out.length - 1) ⟨⟨(lst out).iv.lo, t', (lst out).iv.openLo, true⟩, (lst out).f⟩)).f = f
      rw [lst_set b1, List.length_set]
      exact ⟨h.set ⟨hm.1.1, ht'⟩ (Nat.le_of_lt hl), Nat.le_succ _, b1, rfl, fun e => by
        have e : (lst out).iv.lo = t' := e
        rw [e] at hl; omega, e⟩
theorem len_le [K : Key] (heq : ∀ a b, eqf a b = true → a = b) {n : List (U α)} (hw : ∀ u ∈ n, Wv u.iv) (hr : ∀ u ∈ n, ∀ t, Tm t → same u.f u.f t = true) :
    ∀ (s p : List (U α)), n = p ++ s → (Vl (fZ (dI eqf same red (n.flatMap atU)) [] (p.flatMap atU).length) ∧ (fZ (dI eqf same red (n.flatMap atU)) [] (p.flatMap atU).length).length ≤ p.length) → (fZ (dI eqf same red (n.flatMap atU)) [] (n.flatMap atU).length).length ≤ n.length
  | [], p, hn, hp => by
    rw [List.append_nil] at hn
    rw [← hn] at hp
    exact hp.2
  | y :: s, p, hn, hp => by
    refine len_le heq hw hr s (p ++ [y]) (by rw [hn]; simp) ?_
    have hL : n.flatMap atU = p.flatMap atU ++ (atU y ++ s.flatMap atU) := by rw [hn]; simp
    have hy : y ∈ n := by rw [hn]; simp
    have hwy := hw y hy
    have hc : ((p ++ [y]).flatMap atU).length = (p.flatMap atU).length + (atU y).length := by simp
    rw [hc, List.length_append, List.length_singleton]
    generalize hcc : (p.flatMap atU).length = c at *
    generalize hLL : n.flatMap atU = L at *
    have hLl : L.length = c + ((atU y).length + (s.flatMap atU).length) := by rw [hL, List.length_append, List.length_append, hcc]
    have hI : ∀ k, fZ (dI eqf same red L) [] (c + (k + 1)) = dI eqf same red L (fZ (dI eqf same red L) [] (c + k)) (c + k) := fun _ => rfl
    have hgt : ∀ k, k < (atU y).length → gt L (c + k) = gt (atU y) k := fun k hk => by
      rw [hL, ← hcc]
      have : ∀ (A B : List (U α)), gt (A ++ B) (A.length + k) = gt B k := fun A B => by simp [gt, List.getD, List.getElem?_append_right]
      rw [this, fN hk]
    by_cases hi : y.iv.lo = y.iv.hi
    · obtain ⟨o1, o2⟩ := hwy.2.2 (by rw [hi])
      have ea : atU y = [ptU y.iv.lo y.f] := by
        unfold atU aK
        rw [o1, decide_eq_true hi]; rfl
      have hx0 : gt L (c + 0) = ptU y.iv.lo y.f := by rw [hgt 0 (by rw [ea]; simp), ea]; rfl
      rw [ea]
      show Vl (fZ _ [] (c + (0 + 1))) ∧ (fZ _ [] (c + (0 + 1))).length ≤ _
      rw [hI 0]
      have := pt_any (eqf := eqf) (same := same) (red := red) hx0 hwy.1.1 hp.1
      exact ⟨this.1, Nat.le_trans this.2 (Nat.succ_le_succ hp.2)⟩
    · have hini : aK y.iv = false := decide_eq_false hi
      have hlt : tk y.iv.lo < tk y.iv.hi := by
        have := hwy.2.1
        by_cases e : tk y.iv.lo = tk y.iv.hi
        · exact absurd ((hwy.1.1.inj hwy.1.2).1 e) hi
        · omega
      have hE : ∀ (k : Nat), (Vl (fZ (dI eqf same red L) [] (c + k)) ∧ (fZ (dI eqf same red L) [] (c + k)).length ≤ p.length) → gt L (c + k) = kF y.iv.lo y.iv.hi y.f → (y.iv.openHi = false → gt L (c + (k + 1)) = ptU y.iv.hi y.f) →
          (Vl (fZ (dI eqf same red L) [] (c + (k + 1 + (bif y.iv.openHi then 0 else 1)))) ∧ (fZ (dI eqf same red L) [] (c + (k + 1 + (bif y.iv.openHi then 0 else 1)))).length ≤ p.length + 1) := fun k h1 h2 h3 => by
        obtain ⟨g1, g2, g3, g4, g5, g6⟩ := gap_any (eqf := eqf) (same := same) (red := red) heq h2 hwy.1.1 hwy.1.2 hlt h1.1
        rw [← hI k] at g1 g2 g3 g4 g5 g6
        cases ho : y.iv.openHi with
        | true => exact ⟨g1, Nat.le_trans g2 (Nat.succ_le_succ h1.2)⟩
        | false =>
          show Vl (fZ _ [] (c + (k + 1 + 1))) ∧ (fZ _ [] (c + (k + 1 + 1))).length ≤ _
          rw [hI (k + 1)]
          rw [sn_end (h3 ho) g3 g4 (by rw [g4]; exact g5) (by rw [g6]; exact hr y hy _ hwy.1.2)]
          have hm := g1 _ (eG g3)
          exact ⟨g1.set hm.1 hm.2, by rw [List.length_set]; exact Nat.le_trans g2 (Nat.succ_le_succ h1.2)⟩
      cases hol : y.iv.openLo with
      | false =>
        have ea : atU y = ptU y.iv.lo y.f :: kF y.iv.lo y.iv.hi y.f :: (bif y.iv.openHi then [] else [ptU y.iv.hi y.f]) := by
          unfold atU; rw [hol, hini]; rfl
        have hl2 : (atU y).length = 1 + 1 + (bif y.iv.openHi then 0 else 1) := by rw [ea]; cases y.iv.openHi <;> rfl
        have hx0 : gt L (c + 0) = ptU y.iv.lo y.f := by rw [hgt 0 (by rw [hl2]; omega), ea]; rfl
        have hx1 : gt L (c + 1) = kF y.iv.lo y.iv.hi y.f := by rw [hgt 1 (by rw [hl2]; omega), ea]; rfl
        rw [hl2]
        have st1 := pt_left (eqf := eqf) (same := same) (red := red) (out := fZ (dI eqf same red L) [] c) hx0 hwy.1.1 hp.1 (by rw [hl2] at hLl; omega) (by show (gt L (c + 1)).iv.lo = _; rw [hx1]; rfl) (by show same (gt L (c + 1)).f _ _ = true; rw [hx1]; exact hr y hy _ hwy.1.1)
        exact hE 1 ⟨st1.1, Nat.le_trans st1.2 hp.2⟩ hx1 (fun e => by rw [hgt 2 (by rw [hl2, e]; decide), ea, e]; rfl)
      | true =>
        have ea : atU y = kF y.iv.lo y.iv.hi y.f :: (bif y.iv.openHi then [] else [ptU y.iv.hi y.f]) := by
          unfold atU; rw [hol, hini]; rfl
        have hl2 : (atU y).length = 0 + 1 + (bif y.iv.openHi then 0 else 1) := by rw [ea]; cases y.iv.openHi <;> rfl
        have hx0 : gt L (c + 0) = kF y.iv.lo y.iv.hi y.f := by rw [hgt 0 (by rw [hl2]; omega), ea]; rfl
        rw [hl2]
        exact hE 0 hp hx0 (fun e => by rw [hgt 1 (by rw [hl2, e]; decide), ea, e]; rfl)
end
end Go.Sx
namespace Go.Sx
section
variable [K : Key]
abbrev NFl (n : List (U Ln)) : Prop := NF bA be aD n
abbrev Sml (n m : List (U Ln)) : Prop := Sem be n m
structure Dk (D : Ln → Prop) : Prop where
  ru : Ru D be aD
  ok : ∀ f, D f → LOk f
theorem Dk.rc {D : Ln → Prop} (h : Dk D) {t : GR} (ht : Tm t) {f g : Ln} (hf : D f) (hg : D g) (e : be f g t = true) : aD f t = aD g t :=
  kj (h.ok _ hf) (h.ok _ hg) ht.ok.tok ((eQ (h.ok _ hf) (h.ok _ hg) ht.ok.tok).1 e)
theorem Dk.uniq {D : Ln → Prop} (h : Dk D) {n m : List (U Ln)} (hn : NFl n) (hm : NFl m) (dn : ∀ v ∈ n, D v.f) (dm : ∀ v ∈ m, D v.f) (hS : Sml n m) : n = m :=
  sw h.ru (fun t ht f g hf hg e => h.rc ht hf hg e) (fun a => (gb a a).2 rfl) hn hm dn dm hS
structure NFL (D : Ln → Prop) (n N : List (U Ln)) : Prop where
  nf : NFl N
  ok : ∀ x ∈ N, D x.f
  sem : Sml n N
  len : N.length ≤ n.length
theorem Dk.normal {D : Ln → Prop} (h : Dk D) {n : List (U Ln)} (hW : ∀ x ∈ n, Wv x.iv ∧ D x.f) (hD : n.Pairwise fun a b => Dj a.iv b.iv) : ∃ N, aP n = (N, 0) ∧ NFL D n N := by
  obtain ⟨s1, s2⟩ := oV (fun x hx => (hW x hx).1.1)
  have hs := nr (fun x hx => (hW x hx).1) hD s1 s2
  have hWs : ∀ x ∈ ae n, Wv x.iv ∧ D x.f := fun x hx => hW x (s1.mem_iff.1 hx)
  have e := lE s1.length_eq fun i h0 h1 => (apart_dj (fun x hx => (hW x hx).1) s1 s2).2 hD i h0 (by rw [s1.length_eq]; exact h1)
  rw [lF, ph] at e
  have hsem := sem_loop (eqf := bA) (red := aD) h.ru (fun a b => (gb a b).1) hWs hs
  have hl := len_le (eqf := bA) (same := be) (red := aD) (fun a b => (gb a b).1) (fun x hx => (hWs x hx).1) (fun x hx t ht => h.ru.refl t ht _ (hWs x hx).2) _ [] rfl ⟨fun _ h => (by cases h), Nat.le_refl 0⟩
  rw [s1.length_eq] at hl
  refine ⟨_, e, hsem.1, hsem.2.1, ⟨fun t ht u hu hi => ?_, fun q u hu hi => ?_, fun t ht w hw hi => ?_, fun q w hw hi => ?_⟩, hl⟩
  · obtain ⟨w, a, b⟩ := hsem.2.2.s1 t ht u hu hi; exact ⟨w, s1.mem_iff.1 a, b⟩
  · obtain ⟨w, a, b⟩ := hsem.2.2.s2 q u hu hi; exact ⟨w, s1.mem_iff.1 a, b⟩
  · exact hsem.2.2.c1 t ht w (s1.mem_iff.2 hw) hi
  · exact hsem.2.2.c2 q w (s1.mem_iff.2 hw) hi
theorem Sml.app {n n' N N' : List (U Ln)} (h : Sml n N) (h' : Sml n' N') : Sml (n ++ n') (N ++ N') := by
  refine ⟨fun t ht u hu hi => ?_, fun q u hu hi => ?_, fun t ht u hu hi => ?_, fun q u hu hi => ?_⟩
  all_goals rcases List.mem_append.1 hu with hu | hu
  · obtain ⟨w, a, b⟩ := h.s1 t ht u hu hi; exact ⟨w, List.mem_append_left _ a, b⟩
  · obtain ⟨w, a, b⟩ := h'.s1 t ht u hu hi; exact ⟨w, List.mem_append_right _ a, b⟩
  · obtain ⟨w, a, b⟩ := h.s2 q u hu hi; exact ⟨w, List.mem_append_left _ a, b⟩
  · obtain ⟨w, a, b⟩ := h'.s2 q u hu hi; exact ⟨w, List.mem_append_right _ a, b⟩
  · obtain ⟨w, a, b⟩ := h.c1 t ht u hu hi; exact ⟨w, List.mem_append_left _ a, b⟩
  · obtain ⟨w, a, b⟩ := h'.c1 t ht u hu hi; exact ⟨w, List.mem_append_right _ a, b⟩
  · obtain ⟨w, a, b⟩ := h.c2 q u hu hi; exact ⟨w, List.mem_append_left _ a, b⟩
  · obtain ⟨w, a, b⟩ := h'.c2 q u hu hi; exact ⟨w, List.mem_append_right _ a, b⟩
def Plc (q : Nat) : Prop := (∃ t, Tm t ∧ q = 2 * tk t) ∨ ∃ k, q = 2 * k + 1
theorem Sml.place {n N : List (U Ln)} (h : Sml n N) {u : U Ln} (hu : u ∈ N) {q : Nat} (hq : Plc q) (hi : inU u.iv q) : ∃ w ∈ n, inU w.iv q := by
  rcases hq with ⟨t, ht, rfl⟩ | ⟨k, rfl⟩
  · obtain ⟨w, a, b, _⟩ := h.s1 t ht u hu hi; exact ⟨w, a, b⟩
  · obtain ⟨w, a, b, _⟩ := h.s2 k u hu hi; exact ⟨w, a, b⟩
theorem NFl.dj {n : List (U Ln)} (h : NFl n) : n.Pairwise fun a b => Dj a.iv b.iv := h.ord.imp fun h => .inl h
theorem Dk.self {D : Ln → Prop} (h : Dk D) {n : List (U Ln)} (hn : NFl n) (dn : ∀ v ∈ n, D v.f) : aP n = (n, 0) := by
  obtain ⟨N, e, k⟩ := h.normal (fun x hx => ⟨hn.wv x hx, dn x hx⟩) hn.dj
  rw [e, h.uniq k.nf hn k.ok dn (k.sem.symm h.ru dn k.ok)]
end
end Go.Sx
namespace Go.Sx
open Go Go.RowKit Go.Proofs
instance yJ1_17 : Bu Tryz.prog 55 [] [] (.agg #[]) := Bu.of bld55 rfl rfl
instance yJ1_18 : Ie Tryz.prog 55 := ⟨fun hx => sc uu55 rfl hx⟩
instance yJ1_19 : Cf Tryz.prog 76 := ⟨Tryz.call76⟩
instance yJ1_20 : Cf Tryz.prog 75 := ⟨Tryz.call75⟩
end Go.Sx
namespace Go.Sx
open Go Go.RowKit
theorem iR {v : Value} (h : np v) : v.cells.toList = [v] := by obtain ⟨_, _, _, rfl⟩ := h; rfl
theorem mX {v : Value} (h : np v) : ([v].all Value.oneCell') = true := by obtain ⟨_, _, _, rfl⟩ := h; rfl
theorem NN.isl {v : Value} {n : Nat} (h : NN v n) : np v := h.sl.is
section
variable {P : Program} {w0 : World} {F : List (Nat × Value)}
end
end Go.Sx
namespace Go.Sx
open Go Go.RowKit
def Asn.obj (b : Nat) (o : Obj) : Asn := ⟨fun w f => (∀ k, f k ↔ k = b) ∧ w.heap[b]? = some o, fun h ⟨h1, h2⟩ => ⟨h1, by rw [h _ ((h1 _).2 rfl)]; exact h2⟩⟩
section
variable {P : Program} {w0 : World} {N : Nat} {F : List (Nat × Value)} {L : List Asn} {a : Act} {w : World} {ops : Array Oper} {Q : Exit → Act → World → Prop} {rest : List Oper}
theorem nJ {lo b : Nat} {o : Obj} {U : Fp} (h : Sep lo w (.obj b o :: L) U) : w.heap[b]? = some o ∧ lo ≤ b ∧ b < w.heap.size := by
  obtain ⟨f, V, _, _, hf, ⟨h1, h2⟩, _⟩ := h
  exact ⟨h2, hf b ((h1 b).2 rfl)⟩
theorem mJ {lo b : Nat} {o o' : Obj} {U : Fp} (h : Sep lo w (.obj b o :: L) U) : Sep lo (w.putObj b o') (.obj b o' :: L) U := by
  obtain ⟨f, V, hU, hd, hf, ⟨h1, h2⟩, hs⟩ := h
  refine ⟨f, V, hU, hd, fun k hk => ⟨(hf k hk).1, by rw [World.putObj_size]; exact (hf k hk).2⟩, ⟨h1, World.putObj_heap_same (hf b ((h1 b).2 rfl)).2⟩, hs.keep (by simp) fun k hk => World.putObj_heap_other fun e => hd k ((h1 k).2 e) hk⟩
theorem jU {b : Nat} {o' : Obj} (h : Below w0.heap.size w0 w) (hb : w0.heap.size ≤ b) : Below w0.heap.size w0 (w.putObj b o') :=
  ⟨h.os, h.tape, h.output, by rw [World.putObj_size]; exact h.size, fun k hk => by rw [World.putObj_heap_other (by omega)]; exact h.block k hk, h.drawn⟩
theorem nK {lo : Nat} {U : Fp} (hlo : lo ≤ w.heap.size) (o : Obj) (h : Sep lo w L U) : Sep lo (w.alloc o) (.obj w.heap.size o :: L) (fun k => k = w.heap.size ∨ U k) :=
  ⟨fun k => k = w.heap.size, U, fun _ => Iff.rfl, fun k hk hu => by have := (h.range k hu).2; omega, fun k hk => by subst hk; exact ⟨hlo, by simp⟩, ⟨fun _ => Iff.rfl, World.alloc_heap_new w o⟩,
    h.keep (by simp) fun k hk => by
      have := (h.range k hk).2
      show (w.heap.push o)[k]? = _
      rw [Array.getElem?_push_lt this]; exact (Array.getElem?_eq_getElem this).symm⟩
theorem ls (o : Obj) (h : Below w0.heap.size w0 w) : Below w0.heap.size w0 (w.alloc o) :=
  ⟨h.os, h.tape, h.output, by rw [World.size_alloc]; have := h.size; omega, fun k hk => by
    have := h.size
    rw [← h.block k hk]
    show (w.heap.push o)[k]? = _
    rw [Array.getElem?_push_lt (by omega)]; exact (Array.getElem?_eq_getElem (by omega)).symm, h.drawn⟩
def Rnd (P : Program) (w0 : World) (l : Nat) (args : Array Value) (J J' : Asn) : Prop :=
  ∀ w B, Below w0.heap.size w0 w → (∃ U, Sep w0.heap.size w [J, B] U) → YieldAt' P l args w fun e w' => e = .returned (.bool true) ∧ Below w0.heap.size w0 w' ∧ ∃ U, Sep w0.heap.size w' [J', B] U
where YieldAt' (P : Program) (l : Nat) (args : Array Value) (W : World) (R : Ending → World → Prop) : Prop :=
  ∃ fn tmps assign body, (Instr.yield l args).run P W = .ok (.round l fn tmps assign body) W ∧ RoundIn Fence.wide 0 P l fn tmps assign body W R
theorem my {l : Nat} {x : Operand} {args : Array Operand} {ats : Array TypeId} {vs : List Value} {r : Result Next} (hx : ev F x = some (.func (.yield l) #[] #[])) (ha : evs F args.toList = some vs) {o : Oper} (ho : o.op = .call ⟨.value x, args, ats⟩) (hg : Agr F a) (w : World)
    (hr : (Instr.yield l vs.toArray).run P w = r) : (execOp a.eval o).run P w = r := by
  have hm : args.map a.eval = vs.toArray := by
    have := hg.evs ha
    rw [← this, ← Array.toList_map, Array.toArray_toList]
  simp [execOp, ho, resolve, Deferred.ofValue, hm, hg x _ hx, invoke, hr]
def StepBY (P : Program) (w0 : World) (F : List (Nat × Value)) (L : List Asn) (op : Op) (φ : Value → Prop) (L' : Value → List Asn) : Prop :=
  ∀ (o : Oper) (a : Act) (w : World) (B : Asn) (K : Act → World → Prop) (Q : Exit → Act → World → Prop), o.op = op → Agr F a → Below w0.heap.size w0 w → (∃ U, Sep w0.heap.size w (L ++ [B]) U) →
    (∀ v w', φ v → Below w0.heap.size w0 w' → (∃ U', Sep w0.heap.size w' (L' v ++ [B]) U') → K (a.put o.dst v) w') → Oper.wpY P o a w K Q
theorem StepBY.step {φ : Value → Prop} {op : Op} {L' : Value → List Asn} (h : StepBY P w0 F L op φ L') : pY P w0 F L op φ L' := by
  intro o a w U K Q ho ha hb hs k
  have hB : Sep w0.heap.size w [Asn.others w0.heap.size w U] (fun k => w0.heap.size ≤ k ∧ k < w.heap.size ∧ ¬ U k) :=
    ⟨fun k => w0.heap.size ≤ k ∧ k < w.heap.size ∧ ¬ U k, fun _ => False, fun k => by simp, fun _ _ => id, fun k hk => ⟨hk.1, hk.2.1⟩, ⟨fun _ => Iff.rfl, fun _ _ => rfl⟩, fun _ => id⟩
  refine h o a w _ K Q ho ha hb ⟨_, hs.append hB fun k hk hn => hn.2.2 hk⟩ fun v w' hv hb' ⟨U', hU'⟩ => ?_
  obtain ⟨V, W, hV, hW, hVW, _⟩ := hU'.split
  obtain ⟨f, X, hWf, _, hfr, ⟨hf, hfe⟩, hX⟩ := hW
  have hWk : ∀ k, w0.heap.size ≤ k → k < w.heap.size → ¬ U k → W k := fun k h1 h2 h3 => (hWf k).2 (.inl ((hf k).2 ⟨h1, h2, h3⟩))
  refine k v w' V hv ⟨hb'.os.trans hb.os.symm, hb'.tape.trans hb.tape.symm, hb'.output.trans hb.output.symm, fun n hn hU => ?_, fun k hk hu => ?_, fun k hk => ?_, fun _ => hb'.drawn⟩ hV
  · rcases Nat.lt_or_ge w0.heap.size n with hlt | hge
    · have h1 : f (n - 1) := (hf _).2 ⟨by omega, by omega, fun hu => by have := hU _ hu; omega⟩
      have := (hfr _ h1).2
      omega
    · exact Nat.le_trans hge hb'.size
  · rcases Nat.lt_or_ge k w0.heap.size with hlt | hge
    · rw [hb'.block k hlt, hb.block k hlt]
    · exact hfe k ((hf k).2 ⟨hge, hk, hu⟩)
  · rcases Nat.lt_or_ge k w.heap.size with hlt | hge
    · refine .inl (Classical.byContradiction fun hu => hVW k hk (hWk k (hV.range k hk).1 hlt hu))
    · exact .inr hge
theorem y_yield {l : Nat} {x : Operand} {args : Array Operand} {ats : Array TypeId} {vs : List Value} {J J' : Asn} (hx : ev F x = some (.func (.yield l) #[] #[])) (ha : evs F args.toList = some vs) (hY : Rnd P w0 l vs.toArray J J') :
    pY P w0 F [J] (.call ⟨.value x, args, ats⟩) (· = .bool true) (fun _ => [J']) :=
  StepBY.step fun o a w B K Q ho hg hb hs k => by
    obtain ⟨f, ts, b, c, hr, hc⟩ := hY w B hb hs
    refine .inr ⟨l, f, ts, b, c, my hx ha ho hg w hr, RoundIn.mono hc ?_⟩
    rintro e w' ⟨rfl, hb', hs'⟩
    exact ⟨_, rfl, k _ w' rfl hb' hs'⟩
theorem ob_yu {H : List Hist} {i : Nat} {ξ : Nat → Value} {G : (Nat → Value) → List (Nat × Value)} {op : Op} {ty : TypeId} {pos : String} {aft : Array Edge} {dst : Option Tmp} {acc : List Nat} {ol : List Oper} {v : Value} (A A' : List Asn) (hA : cp H acc i ξ = A) (hA' : cp H acc (i + 1) (upd ξ i v) = A') (h : pY P w0 (eM (G ξ) (dF op)) A op (· = v) (fun _ => A')) : ObS P w0 ol H G ξ i ⟨dst, op, ty, pos, aft, none⟩ ⟨.det v, acc⟩ := by
  intro o a w U K Q ho ha hb hs k
  have hs1 : Sep w0.heap.size w (cp H acc i ξ) U := hs
  rw [hA] at hs1
  refine h o a w U K Q ho ha hb hs1 fun v' w' U' hv hm hs' => ?_
  subst hv
  refine k _ w' U' (bp _ _ _) hm ?_
  show Sep w0.heap.size w' (cp H acc (i + 1) (upd ξ i v')) U'
  rw [hA']
  exact hs'
theorem pv {ro : Option Nat} {n : Nat} (hQ : ∀ a w, ¬ Q .outgrown a w) : ∀ {l : List Oper} {a : Act} {w : World}, nL l = true → wpList P ops Q l a w → wpListIn (rf ro) n P ops Q l a w
  | [], _, _, _, h => h
  | o :: l, a, w, hn, h => by
    have hn' : nL l = true := by unfold nL at hn ⊢; rw [List.all_cons, Bool.and_eq_true] at hn; exact hn.2
    have mono : ∀ {K K' : Act → World → Prop}, (∀ a w, K a w → K' a w) → o.wpIn (rf ro) n P a w K Q → o.wpIn (rf ro) n P a w K' Q := fun hk hh => Oper.wpIn_mono hk hh
    unfold wpList at h
    unfold wpListIn
    split
    · rename_i hw
      rw [if_pos hw] at h
      rcases h with h | ⟨_, h⟩
      · exact mono (fun a w h => pv hQ hn' h) (op_in (.inr (qo hn (List.mem_cons_self ..))) (.inl h))
      · obtain ⟨a', w', h⟩ := h
        exact absurd h (hQ a' w')
    · rename_i hw
      rw [if_neg hw] at h
      exact ⟨fun _ _ => trivial, pv hQ hn' h⟩
theorem r8 {ro : Option Nat} {n : Nat} {id : Nat} {l : List Oper} (hQ : ∀ a w, ¬ Q .outgrown a w) (hn : nL l = true) (h : wpList P l.toArray Q l a w) : (Code.region id l.toArray false).wpIn (rf ro) n P Q a w :=
  wpIn_region_lit (pv hQ hn h)
theorem seq_in {ro : Option Nat} {n : Nat} {x y : Code} (M : Act → World → Prop) (h : x.wpIn (rf ro) n P (Exit.then M Q) a w) (k : ∀ a w, M a w → y.wpIn (rf ro) n P Q a w) : (Code.seq x y).wpIn (rf ro) n P Q a w := by
  refine wpIn_seq (wpIn_mono h fun e a w he => ?_)
  cases e <;> first | exact k _ _ he | exact he
def Asn.ex (A : Value → Asn) : Asn := ⟨fun w f => ∃ v, (A v).sem w f, fun h ⟨v, hv⟩ => ⟨v, (A v).loc h hv⟩⟩
def JE (lo : Nat) (l : Nat) (r : Loop) (A : Value → List Asn) : Asn := .ex fun v => .all lo (.obj l (.loop r) :: A v)
theorem je_open {lo l : Nat} {r : Loop} {A : Value → List Asn} {B : Asn} (h : ∃ U, Sep lo w [JE lo l r A, B] U) : ∃ v U, Sep lo w (.obj l (.loop r) :: (A v ++ [B])) U := by
  obtain ⟨U, f, V, hU, hd, hf, ⟨v, hv⟩, hs⟩ := h
  have hv : Sep lo w (.obj l (.loop r) :: A v) f := hv
  exact ⟨v, _, hv.append hs hd⟩
theorem je_close {lo l : Nat} {r : Loop} {A : Value → List Asn} {B : Asn} {v : Value} {U : Fp} (h : Sep lo w (.obj l (.loop r) :: (A v ++ [B])) U) : ∃ U, Sep lo w [JE lo l r A, B] U := by
  obtain ⟨V, W, hV, hW, hVW, hU⟩ := Sep.split (A := .obj l (.loop r) :: A v) h
  exact ⟨U, V, W, hU, hVW, hV.range, ⟨v, hV⟩, hW⟩
theorem rnd {l fn D : Nat} {args tmps : Array Value} {ps : Array Tmp} {asg body : Code} {A A' : Value → List Asn} {F0 : List (Nat × Value)} (hps : args.size = ps.size)
    (hz : ((ps.zip args).foldl (fun tmps (t, a) => tmps.setIfInBounds t a) tmps).size = N)
    (hF : ∀ t v, look F0 t = some v → ((ps.zip args).foldl (fun tmps (t, a) => tmps.setIfInBounds t a) tmps)[t]? = some v)
    (M : Value → List (Nat × Value) → List Asn → Prop)
    (ha : ∀ v a w Y1 Y2, St w0 N F0 (A v ++ [Y1, Y2]) a w → asg.wpIn (rf (some l)) 0 P (Exit.then (fun a w => ∃ F1 X, M v F1 X ∧ St w0 N F1 (X ++ [Y1, Y2]) a w) fun _ _ _ => False) a w)
    (hb : ∀ v F1 X, M v F1 X → ∀ a w Y1 Y2, St w0 N F1 (X ++ [Y1, Y2]) a w → body.wpIn (rf (some l)) 0 P (fun e _ w => e = .normal ∧ Below w0.heap.size w0 w ∧ ∃ v' Y U, Sep w0.heap.size w (A' v' ++ [Y1, Y2] ++ Y) U) a w) :
    Rnd P w0 l args (JE w0.heap.size l { state := .ready, pending := none, fn, tmps, params := ps, assign := asg, body, defers := D } A) (JE w0.heap.size l { state := .ready, pending := none, fn, tmps, params := ps, assign := asg, body, defers := D } A') := by
  intro w B hB hs
  obtain ⟨v, U, hU⟩ := je_open hs
  obtain ⟨hl, hlo, hhi⟩ := nJ hU
  refine ⟨fn, _, asg, body, run_yield (P := P) (args := args) hl hps, roundIn_of_wpIn (F := Fence.wide) trivial ?_⟩
  have st : St w0 N F0 (A v ++ [.obj l (.loop { state := .ready, pending := none, fn, tmps, params := ps, assign := asg, body, defers := D }), B]) { tmps := (ps.zip args).foldl (fun tmps (t, a) => tmps.setIfInBounds t a) tmps, defers := [] } w :=
    ⟨hz, rfl, hF, hB, U, hU.perm (by
      have : (Asn.obj l (.loop { state := .ready, pending := none, fn, tmps, params := ps, assign := asg, body, defers := D }) :: (A v ++ [B])).Perm (A v ++ Asn.obj l (.loop { state := .ready, pending := none, fn, tmps, params := ps, assign := asg, body, defers := D }) :: [B]) := List.perm_middle.symm
      exact this)⟩
  refine wpIn_mono (ha v _ _ _ _ st) fun e a w he => ?_
  cases e with
  | normal =>
    obtain ⟨F1, X, hM, h⟩ := he
    obtain ⟨U1, hU1⟩ := h.sep
    have hU1 := hU1.perm (List.perm_middle (l₁ := X) (l₂ := [B]))
    obtain ⟨hl1, hlo1, _⟩ := nJ hU1
    refine ⟨_, run_beginRound hl1 rfl, ?_⟩
    have hU2 := mJ (o' := .loop { state := .busy, pending := none, fn, tmps, params := ps, assign := asg, body, defers := D }) hU1
    refine wpIn_mono (hb v F1 X hM a _ (.obj l (.loop { state := .busy, pending := none, fn, tmps, params := ps, assign := asg, body, defers := D })) B ⟨h.size, h.defers, h.regs, jU h.bel hlo1, _, hU2.perm (List.perm_middle (l₁ := X) (l₂ := [B])).symm⟩) fun e a w he => ?_
    obtain ⟨rfl, hB3, v', Y, U3, hU3⟩ := he
    have hU3 := hU3.perm (show (A' v' ++ [Asn.obj l (.loop { state := .busy, pending := none, fn, tmps, params := ps, assign := asg, body, defers := D }), B] ++ Y).Perm (Asn.obj l (.loop { state := .busy, pending := none, fn, tmps, params := ps, assign := asg, body, defers := D }) :: (A' v' ++ [B]) ++ Y) by
      refine List.Perm.append_right _ ?_
      exact List.perm_middle)
    obtain ⟨V, W, hV, _, _, _⟩ := hU3.split
    obtain ⟨hl3, hlo3, _⟩ := nJ hV
    refine ⟨_, _, run_endRound none hl3, rfl, jU hB3 hlo3, je_close (mJ (o' := .loop { state := .ready, pending := none, fn, tmps, params := ps, assign := asg, body, defers := D }) hV)⟩
  | _ => exact he.elim
theorem fold2 (p q : Nat) (x y : Value) (t : Array Value) : ((#[p, q].zip [x, y].toArray).foldl (fun tmps (t, a) => tmps.setIfInBounds t a) t) = (t.setIfInBounds p x).setIfInBounds q y := by simp
def nd (a : Act) : Act := { a with defers := [] }
theorem c_range {g : Operand} {ps : Array Tmp} {asg body : Code} {gf : FuncId} {lb : Array Value} {A : Nat → Value → List Asn} {v0 : Value} {R : List Asn} {args : Nat → Array Value} (n : Nat) (h : St w0 N F L a w)
    (hg : ev F g = some (.func (.func gf) #[] lb)) (eg : ∀ args w, (callFunc gf args).run P w = .ok (.enter gf args) w) (hL : L.Perm (A 0 v0 ++ R))
    (hit : ∀ (lr : Nat) (r : Loop) (w : World) (B : Asn), Below w0.heap.size w0 w → (∃ U, Sep w0.heap.size w (JE w0.heap.size lr r (A 0) :: (R ++ [B])) U) → (∀ k, k < n → Rnd P w0 lr (args k) (JE w0.heap.size lr r (A k)) (JE w0.heap.size lr r (A (k + 1)))) →
      Calls P gf (#[.func (.yield lr) #[] #[]] ++ lb) w (RetY w0 (fun _ => True) fun _ => JE w0.heap.size lr r (A n) :: (R ++ [B])))
    (hrnd : ∀ lr fn D k, k < n → Rnd P w0 lr (args k) (JE w0.heap.size lr { state := .ready, pending := none, fn, tmps := a.tmps, params := ps, assign := asg, body, defers := D } (A k)) (JE w0.heap.size lr { state := .ready, pending := none, fn, tmps := a.tmps, params := ps, assign := asg, body, defers := D } (A (k + 1))))
    (k : ∀ a' w' D v Y, a'.defers = [{ target := .collected D, args := #[] }] → St w0 N F (.obj D (.deferred (some [])) :: (A n v ++ R ++ Y)) (nd a') w' → Q .normal a' w') : (Code.rangeFunc g ps asg body).wp P Q a w := by
  refine wpIn_wide (n := 0).1 (wpIn_rangeFunc fun fn hfn => ?_)
  obtain ⟨U, hU⟩ := h.sep
  have hU := hU.perm hL
  have hsz := h.bel.size
  have s1 := nK hsz (.deferred (some [])) hU
  have b1 := ls (.deferred (some [])) h.bel
  have s2 := nK (w := w.alloc (.deferred (some []))) (by rw [World.size_alloc]; omega) (.loop { state := .ready, pending := none, fn, tmps := a.tmps, params := ps, assign := asg, body, defers := w.heap.size }) s1
  have b2 := ls (.loop { state := .ready, pending := none, fn, tmps := a.tmps, params := ps, assign := asg, body, defers := w.heap.size }) b1
  rw [World.size_alloc] at s2
  have hev : a.eval g = .func (.func gf) #[] lb := h.agr g _ hg
  obtain ⟨W1, hW1⟩ : ∃ W1, (w.alloc (.deferred (some []))).alloc (.loop { state := .ready, pending := none, fn, tmps := a.tmps, params := ps, assign := asg, body, defers := w.heap.size }) = W1 := ⟨_, rfl⟩
  rw [hW1] at s2 b2
  refine ⟨w.heap.size + 1, [{ target := .collected w.heap.size, args := #[] }], W1, { target := .fn (.func gf) lb, args := #[.func (.yield (w.heap.size + 1)) #[] #[]] }, W1, gf, #[.func (.yield (w.heap.size + 1)) #[] #[]] ++ lb, W1, by rw [← hW1]; exact run_enterLoop_outer _ _ _ _ _, ?_, fun _ _ => trivial, ?_, fun hn => (by cases hn), ?_⟩
  · simp only [resolve, hev]
    simp [go_sem]
  · simp [invoke, go_sem, eg]
  · refine callsIn_wide.2 ((hit (w.heap.size + 1) _ _ (.obj w.heap.size (.deferred (some []))) b2 ?_ (hrnd _ fn w.heap.size)).mono ?_)
    · have p : (Asn.obj (w.heap.size + 1) (.loop { state := .ready, pending := none, fn, tmps := a.tmps, params := ps, assign := asg, body, defers := w.heap.size }) :: Asn.obj w.heap.size (.deferred (some [])) :: (A 0 v0 ++ R)).Perm (Asn.obj (w.heap.size + 1) (.loop { state := .ready, pending := none, fn, tmps := a.tmps, params := ps, assign := asg, body, defers := w.heap.size }) :: A 0 v0 ++ (R ++ [Asn.obj w.heap.size (.deferred (some []))])) := by
        refine List.Perm.cons _ ?_
        show (Asn.obj w.heap.size (.deferred (some [])) :: (A 0 v0 ++ R)).Perm (A 0 v0 ++ (R ++ [Asn.obj w.heap.size (.deferred (some []))]))
        rw [← List.append_assoc]
        exact (List.perm_append_singleton _ _).symm
      obtain ⟨V, W, hV, hW, hVW, hU'⟩ := (s2.perm p).split
      exact ⟨_, V, W, hU', hVW, hV.range, ⟨v0, hV⟩, hW⟩
    · rintro e w' ⟨v, rfl, _, hb', U', f, V, hU', hd, hf, ⟨v', hv'⟩, hs'⟩
      have hv' : Sep w0.heap.size w' (.obj (w.heap.size + 1) (.loop { state := .ready, pending := none, fn, tmps := a.tmps, params := ps, assign := asg, body, defers := w.heap.size }) :: A n v') f := hv'
      have hall := hv'.append hs' hd
      obtain ⟨hl, hlo, _⟩ := nJ hall
      refine ⟨none, _, run_endLoop hl (by simp), ?_⟩
      have hall2 := mJ (o' := .loop { state := .exhausted, pending := none, fn, tmps := a.tmps, params := ps, assign := asg, body, defers := w.heap.size }) hall
      refine k _ _ w.heap.size v' [.obj (w.heap.size + 1) (.loop { state := .exhausted, pending := none, fn, tmps := a.tmps, params := ps, assign := asg, body, defers := w.heap.size })] (by show _ ++ a.defers = _; rw [h.defers]; rfl) ⟨h.size, rfl, h.regs, jU hb' hlo, _, hall2.perm ?_⟩
      show (Asn.obj (w.heap.size + 1) _ :: (A n v' ++ (R ++ [Asn.obj w.heap.size (.deferred (some []))]))).Perm (Asn.obj w.heap.size (.deferred (some [])) :: (A n v' ++ R ++ [_]))
      rw [← List.append_assoc (A n v')]
      refine (List.Perm.cons _ (List.perm_append_singleton _ _)).trans ((List.Perm.swap _ _ _).trans (List.Perm.cons _ (List.perm_append_singleton _ _).symm))
theorem enterM {f : FuncId} {fn : Func} {c : Code} {args : List Value} {R : Ending → World → Prop} (hf : P.funcs[f]? = some fn) (hb : fn.body = some c) (hN : args.length + (fn.ntmps - args.length) = N)
    (h : ∀ a, St w N (zipF 0 args) [] a w → c.wp P (bodyPostM Fence.wide 0 P fn R) a w) : Calls P f args.toArray w R :=
  callsIn_wide.1 (callsIn_of_wp_marks (n := 0) hf hb trivial (wpIn_wide.2 (h _ (St.init w args fn.ntmps hN fun _ _ hv => (iO hv).2))))
theorem rdM {d : Nat} {op : Op} {ty : TypeId} {pos : String} {aft : Array Edge} (h : St w0 N F L (nd a) w) (i : Nat) {r : Asn} {v : Value} (hi : L[i]? = some r) (hs : Rd P w0 F [r] op v) (hd : Nat.blt d N = true) (k : ∀ a' w, a'.defers = a.defers → St w0 N ((d, v) :: F) L (nd a') w → wpList P ops Q rest a' w) :
    wpList P ops Q (⟨some d, op, ty, pos, aft, none⟩ :: rest) a w :=
  wpList_plain rfl fun K hK => by
    obtain ⟨U, hU⟩ := h.sep
    have e : a.eval = (nd a).eval := rfl
    unfold Oper.wp
    rw [e, (hs.of_mem hi) _ (nd a) w U rfl h.agr h.bel hU]
    exact hK _ _ (k _ _ rfl (h.put hd v h.bel hU))
theorem retM {fn : Func} {R : Ending → World → Prop} {D : Nat} {rs : List ResultVar} {vs : List Value} {v : Value} (hd : a.defers = [{ target := .collected D, args := #[] }]) (h : St w0 N F (.obj D (.deferred (some [])) :: L) (nd a) w) (hrs : fn.results = rs.toArray)
    (hr : ∀ w, Res P w F (.obj D (.deferred none) :: L) rs vs) (hv : oT vs = v) (hR : ∀ w, St w0 N F (.obj D (.deferred none) :: L) (nd a) w → R (.returned v) w) : bodyPostM Fence.wide 0 P fn R .ret a w := by
  show LeavesInM Fence.wide 0 P fn a.tmps R a.defers .returning w
  obtain ⟨U, hU⟩ := h.sep
  obtain ⟨hl, hlo, _⟩ := nJ hU
  rw [hd]
  have st : St w0 N F (.obj D (.deferred none) :: L) (nd a) (w.putObj D (.deferred none)) := ⟨h.size, h.defers, h.regs, jU h.bel hlo, _, mJ hU⟩
  refine ⟨by simp, .inl ⟨D, _, rfl, run_takeDeferred hl, ?_⟩⟩
  exact ⟨v, jk hrs (hr _) st hv, hR _ st⟩
end
end Go.Sx
namespace Go.Sx
open Go Go.RowKit Go.Proofs
set_option maxRecDepth 100000
structure Pnt where
  x : GQ
  y : GQ
  deriving DecidableEq
structure Smp where
  t : GQ
  p : Pnt
  deriving DecidableEq
structure RPt where
  x : GR
  y : GR
  deriving DecidableEq
def cPt (x : Pnt) : List Value := cQ x.x ++ cQ x.y
def cSm (x : Smp) : List Value := cQ x.t ++ cPt x.p
def cRP (x : RPt) : List Value := cR x.x ++ cR x.y
def vPt (x : Pnt) : Value := .agg (cPt x).toArray
def vSm (x : Smp) : Value := .agg (cSm x).toArray
def vRP (x : RPt) : Value := .agg (cRP x).toArray
instance yJ1_21 : Inhabited Pnt := ⟨⟨oQ, oQ⟩⟩
instance yJ1_22 : Inhabited Smp := ⟨⟨oQ, ⟨oQ, oQ⟩⟩⟩
theorem onePt (x : Pnt) : ∀ c ∈ cPt x, c.oneCell' = true := cw (q7 _) (q7 _)
instance yJ1_23 : Cod Pnt := ⟨cPt, 8, fun _ => rfl, onePt, by decide⟩
instance yJ1_24 : Cod Smp := ⟨cSm, 12, fun _ => rfl, fun x => cw (q7 _) (onePt _), by decide⟩
instance yJ1_25 : Cod RPt := ⟨cRP, 18, fun _ => rfl, fun x => cw (q6 _) (q6 _), by decide⟩
instance yJ1_26 (x : Pnt) : Cel (vPt x) (cPt x) := ⟨rfl⟩
instance yJ1_27 (x : Smp) : Cel (vSm x) (cSm x) := ⟨rfl⟩
instance yJ1_28 (x : RPt) : Cel (vRP x) (cRP x) := ⟨rfl⟩
instance yJ1_29 (x : Pnt) : Dc (cPt x) (vPt x) := ⟨rfl⟩
instance yJ1_30 (x : Smp) : Dc (cSm x) (vSm x) := ⟨rfl⟩
instance yJ1_31 (x : RPt) : Dc (cRP x) (vRP x) := ⟨rfl⟩
def SzPt (k : Nat) (x : Pnt) : Prop := SzQ k x.x ∧ SzQ k x.y
def SzSm (k : Nat) (x : Smp) : Prop := SzQ k x.t ∧ SzPt k x.p
instance yJ1_32 : Sz Tryz.prog 29 8 := ⟨Tryz.sizeOf29⟩
instance yJ1_33 : Sz Tryz.prog 31 12 := ⟨Tryz.sizeOf31⟩
instance yJ1_34 : Sz Tryz.prog 88 36 := ⟨Tryz.sizeOf88⟩
instance yJ1_35 : Sz Tryz.prog 247 18 := ⟨Tryz.sizeOf247⟩
instance yJ1_36 : Sz Tryz.prog 66 1 := ⟨Tryz.sizeOf66⟩
instance yJ1_37 : Ag Tryz.prog 66 false := ⟨Tryz.isAgg66⟩
instance yJ1_38 : Sz Tryz.prog 33 1 := ⟨Tryz.sizeOf33⟩
instance yJ1_39 : Ag Tryz.prog 33 false := ⟨Tryz.isAgg33⟩
instance yJ1_40 : Sz Tryz.prog 23 1 := ⟨Tryz.sizeOf23⟩
instance yJ1_41 : Ag Tryz.prog 23 false := ⟨Tryz.isAgg23⟩
instance yJ1_42 : Ag Tryz.prog 29 true := ⟨Tryz.isAgg29⟩
instance yJ1_43 : Ag Tryz.prog 31 true := ⟨Tryz.isAgg31⟩
instance yJ1_44 : Ag Tryz.prog 88 true := ⟨Tryz.isAgg88⟩
instance yJ1_45 : Ag Tryz.prog 247 true := ⟨Tryz.isAgg247⟩
instance yJ1_46 : Un Tryz.prog 23 (.slice 31) := ⟨Tryz.runUnderlying23⟩
instance yJ1_47 : Un Tryz.prog 33 (.slice 88) := ⟨Tryz.runUnderlying33⟩
instance yJ1_48 : Fl Tryz.prog 29 0 27 0 := ⟨⟨_, _, uu29, rfl, rfl, rfl⟩⟩
instance yJ1_49 : Fl Tryz.prog 29 1 27 4 := ⟨⟨_, _, uu29, rfl, rfl, rfl⟩⟩
instance yJ1_50 : Fl Tryz.prog 31 0 27 0 := ⟨⟨_, _, uu31, rfl, rfl, rfl⟩⟩
instance yJ1_51 : Fl Tryz.prog 31 1 29 4 := ⟨⟨_, _, uu31, rfl, rfl, rfl⟩⟩
instance yJ1_52 : Fl Tryz.prog 88 0 86 0 := ⟨⟨_, _, uu88, rfl, rfl, rfl⟩⟩
instance yJ1_53 : Fl Tryz.prog 88 1 79 20 := ⟨⟨_, _, uu88, rfl, rfl, rfl⟩⟩
instance yJ1_54 : Fl Tryz.prog 247 0 71 0 := ⟨⟨_, _, uu247, rfl, rfl, rfl⟩⟩
instance yJ1_55 : Fl Tryz.prog 247 1 71 9 := ⟨⟨_, _, uu247, rfl, rfl, rfl⟩⟩
instance yJ1_56 : Cf Tryz.prog 3 := ⟨Tryz.call3⟩
instance yJ1_57 : Cf Tryz.prog 4 := ⟨Tryz.call4⟩
instance yJ1_58 : Cf Tryz.prog 6 := ⟨Tryz.call6⟩
instance yJ1_59 : Cf Tryz.prog 7 := ⟨Tryz.call7⟩
instance yJ1_60 : Cf Tryz.prog 9 := ⟨Tryz.call9⟩
instance yJ1_61 : Cf Tryz.prog 10 := ⟨Tryz.call10⟩
instance yJ1_62 : Cf Tryz.prog 13 := ⟨Tryz.call13⟩
instance yJ1_63 : Cf Tryz.prog 14 := ⟨Tryz.call14⟩
instance yJ1_64 : Cf Tryz.prog 15 := ⟨Tryz.call15⟩
instance yJ1_65 : Cf Tryz.prog 16 := ⟨Tryz.call16⟩
instance yJ1_66 : Cf Tryz.prog 17 := ⟨Tryz.call17⟩
instance yJ1_67 : Cf Tryz.prog 18 := ⟨Tryz.call18⟩
instance yJ1_68 : Cf Tryz.prog 19 := ⟨Tryz.call19⟩
instance yJ1_69 : Cf Tryz.prog 23 := ⟨Tryz.call23⟩
instance yJ1_70 : Cf Tryz.prog 40 := ⟨Tryz.call40⟩
instance yJ1_71 : Cf Tryz.prog 41 := ⟨Tryz.call41⟩
instance yJ1_72 : Cf Tryz.prog 42 := ⟨Tryz.call42⟩
instance yJ1_73 : Cf Tryz.prog 43 := ⟨Tryz.call43⟩
instance yJ1_74 : Cf Tryz.prog 45 := ⟨Tryz.call45⟩
instance yJ1_75 : Cf Tryz.prog 46 := ⟨Tryz.call46⟩
instance yJ1_76 : Cf Tryz.prog 47 := ⟨Tryz.call47⟩
instance yJ1_77 : Cf Tryz.prog 48 := ⟨Tryz.call48⟩
instance yJ1_78 : Cf Tryz.prog 49 := ⟨Tryz.call49⟩
instance yJ1_79 : Cf Tryz.prog 50 := ⟨Tryz.call50⟩
instance yJ1_80 : Cf Tryz.prog 51 := ⟨Tryz.call51⟩
instance yJ1_81 : Cf Tryz.prog 52 := ⟨Tryz.call52⟩
instance yJ1_82 : Cf Tryz.prog 53 := ⟨Tryz.call53⟩
instance yJ1_83 : Cf Tryz.prog 54 := ⟨Tryz.call54⟩
instance yJ1_84 : Cf Tryz.prog 64 := ⟨Tryz.call64⟩
instance yJ1_85 : Cf Tryz.prog 65 := ⟨Tryz.call65⟩
instance yJ1_86 : Cf Tryz.prog 66 := ⟨Tryz.call66⟩
instance yJ1_87 : Cf Tryz.prog 67 := ⟨Tryz.call67⟩
instance yJ1_88 : Cf Tryz.prog 68 := ⟨Tryz.call68⟩
instance yJ1_89 : Cf Tryz.prog 69 := ⟨Tryz.call69⟩
instance yJ1_90 : Cf Tryz.prog 70 := ⟨Tryz.call70⟩
instance yJ1_91 : Cf Tryz.prog 71 := ⟨Tryz.call71⟩
instance yJ1_92 : Cf Tryz.prog 72 := ⟨Tryz.call72⟩
instance yJ1_93 : Cf Tryz.prog 73 := ⟨Tryz.call73⟩
instance yJ1_94 : Cf Tryz.prog 74 := ⟨Tryz.call74⟩
instance yJ1_95 : Cf Tryz.prog 78 := ⟨Tryz.call78⟩
instance yJ1_96 : Cf Tryz.prog 79 := ⟨Tryz.call79⟩
instance yJ1_97 : Cf Tryz.prog 80 := ⟨Tryz.call80⟩
instance yJ1_98 : Cf Tryz.prog 81 := ⟨Tryz.call81⟩
instance yJ1_99 : Cf Tryz.prog 82 := ⟨Tryz.call82⟩
instance yJ1_100 : Cf Tryz.prog 83 := ⟨Tryz.call83⟩
instance yJ1_101 : Cf Tryz.prog 84 := ⟨Tryz.call84⟩
instance yJ1_102 : Cf Tryz.prog 89 := ⟨Tryz.call89⟩
instance yJ1_103 : Cf Tryz.prog 90 := ⟨Tryz.call90⟩
instance yJ1_104 : Cf Tryz.prog 91 := ⟨Tryz.call91⟩
instance yJ1_105 : Cf Tryz.prog 99 := ⟨Tryz.call99⟩
instance yJ1_106 : Cf Tryz.prog 100 := ⟨Tryz.call100⟩
instance yJ1_107 : Cf Tryz.prog 102 := ⟨Tryz.call102⟩
instance yJ1_108 : Cf Tryz.prog 103 := ⟨Tryz.call103⟩
instance yJ1_109 : Cf Tryz.prog 132 := ⟨Tryz.call132⟩
instance yJ1_110 : Cf Tryz.prog 133 := ⟨Tryz.call133⟩
instance yJ1_111 : Cf Tryz.prog 138 := ⟨Tryz.call138⟩
instance yJ1_112 : Cf Tryz.prog 139 := ⟨Tryz.call139⟩
instance yJ1_113 : Cf Tryz.prog 140 := ⟨Tryz.call140⟩
instance yJ1_114 : Cf Tryz.prog 141 := ⟨Tryz.call141⟩
instance yJ1_115 : Cf Tryz.prog 142 := ⟨Tryz.call142⟩
instance yJ1_116 : Cf Tryz.prog 143 := ⟨Tryz.call143⟩
instance yJ1_117 : Cf Tryz.prog 144 := ⟨Tryz.call144⟩
instance yJ1_118 : Cf Tryz.prog 145 := ⟨Tryz.call145⟩
instance yJ1_119 : Cf Tryz.prog 146 := ⟨Tryz.call146⟩
instance yJ1_120 : Cf Tryz.prog 147 := ⟨Tryz.call147⟩
instance yJ1_121 : Cf Tryz.prog 162 := ⟨Tryz.call162⟩
instance yJ1_122 : Cf Tryz.prog 163 := ⟨Tryz.call163⟩
instance yJ1_123 : Cf Tryz.prog 164 := ⟨Tryz.call164⟩
instance yJ1_124 : Cf Tryz.prog 165 := ⟨Tryz.call165⟩
instance yJ1_125 : Cf Tryz.prog 166 := ⟨Tryz.call166⟩
instance yJ1_126 : Cf Tryz.prog 167 := ⟨Tryz.call167⟩
instance yJ1_127 : Cf Tryz.prog 168 := ⟨Tryz.call168⟩
instance yJ1_128 : Cf Tryz.prog 169 := ⟨Tryz.call169⟩
instance yJ1_129 : Cf Tryz.prog 170 := ⟨Tryz.call170⟩
instance yJ1_130 : Cf Tryz.prog 171 := ⟨Tryz.call171⟩
instance yJ1_131 : Cf Tryz.prog 172 := ⟨Tryz.call172⟩
instance yJ1_132 : Cf Tryz.prog 173 := ⟨Tryz.call173⟩
instance yJ1_133 : Cf Tryz.prog 174 := ⟨Tryz.call174⟩
instance yJ1_134 : Cf Tryz.prog 175 := ⟨Tryz.call175⟩
instance yJ1_135 : Cf Tryz.prog 176 := ⟨Tryz.call176⟩
instance yJ1_136 : Cf Tryz.prog 177 := ⟨Tryz.call177⟩
instance yJ1_137 : Cf Tryz.prog 182 := ⟨Tryz.call182⟩
instance yJ1_138 : Cf Tryz.prog 183 := ⟨Tryz.call183⟩
instance yJ1_139 : Cf Tryz.prog 184 := ⟨Tryz.call184⟩
instance yJ1_140 : Cf Tryz.prog 185 := ⟨Tryz.call185⟩
instance yJ1_141 : Cf Tryz.prog 186 := ⟨Tryz.call186⟩
instance yJ1_142 : Cf Tryz.prog 188 := ⟨Tryz.call188⟩
instance yJ1_143 : Cf Tryz.prog 189 := ⟨Tryz.call189⟩
instance yJ1_144 : Cf Tryz.prog 197 := ⟨Tryz.call197⟩
instance yJ1_145 : Cf Tryz.prog 198 := ⟨Tryz.call198⟩
instance yJ1_146 : Cf Tryz.prog 199 := ⟨Tryz.call199⟩
instance yJ1_147 : Cf Tryz.prog 200 := ⟨Tryz.call200⟩
instance yJ1_148 : Cf Tryz.prog 217 := ⟨Tryz.call217⟩
instance yJ1_149 : Cf Tryz.prog 218 := ⟨Tryz.call218⟩
instance yJ1_150 : Cf Tryz.prog 220 := ⟨Tryz.call220⟩
instance yJ1_151 : Cf Tryz.prog 221 := ⟨Tryz.call221⟩
instance yJ1_152 : Cf Tryz.prog 222 := ⟨Tryz.call222⟩
instance yJ1_153 : Cf Tryz.prog 233 := ⟨Tryz.call233⟩
instance yJ1_154 : Cf Tryz.prog 234 := ⟨Tryz.call234⟩
instance yJ1_155 : Cf Tryz.prog 235 := ⟨Tryz.call235⟩
instance yJ1_156 : Cf Tryz.prog 236 := ⟨Tryz.call236⟩
instance yJ1_157 : Cf Tryz.prog 237 := ⟨Tryz.call237⟩
instance yJ1_158 : Cf Tryz.prog 238 := ⟨Tryz.call238⟩
instance yJ1_159 : Cf Tryz.prog 239 := ⟨Tryz.call239⟩
instance yJ1_160 : Cf Tryz.prog 240 := ⟨Tryz.call240⟩
instance yJ1_161 : Cf Tryz.prog 241 := ⟨Tryz.call241⟩
instance yJ1_162 : Cf Tryz.prog 242 := ⟨Tryz.call242⟩
instance yJ1_163 : Cf Tryz.prog 248 := ⟨Tryz.call248⟩
instance yJ1_164 : Cf Tryz.prog 254 := ⟨Tryz.call254⟩
instance yJ1_165 : Cf Tryz.prog 277 := ⟨Tryz.call277⟩
instance yJ1_166 : Cf Tryz.prog 298 := ⟨Tryz.call298⟩
instance yJ1_167 : Cf Tryz.prog 299 := ⟨Tryz.call299⟩
instance yJ1_168 : Cf Tryz.prog 300 := ⟨Tryz.call300⟩
instance yJ1_169 : Cf Tryz.prog 301 := ⟨Tryz.call301⟩
instance yJ1_170 : Cf Tryz.prog 302 := ⟨Tryz.call302⟩
instance yJ1_171 : Cf Tryz.prog 303 := ⟨Tryz.call303⟩
instance yJ1_172 : Cf Tryz.prog 304 := ⟨Tryz.call304⟩
instance yJ1_173 : Cf Tryz.prog 313 := ⟨Tryz.call313⟩
instance yJ1_174 : Cf Tryz.prog 315 := ⟨Tryz.call315⟩
instance yJ1_175 : Cf Tryz.prog 317 := ⟨Tryz.call317⟩
instance yJ1_176 : Cf Tryz.prog 320 := ⟨Tryz.call320⟩
instance yJ1_177 : Cf Tryz.prog 321 := ⟨Tryz.call321⟩
instance yJ1_178 : Cf Tryz.prog 331 := ⟨Tryz.call331⟩
instance yJ1_179 : Cf Tryz.prog 332 := ⟨Tryz.call332⟩
instance yJ1_180 : Cf Tryz.prog 334 := ⟨Tryz.call334⟩
instance yJ1_181 : Cf Tryz.prog 341 := ⟨Tryz.call341⟩
instance yJ1_182 : Cf Tryz.prog 342 := ⟨Tryz.call342⟩
def oUN : U Ln := ⟨⟨⟨oQ, oQ, false⟩, ⟨oQ, oQ, false⟩, false, false⟩, ⟨oQ, oQ, oQ, oQ⟩⟩
instance yJ1_183 : Zc Tryz.prog 29 (cPt ⟨oQ, oQ⟩) := ⟨⟨_, vv29, rfl⟩⟩
instance yJ1_184 : Zc Tryz.prog 31 (cSm ⟨oQ, ⟨oQ, oQ⟩⟩) := ⟨⟨_, vv31, rfl⟩⟩
instance yJ1_185 : Zc Tryz.prog 88 (cUN oUN) := ⟨⟨_, vv88, rfl⟩⟩
instance yJ1_186 : Zc Tryz.prog 247 (cRP ⟨⟨oQ, oQ, false⟩, ⟨oQ, oQ, false⟩⟩) := ⟨⟨_, vv247, rfl⟩⟩
instance yJ1_187 : Zc Tryz.prog 66 [.slice none 0 0] := ⟨⟨_, Tryz.zeroValue66, rfl⟩⟩
instance yJ1_188 : Sh Tryz.prog 29 Pnt vPt := ⟨trivial⟩
instance yJ1_189 : Sh Tryz.prog 31 Smp vSm := ⟨trivial⟩
instance yJ1_190 : Sh Tryz.prog 88 (U Ln) vUN := ⟨trivial⟩
instance yJ1_191 : Sh Tryz.prog 247 RPt vRP := ⟨trivial⟩
theorem bld88 : BuildF Tryz.prog 88 (cUN oUN) [(0, 20), (20, 16)] := BuildF.of vv88 rfl uu88 (by intro w; simp [Tryz.sizeOf86, Tryz.sizeOf79])
theorem bld29 : BuildF Tryz.prog 29 (cPt ⟨oQ, oQ⟩) [(0, 4), (4, 4)] := BuildF.of vv29 rfl uu29 (by intro w; simp [zz27])
theorem bld31 : BuildF Tryz.prog 31 (cSm ⟨oQ, ⟨oQ, oQ⟩⟩) [(0, 4), (4, 8)] := BuildF.of vv31 rfl uu31 (by intro w; simp [zz27, Tryz.sizeOf29])
theorem bld247 : BuildF Tryz.prog 247 (cRP ⟨⟨oQ, oQ, false⟩, ⟨oQ, oQ, false⟩⟩) [(0, 9), (9, 9)] := BuildF.of vv247 rfl uu247 (by intro w; simp [zz71])
instance yJ1_192 (x : Iv) (f : Ln) : Bu Tryz.prog 88 [0, 1] [vV x, vN f] (vUN (⟨x, f⟩ : U Ln)) := Bu.of bld88 rfl rfl
instance yJ1_193 (x : Iv) (f : Ln) : Bu Tryz.prog 199 [0, 1] [vV x, vN f] (vUN (⟨x, f⟩ : U Ln)) := Bu.of jS rfl rfl
instance yJ1_194 (x y : GQ) : Bu Tryz.prog 29 [0, 1] [vQ x, vQ y] (vPt ⟨x, y⟩) := Bu.of bld29 rfl rfl
instance yJ1_195 (x : GQ) (p : Pnt) : Bu Tryz.prog 31 [0, 1] [vQ x, vPt p] (vSm ⟨x, p⟩) := Bu.of bld31 rfl rfl
instance yJ1_196 (x y : GR) : Bu Tryz.prog 247 [0, 1] [vR x, vR y] (vRP ⟨x, y⟩) := Bu.of bld247 rfl rfl
instance yJ1_197 (a b c d : GQ) : Bu Tryz.prog 79 [0, 1, 2, 3] [vQ a, vQ b, vQ c, vQ d] (vN ⟨a, b, c, d⟩) := Bu.of tK rfl rfl
instance yJ1_198 (a c : GQ) : Bu Tryz.prog 79 [0, 2] [vQ a, vQ c] (vN ⟨a, oQ, c, oQ⟩) := Bu.of tK rfl rfl
instance yJ1_199 (a c d : GQ) : Bu Tryz.prog 79 [0, 2, 3] [vQ a, vQ c, vQ d] (vN ⟨a, oQ, c, d⟩) := Bu.of tK rfl rfl
instance yJ1_200 (x y : GR) : Bu Tryz.prog 86 [0, 1] [vR x, vR y] (vV ⟨x, y, false, false⟩) := Bu.of nj rfl rfl
instance yJ1_201 (x y : GR) (b : Bool) : Bu Tryz.prog 86 [0, 1, 2] [vR x, vR y, .bool b] (vV ⟨x, y, b, false⟩) := Bu.of nj rfl rfl
instance yJ1_202 : Bu Tryz.prog 80 [] [] (.agg #[]) := Bu.of bld80 rfl rfl
instance yJ1_203 : Ie Tryz.prog 80 := ⟨fun hx => sc Tryz.runUnderlying80 rfl hx⟩
theorem oW : SlT Tryz.prog 33 88 36 408 (cUN oUN) := ⟨Tryz.underlying33, Tryz.t88, _, Tryz.type88, rfl, rfl, rfl, rfl, rfl, by decide, by decide⟩
theorem slt23 : SlT Tryz.prog 23 31 12 144 (cSm ⟨oQ, ⟨oQ, oQ⟩⟩) := ⟨Tryz.underlying23, Tryz.t31, _, Tryz.type31, rfl, rfl, rfl, rfl, rfl, by decide, by decide⟩
section
variable {P : Program} {w0 w : World} {N : Nat} {F : List (Nat × Value)} {L : List Asn} {a : Act} {fn : Func} {R : Ending → World → Prop}
theorem pj {α : Type} [Cod α] {ol : List Oper} {H : List Hist} {ξ : Nat → Value} {G : (Nat → Value) → List (Nat × Value)} {st et bytes i : Nat} {zero : List Value} {x : Operand} {v : Value} {dst : Option Tmp} {ty : TypeId} {pos : String} {aft : Array Edge} (e0 : Nat) (u : α) (hT : SlT P st et (Cod.n α) bytes zero) (hx : evs (eM (G ξ) (dF (.buildSlice st 1 #[(0, x)]))) [x] = some [v]) (hv : [v].map (fun v => v.cells.toList) = [u].map Cod.enc)
    (h1 : cp H [e0] i ξ = [.emp] := by rfl) (h2 : ∀ v, cp H [e0] (i + 1) (upd ξ i v) = [.row et v [u]] := by (intro v; simp only [cp, bp] <;> rfl)) : ObS P w0 ol H G ξ i ⟨dst, .buildSlice st 1 #[(0, x)], ty, pos, aft, none⟩ ⟨.nd (.one i fun v => NN v 1), [e0]⟩ :=
  lW (ψ := fun v => NN v 1) (B := fun v => [.row et v [u]]) [.emp] h1 (fun v _ => h2 v) (fun v hv => by simpa [DF.one, bp] using hv) (iz (cY (α := α) (xs := [x]) [u] hT hx hv rfl (by decide)))
theorem ob_ap {α : Type} [Cod α] {ol : List Oper} {H : List Hist} {ξ : Nat → Value} {G : (Nat → Value) → List (Nat × Value)} {st et bytes i j : Nat} {zero : List Value} {x y : Operand} {sv : Value} {dst : Option Tmp} {ty : TypeId} {pos : String} {aft : Array Edge} (eo e0 : Nat) {xs : List α} {u : α} (hT : SlT P st et (Cod.n α) bytes zero) (hx : ev (eM (G ξ) (dF (.call ⟨.builtin .append, #[x, y], #[st, st]⟩))) x = some sv) (hy : ev (eM (G ξ) (dF (.call ⟨.builtin .append, #[x, y], #[st, st]⟩))) y = some (ξ j)) (hl : xs.length + 1 ≤ 34359738368)
    (h1 : cp H [eo, e0] i ξ = [.row et sv xs, .row et (ξ j) [u]]) (h2 : ∀ v, cp H [eo, e0] (i + 1) (upd ξ i v) = [.row et v (xs ++ [u]), .row et (ξ j) [u]]) : ObS P w0 ol H G ξ i ⟨dst, .call ⟨.builtin .append, #[x, y], #[st, st]⟩, ty, pos, aft, none⟩ ⟨.nd (.con True), [eo, e0]⟩ :=
  lW (B := fun v => [.row et v (xs ++ [u]), .row et (ξ j) [u]]) [.row et sv xs, .row et (ξ j) [u]] h1 (fun v _ => h2 v) (fun _ _ => trivial) (fp (xs := xs) (ys := [u]) hT (fun w hs => (row_view hs 0 rfl)) hx hy hl)
theorem ob_as {ol : List Oper} {H : List Hist} {ξ : Nat → Value} {G : (Nat → Value) → List (Nat × Value)} {i j : Nat} {x : Operand} {dst : Option Tmp} {ty : TypeId} {pos : String} {aft : Array Edge} (hij : j ≠ i) (hx : ev (eM (G ξ) (dF (.assign x))) x = some (ξ j)) : ObS P w0 ol H G ξ i ⟨dst, .assign x, ty, pos, aft, none⟩ ⟨.nd (.two i j fun a b => a = b), []⟩ :=
  ob_n (φ := .two i j fun a b => a = b) (v := ξ j) [] rfl rfl (by show upd ξ i (ξ j) i = upd ξ i (ξ j) j; rw [bp, kL hij]) (az hx)
theorem rtc {t ty b n e : Nat} {cs : List Value} {v : Value} (i : Nat) (h : St w0 N F L a w) (hR : R (.returned v) w) (hrs : fn.results = [.cell t ty].toArray := by rfl) (ha : Ag P ty true := by infer_instance) (hz : Sz P ty n := by infer_instance) (hx : look F t = some (ptr b 0) := by rfl) (hi : L[i]? = some (Asn.blk b cs e) := by rfl)
    (h0 : Nat.blt 0 n = true := by rfl) (hl : ((cs.drop 0).take n).length = n := by rfl) (hv : mkv true ((cs.drop 0).take n) = v := by rfl) : bodyPost P fn R .ret a w :=
  ret h hrs (.cell hx hi ha.h hz.h h0 hl hv .nil) rfl hR
theorem rtc2 {t ty b n e u : Nat} {cs : List Value} {v x : Value} (i : Nat) (h : St w0 N F L a w) (hR : R (.returned (.tuple [v, x].toArray)) w) (hrs : fn.results = [.cell t ty, .tmp u].toArray := by rfl) (ha : Ag P ty true := by infer_instance) (hz : Sz P ty n := by infer_instance) (hx : look F t = some (ptr b 0) := by rfl) (hi : L[i]? = some (Asn.blk b cs e) := by rfl)
    (hu : look F u = some x := by rfl) (h0 : Nat.blt 0 n = true := by rfl) (hl : ((cs.drop 0).take n).length = n := by rfl) (hv : mkv true ((cs.drop 0).take n) = v := by rfl) : bodyPost P fn R .ret a w :=
  ret h hrs (.cell hx hi ha.h hz.h h0 hl hv (.tmp hu .nil)) rfl hR
end
end Go.Sx
namespace Go.Sx
theorem tm_sz [K : Key] {x : GR} (h : Tm x) : SzR 36 x := h.szr
end Go.Sx
