/- A part of the proof of movingpointRestricts. -/
import Derived.Test.YtbenbmdkhcfcfaaGreatDoorL8
import Derived.Test.YtbenbmdkhcfcfaaGreatDoorM3
import Derived.Test.YtbenbmdkhcfcfaaGreatDoorM2
import Derived.Test.YtbenbmdkhcfcfaaGreatDoorL9
import Derived.Shelf.SlSortCmp.WholeK
import Derived.Test.YtbenbmdkhcfcfaaGreatDoorL1
import Derived.RangeFuncRecord
set_option linter.unusedVariables false
set_option linter.unusedSimpArgs false
open Go.Proofs.Tryz renaming runUnderlying55 → uu55, isAgg71 → aa71, sizeOf71 → zz71, isAgg4 → aa4, underlying4 → nn4, isAgg25 → aa25, sizeOf25 → zz25
namespace Go.Sx
open Go Go.RowKit Go.Proofs
set_option maxRecDepth 100000
set_option maxHeartbeats 40000000
attribute [local irreducible] Code.wp wpList Rd Step ObS Ent
attribute [local irreducible] am aQ ah aw aD bU
theorem lS (w : World) : (method (Tryz.prog.types.size + Made.depth) 55 (.agg #[]) "Equal").run Tryz.prog w = .ok (367, .agg #[]) w := jM (P := Tryz.prog) (T := 55) Tryz.type55 (by kernel_rfl) uu55 w
instance yM4_1 : Mt Tryz.prog 55 (.agg #[]) "Equal" 367 := ⟨lS⟩
theorem kH (w : World) : (nilAhead (Tryz.prog.types.size + Made.depth) 55 (.agg #[]) "Equal").run Tryz.prog w = .ok (some false) w := iz (P := Tryz.prog) (T := 55) (f := 367) Tryz.type55 (by kernel_rfl) uu55 w
instance yM4_2 : Nl Tryz.prog 55 (.agg #[]) "Equal" := ⟨kH⟩
theorem kK (w : World) : (method (Tryz.prog.types.size + Made.depth) 55 (.agg #[]) "Reduce").run Tryz.prog w = .ok (368, .agg #[]) w := jM (P := Tryz.prog) (T := 55) Tryz.type55 (by kernel_rfl) uu55 w
instance yM4_3 : Mt Tryz.prog 55 (.agg #[]) "Reduce" 368 := ⟨kK⟩
theorem kd (w : World) : (nilAhead (Tryz.prog.types.size + Made.depth) 55 (.agg #[]) "Reduce").run Tryz.prog w = .ok (some false) w := iz (P := Tryz.prog) (T := 55) (f := 368) Tryz.type55 (by kernel_rfl) uu55 w
instance yM4_4 : Nl Tryz.prog 55 (.agg #[]) "Reduce" := ⟨kd⟩
theorem mO (w : World) : (method (Tryz.prog.types.size + Made.depth) 55 (.agg #[]) "Same").run Tryz.prog w = .ok (369, .agg #[]) w := jM (P := Tryz.prog) (T := 55) Tryz.type55 (by kernel_rfl) uu55 w
instance yM4_5 : Mt Tryz.prog 55 (.agg #[]) "Same" 369 := ⟨mO⟩
theorem lR (w : World) : (nilAhead (Tryz.prog.types.size + Made.depth) 55 (.agg #[]) "Same").run Tryz.prog w = .ok (some false) w := iz (P := Tryz.prog) (T := 55) (f := 369) Tryz.type55 (by kernel_rfl) uu55 w
instance yM4_6 : Nl Tryz.prog 55 (.agg #[]) "Same" := ⟨lR⟩
end Go.Sx
namespace Go.Sx
open Go Go.RowKit Go.Proofs
set_option maxRecDepth 100000
set_option maxHeartbeats 40000000
attribute [local irreducible] Code.wp wpList Rd Step ObS Ent
attribute [local irreducible] am aQ ah aw aD bU
theorem eqi86 : EqIn Tryz.prog 5 86 vV := eqS (c := cV) (fun _ => rfl) Tryz.underlying86 Tryz.stoodInHeld86 fun d x y w hd => by
 refine Eq.trans (eqF (by decide) (dg aa71 zz71 (v := vR (x.lo)) rfl w) (dg aa71 zz71 (v := vR (y.lo)) rfl w) (eqi71 d _ _ w og) (eqF (by decide) (dg aa71 zz71 (v := vR (x.hi)) rfl w) (dg aa71 zz71 (v := vR (y.hi)) rfl w) (eqi71 d _ _ w og) (eqF (by decide) (dY aa4 rfl w) (dY aa4 rfl w) (eqB nn4 d og _ _ w) (eqF (by decide) (dY aa4 rfl w) (dY aa4 rfl w) (eqB nn4 d og _ _ w) eqF0)))) ?_
 congr 1
 rw [decide_eq_decide]
 cases x; cases y; simp
theorem eqp86 : EqP Tryz.prog 86 vV := EqIn.p (k := 5) rfl (c := fun x => (cV x).toArray) (fun _ => rfl) Tryz.eqGuardType86 eqi86
instance yM4_7 : Ep Tryz.prog 86 Iv inferInstance vV := ⟨eqp86⟩
instance yM4_8 : Mt Tryz.prog 55 (.agg #[]) "Equal" 367 := ⟨lS⟩
instance yM4_9 : Nl Tryz.prog 55 (.agg #[]) "Equal" := ⟨kH⟩
end Go.Sx
namespace Go.Sx
open Go Go.RowKit Go.Proofs
set_option maxRecDepth 100000
set_option maxHeartbeats 40000000
attribute [local irreducible] Code.wp wpList Rd Step ObS Ent
attribute [local irreducible] am aQ ah aw aD bU
instance yM4_10 : Mt Tryz.prog 55 (.agg #[]) "Reduce" 368 := ⟨kK⟩
instance yM4_11 : Nl Tryz.prog 55 (.agg #[]) "Reduce" := ⟨kd⟩
instance yM4_12 : Mt Tryz.prog 55 (.agg #[]) "Same" 369 := ⟨mO⟩
instance yM4_13 : Nl Tryz.prog 55 (.agg #[]) "Same" := ⟨lR⟩
end Go.Sx
namespace Go.Sx
end Go.Sx
namespace Go.Sx
open Go Go.RowKit Go.Proofs
set_option maxRecDepth 100000
set_option maxHeartbeats 40000000
attribute [local irreducible] Code.wp wpList Rd Step ObS Ent
attribute [local irreducible] am aQ ah aw aD bU
instance yM4_14 : Ep Tryz.prog 86 Iv inferInstance vV := ⟨eqp86⟩
end Go.Sx
namespace Go.Sx
open Go Go.RowKit Go.Proofs
set_option maxRecDepth 100000
set_option maxHeartbeats 40000000
attribute [local irreducible] Code.wp wpList Rd Step ObS Ent
attribute [local irreducible] am aQ ah aw aD bU
def eS (a : GI) : Int :=
 bif (((decide (a.mag = 0)) && a.neg) || ((!(decide (a.mag = 0))) && (((((md a.mag) : Nat) : Int)) == (((0 : Nat) : Int))))) then
  5
 else
  0
theorem jx (a : GI) (za : SzI 16 a) (w0 : World)  : Calls Tryz.prog 157 #[(vI a)] w0 (dA w0 (.int .i64 (eS a)) (True)) := by
 refine enter (N := 21) (args := [(vI a)]) Tryz.func157 rfl rfl ?_; intro ac h
 refine gz h <| (xb) fun b1 => (xg (hs := by exact fun hg => (Rd.of_nil (se Tryz.runUnderlying9 (fA rfl hg) rfl og)).step)) <| (ai) ?_ ?_ <;> clear h ac <;> intro ac wo h hc1
 ·
  have hq1 := hc1; try simp at hq1
  have hd : eS a = 5 := pt
  refine gz h <| (W) ?_; clear h ac wo; intro ac wo h
  exact (rt h) (h.retP (by rw [hd] <;> rfl) trivial)
 ·
  have hq1 := hc1; try simp at hq1
  have hd : eS a = 0 := pt
  refine gz h <| (W) ?_; clear h ac wo; intro ac wo h
  exact (rt h) (h.retP (by rw [hd] <;> rfl) trivial)
attribute [irreducible] eS
def cH (a : GQ) : Int :=
 bif (((eS a.num) != 0) || ((eS a.den) != 0)) then
  5
 else
  bif (decide (a.den = (⟨false, 0⟩ : GI))) then
   0
  else
   bif ((decide ((df a.den rational_one) ≤ 0)) || (!(decide ((aR a.num a.den) = rational_one)))) then
    5
   else
    0
theorem eE (a : GQ) (za : SzQ 16 a) (w0 : World)  : Calls Tryz.prog 62 #[(vQ a)] w0 (dA w0 (.int .i64 (cH a)) (True)) := by
  refine enter (N := 31) (args := [(vQ a)]) Tryz.func62 rfl rfl ?_; intro ac h
  refine gz h <| (xb) fun b1 => (xk (jx a.num za.1)) <| (xg (hs := by exact fun hg => fb enA (kk (jx a.den za.2)))) <| (ai) ?_ ?_ <;> clear h ac <;> intro ac wo h hc1
  ·
    have hq1 := hc1; try simp at hq1
    have hd : cH a = 5 := pt
    refine gz h <| (W) ?_; clear h ac wo; intro ac wo h
    exact (rt h) (h.retP (by rw [hd] <;> rfl) trivial)
  ·
    have hq1 := hc1; try simp at hq1
    refine gz h <| (xo (hs := by exact bG nD exs rfl (v := (vI (⟨false, 0⟩ : GI))) rfl)) <| (ai) ?_ ?_ <;> clear h ac wo <;> intro ac wo h hc2
    ·
      have hd2 := of_decide_eq_true hc2
      have hd : cH a = 0 := pt
      refine gz h <| (W) ?_; clear h ac wo; intro ac wo h
      exact (rt h) (h.retP (by rw [hd] <;> rfl) trivial)
    ·
      have hd2 := of_decide_eq_false hc2
      refine gz h <| (W) ?_; clear h ac wo; intro ac wo h
      have c1 := d9  40 og
      have s1 := an (c1 w0)
      have p3 := an ((fD a.den rational_one 16 og za.2 (fp s1 og)) w0)
      have s4 := an ((gY a.num a.den 16 og za.1 za.2) w0)
      have s5 := an ((d9  40 og ) w0)
      refine gz h <| (dr0 (hob := (oK (c1)) <| (oK (fD a.den rational_one 16 og za.2 (fp s1 og))) <| (oG (by exact fun hg => gY a.num a.den 16 og za.1 za.2)) <| (oG (by exact fun hg => d9  40 og)) <| oE)) <| (ai) ?_ ?_ <;> clear h ac wo <;> intro ac wo h hc3
      ·
        have hq3 := hc3; try simp at hq3
        have hd : cH a = 5 := pt
        refine gz h <| (W) ?_; clear h ac wo; intro ac wo h
        exact (rt h) (h.retP (by rw [hd] <;> rfl) trivial)
      ·
        have hq3 := hc3; try simp at hq3
        have hd : cH a = 0 := pt
        refine gz h <| (W) ?_; clear h ac wo; intro ac wo h
        exact (rt h) (h.retP (by rw [hd] <;> rfl) trivial)
attribute [irreducible] cH
end Go.Sx
namespace Go.Sx
open Go Go.RowKit Go.Proofs
set_option maxRecDepth 100000
set_option maxHeartbeats 40000000
attribute [local irreducible] Code.wp wpList Rd Step ObS Ent
attribute [local irreducible] am aQ ah aw aD bU
def aB (i : Iv) : Bd :=
 (⟨i.lo, i.openLo⟩ : Bd)
theorem ee (i : Iv) (zi : SzV 30 i) (w0 : World)  : Calls Tryz.prog 136 #[(vV i)] w0 (dA w0 (vW (aB i)) (SzW 30 (aB i))) := by
 refine enter (N := 8) (args := [(vV i)]) Tryz.func136 rfl rfl ?_; intro ac h
 refine gz h <| (xb) fun b1 => (xa) fun b2 => (xo (hs := by exact bG bld206 exs rfl (v := (vW (⟨i.lo, i.openLo⟩ : Bd))) rfl)) <| (W) ?_; clear h ac; intro ac wo h
 exact ret h rfl (.cell (v := (vW (⟨i.lo, i.openLo⟩ : Bd))) rfl (i := 0) rfl Tryz.isAgg206 Tryz.sizeOf206 rfl rfl rfl .nil) rfl (h.retP (by unfold aB; rfl) (by unfold aB; exact zi.1))
attribute [irreducible] aB
def ay (i : Iv) : Bd :=
 (⟨i.hi, (!i.openHi)⟩ : Bd)
theorem eC (i : Iv) (zi : SzV 30 i) (w0 : World)  : Calls Tryz.prog 137 #[(vV i)] w0 (dA w0 (vW (ay i)) (SzW 30 (ay i))) := by
 refine enter (N := 9) (args := [(vV i)]) Tryz.func137 rfl rfl ?_; intro ac h
 refine gz h <| (xb) fun b1 => (xa) fun b2 => (xo (hs := by exact bG bld206 exs rfl (v := (vW (⟨i.hi, (!i.openHi)⟩ : Bd))) rfl)) <| (W) ?_; clear h ac; intro ac wo h
 exact ret h rfl (.cell (v := (vW (⟨i.hi, (!i.openHi)⟩ : Bd))) rfl (i := 0) rfl Tryz.isAgg206 Tryz.sizeOf206 rfl rfl rfl .nil) rfl (h.retP (by unfold ay; rfl) (by unfold ay; exact zi.2))
attribute [irreducible] ay
def bE (a : Bd) (b : Bd) : Int :=
 bif ((am a.at_ b.at_) != 0) then
  (am a.at_ b.at_)
 else
  bif (a.behind == b.behind) then
   0
  else
   bif b.behind then
    (-1)
   else
    1
theorem ff (a : Bd) (b : Bd) (za : SzW 30 a) (zb : SzW 30 b) (w0 : World)  : Calls Tryz.prog 135 #[(vW a), (vW b)] w0 (dA w0 (.int .i64 (bE a b)) ((-1 ≤ (bE a b) ∧ (bE a b) ≤ 1))) := by
 refine enter (N := 23) (args := [(vW a), (vW b)]) Tryz.func135 rfl rfl ?_; intro ac h
 have p2 := an ((aT a.at_ b.at_ 10 og za zb) w0)
 refine gz h <| (xb) fun b1 => (xb) fun b2 => (xk (aT a.at_ b.at_ 10 og za zb)) <| (ai) ?_ ?_ <;> clear h ac <;> intro ac wo h hc1
 ·
  have hq1 := hc1; try simp at hq1
  have hd : bE a b = (am a.at_ b.at_) := pt
  refine gz h <| (W) ?_; clear h ac wo; intro ac wo h
  exact (rt h) (h.retP (by rw [hd] <;> rfl) (by rw [hd]; exact og))
 ·
  have hq1 := hc1; try simp at hq1
  refine gz h <| (xo (hs := by exact uR nn4 rfl rfl)) <| (ai) ?_ ?_ <;> clear h ac wo <;> intro ac wo h hc2
  ·
   have hd2 := eq_of_beq hc2
   have hd : bE a b = 0 := pt
   refine gz h <| (W) ?_; clear h ac wo; intro ac wo h
   exact (rt h) (h.retP (by rw [hd] <;> rfl) (by rw [hd]; exact og))
  ·
   have hd2 := ne_of_beq_false hc2
   refine gz h <| (ai) ?_ ?_ <;> clear h ac wo <;> intro ac wo h hc3
   ·
    have hq3 := hc3; try simp at hq3
    have hd : bE a b = (-1) := pt
    refine gz h <| (W) ?_; clear h ac wo; intro ac wo h
    exact (rt h) (h.retP (by rw [hd] <;> rfl) (by rw [hd]; exact og))
   ·
    have hq3 := hc3; try simp at hq3
    have hd : bE a b = 1 := pt
    refine gz h <| (W) ?_; clear h ac wo; intro ac wo h
    exact (rt h) (h.retP (by rw [hd] <;> rfl) (by rw [hd]; exact og))
attribute [irreducible] bE
end Go.Sx
namespace Go.Sx
open Go Go.RowKit Go.Proofs
set_option maxRecDepth 100000
set_option maxHeartbeats 40000000
attribute [local irreducible] Code.wp wpList Rd Step ObS Ent
attribute [local irreducible] am aQ ah aw aD bU
theorem qp (w : World) : (method (Tryz.prog.types.size + Made.depth) 55 (.agg #[]) "Check").run Tryz.prog w = .ok (366, .agg #[]) w := jM (P := Tryz.prog) (T := 55) Tryz.type55 (by kernel_rfl) uu55 w
instance yM4_15 : Mt Tryz.prog 55 (.agg #[]) "Check" 366 := ⟨qp⟩
theorem oT (w : World) : (nilAhead (Tryz.prog.types.size + Made.depth) 55 (.agg #[]) "Check").run Tryz.prog w = .ok (some false) w := iz (P := Tryz.prog) (T := 55) (f := 366) Tryz.type55 (by kernel_rfl) uu55 w
instance yM4_16 : Nl Tryz.prog 55 (.agg #[]) "Check" := ⟨oT⟩
def br (a : GI) : GI × Bool :=
 bif a.neg then
  ((⟨false, 0⟩ : GI), false)
 else
  bif (!(decide ((en (bQ a.mag) (bQ a.mag)) = a.mag))) then
   ((⟨false, 0⟩ : GI), false)
  else
   ((aF false (bQ a.mag)), true)
theorem iD (a : GI) (ha : a.mag < 4) (za : SzI 30 a) (w0 : World)  : Calls Tryz.prog 276 #[(vI a)] w0 (dA w0 (.tuple #[(vI ((br a).1)), (.bool ((br a).2))]) (SzI 28 ((br a).1))) := by
  refine enter (N := 20) (args := [(vI a)]) Tryz.func276 rfl rfl ?_; intro ac h
  refine gz h <| (xb) fun b1 => (xa) fun b2 => (ai) ?_ ?_ <;> clear h ac <;> intro ac wo h hc1
  ·
    have hq1 := hc1; try simp at hq1
    have hd : br a = ((⟨false, 0⟩ : GI), false) := pt
    refine gz h <| (xo (hs := by exact bG nD exs rfl (v := (vI (⟨false, 0⟩ : GI))) rfl)) <| (W) ?_; clear h ac wo; intro ac wo h
    exact ret h rfl (.cell (v := (vI (⟨false, 0⟩ : GI))) rfl (i := 0) rfl aa25 zz25 rfl rfl rfl (.tmp rfl .nil)) rfl (h.retP (by rw [hd] <;> rfl) (by rw [hd]; exact (cG 0 (by decide) og)))
  ·
    have hq1 := hc1; try simp at hq1
    have c1 := sc a.mag ha za
    have s1 := Calls.pr (c1 w0)
    refine gz h <| (xk (c1)) <| (W) ?_; clear h ac wo; intro ac wo h
    have c2 := iP (bQ a.mag) (bQ a.mag) 28 og s1 s1
    have s2 := an (c2 w0)
    refine gz h <| (dr0 (hob := (oK (c2)) <| oE)) <| (ai) ?_ ?_ <;> clear h ac wo <;> intro ac wo h hc2
    ·
      have hq2 := hc2; try simp at hq2
      have hd : br a = ((⟨false, 0⟩ : GI), false) := pt
      refine gz h <| (xo (hs := by exact bG nD exs rfl (v := (vI (⟨false, 0⟩ : GI))) rfl)) <| (W) ?_; clear h ac wo; intro ac wo h
      exact ret h rfl (.cell (v := (vI (⟨false, 0⟩ : GI))) rfl (i := 0) rfl aa25 zz25 rfl rfl rfl (.tmp rfl .nil)) rfl (h.retP (by rw [hd] <;> rfl) (by rw [hd]; exact (cG 0 (by decide) og)))
    ·
      have hq2 := hc2; try simp at hq2
      have c3 := bL false (bQ a.mag) 29 og s1
      have s3 := an (c3 w0)
      have hd : br a = ((aF false (bQ a.mag)), true) := pt
      refine gz h <| (xk (c3)) <| (W) ?_; clear h ac wo; intro ac wo h
      exact ret h rfl (.cell (v := (vI (aF false (bQ a.mag)))) rfl (i := 0) rfl aa25 zz25 rfl rfl rfl (.tmp rfl .nil)) rfl (h.retP (by rw [hd] <;> rfl) (by rw [hd]; exact (fp s3 og)))
attribute [irreducible] br
def cu (a : GQ) : GQ × Bool :=
 bif ((!(br a.num).2) || (!(br (aa a)).2)) then
  ((⟨(⟨false, 0⟩ : GI), (⟨false, 0⟩ : GI)⟩ : GQ), false)
 else
  ((a8 ((br a.num).1) ((br (aa a)).1)), true)
theorem js (a : GQ) (ha : a.num.mag < 4 ∧ a.den = ⟨false, 0⟩) (za : SzQ 30 a) (w0 : World)  : Calls Tryz.prog 219 #[(vQ a)] w0 (dA w0 (.tuple #[(vQ ((cu a).1)), (.bool ((cu a).2))]) (SzQ 20 ((cu a).1))) := by
 refine enter (N := 30) (args := [(vQ a)]) Tryz.func219 rfl rfl ?_; intro ac h
 have c1 := iD a.num ha.1 za.1
 have s1 := Calls.pr (c1 w0)
 have c2 := bq a 30 og za
 have s2 := an (c2 w0)
 have c3 := iD (aa a) (vK ha.2).2 s2
 have s3 := Calls.pr (c3 w0)
 refine gz h <| (xb) fun b1 => (xa) fun b2 => (xk (c1)) <| (xa) fun b3 => (xk (c2)) <| (xk (c3)) <| (xa) fun b4 => (ai) ?_ ?_ <;> clear h ac <;> intro ac wo h hc1
 ·
  have hq1 := hc1; try simp at hq1
  have hd : cu a = (oQ, false) := pt
  refine gz h <| (xo (hs := by exact bG m7 exs rfl (v := (vQ oQ)) rfl)) <| (W) ?_; clear h ac wo; intro ac wo h
  exact ret h rfl (.cell (v := (vQ oQ)) rfl (i := 2) rfl Tryz.isAgg27 Tryz.sizeOf27 rfl rfl rfl (.tmp rfl .nil)) rfl (h.retP (by rw [hd] <;> rfl) (by rw [hd]; exact ⟨(cG 0 (by decide) og), (cG 0 (by decide) og)⟩))
 ·
  have hq1 := hc1; try simp at hq1
  have c4 := dJ ((br a.num).1) ((br (aa a)).1) 27 og s1 s3
  have s4 := an (c4 w0)
  have hd : cu a = ((a8 ((br a.num).1) ((br (aa a)).1)), true) := pt
  refine gz h <| (xk (c4)) <| (W) ?_; clear h ac wo; intro ac wo h
  exact ret h rfl (.cell (v := (vQ (a8 ((br a.num).1) ((br (aa a)).1)))) rfl (i := 2) rfl Tryz.isAgg27 Tryz.sizeOf27 rfl rfl rfl (.tmp rfl .nil)) rfl (h.retP (by rw [hd] <;> rfl) (by rw [hd]; exact (cw s4 og)))
attribute [irreducible] cu
def eM (x : GR) : Int :=
 bif (((cH x.p) != 0) || ((cH x.r) != 0)) then
  5
 else
  bif ((aw x.r) == (-1)) then
   5
  else
   bif ((aw x.r) == 0) then
    bif x.neg then
     5
    else
     0
   else
    bif (cu x.r).2 then
     5
    else
     0
theorem kA (x : GR) (hr : RtR x) (zx : SzR 30 x) (w0 : World)  : Calls Tryz.prog 134 #[(vR x)] w0 (dA w0 (.int .i64 (eM x)) (True)) := by
 refine enter (N := 31) (args := [(vR x)]) Tryz.func134 rfl rfl ?_; intro ac h
 refine gz h <| (xb) fun b1 => (xk (eE x.p (cw zx.1 og))) <| (xg (hs := by exact fun hg => fb enA (kk (eE x.r (cw zx.2 og))))) <| (ai) ?_ ?_ <;> clear h ac <;> intro ac wo h hc1
 ·
  have hq1 := hc1; try simp at hq1
  have hd : eM x = 5 := pt
  refine gz h <| (W) ?_; clear h ac wo; intro ac wo h
  exact (rt h) (h.retP (by rw [hd] <;> rfl) trivial)
 ·
  have hq1 := hc1; try simp at hq1
  have p2 := an ((cp x.r) w0)
  refine gz h <| (xk (cp x.r)) <| (ai) ?_ ?_ <;> clear h ac wo <;> intro ac wo h hc2
  ·
   have hd2 := eq_of_beq hc2
   have hd : eM x = 5 := pt
   refine gz h <| (W) ?_; clear h ac wo; intro ac wo h
   exact (rt h) (h.retP (by rw [hd] <;> rfl) trivial)
  ·
   have hd2 := ne_of_beq_false hc2
   refine gz h <| (ai) ?_ ?_ <;> clear h ac wo <;> intro ac wo h hc3
   ·
    have hd3 := eq_of_beq hc3
    refine gz h <| (ai) ?_ ?_ <;> clear h ac wo <;> intro ac wo h hc4
    ·
     have hq4 := hc4; try simp at hq4
     have hd : eM x = 5 := pt
     refine gz h <| (W) ?_; clear h ac wo; intro ac wo h
     exact (rt h) (h.retP (by rw [hd] <;> rfl) trivial)
    ·
     have hq4 := hc4; try simp at hq4
     have hd : eM x = 0 := pt
     refine gz h <| (W) ?_; clear h ac wo; intro ac wo h
     exact (rt h) (h.retP (by rw [hd] <;> rfl) trivial)
   ·
    have hd3 := ne_of_beq_false hc3
    have c3 := js x.r hr zx.2
    have s3 := Calls.pr (c3 w0)
    refine gz h <| (xk (c3)) <| (xa) fun b2 => (ai) ?_ ?_ <;> clear h ac wo <;> intro ac wo h hc5
    ·
     have hq5 := hc5; try simp at hq5
     have hd : eM x = 5 := pt
     refine gz h <| (W) ?_; clear h ac wo; intro ac wo h
     exact (rt h) (h.retP (by rw [hd] <;> rfl) trivial)
    ·
     have hq5 := hc5; try simp at hq5
     have hd : eM x = 0 := pt
     refine gz h <| (W) ?_; clear h ac wo; intro ac wo h
     exact (rt h) (h.retP (by rw [hd] <;> rfl) trivial)
attribute [irreducible] eM
def cL (i : Iv) : Int :=
 bif (((eM i.lo) != 0) || ((eM i.hi) != 0)) then
  5
 else
  bif (decide ((bE (aB i) (ay i)) ≥ 0)) then
   10
  else
   0
theorem jh (i : Iv) (hv : RtV i) (zi : SzV 30 i) (w0 : World)  : Calls Tryz.prog 44 #[(vV i)] w0 (dA w0 (.int .i64 (cL i)) (True)) := by
  refine enter (N := 19) (args := [(vV i)]) Tryz.func44 rfl rfl ?_; intro ac h
  refine gz h <| (xb) fun b1 => (xk (kA i.lo hv.1 zi.1)) <| (xg (hs := by exact fun hg => fb enA (kk (kA i.hi hv.2 zi.2)))) <| (ai) ?_ ?_ <;> clear h ac <;> intro ac wo h hc1
  ·
    have hq1 := hc1; try simp at hq1
    have hd : cL i = 5 := pt
    refine gz h <| (W) ?_; clear h ac wo; intro ac wo h
    exact (rt h) (h.retP (by rw [hd] <;> rfl) trivial)
  ·
    have hq1 := hc1; try simp at hq1
    refine gz h <| (W) ?_; clear h ac wo; intro ac wo h
    have s1 := Calls.pr ((fun w_ hB_ hS_ => ee i zi w_ ) _ h.bel h.sep)
    have s2 := Calls.pr ((fun w_ hB_ hS_ => eC i zi w_ ) _ h.bel h.sep)
    have s3 := Calls.pr ((fun w_ hB_ hS_ => ff (aB i) (ay i) s1 s2 w_ ) _ h.bel h.sep)
    have p4 := s3
    refine gz h <| (dr0 (hob := (oX (h := by exact fun _ => gm (fb (vs := [(vV i)]) (cZ Tryz.call136 rfl) (fun w_ hB_ hS_ => ee i zi w_ )))) <| (oK (eC i zi)) <| (oK (ff (aB i) (ay i) s1 s2)) <| oE)) <| (ai) ?_ ?_ <;> clear h ac wo <;> intro ac wo h hc2
    ·
      have hd2 := of_decide_eq_true hc2
      have hd : cL i = 10 := pt
      refine gz h <| (W) ?_; clear h ac wo; intro ac wo h
      exact (rt h) (h.retP (by rw [hd] <;> rfl) trivial)
    ·
      have hd2 := of_decide_eq_false hc2
      have hd : cL i = 0 := pt
      refine gz h <| (W) ?_; clear h ac wo; intro ac wo h
      exact (rt h) (h.retP (by rw [hd] <;> rfl) trivial)
attribute [irreducible] cL
end Go.Sx
namespace Go.Sx
theorem so : ∀ (f n : Nat), n ≤ f → n ≠ 0 → ((leF f n).reverse.headD 0).toNat ≠ 0
  | 0, n, h, h0 => absurd (by omega) h0
  | f + 1, n, h, h0 => by
    unfold leF
    have hb : Nat.beq n 0 = false := by
      cases e : Nat.beq n 0 with
      | false => rfl
      | true => exact absurd (Nat.eq_of_beq_eq_true e) h0
    rw [hb, cond_false, List.reverse_cons]
    by_cases e : n / 256 = 0
    · rw [e, j2]
      show (UInt8.ofNat (n % 256)).toNat ≠ 0
      rw [UInt8.toNat_ofNat']
      omega
    · have ih := so f (n / 256) (by omega) e
      cases hr : (leF f (n / 256)).reverse with
      | nil =>
        rw [hr] at ih
        exact absurd rfl ih
      | cons x q =>
        rw [hr] at ih
        exact ih
theorem topb_ne {m : Nat} (h : m ≠ 0) : md m ≠ 0 := so m m (Nat.le_refl m) h
theorem icheck {a : GI} (h : IOk a) : eS a = 0 := by
  unfold eS
  by_cases e : a.mag = 0
  · rw [decide_eq_true e, h e]; rfl
  · rw [decide_eq_false e, show ((((md a.mag) : Nat) : Int) == (((0 : Nat) : Int))) = false from beq_eq_false_iff_ne.2 (by have := topb_ne e; omega)]
    rfl
theorem nK {a : GQ} (h : QOk a) : cH a = 0 := by
  obtain ⟨h1, h2, h3⟩ := h
  have hd : IOk a.den := by
    rcases h2 with e | ⟨e, _⟩
    · rw [e]; intro _; rfl
    · intro _; exact e
  unfold cH
  rw [icheck h1, icheck hd]
  by_cases e : a.den = z0
  · rw [decide_eq_true (show a.den = ⟨false, 0⟩ from e)]; rfl
  · rw [decide_eq_false (show ¬ a.den = ⟨false, 0⟩ from e)]
    obtain ⟨n1, n2⟩ := h2.resolve_left e
    have h3 : Nat.Coprime a.num.mag a.den.mag := by unfold j8 at h3; rwa [if_neg e] at h3
    have hv : fc a.den = (a.den.mag : Int) := by unfold fc; rw [n1]; rfl
    have c1 : df a.den rational_one = 1 := by
      rw [ng (b := rational_one) hd (j5 1), hv, uY]
      unfold icmp
      rw [if_neg (by omega), if_pos (by omega)]
    have c2 : aR a.num a.den = rational_one := by
      unfold aR
      rw [show Nat.gcd a.num.mag a.den.mag = 1 from h3]; rfl
    rw [c1, decide_eq_true c2]; rfl
theorem isq_sq {a : GI} (h : (br a).2 = true) : ∃ n : Nat, a.mag = n * n := by
  unfold br at h
  cases hn : a.neg with
  | true => rw [hn] at h; cases h
  | false =>
    rw [hn, cond_false] at h
    by_cases e : en (bQ a.mag) (bQ a.mag) = a.mag
    · exact ⟨bQ a.mag, e.symm⟩
    · rw [decide_eq_false e] at h; cases h
theorem uH {r : GQ} (hr : QOk r) (hp : 0 ≤ bM r) (hs : ∀ q : Rat, q * q ≠ bM r) : (cu r).2 = false := by
  unfold cu
  cases h1 : (br r.num).2 with
  | false => rfl
  | true =>
    cases h2 : (br (aa r)).2 with
    | false => rfl
    | true =>
      exfalso
      obtain ⟨n, hn⟩ := isq_sq h1
      obtain ⟨d, hd⟩ := isq_sq h2
      obtain ⟨e1, e2⟩ := iR hr
      have hdm : (aa r).mag = j8 r := by
        have := fZ (aa r); rw [e1] at this; simpa using this.symm
      have hq := rj hr
      have hden : (j8 r : Rat) ≠ 0 := mM hr
      refine hs ((n : Rat) / (d : Rat)) ?_
      have hd2 : (j8 r : Rat) = (d : Rat) * (d : Rat) := by rw [← Rat.natCast_mul, ← hd, hdm]
      have hnum : (fc r.num : Rat) = (n : Rat) * (n : Rat) := by
        have h0 : 0 ≤ (fc r.num : Rat) := by
          have h3 : bM r * (j8 r : Rat) = (fc r.num : Rat) := by unfold bM; rw [Rat.div_mul_cancel hden]
          rw [← h3]; exact fT hp (by rw [hd2]; exact rp _)
        have h4 : 0 ≤ fc r.num := by
          have : ((0 : Int) : Rat) ≤ (fc r.num : Rat) := h0
          exact Rat.intCast_le_intCast.1 this
        have h5 : (fc r.num) = ((r.num.mag : Nat) : Int) := by have := fZ r.num; omega
        rw [h5, Rat.intCast_natCast, hn, Rat.natCast_mul]
      have hd0 : (d : Rat) ≠ 0 := fun e => hden (by rw [hd2, e]; grind)
      unfold bM
      rw [hnum, hd2]
      exact div_sq hd0
theorem ml [K : Key] {x : GR} (hx : Tm x) : eM x = 0 := by
  obtain ⟨hp, hr, h⟩ := hx.ok
  unfold eM
  rw [nK hp, nK hr, iK hr]
  rcases h with ⟨h1, h2⟩ | ⟨h1, h2⟩
  · rw [h1, h2]; rfl
  · rw [show rsgn (bM x.r) = 1 by unfold rsgn; rw [if_neg (by grind), if_pos h1], uH hr (by grind) h2]; rfl
theorem vcheck [K : Key] {i : Iv} (h : Wv i) : cL i = 0 := by
  unfold cL
  rw [ml h.1.1, ml h.1.2]
  have hc : bE (aB i) (ay i) = -1 := by
    unfold bE aB ay
    show (bif ((am i.lo i.hi) != 0) then (am i.lo i.hi) else bif (i.openLo == !i.openHi) then 0 else bif !i.openHi then (-1) else 1) = -1
    rw [h.1.1.cmp h.1.2]
    rcases Nat.lt_trichotomy (tk i.lo) (tk i.hi) with e | e | e
    · rw [gy e]; rfl
    · obtain ⟨o1, o2⟩ := h.2.2 e
      rw [e, eO, o1, o2]; rfl
    · have := h.2.1; omega
  rw [hc]; rfl
end Go.Sx
namespace Go.Sx
section
variable {α : Type} [Inhabited α] {eqf : α → α → Bool} {same : α → α → GR → Bool} {red : α → GR → α} {L out : List (U α)} {x : Nat} {t t' : GR} {f : α}
def Vl [K : Key] (out : List (U α)) : Prop := ∀ u ∈ out, Tv u.iv ∧ tk u.iv.lo ≤ tk u.iv.hi
omit [Inhabited α] in
theorem Vl.app [K : Key] {y : U α} (h : Vl out) (h1 : Tv y.iv) (h2 : tk y.iv.lo ≤ tk y.iv.hi) : Vl (out ++ [y]) := fun u hu => by
  rcases List.mem_append.1 hu with hu | hu
  · exact h u hu
  · rw [List.mem_singleton.1 hu]; exact ⟨h1, h2⟩
omit [Inhabited α] in
theorem Vl.set [K : Key] {y : U α} {i : Nat} (h : Vl out) (h1 : Tv y.iv) (h2 : tk y.iv.lo ≤ tk y.iv.hi) : Vl (out.set i y) := fun u hu => by
  rcases List.mem_or_eq_of_mem_set hu with hu | rfl
  · exact h u hu
  · exact ⟨h1, h2⟩
theorem newPt_or : kI same red L out x = out ∨ kI same red L out x = out ++ [⟨(gt L x).iv, red (gt L x).f (gt L x).iv.lo⟩] := by
  unfold kI
  cases (((decide (((x + 1 : Nat) : Int) < ((L.length : Nat) : Int))) && (decide (((gt L (x + 1)).iv).lo = ((gt L x).iv).lo))) && (same ((gt L (x + 1)).f) ((gt L x).f) (((gt L x).iv).lo)))
  · exact .inr rfl
  · exact .inl rfl
theorem pt_any [K : Key] (hx : gt L x = ptU t f) (ht : Tm t) (h : Vl out) : Vl (eI eqf same red L out x) ∧ (eI eqf same red L out x).length ≤ out.length + 1 := by
  have hn : Vl (kI same red L out x) ∧ (kI same red L out x).length ≤ out.length + 1 := by
    rcases newPt_or (same := same) (red := red) (L := L) (out := out) (x := x) with e | e
    · rw [e]; exact ⟨h, Nat.le_succ _⟩
    · rw [e, hx]; exact ⟨h.app ⟨ht, ht⟩ (Nat.le_refl _), by simp⟩
  unfold eI
  rw [hx, show aZ (ptU t f).iv = true from decide_eq_true rfl, Bool.not_true, cond_false, cond_false]
  cases hb : tS L out x with
  | false => exact hn
  | true =>
    rw [cond_true]
    cases same (gt out (out.length - 1)).f (ptU t f).f (ptU t f).iv.lo with
    | false => exact hn
    | true =>
      obtain ⟨b1, _, _⟩ := iO.1 hb
      have hm := h _ (fw b1)
      exact ⟨h.set hm.1 hm.2, by rw [cond_true, List.length_set]; exact Nat.le_succ _⟩
theorem pt_left [K : Key] (hx : gt L x = ptU t f) (ht : Tm t) (h : Vl out) (hn : x + 1 < L.length) (h2 : (gt L (x + 1)).iv.lo = t) (h3 : same (gt L (x + 1)).f f t = true) : Vl (eI eqf same red L out x) ∧ (eI eqf same red L out x).length ≤ out.length := by
  have hp : kI same red L out x = out := by
    unfold kI
    rw [hx]
    show (bif (((decide (((x + 1 : Nat) : Int) < ((L.length : Nat) : Int))) && (decide ((gt L (x + 1)).iv.lo = t))) && (same ((gt L (x + 1)).f) f t)) then out else _) = out
    rw [decide_eq_true (by omega : ((x + 1 : Nat) : Int) < ((L.length : Nat) : Int)), h2, decide_eq_true rfl, h3]
    rfl
  unfold eI
  rw [hp, hx, show aZ (ptU t f).iv = true from decide_eq_true rfl, Bool.not_true, cond_false, cond_false]
  cases hb : tS L out x with
  | false => exact ⟨h, Nat.le_refl _⟩
  | true =>
    rw [cond_true]
    cases same (gt out (out.length - 1)).f (ptU t f).f (ptU t f).iv.lo with
    | false => exact ⟨h, Nat.le_refl _⟩
    | true =>
      obtain ⟨b1, _, _⟩ := iO.1 hb
      have hm := h _ (fw b1)
      exact ⟨h.set hm.1 hm.2, by rw [cond_true, List.length_set]; exact Nat.le_refl _⟩
theorem va (hx : gt L x = mr t t' f) : ∃ b, i6 L out x = out ++ [⟨⟨t, t', b, true⟩, f⟩] := by
  unfold i6
  rw [hx]
  cases ((((decide (((x : Nat) : Int) > 0)) && (aZ ((gt L (x - 1)).iv))) && (decide (((gt L (x - 1)).iv).lo = ((mr t t' f).iv).lo))) && (!(kb out (((mr t t' f).iv).lo))))
  · exact ⟨true, rfl⟩
  · exact ⟨false, rfl⟩
theorem gap_any [K : Key] (heq : ∀ a b, eqf a b = true → a = b) (hx : gt L x = mr t t' f) (ht : Tm t) (ht' : Tm t') (hlt : tk t < tk t') (h : Vl out) :
    Vl (eI eqf same red L out x) ∧ (eI eqf same red L out x).length ≤ out.length + 1 ∧ 0 < (eI eqf same red L out x).length ∧ (lst (eI eqf same red L out x)).iv.hi = t' ∧ (lst (eI eqf same red L out x)).iv.lo ≠ t' ∧ (lst (eI eqf same red L out x)).f = f := by
  have hne : t ≠ t' := fun e => by rw [e] at hlt; omega
  have hn : Vl (i6 L out x) ∧ (i6 L out x).length ≤ out.length + 1 ∧ 0 < (i6 L out x).length ∧ (lst (i6 L out x)).iv.hi = t' ∧ (lst (i6 L out x)).iv.lo ≠ t' ∧ (lst (i6 L out x)).f = f := by
    obtain ⟨b, e⟩ := va (out := out) hx
    rw [e, lG]
    exact ⟨h.app ⟨ht, ht'⟩ (Nat.le_of_lt hlt), by simp, by simp, rfl, hne, rfl⟩
  unfold eI
  rw [show aZ (gt L x).iv = false by rw [hx]; exact decide_eq_false hne, Bool.not_false, cond_true, cond_true]
  cases hb : tS L out x with
  | false => exact hn
  | true =>
    rw [cond_true]
    cases hq : ((!((gt out (out.length - 1)).iv).openHi) && (eqf ((gt out (out.length - 1)).f) ((gt L x).f))) with
    | false => exact hn
    | true =>
      obtain ⟨b1, b2, b3⟩ := iO.1 hb
      have hm := h _ (fw b1)
      rw [Bool.and_eq_true] at hq
      have e := heq _ _ hq.2
      rw [hx] at b2 e ⊢
      have b2 : (lst out).iv.hi = t := b2
      have hl : tk (lst out).iv.lo < tk t' := by rw [b2] at hm; omega
      rw [cond_true]
      show Vl (out.set (out.length - 1) ⟨⟨(lst out).iv.lo, t', (lst out).iv.openLo, true⟩, (lst out).f⟩) ∧ (out.set (out.length - 1) (⟨⟨(lst out).iv.lo, t', (lst out).iv.openLo, true⟩, (lst out).f⟩ : U α)).length ≤ _ ∧ 0 < (out.set (out.length - 1) (⟨⟨(lst out).iv.lo, t', (lst out).iv.openLo, true⟩, (lst out).f⟩ : U α)).length ∧ (lst (out.set (out.length - 1) ⟨⟨(lst out).iv.lo, t', (lst out).iv.openLo, true⟩, (lst out).f⟩)).iv.hi = t' ∧ (lst (out.set (out.length - 1) ⟨⟨(lst out).iv.lo, t', (lst out).iv.openLo, true⟩, (lst out).f⟩)).iv.lo ≠ t' ∧ (lst (out.set (out.length - 1) ⟨⟨(lst out).iv.lo, t', (lst out).iv.openLo, true⟩, (lst out).f⟩)).f = f
      rw [lst_set b1, List.length_set]
      exact ⟨h.set ⟨hm.1.1, ht'⟩ (Nat.le_of_lt hl), Nat.le_succ _, b1, rfl, fun e => by
        have e : (lst out).iv.lo = t' := e
        rw [e] at hl; omega, e⟩
theorem len_le [K : Key] (heq : ∀ a b, eqf a b = true → a = b) {n : List (U α)} (hw : ∀ u ∈ n, Wv u.iv) (hr : ∀ u ∈ n, ∀ t, Tm t → same u.f u.f t = true) :
    ∀ (s p : List (U α)), n = p ++ s → (Vl (iu (eI eqf same red (n.flatMap atU)) [] (p.flatMap atU).length) ∧ (iu (eI eqf same red (n.flatMap atU)) [] (p.flatMap atU).length).length ≤ p.length) → (iu (eI eqf same red (n.flatMap atU)) [] (n.flatMap atU).length).length ≤ n.length
  | [], p, hn, hp => by
    rw [List.append_nil] at hn
    rw [← hn] at hp
    exact hp.2
  | y :: s, p, hn, hp => by
    refine len_le heq hw hr s (p ++ [y]) (by rw [hn]; simp) ?_
    have hL : n.flatMap atU = p.flatMap atU ++ (atU y ++ s.flatMap atU) := by rw [hn]; simp
    have hy : y ∈ n := by rw [hn]; simp
    have hwy := hw y hy
    have hc : ((p ++ [y]).flatMap atU).length = (p.flatMap atU).length + (atU y).length := by simp
    rw [hc, List.length_append, List.length_singleton]
    generalize hcc : (p.flatMap atU).length = c at *
    generalize hLL : n.flatMap atU = L at *
    have hLl : L.length = c + ((atU y).length + (s.flatMap atU).length) := by rw [hL, List.length_append, List.length_append, hcc]
    have hI : ∀ k, iu (eI eqf same red L) [] (c + (k + 1)) = eI eqf same red L (iu (eI eqf same red L) [] (c + k)) (c + k) := fun _ => rfl
    have hgt : ∀ k, k < (atU y).length → gt L (c + k) = gt (atU y) k := fun k hk => by
      rw [hL, ← hcc]
      have : ∀ (A B : List (U α)), gt (A ++ B) (A.length + k) = gt B k := fun A B => by simp [gt, List.getD, List.getElem?_append_right]
      rw [this, ij hk]
    by_cases hi : y.iv.lo = y.iv.hi
    · obtain ⟨o1, o2⟩ := hwy.2.2 (by rw [hi])
      have ea : atU y = [ptU y.iv.lo y.f] := by
        unfold atU aZ
        rw [o1, decide_eq_true hi]; rfl
      have hx0 : gt L (c + 0) = ptU y.iv.lo y.f := by rw [hgt 0 (by rw [ea]; simp), ea]; rfl
      rw [ea]
      show Vl (iu _ [] (c + (0 + 1))) ∧ (iu _ [] (c + (0 + 1))).length ≤ _
      rw [hI 0]
      have := pt_any (eqf := eqf) (same := same) (red := red) hx0 hwy.1.1 hp.1
      exact ⟨this.1, Nat.le_trans this.2 (Nat.succ_le_succ hp.2)⟩
    · have hini : aZ y.iv = false := decide_eq_false hi
      have hlt : tk y.iv.lo < tk y.iv.hi := by
        have := hwy.2.1
        by_cases e : tk y.iv.lo = tk y.iv.hi
        · exact absurd ((hwy.1.1.inj hwy.1.2).1 e) hi
        · omega
      have hE : ∀ (k : Nat), (Vl (iu (eI eqf same red L) [] (c + k)) ∧ (iu (eI eqf same red L) [] (c + k)).length ≤ p.length) → gt L (c + k) = mr y.iv.lo y.iv.hi y.f → (y.iv.openHi = false → gt L (c + (k + 1)) = ptU y.iv.hi y.f) →
          (Vl (iu (eI eqf same red L) [] (c + (k + 1 + (bif y.iv.openHi then 0 else 1)))) ∧ (iu (eI eqf same red L) [] (c + (k + 1 + (bif y.iv.openHi then 0 else 1)))).length ≤ p.length + 1) := fun k h1 h2 h3 => by
        obtain ⟨g1, g2, g3, g4, g5, g6⟩ := gap_any (eqf := eqf) (same := same) (red := red) heq h2 hwy.1.1 hwy.1.2 hlt h1.1
        rw [← hI k] at g1 g2 g3 g4 g5 g6
        cases ho : y.iv.openHi with
        | true => exact ⟨g1, Nat.le_trans g2 (Nat.succ_le_succ h1.2)⟩
        | false =>
          show Vl (iu _ [] (c + (k + 1 + 1))) ∧ (iu _ [] (c + (k + 1 + 1))).length ≤ _
          rw [hI (k + 1)]
          rw [sn_end (h3 ho) g3 g4 (by rw [g4]; exact g5) (by rw [g6]; exact hr y hy _ hwy.1.2)]
          have hm := g1 _ (fw g3)
          exact ⟨g1.set hm.1 hm.2, by rw [List.length_set]; exact Nat.le_trans g2 (Nat.succ_le_succ h1.2)⟩
      cases hol : y.iv.openLo with
      | false =>
        have ea : atU y = ptU y.iv.lo y.f :: mr y.iv.lo y.iv.hi y.f :: (bif y.iv.openHi then [] else [ptU y.iv.hi y.f]) := by
          unfold atU; rw [hol, hini]; rfl
        have hl2 : (atU y).length = 1 + 1 + (bif y.iv.openHi then 0 else 1) := by rw [ea]; cases y.iv.openHi <;> rfl
        have hx0 : gt L (c + 0) = ptU y.iv.lo y.f := by rw [hgt 0 (by rw [hl2]; omega), ea]; rfl
        have hx1 : gt L (c + 1) = mr y.iv.lo y.iv.hi y.f := by rw [hgt 1 (by rw [hl2]; omega), ea]; rfl
        rw [hl2]
        have st1 := pt_left (eqf := eqf) (same := same) (red := red) (out := iu (eI eqf same red L) [] c) hx0 hwy.1.1 hp.1 (by rw [hl2] at hLl; omega) (by show (gt L (c + 1)).iv.lo = _; rw [hx1]; rfl) (by show same (gt L (c + 1)).f _ _ = true; rw [hx1]; exact hr y hy _ hwy.1.1)
        exact hE 1 ⟨st1.1, Nat.le_trans st1.2 hp.2⟩ hx1 (fun e => by rw [hgt 2 (by rw [hl2, e]; decide), ea, e]; rfl)
      | true =>
        have ea : atU y = mr y.iv.lo y.iv.hi y.f :: (bif y.iv.openHi then [] else [ptU y.iv.hi y.f]) := by
          unfold atU; rw [hol, hini]; rfl
        have hl2 : (atU y).length = 0 + 1 + (bif y.iv.openHi then 0 else 1) := by rw [ea]; cases y.iv.openHi <;> rfl
        have hx0 : gt L (c + 0) = mr y.iv.lo y.iv.hi y.f := by rw [hgt 0 (by rw [hl2]; omega), ea]; rfl
        rw [hl2]
        exact hE 0 hp hx0 (fun e => by rw [hgt 1 (by rw [hl2, e]; decide), ea, e]; rfl)
end
end Go.Sx
namespace Go.Sx
section
variable [K : Key]
abbrev NFl (n : List (U Ln)) : Prop := NF cq bp aH n
abbrev Sml (n m : List (U Ln)) : Prop := Sem bp n m
structure Dk (D : Ln → Prop) : Prop where
  ru : Ru D bp aH
  ok : ∀ f, D f → LOk f
theorem Dk.rc {D : Ln → Prop} (h : Dk D) {t : GR} (ht : Tm t) {f g : Ln} (hf : D f) (hg : D g) (e : bp f g t = true) : aH f t = aH g t :=
  lW (h.ok _ hf) (h.ok _ hg) ht.ok.tok ((f5 (h.ok _ hf) (h.ok _ hg) ht.ok.tok).1 e)
theorem Dk.uniq {D : Ln → Prop} (h : Dk D) {n m : List (U Ln)} (hn : NFl n) (hm : NFl m) (dn : ∀ v ∈ n, D v.f) (dm : ∀ v ∈ m, D v.f) (hS : Sml n m) : n = m :=
  u6 h.ru (fun t ht f g hf hg e => h.rc ht hf hg e) (fun a => (jj a a).2 rfl) hn hm dn dm hS
structure NFL (D : Ln → Prop) (n N : List (U Ln)) : Prop where
  nf : NFl N
  ok : ∀ x ∈ N, D x.f
  sem : Sml n N
  len : N.length ≤ n.length
theorem Dk.normal {D : Ln → Prop} (h : Dk D) {n : List (U Ln)} (hW : ∀ x ∈ n, Wv x.iv ∧ D x.f) (hD : n.Pairwise fun a b => Dj a.iv b.iv) : ∃ N, aG n = (N, 0) ∧ NFL D n N := by
  obtain ⟨s1, s2⟩ := qY (fun x hx => (hW x hx).1.1)
  have hs := pP (fun x hx => (hW x hx).1) hD s1 s2
  have hWs : ∀ x ∈ ae n, Wv x.iv ∧ D x.f := fun x hx => hW x (s1.mem_iff.1 hx)
  have e := np s1.length_eq fun i h0 h1 => (apart_dj (fun x hx => (hW x hx).1) s1 s2).2 hD i h0 (by rw [s1.length_eq]; exact h1)
  rw [nq, rk] at e
  have hsem := sem_loop (eqf := cq) (red := aH) h.ru (fun a b => (jj a b).1) hWs hs
  have hl := len_le (eqf := cq) (same := bp) (red := aH) (fun a b => (jj a b).1) (fun x hx => (hWs x hx).1) (fun x hx t ht => h.ru.refl t ht _ (hWs x hx).2) _ [] rfl ⟨fun _ h => (by cases h), Nat.le_refl 0⟩
  rw [s1.length_eq] at hl
  refine ⟨_, e, hsem.1, hsem.2.1, ⟨fun t ht u hu hi => ?_, fun q u hu hi => ?_, fun t ht w hw hi => ?_, fun q w hw hi => ?_⟩, hl⟩
  · obtain ⟨w, a, b⟩ := hsem.2.2.s1 t ht u hu hi; exact ⟨w, s1.mem_iff.1 a, b⟩
  · obtain ⟨w, a, b⟩ := hsem.2.2.s2 q u hu hi; exact ⟨w, s1.mem_iff.1 a, b⟩
  · exact hsem.2.2.c1 t ht w (s1.mem_iff.2 hw) hi
  · exact hsem.2.2.c2 q w (s1.mem_iff.2 hw) hi
theorem Sml.app {n n' N N' : List (U Ln)} (h : Sml n N) (h' : Sml n' N') : Sml (n ++ n') (N ++ N') := by
  refine ⟨fun t ht u hu hi => ?_, fun q u hu hi => ?_, fun t ht u hu hi => ?_, fun q u hu hi => ?_⟩
  all_goals rcases List.mem_append.1 hu with hu | hu
  · obtain ⟨w, a, b⟩ := h.s1 t ht u hu hi; exact ⟨w, List.mem_append_left _ a, b⟩
  · obtain ⟨w, a, b⟩ := h'.s1 t ht u hu hi; exact ⟨w, List.mem_append_right _ a, b⟩
  · obtain ⟨w, a, b⟩ := h.s2 q u hu hi; exact ⟨w, List.mem_append_left _ a, b⟩
  · obtain ⟨w, a, b⟩ := h'.s2 q u hu hi; exact ⟨w, List.mem_append_right _ a, b⟩
  · obtain ⟨w, a, b⟩ := h.c1 t ht u hu hi; exact ⟨w, List.mem_append_left _ a, b⟩
  · obtain ⟨w, a, b⟩ := h'.c1 t ht u hu hi; exact ⟨w, List.mem_append_right _ a, b⟩
  · obtain ⟨w, a, b⟩ := h.c2 q u hu hi; exact ⟨w, List.mem_append_left _ a, b⟩
  · obtain ⟨w, a, b⟩ := h'.c2 q u hu hi; exact ⟨w, List.mem_append_right _ a, b⟩
def Plc (q : Nat) : Prop := (∃ t, Tm t ∧ q = 2 * tk t) ∨ ∃ k, q = 2 * k + 1
theorem Sml.place {n N : List (U Ln)} (h : Sml n N) {u : U Ln} (hu : u ∈ N) {q : Nat} (hq : Plc q) (hi : inU u.iv q) : ∃ w ∈ n, inU w.iv q := by
  rcases hq with ⟨t, ht, rfl⟩ | ⟨k, rfl⟩
  · obtain ⟨w, a, b, _⟩ := h.s1 t ht u hu hi; exact ⟨w, a, b⟩
  · obtain ⟨w, a, b, _⟩ := h.s2 k u hu hi; exact ⟨w, a, b⟩
theorem dj_plc {x y : Iv} (hx : Wv x) (hy : Wv y) (h : ∀ q, Plc q → ¬ (inU x q ∧ inU y q)) : Dj x y := by
  have a := hx.le
  have b := hy.le
  by_cases e : e5 x ≤ e5 y
  · left
    have := h (e5 y) (by rcases f4 y with ⟨_, e⟩ | ⟨_, e⟩; exact .inl ⟨_, hy.1.1, e⟩; exact .inr ⟨_, e⟩)
    unfold inU at this
    omega
  · right
    have := h (e5 x) (by rcases f4 x with ⟨_, e⟩ | ⟨_, e⟩; exact .inl ⟨_, hx.1.1, e⟩; exact .inr ⟨_, e⟩)
    unfold inU at this
    omega
theorem no_dj {x y : Iv} (h : Dj x y) (q : Nat) : ¬ (inU x q ∧ inU y q) := by
  unfold Dj at h; unfold inU
  omega
theorem NFl.dj {n : List (U Ln)} (h : NFl n) : n.Pairwise fun a b => Dj a.iv b.iv := h.ord.imp fun h => .inl h
theorem Dk.self {D : Ln → Prop} (h : Dk D) {n : List (U Ln)} (hn : NFl n) (dn : ∀ v ∈ n, D v.f) : aG n = (n, 0) := by
  obtain ⟨N, e, k⟩ := h.normal (fun x hx => ⟨hn.wv x hx, dn x hx⟩) hn.dj
  rw [e, h.uniq k.nf hn k.ok dn (k.sem.symm h.ru dn k.ok)]
end
end Go.Sx
namespace Go.Sx
open Go Go.RowKit Go.Proofs
instance yM4_17 : Bu Tryz.prog 55 [] [] (.agg #[]) := Bu.of bld55 rfl rfl
instance yM4_18 : Ie Tryz.prog 55 := ⟨fun hx => uO uu55 rfl hx⟩
instance yM4_19 : Cf Tryz.prog 76 := ⟨Tryz.call76⟩
instance yM4_20 : Cf Tryz.prog 75 := ⟨Tryz.call75⟩
end Go.Sx
namespace Go.Sx
open Go Go.RowKit Go.Proofs Go.Sort Go.Lib
section
variable {P : Program} {α β : Type} [Inhabited α] [Cod β]
theorem nY (val : α → β) (d : Array α) : (flatK (fun x => Cod.enc (val x)) (Cod.n β) d).toList = flat (d.toList.map val) := by
  apply List.ext_getElem?
  intro t
  by_cases ht : t < d.size * Cod.n β
  · have hn : 0 < Cod.n β := Cod.pos
    have hi : t / Cod.n β < d.size := Nat.div_lt_of_lt_mul (by rw [Nat.mul_comm]; exact ht)
    have hm : t % Cod.n β < Cod.n β := Nat.mod_lt _ hn
    have e1 : (d.toList.map val)[t / Cod.n β]? = some (val d[t / Cod.n β]!) := by
      rw [List.getElem?_map, Array.getElem?_toList, Array.getElem?_eq_getElem hi, Option.map_some, getElem!_pos d _ hi]
    have e2 := pp e1 hm
    rw [show t / Cod.n β * Cod.n β + t % Cod.n β = t by rw [Nat.mul_comm]; exact Nat.div_add_mod t _] at e2
    have hs : t < (flatK (fun x => Cod.enc (val x)) (Cod.n β) d).size := by rw [size_flatK]; exact ht
    have hl : t % Cod.n β < (Cod.enc (val d[t / Cod.n β]!)).length := by rw [Cod.len]; exact hm
    rw [e2, Array.getElem?_toList, Array.getElem?_eq_getElem hs, ← getElem!_pos _ t hs, get_flatK _ _ _ _ ht, List.getElem?_eq_getElem hl]
    exact congrArg some (getElem!_pos (Cod.enc (val d[t / Cod.n β]!)) (t % Cod.n β) hl)
  · rw [List.getElem?_eq_none (by rw [Array.length_toList, size_flatK]; omega), List.getElem?_eq_none (by rw [bH, List.length_map, Array.length_toList]; omega)]
theorem uk (enc : α → List Value) (k : Nat) (w : World) (blk n : Nat) (d : Array α) (os : Array Obj) :
    (∀ j, j < w.heap.size → j ≠ blk → (sortWorldK enc k w blk 0 n d os).heap[j]? = w.heap[j]?) ∧
    (∀ cur e fr, w.heap[blk]? = some (.cells cur e fr) → (sortWorldK enc k w blk 0 n d os).heap[blk]? = some (.cells (putCells id 0 (flatK enc k d) cur) e fr)) ∧
    w.heap.size ≤ (sortWorldK enc k w blk 0 n d os).heap.size := by
  have hh : (sortWorldK enc k w blk 0 n d os).heap = (w.heap.modify blk (onCells (putCells id 0 (flatK enc k d)))) ++ os := rfl
  have hz : (w.heap.modify blk (onCells (putCells id 0 (flatK enc k d)))).size = w.heap.size := by simp
  refine ⟨fun j hj hne => ?_, fun cur e fr hc => ?_, ?_⟩
  · rw [hh, Array.getElem?_append_left (by rw [hz]; exact hj), Array.getElem?_modify, if_neg (fun e => hne e.symm)]
  · have hlt : blk < w.heap.size := (Array.getElem?_eq_some_iff.1 hc).1
    rw [hh, Array.getElem?_append_left (by rw [hz]; exact hlt), Array.getElem?_modify, if_pos rfl, hc]; rfl
  · rw [hh, Array.size_append, hz]; omega
theorem put_take (F cur : Array Value) (h : F.size ≤ cur.size) : (putCells id 0 F cur).toList.take F.size = F.toList := by
  apply List.ext_getElem?
  intro t
  by_cases ht : t < F.size
  · rw [List.getElem?_take_of_lt ht, Array.getElem?_toList, Array.getElem?_toList]
    unfold putCells
    rw [Array.getElem?_mapIdx, Array.getElem?_eq_getElem (by omega : t < cur.size), Option.map_some, if_pos ⟨Nat.zero_le _, by omega⟩, Array.getElem?_eq_getElem ht, Nat.sub_zero]
    show some F[t]! = _
    rw [getElem!_pos F t ht]
  · rw [List.getElem?_eq_none (by rw [List.length_take]; omega), List.getElem?_eq_none (by rw [Array.length_toList]; omega)]
theorem sort_own {val : α → β} {e : TypeId} {sv : Value} {d D' : Array α} {F : FuncId} {more : List Value} {w0 w : World} {B : Asn} {p : Prop} (hd0 : 0 < d.size) (hD : D'.size = d.size) (hp : p)
    (hbel : Below w0.heap.size w0 w) (hsep : ∃ U, Sep w0.heap.size w [Asn.row (α := β) e sv (d.toList.map val), B] U)
    (hC : ∀ blk cap, sv = .slice (some ⟨blk, 0, none⟩) d.size cap → HoldsK (fun x => Cod.enc (val x)) (Cod.n β) w blk 0 d → blk < w.heap.size → w0.heap.size ≤ blk →
      Calls P F (sv :: more).toArray w fun r w' => r = .returned (.tuple #[]) ∧ ∃ n os, w' = sortWorldK (fun x => Cod.enc (val x)) (Cod.n β) w blk 0 n D' os) :
    Calls P F (sv :: more).toArray w (RetY w0 (fun v => v = .tuple #[] ∧ p) (fun _ => [Asn.row (α := β) e sv (D'.toList.map val), B])) := by
  obtain ⟨U, f, V, hU, hdis, hlt, ⟨hown, hf⟩, hB⟩ := hsep
  have hl1 : (d.toList.map val).length = d.size := by rw [List.length_map, Array.length_toList]
  have hl2 : (D'.toList.map val).length = d.size := by rw [List.length_map, Array.length_toList, hD]
  rcases hown.2 with ⟨_, h0⟩ | ⟨blk, cap, cur, hv, _, hg, hcap, hmx, hcs, htk⟩
  · omega
  rw [hl1] at hv hcap htk
  have hfb : f blk := (hf blk).2 (by rw [hv]; rfl)
  obtain ⟨hlo, hhi⟩ := hlt blk hfb
  have hcur : d.size * Cod.n β ≤ cur.size := by rw [hcs]; exact Nat.mul_le_mul_right _ hcap
  have hH : HoldsK (fun x => Cod.enc (val x)) (Cod.n β) w blk 0 d := by
    intro j hj
    have hj' : j < d.size * Cod.n β := by rw [← size_flatK (fun x => Cod.enc (val x)) (Cod.n β) d]; exact hj
    refine ⟨?_, ?_⟩
    · have h1 : cur[j]? = some (flatK (fun x => Cod.enc (val x)) (Cod.n β) d)[j]! := by
        have h2 : (cur.toList.take (d.size * Cod.n β))[j]? = (flat (d.toList.map val))[j]? := by rw [htk]
        rw [List.getElem?_take_of_lt hj', Array.getElem?_toList, ← nY, Array.getElem?_toList, Array.getElem?_eq_getElem hj] at h2
        rw [h2, getElem!_pos _ j hj]
      unfold World.cell?
      rw [hg, Nat.zero_add]
      exact h1
    · unfold World.frozen?
      rw [hg]
      simp
  refine (hC blk cap hv hH hhi hlo).mono fun r w' ⟨hr, n, os, hw⟩ => ?_
  subst hw
  obtain ⟨g1, g2, g3⟩ := uk (fun x => Cod.enc (val x)) (Cod.n β) w blk n D' os
  refine ⟨.tuple #[], hr, ⟨rfl, hp⟩, ⟨hbel.os, hbel.tape, hbel.output, Nat.le_trans hbel.size g3, fun k hk => ?_, Nat.le_trans hbel.drawn (Nat.le_add_right _ _)⟩, U, f, V, hU, hdis, fun k hk => ⟨(hlt k hk).1, Nat.lt_of_lt_of_le (hlt k hk).2 g3⟩, ⟨⟨bH _, .inr ⟨blk, cap, _, ?_, Nat.zero_le _, g2 cur e (0, 0) hg, ?_, hmx, ?_, ?_⟩⟩, hf⟩, hB.keep g3 fun k hk => ?_⟩
  · rw [g1 k (Nat.lt_of_lt_of_le hk hbel.size) (by omega)]
    exact hbel.block k hk
  · rw [hl2]; exact hv
  · rw [hl2]; exact hcap
  · unfold putCells; rw [Array.size_mapIdx]; exact hcs
  · have hF : (flatK (fun x => Cod.enc (val x)) (Cod.n β) D').size = d.size * Cod.n β := by rw [size_flatK, hD]
    rw [hl2, ← hF, put_take _ _ (by rw [hF]; exact hcur), nY]
  · exact g1 k ((hB.range k hk).2) fun ek => hdis blk hfb (ek ▸ hk)
theorem lays_of {val : α → β} {g : Nat} {cf : α → α → Int} {blk size : Nat} {w : World} {p : α → α → Prop}
    (ct : ∀ x y w, Calls P g #[.agg (Cod.enc (val x)).toArray, .agg (Cod.enc (val y)).toArray] w (dA w (.int .i64 (cf x y)) (p x y))) : CmpLays P g #[] (fun x => Cod.enc (val x)) (Cod.n β) cf blk 0 size w := by
  intro m os dk _ x y
  refine (ct x y (sortWorldK (fun x => Cod.enc (val x)) (Cod.n β) w blk 0 m dk os)).mono fun r w' ⟨hr, _, hb⟩ => ⟨hr, ?_⟩
  generalize sortWorldK (fun x => Cod.enc (val x)) (Cod.n β) w blk 0 m dk os = W at *
  refine ⟨w'.drawn - W.drawn, w'.heap.extract W.heap.size w'.heap.size, ?_⟩
  have hheap : w'.heap = W.heap ++ w'.heap.extract W.heap.size w'.heap.size := by
    apply Array.ext_getElem?
    intro k
    by_cases hk : k < W.heap.size
    · rw [Array.getElem?_append_left hk, hb.block k hk]
    · rw [Array.getElem?_append_right (by omega), Array.getElem?_extract]
      by_cases hk2 : k < w'.heap.size
      · rw [if_pos (by have := hb.size; omega), show W.heap.size + (k - W.heap.size) = k by omega]
      · rw [if_neg (by omega), Array.getElem?_eq_none (by omega)]
  have hd : w'.drawn = W.drawn + (w'.drawn - W.drawn) := by have := hb.drawn; omega
  have hR : grow (W.drewN (w'.drawn - W.drawn)) (w'.heap.extract W.heap.size w'.heap.size) = (⟨W.heap ++ w'.heap.extract W.heap.size w'.heap.size, W.tape, W.drawn + (w'.drawn - W.drawn), W.os, W.output⟩ : World) := rfl
  rw [hR, ← hheap, ← hd, ← hb.os, ← hb.tape, ← hb.output]
end
end Go.Sx
namespace Go.Sx
open Go Go.RowKit
theorem jQ {v : Value} (h : ni v) : v.cells.toList = [v] := by obtain ⟨_, _, _, rfl⟩ := h; rfl
theorem pi {v : Value} (h : ni v) : ([v].all Value.oneCell') = true := by obtain ⟨_, _, _, rfl⟩ := h; rfl
theorem NN.isl {v : Value} {n : Nat} (h : NN v n) : ni v := h.sl.is
section
variable {P : Program} {w0 : World} {F : List (Nat × Value)}
end
end Go.Sx
namespace Go.Sx
open Go Go.RowKit
def Asn.obj (b : Nat) (o : Obj) : Asn := ⟨fun w f => (∀ k, f k ↔ k = b) ∧ w.heap[b]? = some o, fun h ⟨h1, h2⟩ => ⟨h1, by rw [h _ ((h1 _).2 rfl)]; exact h2⟩⟩
section
variable {P : Program} {w0 : World} {N : Nat} {F : List (Nat × Value)} {L : List Asn} {a : Act} {w : World} {ops : Array Oper} {Q : Exit → Act → World → Prop} {rest : List Oper}
theorem qf {lo b : Nat} {o : Obj} {U : Fp} (h : Sep lo w (.obj b o :: L) U) : w.heap[b]? = some o ∧ lo ≤ b ∧ b < w.heap.size := by
  obtain ⟨f, V, _, _, hf, ⟨h1, h2⟩, _⟩ := h
  exact ⟨h2, hf b ((h1 b).2 rfl)⟩
theorem oO {lo b : Nat} {o o' : Obj} {U : Fp} (h : Sep lo w (.obj b o :: L) U) : Sep lo (w.putObj b o') (.obj b o' :: L) U := by
  obtain ⟨f, V, hU, hd, hf, ⟨h1, h2⟩, hs⟩ := h
  refine ⟨f, V, hU, hd, fun k hk => ⟨(hf k hk).1, by rw [World.putObj_size]; exact (hf k hk).2⟩, ⟨h1, World.putObj_heap_same (hf b ((h1 b).2 rfl)).2⟩, hs.keep (by simp) fun k hk => World.putObj_heap_other fun e => hd k ((h1 k).2 e) hk⟩
theorem kZ {b : Nat} {o' : Obj} (h : Below w0.heap.size w0 w) (hb : w0.heap.size ≤ b) : Below w0.heap.size w0 (w.putObj b o') :=
  ⟨h.os, h.tape, h.output, by rw [World.putObj_size]; exact h.size, fun k hk => by rw [World.putObj_heap_other (by omega)]; exact h.block k hk, h.drawn⟩
theorem qg {lo : Nat} {U : Fp} (hlo : lo ≤ w.heap.size) (o : Obj) (h : Sep lo w L U) : Sep lo (w.alloc o) (.obj w.heap.size o :: L) (fun k => k = w.heap.size ∨ U k) :=
  ⟨fun k => k = w.heap.size, U, fun _ => Iff.rfl, fun k hk hu => by have := (h.range k hu).2; omega, fun k hk => by subst hk; exact ⟨hlo, by simp⟩, ⟨fun _ => Iff.rfl, World.alloc_heap_new w o⟩,
    h.keep (by simp) fun k hk => by
      have := (h.range k hk).2
      show (w.heap.push o)[k]? = _
      rw [Array.getElem?_push_lt this]; exact (Array.getElem?_eq_getElem this).symm⟩
theorem na (o : Obj) (h : Below w0.heap.size w0 w) : Below w0.heap.size w0 (w.alloc o) :=
  ⟨h.os, h.tape, h.output, by rw [World.size_alloc]; have := h.size; omega, fun k hk => by
    have := h.size
    rw [← h.block k hk]
    show (w.heap.push o)[k]? = _
    rw [Array.getElem?_push_lt (by omega)]; exact (Array.getElem?_eq_getElem (by omega)).symm, h.drawn⟩
def Rnd (P : Program) (w0 : World) (l : Nat) (args : Array Value) (J J' : Asn) : Prop :=
  ∀ w B, Below w0.heap.size w0 w → (∃ U, Sep w0.heap.size w [J, B] U) → YieldAt' P l args w fun e w' => e = .returned (.bool true) ∧ Below w0.heap.size w0 w' ∧ ∃ U, Sep w0.heap.size w' [J', B] U
where YieldAt' (P : Program) (l : Nat) (args : Array Value) (W : World) (R : Ending → World → Prop) : Prop :=
  ∃ fn tmps assign body, (Instr.yield l args).run P W = .ok (.round l fn tmps assign body) W ∧ RoundIn Fence.wide 0 P l fn tmps assign body W R
theorem oC {l : Nat} {x : Operand} {args : Array Operand} {ats : Array TypeId} {vs : List Value} {r : Result Next} (hx : ev F x = some (.func (.yield l) #[] #[])) (ha : evs F args.toList = some vs) {o : Oper} (ho : o.op = .call ⟨.value x, args, ats⟩) (hg : Agr F a) (w : World)
    (hr : (Instr.yield l vs.toArray).run P w = r) : (execOp a.eval o).run P w = r := by
  have hm : args.map a.eval = vs.toArray := by
    have := hg.evs ha
    rw [← this, ← Array.toList_map, Array.toArray_toList]
  simp [execOp, ho, resolve, Deferred.ofValue, hm, hg x _ hx, invoke, hr]
def StepBY (P : Program) (w0 : World) (F : List (Nat × Value)) (L : List Asn) (op : Op) (φ : Value → Prop) (L' : Value → List Asn) : Prop :=
  ∀ (o : Oper) (a : Act) (w : World) (B : Asn) (K : Act → World → Prop) (Q : Exit → Act → World → Prop), o.op = op → Agr F a → Below w0.heap.size w0 w → (∃ U, Sep w0.heap.size w (L ++ [B]) U) →
    (∀ v w', φ v → Below w0.heap.size w0 w' → (∃ U', Sep w0.heap.size w' (L' v ++ [B]) U') → K (a.put o.dst v) w') → Oper.wpY P o a w K Q
theorem StepBY.step {φ : Value → Prop} {op : Op} {L' : Value → List Asn} (h : StepBY P w0 F L op φ L') : rT P w0 F L op φ L' := by
  intro o a w U K Q ho ha hb hs k
  have hB : Sep w0.heap.size w [Asn.others w0.heap.size w U] (fun k => w0.heap.size ≤ k ∧ k < w.heap.size ∧ ¬ U k) :=
    ⟨fun k => w0.heap.size ≤ k ∧ k < w.heap.size ∧ ¬ U k, fun _ => False, fun k => by simp, fun _ _ => id, fun k hk => ⟨hk.1, hk.2.1⟩, ⟨fun _ => Iff.rfl, fun _ _ => rfl⟩, fun _ => id⟩
  refine h o a w _ K Q ho ha hb ⟨_, hs.append hB fun k hk hn => hn.2.2 hk⟩ fun v w' hv hb' ⟨U', hU'⟩ => ?_
  obtain ⟨V, W, hV, hW, hVW, _⟩ := hU'.split
  obtain ⟨f, X, hWf, _, hfr, ⟨hf, hfe⟩, hX⟩ := hW
  have hWk : ∀ k, w0.heap.size ≤ k → k < w.heap.size → ¬ U k → W k := fun k h1 h2 h3 => (hWf k).2 (.inl ((hf k).2 ⟨h1, h2, h3⟩))
  refine k v w' V hv ⟨hb'.os.trans hb.os.symm, hb'.tape.trans hb.tape.symm, hb'.output.trans hb.output.symm, fun n hn hU => ?_, fun k hk hu => ?_, fun k hk => ?_, fun _ => hb'.drawn⟩ hV
  · rcases Nat.lt_or_ge w0.heap.size n with hlt | hge
    · have h1 : f (n - 1) := (hf _).2 ⟨by omega, by omega, fun hu => by have := hU _ hu; omega⟩
      have := (hfr _ h1).2
      omega
    · exact Nat.le_trans hge hb'.size
  · rcases Nat.lt_or_ge k w0.heap.size with hlt | hge
    · rw [hb'.block k hlt, hb.block k hlt]
    · exact hfe k ((hf k).2 ⟨hge, hk, hu⟩)
  · rcases Nat.lt_or_ge k w.heap.size with hlt | hge
    · refine .inl (Classical.byContradiction fun hu => hVW k hk (hWk k (hV.range k hk).1 hlt hu))
    · exact .inr hge
theorem y_yield {l : Nat} {x : Operand} {args : Array Operand} {ats : Array TypeId} {vs : List Value} {J J' : Asn} (hx : ev F x = some (.func (.yield l) #[] #[])) (ha : evs F args.toList = some vs) (hY : Rnd P w0 l vs.toArray J J') :
    rT P w0 F [J] (.call ⟨.value x, args, ats⟩) (· = .bool true) (fun _ => [J']) :=
  StepBY.step fun o a w B K Q ho hg hb hs k => by
    obtain ⟨f, ts, b, c, hr, hc⟩ := hY w B hb hs
    refine .inr ⟨l, f, ts, b, c, oC hx ha ho hg w hr, RoundIn.mono hc ?_⟩
    rintro e w' ⟨rfl, hb', hs'⟩
    exact ⟨_, rfl, k _ w' rfl hb' hs'⟩
theorem ob_yu {H : List Hist} {i : Nat} {ξ : Nat → Value} {G : (Nat → Value) → List (Nat × Value)} {op : Op} {ty : TypeId} {pos : String} {aft : Array Edge} {dst : Option Tmp} {acc : List Nat} {ol : List Oper} {v : Value} (A A' : List Asn) (hA : de H acc i ξ = A) (hA' : de H acc (i + 1) (upd ξ i v) = A') (h : rT P w0 (fE (G ξ) (ef op)) A op (· = v) (fun _ => A')) : ObS P w0 ol H G ξ i ⟨dst, op, ty, pos, aft, none⟩ ⟨.det v, acc⟩ := by
  intro o a w U K Q ho ha hb hs k
  have hs1 : Sep w0.heap.size w (de H acc i ξ) U := hs
  rw [hA] at hs1
  refine h o a w U K Q ho ha hb hs1 fun v' w' U' hv hm hs' => ?_
  subst hv
  refine k _ w' U' (bC _ _ _) hm ?_
  show Sep w0.heap.size w' (de H acc (i + 1) (upd ξ i v')) U'
  rw [hA']
  exact hs'
theorem rB {ro : Option Nat} {n : Nat} (hQ : ∀ a w, ¬ Q .outgrown a w) : ∀ {l : List Oper} {a : Act} {w : World}, qh l = true → wpList P ops Q l a w → wpListIn (rf ro) n P ops Q l a w
  | [], _, _, _, h => h
  | o :: l, a, w, hn, h => by
    have hn' : qh l = true := by unfold qh at hn ⊢; rw [List.all_cons, Bool.and_eq_true] at hn; exact hn.2
    have mono : ∀ {K K' : Act → World → Prop}, (∀ a w, K a w → K' a w) → o.wpIn (rf ro) n P a w K Q → o.wpIn (rf ro) n P a w K' Q := fun hk hh => Oper.wpIn_mono hk hh
    unfold wpList at h
    unfold wpListIn
    split
    · rename_i hw
      rw [if_pos hw] at h
      rcases h with h | ⟨_, h⟩
      · exact mono (fun a w h => rB hQ hn' h) (op_in (.inr (si hn (List.mem_cons_self ..))) (.inl h))
      · obtain ⟨a', w', h⟩ := h
        exact absurd h (hQ a' w')
    · rename_i hw
      rw [if_neg hw] at h
      exact ⟨fun _ _ => trivial, rB hQ hn' h⟩
theorem uJ {ro : Option Nat} {n : Nat} {id : Nat} {l : List Oper} (hQ : ∀ a w, ¬ Q .outgrown a w) (hn : qh l = true) (h : wpList P l.toArray Q l a w) : (Code.region id l.toArray false).wpIn (rf ro) n P Q a w :=
  wpIn_region_lit (rB hQ hn h)
theorem seq_in {ro : Option Nat} {n : Nat} {x y : Code} (M : Act → World → Prop) (h : x.wpIn (rf ro) n P (Exit.then M Q) a w) (k : ∀ a w, M a w → y.wpIn (rf ro) n P Q a w) : (Code.seq x y).wpIn (rf ro) n P Q a w := by
  refine wpIn_seq (wpIn_mono h fun e a w he => ?_)
  cases e <;> first | exact k _ _ he | exact he
def Asn.ex (A : Value → Asn) : Asn := ⟨fun w f => ∃ v, (A v).sem w f, fun h ⟨v, hv⟩ => ⟨v, (A v).loc h hv⟩⟩
def JE (lo : Nat) (l : Nat) (r : Loop) (A : Value → List Asn) : Asn := .ex fun v => .all lo (.obj l (.loop r) :: A v)
theorem je_open {lo l : Nat} {r : Loop} {A : Value → List Asn} {B : Asn} (h : ∃ U, Sep lo w [JE lo l r A, B] U) : ∃ v U, Sep lo w (.obj l (.loop r) :: (A v ++ [B])) U := by
  obtain ⟨U, f, V, hU, hd, hf, ⟨v, hv⟩, hs⟩ := h
  have hv : Sep lo w (.obj l (.loop r) :: A v) f := hv
  exact ⟨v, _, hv.append hs hd⟩
theorem je_close {lo l : Nat} {r : Loop} {A : Value → List Asn} {B : Asn} {v : Value} {U : Fp} (h : Sep lo w (.obj l (.loop r) :: (A v ++ [B])) U) : ∃ U, Sep lo w [JE lo l r A, B] U := by
  obtain ⟨V, W, hV, hW, hVW, hU⟩ := Sep.split (A := .obj l (.loop r) :: A v) h
  exact ⟨U, V, W, hU, hVW, hV.range, ⟨v, hV⟩, hW⟩
theorem rnd {l fn D : Nat} {args tmps : Array Value} {ps : Array Tmp} {asg body : Code} {A A' : Value → List Asn} {F0 : List (Nat × Value)} (hps : args.size = ps.size)
    (hz : ((ps.zip args).foldl (fun tmps (t, a) => tmps.setIfInBounds t a) tmps).size = N)
    (hF : ∀ t v, look F0 t = some v → ((ps.zip args).foldl (fun tmps (t, a) => tmps.setIfInBounds t a) tmps)[t]? = some v)
    (M : Value → List (Nat × Value) → List Asn → Prop)
    (ha : ∀ v a w Y1 Y2, St w0 N F0 (A v ++ [Y1, Y2]) a w → asg.wpIn (rf (some l)) 0 P (Exit.then (fun a w => ∃ F1 X, M v F1 X ∧ St w0 N F1 (X ++ [Y1, Y2]) a w) fun _ _ _ => False) a w)
    (hb : ∀ v F1 X, M v F1 X → ∀ a w Y1 Y2, St w0 N F1 (X ++ [Y1, Y2]) a w → body.wpIn (rf (some l)) 0 P (fun e _ w => e = .normal ∧ Below w0.heap.size w0 w ∧ ∃ v' Y U, Sep w0.heap.size w (A' v' ++ [Y1, Y2] ++ Y) U) a w) :
    Rnd P w0 l args (JE w0.heap.size l { state := .ready, pending := none, fn, tmps, params := ps, assign := asg, body, defers := D } A) (JE w0.heap.size l { state := .ready, pending := none, fn, tmps, params := ps, assign := asg, body, defers := D } A') := by
  intro w B hB hs
  obtain ⟨v, U, hU⟩ := je_open hs
  obtain ⟨hl, hlo, hhi⟩ := qf hU
  refine ⟨fn, _, asg, body, run_yield (P := P) (args := args) hl hps, roundIn_of_wpIn (F := Fence.wide) trivial ?_⟩
  have st : St w0 N F0 (A v ++ [.obj l (.loop { state := .ready, pending := none, fn, tmps, params := ps, assign := asg, body, defers := D }), B]) { tmps := (ps.zip args).foldl (fun tmps (t, a) => tmps.setIfInBounds t a) tmps, defers := [] } w :=
    ⟨hz, rfl, hF, hB, U, hU.perm (by
      have : (Asn.obj l (.loop { state := .ready, pending := none, fn, tmps, params := ps, assign := asg, body, defers := D }) :: (A v ++ [B])).Perm (A v ++ Asn.obj l (.loop { state := .ready, pending := none, fn, tmps, params := ps, assign := asg, body, defers := D }) :: [B]) := List.perm_middle.symm
      exact this)⟩
  refine wpIn_mono (ha v _ _ _ _ st) fun e a w he => ?_
  cases e with
  | normal =>
    obtain ⟨F1, X, hM, h⟩ := he
    obtain ⟨U1, hU1⟩ := h.sep
    have hU1 := hU1.perm (List.perm_middle (l₁ := X) (l₂ := [B]))
    obtain ⟨hl1, hlo1, _⟩ := qf hU1
    refine ⟨_, run_beginRound hl1 rfl, ?_⟩
    have hU2 := oO (o' := .loop { state := .busy, pending := none, fn, tmps, params := ps, assign := asg, body, defers := D }) hU1
    refine wpIn_mono (hb v F1 X hM a _ (.obj l (.loop { state := .busy, pending := none, fn, tmps, params := ps, assign := asg, body, defers := D })) B ⟨h.size, h.defers, h.regs, kZ h.bel hlo1, _, hU2.perm (List.perm_middle (l₁ := X) (l₂ := [B])).symm⟩) fun e a w he => ?_
    obtain ⟨rfl, hB3, v', Y, U3, hU3⟩ := he
    have hU3 := hU3.perm (show (A' v' ++ [Asn.obj l (.loop { state := .busy, pending := none, fn, tmps, params := ps, assign := asg, body, defers := D }), B] ++ Y).Perm (Asn.obj l (.loop { state := .busy, pending := none, fn, tmps, params := ps, assign := asg, body, defers := D }) :: (A' v' ++ [B]) ++ Y) by
      refine List.Perm.append_right _ ?_
      exact List.perm_middle)
    obtain ⟨V, W, hV, _, _, _⟩ := hU3.split
    obtain ⟨hl3, hlo3, _⟩ := qf hV
    refine ⟨_, _, run_endRound none hl3, rfl, kZ hB3 hlo3, je_close (oO (o' := .loop { state := .ready, pending := none, fn, tmps, params := ps, assign := asg, body, defers := D }) hV)⟩
  | _ => exact he.elim
theorem fold2 (p q : Nat) (x y : Value) (t : Array Value) : ((#[p, q].zip [x, y].toArray).foldl (fun tmps (t, a) => tmps.setIfInBounds t a) t) = (t.setIfInBounds p x).setIfInBounds q y := by simp
def nd (a : Act) : Act := { a with defers := [] }
theorem c_range {g : Operand} {ps : Array Tmp} {asg body : Code} {gf : FuncId} {lb : Array Value} {A : Nat → Value → List Asn} {v0 : Value} {R : List Asn} {args : Nat → Array Value} (n : Nat) (h : St w0 N F L a w)
    (hg : ev F g = some (.func (.func gf) #[] lb)) (eg : ∀ args w, (callFunc gf args).run P w = .ok (.enter gf args) w) (hL : L.Perm (A 0 v0 ++ R))
    (hit : ∀ (lr : Nat) (r : Loop) (w : World) (B : Asn), Below w0.heap.size w0 w → (∃ U, Sep w0.heap.size w (JE w0.heap.size lr r (A 0) :: (R ++ [B])) U) → (∀ k, k < n → Rnd P w0 lr (args k) (JE w0.heap.size lr r (A k)) (JE w0.heap.size lr r (A (k + 1)))) →
      Calls P gf (#[.func (.yield lr) #[] #[]] ++ lb) w (RetY w0 (fun _ => True) fun _ => JE w0.heap.size lr r (A n) :: (R ++ [B])))
    (hrnd : ∀ lr fn D k, k < n → Rnd P w0 lr (args k) (JE w0.heap.size lr { state := .ready, pending := none, fn, tmps := a.tmps, params := ps, assign := asg, body, defers := D } (A k)) (JE w0.heap.size lr { state := .ready, pending := none, fn, tmps := a.tmps, params := ps, assign := asg, body, defers := D } (A (k + 1))))
    (k : ∀ a' w' D v Y, a'.defers = [{ target := .collected D, args := #[] }] → St w0 N F (.obj D (.deferred (some [])) :: (A n v ++ R ++ Y)) (nd a') w' → Q .normal a' w') : (Code.rangeFunc g ps asg body).wp P Q a w := by
  refine wpIn_wide (n := 0).1 (wpIn_rangeFunc fun fn hfn => ?_)
  obtain ⟨U, hU⟩ := h.sep
  have hU := hU.perm hL
  have hsz := h.bel.size
  have s1 := qg hsz (.deferred (some [])) hU
  have b1 := na (.deferred (some [])) h.bel
  have s2 := qg (w := w.alloc (.deferred (some []))) (by rw [World.size_alloc]; omega) (.loop { state := .ready, pending := none, fn, tmps := a.tmps, params := ps, assign := asg, body, defers := w.heap.size }) s1
  have b2 := na (.loop { state := .ready, pending := none, fn, tmps := a.tmps, params := ps, assign := asg, body, defers := w.heap.size }) b1
  rw [World.size_alloc] at s2
  have hev : a.eval g = .func (.func gf) #[] lb := h.agr g _ hg
  obtain ⟨W1, hW1⟩ : ∃ W1, (w.alloc (.deferred (some []))).alloc (.loop { state := .ready, pending := none, fn, tmps := a.tmps, params := ps, assign := asg, body, defers := w.heap.size }) = W1 := ⟨_, rfl⟩
  rw [hW1] at s2 b2
  refine ⟨w.heap.size + 1, [{ target := .collected w.heap.size, args := #[] }], W1, { target := .fn (.func gf) lb, args := #[.func (.yield (w.heap.size + 1)) #[] #[]] }, W1, gf, #[.func (.yield (w.heap.size + 1)) #[] #[]] ++ lb, W1, by rw [← hW1]; exact run_enterLoop_outer _ _ _ _ _, ?_, fun _ _ => trivial, ?_, fun hn => (by cases hn), ?_⟩
  · simp only [resolve, hev]
    simp [go_sem]
  · simp [invoke, go_sem, eg]
  · refine callsIn_wide.2 ((hit (w.heap.size + 1) _ _ (.obj w.heap.size (.deferred (some []))) b2 ?_ (hrnd _ fn w.heap.size)).mono ?_)
    · have p : (Asn.obj (w.heap.size + 1) (.loop { state := .ready, pending := none, fn, tmps := a.tmps, params := ps, assign := asg, body, defers := w.heap.size }) :: Asn.obj w.heap.size (.deferred (some [])) :: (A 0 v0 ++ R)).Perm (Asn.obj (w.heap.size + 1) (.loop { state := .ready, pending := none, fn, tmps := a.tmps, params := ps, assign := asg, body, defers := w.heap.size }) :: A 0 v0 ++ (R ++ [Asn.obj w.heap.size (.deferred (some []))])) := by
        refine List.Perm.cons _ ?_
        show (Asn.obj w.heap.size (.deferred (some [])) :: (A 0 v0 ++ R)).Perm (A 0 v0 ++ (R ++ [Asn.obj w.heap.size (.deferred (some []))]))
        rw [← List.append_assoc]
        exact (List.perm_append_singleton _ _).symm
      obtain ⟨V, W, hV, hW, hVW, hU'⟩ := (s2.perm p).split
      exact ⟨_, V, W, hU', hVW, hV.range, ⟨v0, hV⟩, hW⟩
    · rintro e w' ⟨v, rfl, _, hb', U', f, V, hU', hd, hf, ⟨v', hv'⟩, hs'⟩
      have hv' : Sep w0.heap.size w' (.obj (w.heap.size + 1) (.loop { state := .ready, pending := none, fn, tmps := a.tmps, params := ps, assign := asg, body, defers := w.heap.size }) :: A n v') f := hv'
      have hall := hv'.append hs' hd
      obtain ⟨hl, hlo, _⟩ := qf hall
      refine ⟨none, _, run_endLoop hl (by simp), ?_⟩
      have hall2 := oO (o' := .loop { state := .exhausted, pending := none, fn, tmps := a.tmps, params := ps, assign := asg, body, defers := w.heap.size }) hall
      refine k _ _ w.heap.size v' [.obj (w.heap.size + 1) (.loop { state := .exhausted, pending := none, fn, tmps := a.tmps, params := ps, assign := asg, body, defers := w.heap.size })] (by show _ ++ a.defers = _; rw [h.defers]; rfl) ⟨h.size, rfl, h.regs, kZ hb' hlo, _, hall2.perm ?_⟩
      show (Asn.obj (w.heap.size + 1) _ :: (A n v' ++ (R ++ [Asn.obj w.heap.size (.deferred (some []))]))).Perm (Asn.obj w.heap.size (.deferred (some [])) :: (A n v' ++ R ++ [_]))
      rw [← List.append_assoc (A n v')]
      refine (List.Perm.cons _ (List.perm_append_singleton _ _)).trans ((List.Perm.swap _ _ _).trans (List.Perm.cons _ (List.perm_append_singleton _ _).symm))
theorem enterM {f : FuncId} {fn : Func} {c : Code} {args : List Value} {R : Ending → World → Prop} (hf : P.funcs[f]? = some fn) (hb : fn.body = some c) (hN : args.length + (fn.ntmps - args.length) = N)
    (h : ∀ a, St w N (zipF 0 args) [] a w → c.wp P (bodyPostM Fence.wide 0 P fn R) a w) : Calls P f args.toArray w R :=
  callsIn_wide.1 (callsIn_of_wp_marks (n := 0) hf hb trivial (wpIn_wide.2 (h _ (St.init w args fn.ntmps hN fun _ _ hv => (jO hv).2))))
theorem rdM {d : Nat} {op : Op} {ty : TypeId} {pos : String} {aft : Array Edge} (h : St w0 N F L (nd a) w) (i : Nat) {r : Asn} {v : Value} (hi : L[i]? = some r) (hs : Rd P w0 F [r] op v) (hd : Nat.blt d N = true) (k : ∀ a' w, a'.defers = a.defers → St w0 N ((d, v) :: F) L (nd a') w → wpList P ops Q rest a' w) :
    wpList P ops Q (⟨some d, op, ty, pos, aft, none⟩ :: rest) a w :=
  wpList_plain rfl fun K hK => by
    obtain ⟨U, hU⟩ := h.sep
    have e : a.eval = (nd a).eval := rfl
    unfold Oper.wp
    rw [e, (hs.of_mem hi) _ (nd a) w U rfl h.agr h.bel hU]
    exact hK _ _ (k _ _ rfl (h.put hd v h.bel hU))
theorem retM {fn : Func} {R : Ending → World → Prop} {D : Nat} {rs : List ResultVar} {vs : List Value} {v : Value} (hd : a.defers = [{ target := .collected D, args := #[] }]) (h : St w0 N F (.obj D (.deferred (some [])) :: L) (nd a) w) (hrs : fn.results = rs.toArray)
    (hr : ∀ w, Res P w F (.obj D (.deferred none) :: L) rs vs) (hv : qX vs = v) (hR : ∀ w, St w0 N F (.obj D (.deferred none) :: L) (nd a) w → R (.returned v) w) : bodyPostM Fence.wide 0 P fn R .ret a w := by
  show LeavesInM Fence.wide 0 P fn a.tmps R a.defers .returning w
  obtain ⟨U, hU⟩ := h.sep
  obtain ⟨hl, hlo, _⟩ := qf hU
  rw [hd]
  have st : St w0 N F (.obj D (.deferred none) :: L) (nd a) (w.putObj D (.deferred none)) := ⟨h.size, h.defers, h.regs, kZ h.bel hlo, _, oO hU⟩
  refine ⟨by simp, .inl ⟨D, _, rfl, run_takeDeferred hl, ?_⟩⟩
  exact ⟨v, ki hrs (hr _) st hv, hR _ st⟩
end
end Go.Sx
