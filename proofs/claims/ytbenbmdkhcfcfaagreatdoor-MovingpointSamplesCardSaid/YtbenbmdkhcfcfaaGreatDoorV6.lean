/- A part of the proof of movingpointSamples. -/
import Derived.Test.YtbenbmdkhcfcfaaGreatDoorProg
import Derived.Test.YtbenbmdkhcfcfaaGreatDoorV5
set_option linter.unusedVariables false
set_option linter.unusedSimpArgs false
open Go.Proofs.Tryz renaming isAgg4 → aa4, underlying4 → nn4, isAgg9 → aa9, isAgg25 → aa25, sizeOf25 → zz25, isAgg27 → aa27, sizeOf27 → zz27
namespace Go.Sx
open Go Go.RowKit Go.Proofs
set_option maxRecDepth 100000
set_option maxHeartbeats 40000000
attribute [local irreducible] Code.wp wpList Rd Step ObS Ent
theorem eqi25 : EqIn Tryz.prog 2 25 vI := eqS (c := cI) (fun _ => rfl) Tryz.underlying25 Tryz.stoodInHeld25 fun d x y w hd => by
 refine Eq.trans (eqF (by decide) (dh aa4 rfl w) (dh aa4 rfl w) (eqB nn4 d og _ _ w) (eqF (by decide) (dh aa9 rfl w) (dh aa9 rfl w) (eqBs Tryz.underlying9 d og _ _ w) eqF0)) ?_
 congr 1
 rw [decide_eq_decide]
 cases x; cases y; simp
theorem eqp25 : EqP Tryz.prog 25 vI := EqIn.p (k := 2) rfl (c := fun x => (cI x).toArray) (fun _ => rfl) Tryz.eqGuardType25 eqi25
instance yV6_1 : Ep Tryz.prog 25 GI inferInstance vI := ⟨eqp25⟩
theorem j9 : EqIn Tryz.prog 3 27 vQ := eqS (c := cQ) (fun _ => rfl) Tryz.underlying27 Tryz.stoodInHeld27 fun d x y w hd => by
 refine Eq.trans (eqF (by decide) (bQ aa25 zz25 (v := vI (x.num)) rfl w) (bQ aa25 zz25 (v := vI (y.num)) rfl w) (eqi25 d _ _ w og) (eqF (by decide) (bQ aa25 zz25 (v := vI (x.den)) rfl w) (bQ aa25 zz25 (v := vI (y.den)) rfl w) (eqi25 d _ _ w og) eqF0)) ?_
 congr 1
 rw [decide_eq_decide]
 cases x; cases y; simp
theorem eqp27 : EqP Tryz.prog 27 vQ := EqIn.p (k := 3) rfl (c := fun x => (cQ x).toArray) (fun _ => rfl) Tryz.eqGuardType27 j9
instance yV6_2 : Ep Tryz.prog 27 GQ inferInstance vQ := ⟨eqp27⟩
theorem eqi53 : EqIn Tryz.prog 4 53 vD := eqS (c := cD) (fun _ => rfl) Tryz.underlying53 Tryz.stoodInHeld53 fun d x y w hd => by
 refine Eq.trans (eqF (by decide) (bQ aa27 zz27 (v := vQ (x.c0)) rfl w) (bQ aa27 zz27 (v := vQ (y.c0)) rfl w) (j9 d _ _ w og) (eqF (by decide) (bQ aa27 zz27 (v := vQ (x.c1)) rfl w) (bQ aa27 zz27 (v := vQ (y.c1)) rfl w) (j9 d _ _ w og) (eqF (by decide) (bQ aa27 zz27 (v := vQ (x.c2)) rfl w) (bQ aa27 zz27 (v := vQ (y.c2)) rfl w) (j9 d _ _ w og) eqF0))) ?_
 congr 1
 rw [decide_eq_decide]
 cases x; cases y; simp
theorem eqp53 : EqP Tryz.prog 53 vD := EqIn.p (k := 4) rfl (c := fun x => (cD x).toArray) (fun _ => rfl) Tryz.eqGuardType53 eqi53
instance yV6_3 : Ep Tryz.prog 53 Qd inferInstance vD := ⟨eqp53⟩
theorem eqi71 : EqIn Tryz.prog 4 71 vR := eqS (c := cR) (fun _ => rfl) Tryz.underlying71 Tryz.stoodInHeld71 fun d x y w hd => by
 refine Eq.trans (eqF (by decide) (bQ aa27 zz27 (v := vQ (x.p)) rfl w) (bQ aa27 zz27 (v := vQ (y.p)) rfl w) (j9 d _ _ w og) (eqF (by decide) (bQ aa27 zz27 (v := vQ (x.r)) rfl w) (bQ aa27 zz27 (v := vQ (y.r)) rfl w) (j9 d _ _ w og) (eqF (by decide) (dh aa4 rfl w) (dh aa4 rfl w) (eqB nn4 d og _ _ w) eqF0))) ?_
 congr 1
 rw [decide_eq_decide]
 cases x; cases y; simp
theorem eqp71 : EqP Tryz.prog 71 vR := EqIn.p (k := 4) rfl (c := fun x => (cR x).toArray) (fun _ => rfl) Tryz.eqGuardType71 eqi71
instance yV6_4 : Ep Tryz.prog 71 GR inferInstance vR := ⟨eqp71⟩
def bE (a : GI) : Int :=
 bif (decide (a.mag = 0)) then
  0
 else
  bif a.neg then
   (-1)
  else
   1
theorem cz (a : GI) (w0 : World) : Calls Tryz.prog 115 #[(vI a)] w0 (RetP w0 (.int .i64 (bE a)) ((-1 ≤ (bE a) ∧ (bE a) ≤ 1))) := by
 refine enter (N := 10) (args := [(vI a)]) Tryz.func115 rfl rfl ?_; intro ac h
 refine gz h <| (xb) fun b1 => (ai) ?_ ?_ <;> clear h ac <;> intro ac wo h hc1
 ·
  have hd1 := of_decide_eq_true hc1
  have hd : bE a = 0 := pt
  refine gz h <| (W) ?_; clear h ac wo; intro ac wo h
  exact (rt h) (h.retP (by rw [hd] <;> rfl) (by rw [hd]; exact by first | omega | exact dO og og))
 ·
  have hd1 := of_decide_eq_false hc1
  refine gz h <| (ai) ?_ ?_ <;> clear h ac wo <;> intro ac wo h hc2
  ·
   have hd : bE a = (-1) := pt
   refine gz h <| (W) ?_; clear h ac wo; intro ac wo h
   exact (rt h) (h.retP (by rw [hd] <;> rfl) (by rw [hd]; exact by first | omega | exact dO og og))
  ·
   have hd : bE a = 1 := pt
   refine gz h <| (W) ?_; clear h ac wo; intro ac wo h
   exact (rt h) (h.retP (by rw [hd] <;> rfl) (by rw [hd]; exact by first | omega | exact dO og og))
def ao (a : GI) : GI :=
 (aA (!a.neg) a.mag)
theorem cL (a : GI) (k : Nat) (hk : k ≤ 40) (za : SzI k a) (w0 : World) : Calls Tryz.prog 161 #[(vI a)] w0 (RetP w0 (vI (ao a)) (SzI k (ao a))) := by
 refine enter (N := 9) (args := [(vI a)]) Tryz.func161 rfl rfl ?_; intro ac h
 have c1 := br (!a.neg) a.mag k og za
 have s1 := am (c1 w0)
 refine gz h <| (xb) fun b1 => (xa) fun b2 => (xk c1) <| (W) ?_; clear h ac; intro ac wo h
 exact ret h rfl (.cell (v := (vI (aA (!a.neg) a.mag))) rfl (i := 0) rfl aa25 zz25 rfl rfl rfl .nil) rfl (h.retP (by unfold ao; rfl) (by unfold ao; exact s1))
def bW (a : GI) (b : GI) : Int :=
 bif (a.neg != b.neg) then
  (bA (bE a) (bE b))
 else
  bif a.neg then
   -(aY a.mag b.mag)
  else
   (aY a.mag b.mag)
theorem eD (a : GI) (b : GI) (k : Nat) (hk : k ≤ 40) (za : SzI k a) (zb : SzI k b) (w0 : World) : Calls Tryz.prog 158 #[(vI a), (vI b)] w0 (RetP w0 (.int .i64 (bW a b)) ((-1 ≤ (bW a b) ∧ (bW a b) ≤ 1))) := by
 refine enter (N := 26) (args := [(vI a), (vI b)]) Tryz.func158 rfl rfl ?_; intro ac h
 refine gz h <| (xb) fun b1 => (xb) fun b2 => (xo (hs := by exact nq nn4 rfl rfl)) <| (ai) ?_ ?_ <;> clear h ac <;> intro ac wo h hc1
 ·
  refine gz h <| (W) ?_; clear h ac wo; intro ac wo h
  have p2 := am ((cz a) w0)
  have p4 := am ((cz b) w0)
  have p6 := am ((gO (bE a) (bE b)) w0)
  have hd : bW a b = (bA (bE a) (bE b)) := pt
  refine gz h <| (dr0 (hob := (oK (cz a)) <| (oK (cz b)) <| (oK (gO (bE a) (bE b))) <| oE)) <| (W) ?_; clear h ac wo; intro ac wo h
  exact (rt h) (h.retP (by rw [hd] <;> rfl) (by rw [hd]; exact by first | omega | exact dO og og))
 ·
  have p8 := am ((c8 a.mag b.mag) w0)
  refine gz h <| (xk (c8 a.mag b.mag)) <| (ai) ?_ ?_ <;> clear h ac wo <;> intro ac wo h hc2
  ·
   have hd : bW a b = -(aY a.mag b.mag) := pt
   refine gz h <| (xo (hs := by exact r_neg rfl (r := -(aY a.mag b.mag)) (by rw [IntKind.wrap_i64]; omega))) <| (W) ?_; clear h ac wo; intro ac wo h
   exact (rt h) (h.retP (by rw [hd] <;> rfl) (by rw [hd]; exact by first | omega | exact dO og og))
  ·
   have hd : bW a b = (aY a.mag b.mag) := pt
   refine gz h <| (W) ?_; clear h ac wo; intro ac wo h
   exact (rt h) (h.retP (by rw [hd] <;> rfl) (by rw [hd]; exact by first | omega | exact dO og og))
def aC (a : GI) (b : GI) : GI :=
 bif (a.neg == b.neg) then
  (aA a.neg (cn a.mag b.mag))
 else
  bif (decide ((aY a.mag b.mag) ≥ 0)) then
   (aA a.neg (bP a.mag b.mag))
  else
   (aA b.neg (bP b.mag a.mag))
theorem dU (a : GI) (b : GI) (k : Nat) (hk : (k + 1) ≤ 40) (za : SzI (k + 1) a) (zb : SzI (k + 1) b) (w0 : World) : Calls Tryz.prog 96 #[(vI a), (vI b)] w0 (RetP w0 (vI (aC a b)) (SzI k (aC a b))) := by
 refine enter (N := 42) (args := [(vI a), (vI b)]) Tryz.func96 rfl rfl ?_; intro ac h
 refine gz h <| (xb) fun b1 => (xb) fun b2 => (xa) fun b3 => (xo (hs := by exact r_eqlB nn4 rfl rfl)) <| (ai) ?_ ?_ <;> clear h ac <;> intro ac wo h hc1
 ·
  have hd1 := eq_of_beq hc1
  refine gz h <| (W) ?_; clear h ac wo; intro ac wo h
  have s1 := am ((eR a.mag b.mag k og za zb) w0)
  have s2 := am ((br a.neg (cn a.mag b.mag) k og s1) w0)
  have hd : aC a b = (aA a.neg (cn a.mag b.mag)) := pt
  refine gz h <| (dr1 (H := [⟨.blk b3 (cI (⟨false, 0⟩ : GI)) 25, [(8, .con (.blk b3 (cI (aA a.neg (cn a.mag b.mag))) 25))]⟩, ⟨_, []⟩, ⟨_, []⟩]) (hob := (oK (eR a.mag b.mag k og za zb)) <| (oK (br a.neg (cn a.mag b.mag) k og s1)) <| oE)) <| (W) ?_; clear h ac wo; intro ac wo h
  exact ret h rfl (.cell (v := (vI (aA a.neg (cn a.mag b.mag)))) rfl (i := 0) rfl aa25 zz25 rfl rfl rfl .nil) rfl (h.retP (by rw [hd] <;> rfl) (by rw [hd]; exact s2))
 ·
  have hd1 := ne_of_beq_false hc1
  have p4 := am ((c8 a.mag b.mag) w0)
  refine gz h <| (xk (c8 a.mag b.mag)) <| (ai) ?_ ?_ <;> clear h ac wo <;> intro ac wo h hc2
  ·
   have hd2 := of_decide_eq_true hc2
   refine gz h <| (W) ?_; clear h ac wo; intro ac wo h
   have s5 := am ((eA a.mag b.mag (k + 1) og za zb (by first | exact oe ‹_› | exact oc ‹_›)) w0)
   have s6 := am ((br a.neg (bP a.mag b.mag) (k + 1) og s5) w0)
   have hd : aC a b = (aA a.neg (bP a.mag b.mag)) := pt
   refine gz h <| (dr1 (H := [⟨.blk b3 (cI (⟨false, 0⟩ : GI)) 25, [(8, .con (.blk b3 (cI (aA a.neg (bP a.mag b.mag))) 25))]⟩, ⟨_, []⟩, ⟨_, []⟩]) (hob := (oK (eA a.mag b.mag (k + 1) og za zb (by first | exact oe ‹_› | exact oc ‹_›))) <| (oK (br a.neg (bP a.mag b.mag) (k + 1) og s5)) <| oE)) <| (W) ?_; clear h ac wo; intro ac wo h
   exact ret h rfl (.cell (v := (vI (aA a.neg (bP a.mag b.mag)))) rfl (i := 0) rfl aa25 zz25 rfl rfl rfl .nil) rfl (h.retP (by rw [hd] <;> rfl) (by rw [hd]; exact (en s6 og)))
  ·
   have hd2 := of_decide_eq_false hc2
   refine gz h <| (W) ?_; clear h ac wo; intro ac wo h
   have s7 := am ((eA b.mag a.mag (k + 1) og zb za (by first | exact oe ‹_› | exact oc ‹_›)) w0)
   have s8 := am ((br b.neg (bP b.mag a.mag) (k + 1) og s7) w0)
   have hd : aC a b = (aA b.neg (bP b.mag a.mag)) := pt
   refine gz h <| (dr1 (H := [⟨.blk b3 (cI (⟨false, 0⟩ : GI)) 25, [(8, .con (.blk b3 (cI (aA b.neg (bP b.mag a.mag))) 25))]⟩, ⟨_, []⟩, ⟨_, []⟩]) (hob := (oK (eA b.mag a.mag (k + 1) og zb za (by first | exact oe ‹_› | exact oc ‹_›))) <| (oK (br b.neg (bP b.mag a.mag) (k + 1) og s7)) <| oE)) <| (W) ?_; clear h ac wo; intro ac wo h
   exact ret h rfl (.cell (v := (vI (aA b.neg (bP b.mag a.mag)))) rfl (i := 0) rfl aa25 zz25 rfl rfl rfl .nil) rfl (h.retP (by rw [hd] <;> rfl) (by rw [hd]; exact (en s8 og)))
def ab (a : GI) (b : GI) : GI :=
 (aA (a.neg != b.neg) (dL a.mag b.mag))
theorem bo (a : GI) (b : GI) (k : Nat) (hk : (k + 1) ≤ 40) (za : SzI (k + 1) a) (zb : SzI (k + 1) b) (w0 : World) : Calls Tryz.prog 97 #[(vI a), (vI b)] w0 (RetP w0 (vI (ab a b)) (SzI k (ab a b))) := by
 refine enter (N := 16) (args := [(vI a), (vI b)]) Tryz.func97 rfl rfl ?_; intro ac h
 have s1 := am ((gw a.mag b.mag k og za zb) w0)
 have s2 := am ((br (a.neg != b.neg) (dL a.mag b.mag) k og s1) w0)
 refine gz h <| (xb) fun b1 => (xb) fun b2 => (xa) fun b3 => (dr1 (H := [⟨.blk b3 (cI (⟨false, 0⟩ : GI)) 25, [(11, .con (.blk b3 (cI (aA (a.neg != b.neg) (dL a.mag b.mag))) 25))]⟩, ⟨_, []⟩, ⟨_, []⟩]) (hob := (oX (h := by exact fun _ => a7 (nq nn4 rfl rfl))) <| (oK (gw a.mag b.mag k og za zb)) <| (oK (br (a.neg != b.neg) (dL a.mag b.mag) k og s1)) <| oE)) <| (W) ?_; clear h ac; intro ac wo h
 exact ret h rfl (.cell (v := (vI (aA (a.neg != b.neg) (dL a.mag b.mag)))) rfl (i := 0) rfl aa25 zz25 rfl rfl rfl .nil) rfl (h.retP (by unfold ab; rfl) (by unfold ab; exact s2))
def aM (a b : GI) : GI := aA false (Nat.gcd a.mag b.mag)
theorem pY (x y : Nat) : Nat.gcd y (x % y) = Nat.gcd x y := by rw [Nat.gcd_comm x y, Nat.gcd_rec y x, Nat.gcd_comm]
theorem fB (a : GI) (b : GI) (k : Nat) (hk : k ≤ 40) (za : SzI k a) (zb : SzI k b) (w0 : World) : Calls Tryz.prog 160 #[(vI a), (vI b)] w0 (RetP w0 (vI (aM a b)) (SzI k (aM a b))) := by
 refine enter (N := 45) (args := [(vI a), (vI b)]) Tryz.func160 rfl rfl ?_; intro ac h
 refine gz h <| (xb) fun b1 => (xb) fun b2 => (xa) fun b3 => (dr0 (hob := oE)) <| (W) ?_; clear h ac; intro ac wo h
 refine wp_loop_ghost (fun n_ a_ w_ => ∃ (x : Nat) (y : Nat), n_ = 1 * y ∧ (Nat.gcd x y = Nat.gcd a.mag b.mag) ∧ (SzB k x) ∧ (SzB k y) ∧ St w0 45 [(4, (ptr b3 0)), (5, (.string (bs x))), (6, (.string (bs y)))] [.blk b3 (cI (⟨false, 0⟩ : GI)) 25, .blk b2 (cI b) 25, .blk b1 (cI a) 25] a_ w_) _ ⟨a.mag, b.mag, rfl, rfl, za, zb, h.re [0, 1, 2]⟩ ?_
 clear h ac wo; rintro _ ac wo ⟨x, y, rfl, hg, zx, zy, h⟩
 refine gz h <| (ai) ?_ ?_ <;> clear h ac wo <;> intro ac wo h hc1
 ·
  have hy : y ≠ 0 := by simpa using hc1
  refine gz h <| (xk (em x y)) <| (ai) ?_ ?_ <;> clear h ac wo <;> intro ac wo h hc2
  ·
   obtain ⟨ha6, hb6, hw⟩ := im hc2
   simp only [hw] at h
   refine gz h <| (W) ?_; clear h ac wo; intro ac wo h
   refine wp_loop_ghost (fun n_ a_ w_ => ∃ (u : Nat) (v : Nat), n_ = 1 * v ∧ (Nat.gcd u v = Nat.gcd a.mag b.mag) ∧ (SzB k u) ∧ (SzB k v) ∧ (u < 18446744073709551616 ∧ v < 18446744073709551616) ∧ St w0 45 [(4, (ptr b3 0)), (7, (.int .u64 ((u : Nat) : Int))), (8, (.int .u64 ((v : Nat) : Int)))] [.blk b3 (cI (⟨false, 0⟩ : GI)) 25, .blk b2 (cI b) 25, .blk b1 (cI a) 25] a_ w_) _ ⟨x, y, rfl, hg, zx, zy, ⟨ha6, hb6⟩, h.re [0, 1, 2]⟩ ?_
   clear h ac wo; rintro _ ac wo ⟨u, v, rfl, hgu, zu, zv, hul, h⟩
   refine gz h <| (ai) ?_ ?_ <;> clear h ac wo <;> intro ac wo h hc3
   ·
    have hv : v ≠ 0 := by have := hc3; simp at this; omega
    refine gz h <| (dr0 (hob := (oX (h := by exact fun _ => a7 (oL rfl rfl (r := ((u % v : Nat) : Int)) og (by rw [Int.tmod_eq_emod_of_nonneg og]; rfl)))) <| oE)) <| (W) ?_; clear h ac wo; intro ac wo h
    exact aG ⟨_, (by have := Nat.mod_lt u (show v > 0 by omega); omega), v, (u % v), rfl, (by rw [pY]; exact hgu), zv, (eK zu (Nat.mod_le _ _)), ⟨hul.2, by have := Nat.mod_lt u (show v > 0 by omega); omega⟩, h.re [0, 1, 2]⟩
   ·
    have hv : v = 0 := by have := hc3; simp at this; omega
    subst hv
    have c1 := br false (bh u) k og zu
    have s1 := am (c1 w0)
    have hd : aM a b = (aA false (bh u)) := (by rw [Nat.gcd_zero_right] at hgu; unfold aM; rw [← hgu]; rfl)
    refine gz h <| (xk (bR u hul.1)) <| (xk c1) <| (W) ?_; clear h ac wo; intro ac wo h
    exact ret h rfl (.cell (v := (vI (aA false (bh u)))) rfl (i := 0) rfl aa25 zz25 rfl rfl rfl .nil) rfl (h.retP (by rw [hd] <;> rfl) (by rw [hd]; exact s1))
  ·
   have c2 := fA x y k og zx zy og
   have s2 := am (c2 w0)
   refine gz h <| (xk c2) <| (W) ?_; clear h ac wo; intro ac wo h
   exact aG ⟨_, (by have := Nat.mod_lt x (show y > 0 by omega); omega), y, (x % y), rfl, (by rw [pY]; exact hg), zy, (eK zx (Nat.mod_le _ _)), h.re [0, 1, 2]⟩
 ·
  have hy : y = 0 := by simpa using hc1
  subst hy
  have c3 := br false x k og zx
  have s3 := am (c3 w0)
  have hd : aM a b = (aA false x) := (by rw [Nat.gcd_zero_right] at hg; unfold aM; rw [← hg])
  refine gz h <| (xk c3) <| (W) ?_; clear h ac wo; intro ac wo h
  exact ret h rfl (.cell (v := (vI (aA false x))) rfl (i := 0) rfl aa25 zz25 rfl rfl rfl .nil) rfl (h.retP (by rw [hd] <;> rfl) (by rw [hd]; exact s3))
def aE (a : GI) (b : GI) : GI × GI × Int :=
 bif (decide (b.mag = 0)) then
  ((⟨false, 0⟩ : GI), (⟨false, 0⟩ : GI), 6)
 else
  bif (a.neg && (!(decide (((a8 a.mag b.mag).2) = 0)))) then
   ((aA (a.neg != b.neg) (cn ((a8 a.mag b.mag).1) 1)), (aA false (bP b.mag ((a8 a.mag b.mag).2))), 0)
  else
   ((aA (a.neg != b.neg) ((a8 a.mag b.mag).1)), (aA false ((a8 a.mag b.mag).2)), 0)
theorem dZ (a : GI) (b : GI) (k : Nat) (hk : (k + 1) ≤ 40) (za : SzI (k + 1) a) (zb : SzI (k + 1) b) (w0 : World) : Calls Tryz.prog 253 #[(vI a), (vI b)] w0 (RetP w0 (.tuple #[(vI ((aE a b).1)), (vI ((aE a b).2.1)), (.int .i64 ((aE a b).2.2))]) (SzI k ((aE a b).1) ∧ SzI k ((aE a b).2.1))) := by
 refine enter (N := 43) (args := [(vI a), (vI b)]) Tryz.func253 rfl rfl ?_; intro ac h
 refine gz h <| (xb) fun b1 => (xb) fun b2 => (xa) fun b3 => (xa) fun b4 => (ai) ?_ ?_ <;> clear h ac <;> intro ac wo h hc1
 ·
  have hd1 := of_decide_eq_true hc1
  have hd : aE a b = ((⟨false, 0⟩ : GI), (⟨false, 0⟩ : GI), 6) := pt
  refine gz h <| (xo (hs := by exact bD lA exs rfl (v := (vI (⟨false, 0⟩ : GI))) rfl)) <| (xo (hs := by exact bD lA exs rfl (v := (vI (⟨false, 0⟩ : GI))) rfl)) <| (W) ?_; clear h ac wo; intro ac wo h
  exact ret h rfl (.cell (v := (vI (⟨false, 0⟩ : GI))) rfl (i := 1) rfl aa25 zz25 rfl rfl rfl (.cell (v := (vI (⟨false, 0⟩ : GI))) rfl (i := 0) rfl aa25 zz25 rfl rfl rfl (.tmp rfl .nil))) rfl (h.retP (by rw [hd] <;> rfl) (by rw [hd]; exact ⟨(bn 0 (by decide) og), (bn 0 (by decide) og)⟩))
 ·
  have hd1 := of_decide_eq_false hc1
  have c1 := fA a.mag b.mag (k + 1) og za zb og
  have s1 := am (c1 w0)
  refine gz h <| (xk c1) <| (ai) ?_ ?_ <;> clear h ac wo <;> intro ac wo h hc2
  ·
   have s2 := am ((eR ((a8 a.mag b.mag).1) 1 k og s1.1 (bn 1 (by decide) og)) w0)
   have s3 := am ((eA b.mag ((a8 a.mag b.mag).2) (k + 1) og zb s1.2 (Nat.le_of_lt (Nat.mod_lt _ og))) w0)
   refine gz h <| (dr0 (hob := (oK (eR ((a8 a.mag b.mag).1) 1 k og s1.1 (bn 1 (by decide) og))) <| (oK (eA b.mag ((a8 a.mag b.mag).2) (k + 1) og zb s1.2 (Nat.le_of_lt (Nat.mod_lt _ og)))) <| oE)) <| (W) ?_; clear h ac wo; intro ac wo h
   have c4 := br (a.neg != b.neg) (cn ((a8 a.mag b.mag).1) 1) k og s2
   have s4 := am (c4 w0)
   have c5 := br false (bP b.mag ((a8 a.mag b.mag).2)) (k + 1) og s3
   have s5 := am (c5 w0)
   have hd : aE a b = ((aA (a.neg != b.neg) (cn ((a8 a.mag b.mag).1) 1)), (aA false (bP b.mag ((a8 a.mag b.mag).2))), 0) := pt
   refine gz h <| (xo (hs := by exact nq nn4 rfl rfl)) <| (xk c4) <| (xk c5) <| (W) ?_; clear h ac wo; intro ac wo h
   exact ret h rfl (.cell (v := (vI (aA (a.neg != b.neg) (cn ((a8 a.mag b.mag).1) 1)))) rfl (i := 1) rfl aa25 zz25 rfl rfl rfl (.cell (v := (vI (aA false (bP b.mag ((a8 a.mag b.mag).2))))) rfl (i := 0) rfl aa25 zz25 rfl rfl rfl (.tmp rfl .nil))) rfl (h.retP (by rw [hd] <;> rfl) (by rw [hd]; exact ⟨s4, (en s5 og)⟩))
  ·
   have c6 := br (a.neg != b.neg) ((a8 a.mag b.mag).1) (k + 1) og s1.1
   have s6 := am (c6 w0)
   have c7 := br false ((a8 a.mag b.mag).2) (k + 1) og s1.2
   have s7 := am (c7 w0)
   have hd : aE a b = ((aA (a.neg != b.neg) ((a8 a.mag b.mag).1)), (aA false ((a8 a.mag b.mag).2)), 0) := pt
   refine gz h <| (xo (hs := by exact nq nn4 rfl rfl)) <| (xk c6) <| (xk c7) <| (W) ?_; clear h ac wo; intro ac wo h
   exact ret h rfl (.cell (v := (vI (aA (a.neg != b.neg) ((a8 a.mag b.mag).1)))) rfl (i := 1) rfl aa25 zz25 rfl rfl rfl (.cell (v := (vI (aA false ((a8 a.mag b.mag).2)))) rfl (i := 0) rfl aa25 zz25 rfl rfl rfl (.tmp rfl .nil))) rfl (h.retP (by rw [hd] <;> rfl) (by rw [hd]; exact ⟨(en s6 og), (en s7 og)⟩))
def rational_one  : GI :=
 (ar 1)
theorem dr (k : Nat) (hk : k ≤ 40) (w0 : World) : Calls Tryz.prog 159 #[] w0 (RetP w0 (vI rational_one) (SzI k rational_one)) := by
 refine enter (N := 2) (args := []) Tryz.func159 rfl rfl ?_; intro ac h
 have c1 := dC 1 k og  og
 have s1 := am (c1 w0)
 refine gz h <| (xa) fun b1 => (xk c1) <| (W) ?_; clear h ac; intro ac wo h
 exact ret h rfl (.cell (v := (vI (ar 1))) rfl (i := 0) rfl aa25 zz25 rfl rfl rfl .nil) rfl (h.retP (by unfold rational_one; rfl) (by unfold rational_one; exact s1))
def ak (n : Int) : GQ :=
 (⟨(ar n), (⟨false, 0⟩ : GI)⟩ : GQ)
theorem bL (n : Int) (k : Nat) (hk : k ≤ 40) (hn : -9223372036854775808 ≤ n ∧ n ≤ 9223372036854775807) (w0 : World) : Calls Tryz.prog 85 #[(.int .i64 n)] w0 (RetP w0 (vQ (ak n)) (SzQ k (ak n))) := by
 refine enter (N := 6) (args := [(.int .i64 n)]) Tryz.func85 rfl rfl ?_; intro ac h
 have c1 := dC n k og  og
 have s1 := am (c1 w0)
 refine gz h <| (xa) fun b1 => (xk c1) <| (xo (hs := by exact bD kb exs rfl (v := (vQ (⟨(ar n), (⟨false, 0⟩ : GI)⟩ : GQ))) rfl)) <| (W) ?_; clear h ac; intro ac wo h
 exact ret h rfl (.cell (v := (vQ (⟨(ar n), (⟨false, 0⟩ : GI)⟩ : GQ))) rfl (i := 0) rfl aa27 zz27 rfl rfl rfl .nil) rfl (h.retP (by unfold ak; rfl) (by unfold ak; exact ⟨s1, (bn 0 (by decide) og)⟩))
def aa (a : GQ) : GI :=
 bif (decide (a.den = (⟨false, 0⟩ : GI))) then
  rational_one
 else
  a.den
theorem be (a : GQ) (k : Nat) (hk : k ≤ 40) (za : SzQ k a) (w0 : World) : Calls Tryz.prog 98 #[(vQ a)] w0 (RetP w0 (vI (aa a)) (SzI k (aa a))) := by
 refine enter (N := 10) (args := [(vQ a)]) Tryz.func98 rfl rfl ?_; intro ac h
 refine gz h <| (xb) fun b1 => (xa) fun b2 => (xo (hs := by exact bD lA exs rfl (v := (vI (⟨false, 0⟩ : GI))) rfl)) <| (ai) ?_ ?_ <;> clear h ac <;> intro ac wo h hc1
 ·
  have hd1 := of_decide_eq_true hc1
  have c1 := dr  k og
  have s1 := am (c1 w0)
  have hd : aa a = rational_one := pt
  refine gz h <| (xk c1) <| (W) ?_; clear h ac wo; intro ac wo h
  exact ret h rfl (.cell (v := (vI rational_one)) rfl (i := 0) rfl aa25 zz25 rfl rfl rfl .nil) rfl (h.retP (by rw [hd] <;> rfl) (by rw [hd]; exact s1))
 ·
  have hd1 := of_decide_eq_false hc1
  have hd : aa a = a.den := pt
  refine gz h <| (W) ?_; clear h ac wo; intro ac wo h
  exact ret h rfl (.cell (v := (vI a.den)) rfl (i := 0) rfl aa25 zz25 rfl rfl rfl .nil) rfl (h.retP (by rw [hd] <;> rfl) (by rw [hd]; exact za.2))
def az (a : GI) (b : GI) : GI :=
 (aE a b).1
theorem cf (a : GI) (b : GI) (k : Nat) (hk : (k + 1) ≤ 40) (za : SzI (k + 1) a) (zb : SzI (k + 1) b) (w0 : World) : Calls Tryz.prog 192 #[(vI a), (vI b)] w0 (RetP w0 (vI (az a b)) (SzI k (az a b))) := by
 refine enter (N := 16) (args := [(vI a), (vI b)]) Tryz.func192 rfl rfl ?_; intro ac h
 have c1 := dZ a b k og za zb
 have s1 := am (c1 w0)
 refine gz h <| (xb) fun b1 => (xb) fun b2 => (xa) fun b3 => (xk c1) <| (xa) fun b4 => (xa) fun b5 => (W) ?_; clear h ac; intro ac wo h
 exact ret h rfl (.cell (v := (vI ((aE a b).1))) rfl (i := 2) rfl aa25 zz25 rfl rfl rfl .nil) rfl (h.retP (by unfold az; rfl) (by unfold az; exact s1.1))
def aW (num : GI) (den : GI) : GQ :=
 bif (decide ((bE den) < 0)) then
  bif (decide ((az (ao den) (aM (ao num) (ao den))) = rational_one)) then
   (⟨(az (ao num) (aM (ao num) (ao den))), (⟨false, 0⟩ : GI)⟩ : GQ)
  else
   (⟨(az (ao num) (aM (ao num) (ao den))), (az (ao den) (aM (ao num) (ao den)))⟩ : GQ)
 else
  bif (decide ((az den (aM num den)) = rational_one)) then
   (⟨(az num (aM num den)), (⟨false, 0⟩ : GI)⟩ : GQ)
  else
   (⟨(az num (aM num den)), (az den (aM num den))⟩ : GQ)
theorem cJ (num : GI) (den : GI) (k : Nat) (hk : (k + 1) ≤ 40) (znum : SzI (k + 1) num) (zden : SzI (k + 1) den) (w0 : World) : Calls Tryz.prog 95 #[(vI num), (vI den)] w0 (RetP w0 (vQ (aW num den)) (SzQ k (aW num den))) := by
 refine enter (N := 29) (args := [(vI num), (vI den)]) Tryz.func95 rfl rfl ?_; intro ac h
 have p2 := am ((cz den) w0)
 refine gz h <| (xb) fun b1 => (xb) fun b2 => (xa) fun b3 => (xk (cz den)) <| (ai) ?_ ?_ <;> clear h ac <;> intro ac wo h hc1
 ·
  have hd1 := of_decide_eq_true hc1
  have s3 := am ((cL num (k + 1) og znum) w0)
  have s4 := am ((cL den (k + 1) og zden) w0)
  refine gz h <| (dr1 (H := [⟨_, []⟩, ⟨.blk b2 (cI den) 25, [(5, .con (.blk b2 (cI (ao den)) 25))]⟩, ⟨.blk b1 (cI num) 25, [(4, .con (.blk b1 (cI (ao num)) 25))]⟩]) (hob := (oK (cL num (k + 1) og znum)) <| (oK (cL den (k + 1) og zden)) <| oE)) <| (W) ?_; clear h ac wo; intro ac wo h
  have c5 := fB (ao num) (ao den) (k + 1) og s3 s4
  have s5 := am (c5 w0)
  have s6 := am ((cf (ao num) (aM (ao num) (ao den)) k og s3 s5) w0)
  have s7 := am ((cf (ao den) (aM (ao num) (ao den)) k og s4 s5) w0)
  refine gz h <| (xk c5) <| (xa) fun b4 => (dr1 (H := [⟨_, []⟩, ⟨_, []⟩, ⟨.blk b2 (cI (ao den)) 25, [(7, .con (.blk b2 (cI (az (ao den) (aM (ao num) (ao den)))) 25))]⟩, ⟨.blk b1 (cI (ao num)) 25, [(6, .con (.blk b1 (cI (az (ao num) (aM (ao num) (ao den)))) 25))]⟩]) (hob := (oK (cf (ao num) (aM (ao num) (ao den)) k og s3 s5)) <| (oK (cf (ao den) (aM (ao num) (ao den)) k og s4 s5)) <| oE)) <| (W) ?_; clear h ac wo; intro ac wo h
  have s8 := am ((dr  (k + 1) og ) w0)
  refine gz h <| (dr0 (hob := (oK (dr  (k + 1) og )) <| oE)) <| (ai) ?_ ?_ <;> clear h ac wo <;> intro ac wo h hc2
  ·
   have hd2 := of_decide_eq_true hc2
   have hd : aW num den = (⟨(az (ao num) (aM (ao num) (ao den))), (⟨false, 0⟩ : GI)⟩ : GQ) := pt
   refine gz h <| (xo (hs := by exact bD lA exs rfl (v := (vI (⟨false, 0⟩ : GI))) rfl)) <| (xo (hs := by exact bD kb exs rfl (v := (vQ (⟨(az (ao num) (aM (ao num) (ao den))), (⟨false, 0⟩ : GI)⟩ : GQ))) rfl)) <| (W) ?_; clear h ac wo; intro ac wo h
   exact ret h rfl (.cell (v := (vQ (⟨(az (ao num) (aM (ao num) (ao den))), (⟨false, 0⟩ : GI)⟩ : GQ))) rfl (i := 1) rfl aa27 zz27 rfl rfl rfl .nil) rfl (h.retP (by rw [hd] <;> rfl) (by rw [hd]; exact ⟨s6, (bn 0 (by decide) og)⟩))
  ·
   have hd2 := of_decide_eq_false hc2
   have hd : aW num den = (⟨(az (ao num) (aM (ao num) (ao den))), (az (ao den) (aM (ao num) (ao den)))⟩ : GQ) := pt
   refine gz h <| (xo (hs := by exact bD kb exs rfl (v := (vQ (⟨(az (ao num) (aM (ao num) (ao den))), (az (ao den) (aM (ao num) (ao den)))⟩ : GQ))) rfl)) <| (W) ?_; clear h ac wo; intro ac wo h
   exact ret h rfl (.cell (v := (vQ (⟨(az (ao num) (aM (ao num) (ao den))), (az (ao den) (aM (ao num) (ao den)))⟩ : GQ))) rfl (i := 1) rfl aa27 zz27 rfl rfl rfl .nil) rfl (h.retP (by rw [hd] <;> rfl) (by rw [hd]; exact ⟨s6, s7⟩))
 ·
  have hd1 := of_decide_eq_false hc1
  have c9 := fB num den (k + 1) og znum zden
  have s9 := am (c9 w0)
  have s10 := am ((cf num (aM num den) k og znum s9) w0)
  have s11 := am ((cf den (aM num den) k og zden s9) w0)
  refine gz h <| (xk c9) <| (xa) fun b5 => (dr1 (H := [⟨_, []⟩, ⟨_, []⟩, ⟨.blk b2 (cI den) 25, [(7, .con (.blk b2 (cI (az den (aM num den))) 25))]⟩, ⟨.blk b1 (cI num) 25, [(6, .con (.blk b1 (cI (az num (aM num den))) 25))]⟩]) (hob := (oK (cf num (aM num den) k og znum s9)) <| (oK (cf den (aM num den) k og zden s9)) <| oE)) <| (W) ?_; clear h ac wo; intro ac wo h
  have s12 := am ((dr  (k + 1) og ) w0)
  refine gz h <| (dr0 (hob := (oK (dr  (k + 1) og )) <| oE)) <| (ai) ?_ ?_ <;> clear h ac wo <;> intro ac wo h hc3
  ·
   have hd3 := of_decide_eq_true hc3
   have hd : aW num den = (⟨(az num (aM num den)), (⟨false, 0⟩ : GI)⟩ : GQ) := pt
   refine gz h <| (xo (hs := by exact bD lA exs rfl (v := (vI (⟨false, 0⟩ : GI))) rfl)) <| (xo (hs := by exact bD kb exs rfl (v := (vQ (⟨(az num (aM num den)), (⟨false, 0⟩ : GI)⟩ : GQ))) rfl)) <| (W) ?_; clear h ac wo; intro ac wo h
   exact ret h rfl (.cell (v := (vQ (⟨(az num (aM num den)), (⟨false, 0⟩ : GI)⟩ : GQ))) rfl (i := 1) rfl aa27 zz27 rfl rfl rfl .nil) rfl (h.retP (by rw [hd] <;> rfl) (by rw [hd]; exact ⟨s10, (bn 0 (by decide) og)⟩))
  ·
   have hd3 := of_decide_eq_false hc3
   have hd : aW num den = (⟨(az num (aM num den)), (az den (aM num den))⟩ : GQ) := pt
   refine gz h <| (xo (hs := by exact bD kb exs rfl (v := (vQ (⟨(az num (aM num den)), (az den (aM num den))⟩ : GQ))) rfl)) <| (W) ?_; clear h ac wo; intro ac wo h
   exact ret h rfl (.cell (v := (vQ (⟨(az num (aM num den)), (az den (aM num den))⟩ : GQ))) rfl (i := 1) rfl aa27 zz27 rfl rfl rfl .nil) rfl (h.retP (by rw [hd] <;> rfl) (by rw [hd]; exact ⟨s10, s11⟩))
def aN (a : GQ) (b : GQ) : GI × GI × GI :=
 bif (decide (a.den = b.den)) then
  (a.num, b.num, (aa a))
 else
  ((ab a.num (aa b)), (ab b.num (aa a)), (ab (aa a) (aa b)))
theorem gD (a : GQ) (b : GQ) (k : Nat) (hk : (k + 1) ≤ 40) (za : SzQ (k + 1) a) (zb : SzQ (k + 1) b) (w0 : World) : Calls Tryz.prog 94 #[(vQ a), (vQ b)] w0 (RetP w0 (.tuple #[(vI ((aN a b).1)), (vI ((aN a b).2.1)), (vI ((aN a b).2.2))]) (SzI k ((aN a b).1) ∧ SzI k ((aN a b).2.1) ∧ SzI k ((aN a b).2.2))) := by
 refine enter (N := 33) (args := [(vQ a), (vQ b)]) Tryz.func94 rfl rfl ?_; intro ac h
 refine gz h <| (xb) fun b1 => (xb) fun b2 => (xa) fun b3 => (xa) fun b4 => (xa) fun b5 => (ai) ?_ ?_ <;> clear h ac <;> intro ac wo h hc1
 ·
  have hd1 := of_decide_eq_true hc1
  refine gz h <| (W) ?_; clear h ac wo; intro ac wo h
  have s1 := am ((be a (k + 1) og za) w0)
  have hd : aN a b = (a.num, b.num, (aa a)) := pt
  refine gz h <| (dr1 (H := [⟨.blk b5 (cI (⟨false, 0⟩ : GI)) 25, [(8, .con (.blk b5 (cI (aa a)) 25))]⟩, ⟨.blk b4 (cI (⟨false, 0⟩ : GI)) 25, [(7, .con (.blk b4 (cI b.num) 25))]⟩, ⟨.blk b3 (cI (⟨false, 0⟩ : GI)) 25, [(6, .con (.blk b3 (cI a.num) 25))]⟩, ⟨_, []⟩, ⟨_, []⟩]) (hob := (oK (be a (k + 1) og za)) <| oE)) <| (W) ?_; clear h ac wo; intro ac wo h
  exact ret h rfl (.cell (v := (vI a.num)) rfl (i := 2) rfl aa25 zz25 rfl rfl rfl (.cell (v := (vI b.num)) rfl (i := 1) rfl aa25 zz25 rfl rfl rfl (.cell (v := (vI (aa a))) rfl (i := 0) rfl aa25 zz25 rfl rfl rfl .nil))) rfl (h.retP (by rw [hd] <;> rfl) (by rw [hd]; exact ⟨(bM za og).1, (bM zb og).1, (en s1 og)⟩))
 ·
  have hd1 := of_decide_eq_false hc1
  refine gz h <| (W) ?_; clear h ac wo; intro ac wo h
  have s2 := am ((be b (k + 1) og zb) w0)
  have s3 := am ((bo a.num (aa b) k og za.1 s2) w0)
  have s4 := am ((be a (k + 1) og za) w0)
  have s5 := am ((bo b.num (aa a) k og zb.1 s4) w0)
  have s6 := am ((be a (k + 1) og za) w0)
  have s7 := am ((be b (k + 1) og zb) w0)
  have s8 := am ((bo (aa a) (aa b) k og s6 s7) w0)
  have hd : aN a b = ((ab a.num (aa b)), (ab b.num (aa a)), (ab (aa a) (aa b))) := pt
  refine gz h <| (dr1 (H := [⟨.blk b5 (cI (⟨false, 0⟩ : GI)) 25, [(17, .con (.blk b5 (cI (ab (aa a) (aa b))) 25))]⟩, ⟨.blk b4 (cI (⟨false, 0⟩ : GI)) 25, [(16, .con (.blk b4 (cI (ab b.num (aa a))) 25))]⟩, ⟨.blk b3 (cI (⟨false, 0⟩ : GI)) 25, [(15, .con (.blk b3 (cI (ab a.num (aa b))) 25))]⟩, ⟨_, []⟩, ⟨_, []⟩]) (hob := (oK (be b (k + 1) og zb)) <| (oK (bo a.num (aa b) k og za.1 s2)) <| (oK (be a (k + 1) og za)) <| (oK (bo b.num (aa a) k og zb.1 s4)) <| (oK (be a (k + 1) og za)) <| (oK (be b (k + 1) og zb)) <| (oK (bo (aa a) (aa b) k og s6 s7)) <| oE)) <| (W) ?_; clear h ac wo; intro ac wo h
  exact ret h rfl (.cell (v := (vI (ab a.num (aa b)))) rfl (i := 2) rfl aa25 zz25 rfl rfl rfl (.cell (v := (vI (ab b.num (aa a)))) rfl (i := 1) rfl aa25 zz25 rfl rfl rfl (.cell (v := (vI (ab (aa a) (aa b)))) rfl (i := 0) rfl aa25 zz25 rfl rfl rfl .nil))) rfl (h.retP (by rw [hd] <;> rfl) (by rw [hd]; exact ⟨s3, s5, s8⟩))
def av (a : GQ) (b : GQ) : GQ :=
 (aW (aC ((aN a b).1) ((aN a b).2.1)) ((aN a b).2.2))
theorem bq (a : GQ) (b : GQ) (k : Nat) (hk : (k + 3) ≤ 40) (za : SzQ (k + 3) a) (zb : SzQ (k + 3) b) (w0 : World) : Calls Tryz.prog 20 #[(vQ a), (vQ b)] w0 (RetP w0 (vQ (av a b)) (SzQ k (av a b))) := by
 refine enter (N := 20) (args := [(vQ a), (vQ b)]) Tryz.func20 rfl rfl ?_; intro ac h
 have c1 := gD a b (k + 2) og za zb
 have s1 := am (c1 w0)
 have s2 := am ((dU ((aN a b).1) ((aN a b).2.1) (k + 1) og s1.1 s1.2.1) w0)
 have s3 := am ((cJ (aC ((aN a b).1) ((aN a b).2.1)) ((aN a b).2.2) k og s2 (en s1.2.2 og)) w0)
 refine gz h <| (xb) fun b1 => (xb) fun b2 => (xa) fun b3 => (xk c1) <| (xa) fun b4 => (xa) fun b5 => (xa) fun b6 => (dr1 (H := [⟨_, []⟩, ⟨_, []⟩, ⟨_, []⟩, ⟨.blk b3 (cQ oQ) 27, [(5, .con (.blk b3 (cQ (aW (aC ((aN a b).1) ((aN a b).2.1)) ((aN a b).2.2))) 27))]⟩, ⟨_, []⟩, ⟨_, []⟩]) (hob := (oK (dU ((aN a b).1) ((aN a b).2.1) (k + 1) og s1.1 s1.2.1)) <| (oK (cJ (aC ((aN a b).1) ((aN a b).2.1)) ((aN a b).2.2) k og s2 (en s1.2.2 og))) <| oE)) <| (W) ?_; clear h ac; intro ac wo h
 exact ret h rfl (.cell (v := (vQ (aW (aC ((aN a b).1) ((aN a b).2.1)) ((aN a b).2.2)))) rfl (i := 3) rfl aa27 zz27 rfl rfl rfl .nil) rfl (h.retP (by unfold av; rfl) (by unfold av; exact s3))
def aP (a : GQ) : GQ :=
 (⟨(ao a.num), a.den⟩ : GQ)
theorem dI (a : GQ) (k : Nat) (hk : k ≤ 40) (za : SzQ k a) (w0 : World) : Calls Tryz.prog 63 #[(vQ a)] w0 (RetP w0 (vQ (aP a)) (SzQ k (aP a))) := by
 refine enter (N := 9) (args := [(vQ a)]) Tryz.func63 rfl rfl ?_; intro ac h
 have s1 := am ((cL a.num k og za.1) w0)
 refine gz h <| (xb) fun b1 => (xa) fun b2 => (dr1 (H := [⟨.blk b2 (cQ oQ) 27, [(6, .con (.blk b2 (cQ (⟨(ao a.num), a.den⟩ : GQ)) 27))]⟩, ⟨_, []⟩]) (hob := (oK (cL a.num k og za.1)) <| (oX (h := by exact fun _ => a7 (bD kb exs rfl (v := (vQ (⟨(ao a.num), a.den⟩ : GQ))) rfl))) <| oE)) <| (W) ?_; clear h ac; intro ac wo h
 exact ret h rfl (.cell (v := (vQ (⟨(ao a.num), a.den⟩ : GQ))) rfl (i := 0) rfl aa27 zz27 rfl rfl rfl .nil) rfl (h.retP (by unfold aP; rfl) (by unfold aP; exact ⟨s1, za.2⟩))
def ah (a : GQ) (b : GQ) : GQ :=
 (av a (aP b))
theorem bu (a : GQ) (b : GQ) (k : Nat) (hk : (k + 3) ≤ 40) (za : SzQ (k + 3) a) (zb : SzQ (k + 3) b) (w0 : World) : Calls Tryz.prog 22 #[(vQ a), (vQ b)] w0 (RetP w0 (vQ (ah a b)) (SzQ k (ah a b))) := by
 refine enter (N := 9) (args := [(vQ a), (vQ b)]) Tryz.func22 rfl rfl ?_; intro ac h
 have s1 := am ((dI b (k + 3) og zb) w0)
 have s2 := am ((bq a (aP b) k og za s1) w0)
 refine gz h <| (xb) fun b1 => (xb) fun b2 => (xa) fun b3 => (dr1 (H := [⟨.blk b3 (cQ oQ) 27, [(4, .con (.blk b3 (cQ (av a (aP b))) 27))]⟩, ⟨_, []⟩, ⟨_, []⟩]) (hob := (oK (dI b (k + 3) og zb)) <| (oK (bq a (aP b) k og za s1)) <| oE)) <| (W) ?_; clear h ac; intro ac wo h
 exact ret h rfl (.cell (v := (vQ (av a (aP b)))) rfl (i := 0) rfl aa27 zz27 rfl rfl rfl .nil) rfl (h.retP (by unfold ah; rfl) (by unfold ah; exact s2))
def aj (a : GQ) (b : GQ) : GQ :=
 (aW (ab a.num b.num) (ab (aa a) (aa b)))
theorem aT (a : GQ) (b : GQ) (k : Nat) (hk : (k + 2) ≤ 40) (za : SzQ (k + 2) a) (zb : SzQ (k + 2) b) (w0 : World) : Calls Tryz.prog 21 #[(vQ a), (vQ b)] w0 (RetP w0 (vQ (aj a b)) (SzQ k (aj a b))) := by
 refine enter (N := 16) (args := [(vQ a), (vQ b)]) Tryz.func21 rfl rfl ?_; intro ac h
 have s1 := am ((bo a.num b.num (k + 1) og za.1 zb.1) w0)
 have s2 := am ((be a (k + 2) og za) w0)
 have s3 := am ((be b (k + 2) og zb) w0)
 have s4 := am ((bo (aa a) (aa b) (k + 1) og s2 s3) w0)
 have s5 := am ((cJ (ab a.num b.num) (ab (aa a) (aa b)) k og s1 s4) w0)
 refine gz h <| (xb) fun b1 => (xb) fun b2 => (xa) fun b3 => (dr1 (H := [⟨.blk b3 (cQ oQ) 27, [(11, .con (.blk b3 (cQ (aW (ab a.num b.num) (ab (aa a) (aa b)))) 27))]⟩, ⟨_, []⟩, ⟨_, []⟩]) (hob := (oK (bo a.num b.num (k + 1) og za.1 zb.1)) <| (oK (be a (k + 2) og za)) <| (oK (be b (k + 2) og zb)) <| (oK (bo (aa a) (aa b) (k + 1) og s2 s3)) <| (oK (cJ (ab a.num b.num) (ab (aa a) (aa b)) k og s1 s4)) <| oE)) <| (W) ?_; clear h ac; intro ac wo h
 exact ret h rfl (.cell (v := (vQ (aW (ab a.num b.num) (ab (aa a) (aa b))))) rfl (i := 0) rfl aa27 zz27 rfl rfl rfl .nil) rfl (h.retP (by unfold aj; rfl) (by unfold aj; exact s5))
def au (a : GQ) : Int :=
 (bE a.num)
theorem bS (a : GQ) (w0 : World) : Calls Tryz.prog 30 #[(vQ a)] w0 (RetP w0 (.int .i64 (au a)) ((-1 ≤ (au a) ∧ (au a) ≤ 1))) := by
 refine enter (N := 6) (args := [(vQ a)]) Tryz.func30 rfl rfl ?_; intro ac h
 have p2 := am ((cz a.num) w0)
 refine gz h <| (xb) fun b1 => (xk (cz a.num)) <| (W) ?_; clear h ac; intro ac wo h
 exact (rt h) (h.retP (by unfold au; rfl) (by unfold au; exact by first | omega | exact dO og og))
def aR (a : GQ) (b : GQ) : Int :=
 bif (decide (a = b)) then
  0
 else
  (bW ((aN a b).1) ((aN a b).2.1))
theorem d8 (a : GQ) (b : GQ) (k : Nat) (hk : (k + 1) ≤ 40) (za : SzQ (k + 1) a) (zb : SzQ (k + 1) b) (w0 : World) : Calls Tryz.prog 87 #[(vQ a), (vQ b)] w0 (RetP w0 (.int .i64 (aR a b)) ((-1 ≤ (aR a b) ∧ (aR a b) ≤ 1))) := by
 refine enter (N := 21) (args := [(vQ a), (vQ b)]) Tryz.func87 rfl rfl ?_; intro ac h
 refine gz h <| (xb) fun b1 => (xb) fun b2 => (ai) ?_ ?_ <;> clear h ac <;> intro ac wo h hc1
 ·
  have hd1 := of_decide_eq_true hc1
  have hd : aR a b = 0 := pt
  refine gz h <| (W) ?_; clear h ac wo; intro ac wo h
  exact (rt h) (h.retP (by rw [hd] <;> rfl) (by rw [hd]; exact by first | omega | exact dO og og))
 ·
  have hd1 := of_decide_eq_false hc1
  have c1 := gD a b k og za zb
  have s1 := am (c1 w0)
  have p3 := am ((eD ((aN a b).1) ((aN a b).2.1) k og s1.1 s1.2.1) w0)
  have hd : aR a b = (bW ((aN a b).1) ((aN a b).2.1)) := pt
  refine gz h <| (xk c1) <| (xa) fun b3 => (xa) fun b4 => (xa) fun b5 => (xk (eD ((aN a b).1) ((aN a b).2.1) k og s1.1 s1.2.1)) <| (W) ?_; clear h ac wo; intro ac wo h
  exact (rt h) (h.retP (by rw [hd] <;> rfl) (by rw [hd]; exact by first | omega | exact dO og og))
def ay (c : GQ) : Qd :=
 (⟨c, (⟨(⟨false, 0⟩ : GI), (⟨false, 0⟩ : GI)⟩ : GQ), (⟨(⟨false, 0⟩ : GI), (⟨false, 0⟩ : GI)⟩ : GQ)⟩ : Qd)
theorem iq (c : GQ) (k : Nat) (hk : k ≤ 40) (zc : SzQ k c) (w0 : World) : Calls Tryz.prog 113 #[(vQ c)] w0 (RetP w0 (vD (ay c)) (SzD k (ay c))) := by
 refine enter (N := 5) (args := [(vQ c)]) Tryz.func113 rfl rfl ?_; intro ac h
 refine gz h <| (xb) fun b1 => (xa) fun b2 => (xo (hs := by exact bD qY exs rfl (v := (vD (⟨c, oQ, oQ⟩ : Qd))) rfl)) <| (W) ?_; clear h ac; intro ac wo h
 exact ret h rfl (.cell (v := (vD (⟨c, oQ, oQ⟩ : Qd))) rfl (i := 0) rfl Tryz.isAgg53 Tryz.sizeOf53 rfl rfl rfl .nil) rfl (h.retP (by unfold ay; rfl) (by unfold ay; exact ⟨zc, ⟨(bn 0 (by decide) og), (bn 0 (by decide) og)⟩, ⟨(bn 0 (by decide) og), (bn 0 (by decide) og)⟩⟩))
end Go.Sx
