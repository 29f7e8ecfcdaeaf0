/- A part of the proof of movingpointChecks. -/
import Derived.Test.YtbenbmdkhcfcfaaGreatDoorProg
import Derived.Test.YtbenbmdkhcfcfaaGreatDoorH9
set_option linter.unusedVariables false
set_option linter.unusedSimpArgs false
open Go.Proofs.Tryz renaming isAgg4 → aa4, underlying4 → nn4, isAgg9 → aa9, isAgg25 → aa25, sizeOf25 → zz25, isAgg27 → aa27, sizeOf27 → zz27
namespace Go.Sx
open Go Go.RowKit Go.Proofs
set_option maxRecDepth 100000
set_option maxHeartbeats 40000000
attribute [local irreducible] Code.wp wpList Rd Step ObS Ent
theorem eqi25 : EqIn Tryz.prog 2 25 vI := eqS (c := cI) (fun _ => rfl) Tryz.underlying25 Tryz.stoodInHeld25 fun d x y w hd => by
 refine Eq.trans (eqF (by decide) (dl aa4 rfl w) (dl aa4 rfl w) (eqB nn4 d og _ _ w) (eqF (by decide) (dl aa9 rfl w) (dl aa9 rfl w) (eqBs Tryz.underlying9 d og _ _ w) eqF0)) ?_
 congr 1
 rw [decide_eq_decide]
 cases x; cases y; simp
theorem eqp25 : EqP Tryz.prog 25 vI := EqIn.p (k := 2) rfl (c := fun x => (cI x).toArray) (fun _ => rfl) Tryz.eqGuardType25 eqi25
instance yI1_1 : Ep Tryz.prog 25 GI inferInstance vI := ⟨eqp25⟩
theorem lM : EqIn Tryz.prog 3 27 vQ := eqS (c := cQ) (fun _ => rfl) Tryz.underlying27 Tryz.stoodInHeld27 fun d x y w hd => by
 refine Eq.trans (eqF (by decide) (cg aa25 zz25 (v := vI (x.num)) rfl w) (cg aa25 zz25 (v := vI (y.num)) rfl w) (eqi25 d _ _ w og) (eqF (by decide) (cg aa25 zz25 (v := vI (x.den)) rfl w) (cg aa25 zz25 (v := vI (y.den)) rfl w) (eqi25 d _ _ w og) eqF0)) ?_
 congr 1
 rw [decide_eq_decide]
 cases x; cases y; simp
theorem eqp27 : EqP Tryz.prog 27 vQ := EqIn.p (k := 3) rfl (c := fun x => (cQ x).toArray) (fun _ => rfl) Tryz.eqGuardType27 lM
instance yI1_2 : Ep Tryz.prog 27 GQ inferInstance vQ := ⟨eqp27⟩
theorem eqi53 : EqIn Tryz.prog 4 53 vD := eqS (c := cD) (fun _ => rfl) Tryz.underlying53 Tryz.stoodInHeld53 fun d x y w hd => by
 refine Eq.trans (eqF (by decide) (cg aa27 zz27 (v := vQ (x.c0)) rfl w) (cg aa27 zz27 (v := vQ (y.c0)) rfl w) (lM d _ _ w og) (eqF (by decide) (cg aa27 zz27 (v := vQ (x.c1)) rfl w) (cg aa27 zz27 (v := vQ (y.c1)) rfl w) (lM d _ _ w og) (eqF (by decide) (cg aa27 zz27 (v := vQ (x.c2)) rfl w) (cg aa27 zz27 (v := vQ (y.c2)) rfl w) (lM d _ _ w og) eqF0))) ?_
 congr 1
 rw [decide_eq_decide]
 cases x; cases y; simp
theorem eqp53 : EqP Tryz.prog 53 vD := EqIn.p (k := 4) rfl (c := fun x => (cD x).toArray) (fun _ => rfl) Tryz.eqGuardType53 eqi53
instance yI1_3 : Ep Tryz.prog 53 Qd inferInstance vD := ⟨eqp53⟩
theorem eqi71 : EqIn Tryz.prog 4 71 vR := eqS (c := cR) (fun _ => rfl) Tryz.underlying71 Tryz.stoodInHeld71 fun d x y w hd => by
 refine Eq.trans (eqF (by decide) (cg aa27 zz27 (v := vQ (x.p)) rfl w) (cg aa27 zz27 (v := vQ (y.p)) rfl w) (lM d _ _ w og) (eqF (by decide) (cg aa27 zz27 (v := vQ (x.r)) rfl w) (cg aa27 zz27 (v := vQ (y.r)) rfl w) (lM d _ _ w og) (eqF (by decide) (dl aa4 rfl w) (dl aa4 rfl w) (eqB nn4 d og _ _ w) eqF0))) ?_
 congr 1
 rw [decide_eq_decide]
 cases x; cases y; simp
theorem eqp71 : EqP Tryz.prog 71 vR := EqIn.p (k := 4) rfl (c := fun x => (cR x).toArray) (fun _ => rfl) Tryz.eqGuardType71 eqi71
instance yI1_4 : Ep Tryz.prog 71 GR inferInstance vR := ⟨eqp71⟩
def bK (a : GI) : Int :=
 bif (decide (a.mag = 0)) then
  0
 else
  bif a.neg then
   (-1)
  else
   1
theorem cJ (a : GI) (w0 : World) : Calls Tryz.prog 115 #[(vI a)] w0 (cq w0 (.int .i64 (bK a)) ((-1 ≤ (bK a) ∧ (bK a) ≤ 1))) := by
 refine enter (N := 10) (args := [(vI a)]) Tryz.func115 rfl rfl ?_; intro ac h
 refine gz h <| (xb) fun b1 => (ai) ?_ ?_ <;> clear h ac <;> intro ac wo h hc1
 ·
  have hd1 := of_decide_eq_true hc1
  have hd : bK a = 0 := pt
  refine gz h <| (W) ?_; clear h ac wo; intro ac wo h
  exact (rt h) (h.retP (by rw [hd] <;> rfl) (by rw [hd]; exact by first | omega | exact dT og og))
 ·
  have hd1 := of_decide_eq_false hc1
  refine gz h <| (ai) ?_ ?_ <;> clear h ac wo <;> intro ac wo h hc2
  ·
   have hd : bK a = (-1) := pt
   refine gz h <| (W) ?_; clear h ac wo; intro ac wo h
   exact (rt h) (h.retP (by rw [hd] <;> rfl) (by rw [hd]; exact by first | omega | exact dT og og))
  ·
   have hd : bK a = 1 := pt
   refine gz h <| (W) ?_; clear h ac wo; intro ac wo h
   exact (rt h) (h.retP (by rw [hd] <;> rfl) (by rw [hd]; exact by first | omega | exact dT og og))
def an (a : GI) : GI :=
 (aC (!a.neg) a.mag)
theorem cO (a : GI) (k : Nat) (hk : k ≤ 40) (za : SzI k a) (w0 : World) : Calls Tryz.prog 161 #[(vI a)] w0 (cq w0 (vI (an a)) (SzI k (an a))) := by
 refine enter (N := 9) (args := [(vI a)]) Tryz.func161 rfl rfl ?_; intro ac h
 have c1 := bq (!a.neg) a.mag k og za
 have s1 := am (c1 w0)
 refine gz h <| (xb) fun b1 => (xa) fun b2 => (xk c1) <| (W) ?_; clear h ac; intro ac wo h
 exact ret h rfl (.cell (v := (vI (aC (!a.neg) a.mag))) rfl (i := 0) rfl aa25 zz25 rfl rfl rfl .nil) rfl (h.retP (by unfold an; rfl) (by unfold an; exact s1))
def ce (a : GI) (b : GI) : Int :=
 bif (a.neg != b.neg) then
  (bD (bK a) (bK b))
 else
  bif a.neg then
   -(aY a.mag b.mag)
  else
   (aY a.mag b.mag)
theorem eK (a : GI) (b : GI) (k : Nat) (hk : k ≤ 40) (za : SzI k a) (zb : SzI k b) (w0 : World) : Calls Tryz.prog 158 #[(vI a), (vI b)] w0 (cq w0 (.int .i64 (ce a b)) ((-1 ≤ (ce a b) ∧ (ce a b) ≤ 1))) := by
 refine enter (N := 26) (args := [(vI a), (vI b)]) Tryz.func158 rfl rfl ?_; intro ac h
 refine gz h <| (xb) fun b1 => (xb) fun b2 => (xo (hs := by exact nH nn4 rfl rfl)) <| (ai) ?_ ?_ <;> clear h ac <;> intro ac wo h hc1
 ·
  refine gz h <| (W) ?_; clear h ac wo; intro ac wo h
  have p2 := am ((cJ a) w0)
  have p4 := am ((cJ b) w0)
  have p6 := am ((g8 (bK a) (bK b)) w0)
  have hd : ce a b = (bD (bK a) (bK b)) := pt
  refine gz h <| (dr0 (hob := (oK (cJ a)) <| (oK (cJ b)) <| (oK (g8 (bK a) (bK b))) <| oE)) <| (W) ?_; clear h ac wo; intro ac wo h
  exact (rt h) (h.retP (by rw [hd] <;> rfl) (by rw [hd]; exact by first | omega | exact dT og og))
 ·
  have p8 := am ((dg a.mag b.mag) w0)
  refine gz h <| (xk (dg a.mag b.mag)) <| (ai) ?_ ?_ <;> clear h ac wo <;> intro ac wo h hc2
  ·
   have hd : ce a b = -(aY a.mag b.mag) := pt
   refine gz h <| (xo (hs := by exact r_neg rfl (r := -(aY a.mag b.mag)) (by rw [IntKind.wrap_i64]; omega))) <| (W) ?_; clear h ac wo; intro ac wo h
   exact (rt h) (h.retP (by rw [hd] <;> rfl) (by rw [hd]; exact by first | omega | exact dT og og))
  ·
   have hd : ce a b = (aY a.mag b.mag) := pt
   refine gz h <| (W) ?_; clear h ac wo; intro ac wo h
   exact (rt h) (h.retP (by rw [hd] <;> rfl) (by rw [hd]; exact by first | omega | exact dT og og))
def aE (a : GI) (b : GI) : GI :=
 bif (a.neg == b.neg) then
  (aC a.neg (cr a.mag b.mag))
 else
  bif (decide ((aY a.mag b.mag) ≥ 0)) then
   (aC a.neg (bS a.mag b.mag))
  else
   (aC b.neg (bS b.mag a.mag))
theorem dY (a : GI) (b : GI) (k : Nat) (hk : (k + 1) ≤ 40) (za : SzI (k + 1) a) (zb : SzI (k + 1) b) (w0 : World) : Calls Tryz.prog 96 #[(vI a), (vI b)] w0 (cq w0 (vI (aE a b)) (SzI k (aE a b))) := by
 refine enter (N := 42) (args := [(vI a), (vI b)]) Tryz.func96 rfl rfl ?_; intro ac h
 refine gz h <| (xb) fun b1 => (xb) fun b2 => (xa) fun b3 => (xo (hs := by exact qj nn4 rfl rfl)) <| (ai) ?_ ?_ <;> clear h ac <;> intro ac wo h hc1
 ·
  have hd1 := eq_of_beq hc1
  refine gz h <| (W) ?_; clear h ac wo; intro ac wo h
  have s1 := am ((fb a.mag b.mag k og za zb) w0)
  have s2 := am ((bq a.neg (cr a.mag b.mag) k og s1) w0)
  have hd : aE a b = (aC a.neg (cr a.mag b.mag)) := pt
  refine gz h <| (dr1 (H := [⟨.blk b3 (cI (⟨false, 0⟩ : GI)) 25, [(8, .con (.blk b3 (cI (aC a.neg (cr a.mag b.mag))) 25))]⟩, ⟨_, []⟩, ⟨_, []⟩]) (hob := (oK (fb a.mag b.mag k og za zb)) <| (oK (bq a.neg (cr a.mag b.mag) k og s1)) <| oE)) <| (W) ?_; clear h ac wo; intro ac wo h
  exact ret h rfl (.cell (v := (vI (aC a.neg (cr a.mag b.mag)))) rfl (i := 0) rfl aa25 zz25 rfl rfl rfl .nil) rfl (h.retP (by rw [hd] <;> rfl) (by rw [hd]; exact s2))
 ·
  have hd1 := ne_of_beq_false hc1
  have p4 := am ((dg a.mag b.mag) w0)
  refine gz h <| (xk (dg a.mag b.mag)) <| (ai) ?_ ?_ <;> clear h ac wo <;> intro ac wo h hc2
  ·
   have hd2 := of_decide_eq_true hc2
   refine gz h <| (W) ?_; clear h ac wo; intro ac wo h
   have s5 := am ((eE a.mag b.mag (k + 1) og za zb (by first | exact oL ‹_› | exact oJ ‹_›)) w0)
   have s6 := am ((bq a.neg (bS a.mag b.mag) (k + 1) og s5) w0)
   have hd : aE a b = (aC a.neg (bS a.mag b.mag)) := pt
   refine gz h <| (dr1 (H := [⟨.blk b3 (cI (⟨false, 0⟩ : GI)) 25, [(8, .con (.blk b3 (cI (aC a.neg (bS a.mag b.mag))) 25))]⟩, ⟨_, []⟩, ⟨_, []⟩]) (hob := (oK (eE a.mag b.mag (k + 1) og za zb (by first | exact oL ‹_› | exact oJ ‹_›))) <| (oK (bq a.neg (bS a.mag b.mag) (k + 1) og s5)) <| oE)) <| (W) ?_; clear h ac wo; intro ac wo h
   exact ret h rfl (.cell (v := (vI (aC a.neg (bS a.mag b.mag)))) rfl (i := 0) rfl aa25 zz25 rfl rfl rfl .nil) rfl (h.retP (by rw [hd] <;> rfl) (by rw [hd]; exact (eC s6 og)))
  ·
   have hd2 := of_decide_eq_false hc2
   refine gz h <| (W) ?_; clear h ac wo; intro ac wo h
   have s7 := am ((eE b.mag a.mag (k + 1) og zb za (by first | exact oL ‹_› | exact oJ ‹_›)) w0)
   have s8 := am ((bq b.neg (bS b.mag a.mag) (k + 1) og s7) w0)
   have hd : aE a b = (aC b.neg (bS b.mag a.mag)) := pt
   refine gz h <| (dr1 (H := [⟨.blk b3 (cI (⟨false, 0⟩ : GI)) 25, [(8, .con (.blk b3 (cI (aC b.neg (bS b.mag a.mag))) 25))]⟩, ⟨_, []⟩, ⟨_, []⟩]) (hob := (oK (eE b.mag a.mag (k + 1) og zb za (by first | exact oL ‹_› | exact oJ ‹_›))) <| (oK (bq b.neg (bS b.mag a.mag) (k + 1) og s7)) <| oE)) <| (W) ?_; clear h ac wo; intro ac wo h
   exact ret h rfl (.cell (v := (vI (aC b.neg (bS b.mag a.mag)))) rfl (i := 0) rfl aa25 zz25 rfl rfl rfl .nil) rfl (h.retP (by rw [hd] <;> rfl) (by rw [hd]; exact (eC s8 og)))
def ab (a : GI) (b : GI) : GI :=
 (aC (a.neg != b.neg) (dQ a.mag b.mag))
theorem bo (a : GI) (b : GI) (k : Nat) (hk : (k + 1) ≤ 40) (za : SzI (k + 1) a) (zb : SzI (k + 1) b) (w0 : World) : Calls Tryz.prog 97 #[(vI a), (vI b)] w0 (cq w0 (vI (ab a b)) (SzI k (ab a b))) := by
 refine enter (N := 16) (args := [(vI a), (vI b)]) Tryz.func97 rfl rfl ?_; intro ac h
 have s1 := am ((gF a.mag b.mag k og za zb) w0)
 have s2 := am ((bq (a.neg != b.neg) (dQ a.mag b.mag) k og s1) w0)
 refine gz h <| (xb) fun b1 => (xb) fun b2 => (xa) fun b3 => (dr1 (H := [⟨.blk b3 (cI (⟨false, 0⟩ : GI)) 25, [(11, .con (.blk b3 (cI (aC (a.neg != b.neg) (dQ a.mag b.mag))) 25))]⟩, ⟨_, []⟩, ⟨_, []⟩]) (hob := (oX (h := by exact fun _ => ba (nH nn4 rfl rfl))) <| (oK (gF a.mag b.mag k og za zb)) <| (oK (bq (a.neg != b.neg) (dQ a.mag b.mag) k og s1)) <| oE)) <| (W) ?_; clear h ac; intro ac wo h
 exact ret h rfl (.cell (v := (vI (aC (a.neg != b.neg) (dQ a.mag b.mag)))) rfl (i := 0) rfl aa25 zz25 rfl rfl rfl .nil) rfl (h.retP (by unfold ab; rfl) (by unfold ab; exact s2))
def aS (a b : GI) : GI := aC false (Nat.gcd a.mag b.mag)
theorem qz (x y : Nat) : Nat.gcd y (x % y) = Nat.gcd x y := by rw [Nat.gcd_comm x y, Nat.gcd_rec y x, Nat.gcd_comm]
theorem fI (a : GI) (b : GI) (k : Nat) (hk : k ≤ 40) (za : SzI k a) (zb : SzI k b) (w0 : World) : Calls Tryz.prog 160 #[(vI a), (vI b)] w0 (cq w0 (vI (aS a b)) (SzI k (aS a b))) := by
 refine enter (N := 45) (args := [(vI a), (vI b)]) Tryz.func160 rfl rfl ?_; intro ac h
 refine gz h <| (xb) fun b1 => (xb) fun b2 => (xa) fun b3 => (dr0 (hob := oE)) <| (W) ?_; clear h ac; intro ac wo h
 refine wp_loop_ghost (fun n_ a_ w_ => ∃ (x : Nat) (y : Nat), n_ = 1 * y ∧ (Nat.gcd x y = Nat.gcd a.mag b.mag) ∧ (SzB k x) ∧ (SzB k y) ∧ St w0 45 [(4, (ptr b3 0)), (5, (.string (bs x))), (6, (.string (bs y)))] [.blk b3 (cI (⟨false, 0⟩ : GI)) 25, .blk b2 (cI b) 25, .blk b1 (cI a) 25] a_ w_) _ ⟨a.mag, b.mag, rfl, rfl, za, zb, h.re [0, 1, 2]⟩ ?_
 clear h ac wo; rintro _ ac wo ⟨x, y, rfl, hg, zx, zy, h⟩
 refine gz h <| (ai) ?_ ?_ <;> clear h ac wo <;> intro ac wo h hc1
 ·
  have hy : y ≠ 0 := by simpa using hc1
  refine gz h <| (xk (eB x y)) <| (ai) ?_ ?_ <;> clear h ac wo <;> intro ac wo h hc2
  ·
   obtain ⟨ha6, hb6, hw⟩ := iE hc2
   simp only [hw] at h
   refine gz h <| (W) ?_; clear h ac wo; intro ac wo h
   refine wp_loop_ghost (fun n_ a_ w_ => ∃ (u : Nat) (v : Nat), n_ = 1 * v ∧ (Nat.gcd u v = Nat.gcd a.mag b.mag) ∧ (SzB k u) ∧ (SzB k v) ∧ (u < 18446744073709551616 ∧ v < 18446744073709551616) ∧ St w0 45 [(4, (ptr b3 0)), (7, (.int .u64 ((u : Nat) : Int))), (8, (.int .u64 ((v : Nat) : Int)))] [.blk b3 (cI (⟨false, 0⟩ : GI)) 25, .blk b2 (cI b) 25, .blk b1 (cI a) 25] a_ w_) _ ⟨x, y, rfl, hg, zx, zy, ⟨ha6, hb6⟩, h.re [0, 1, 2]⟩ ?_
   clear h ac wo; rintro _ ac wo ⟨u, v, rfl, hgu, zu, zv, hul, h⟩
   refine gz h <| (ai) ?_ ?_ <;> clear h ac wo <;> intro ac wo h hc3
   ·
    have hv : v ≠ 0 := by have := hc3; simp at this; omega
    refine gz h <| (dr0 (hob := (oX (h := by exact fun _ => ba (qZ rfl rfl (r := ((u % v : Nat) : Int)) og (by rw [Int.tmod_eq_emod_of_nonneg og]; rfl)))) <| oE)) <| (W) ?_; clear h ac wo; intro ac wo h
    exact aL ⟨_, (by have := Nat.mod_lt u (show v > 0 by omega); omega), v, (u % v), rfl, (by rw [qz]; exact hgu), zv, (eR zu (Nat.mod_le _ _)), ⟨hul.2, by have := Nat.mod_lt u (show v > 0 by omega); omega⟩, h.re [0, 1, 2]⟩
   ·
    have hv : v = 0 := by have := hc3; simp at this; omega
    subst hv
    have c1 := bq false (bk u) k og zu
    have s1 := am (c1 w0)
    have hd : aS a b = (aC false (bk u)) := (by rw [Nat.gcd_zero_right] at hgu; unfold aS; rw [← hgu]; rfl)
    refine gz h <| (xk (bV u hul.1)) <| (xk c1) <| (W) ?_; clear h ac wo; intro ac wo h
    exact ret h rfl (.cell (v := (vI (aC false (bk u)))) rfl (i := 0) rfl aa25 zz25 rfl rfl rfl .nil) rfl (h.retP (by rw [hd] <;> rfl) (by rw [hd]; exact s1))
  ·
   have c2 := fH x y k og zx zy og
   have s2 := am (c2 w0)
   refine gz h <| (xk c2) <| (W) ?_; clear h ac wo; intro ac wo h
   exact aL ⟨_, (by have := Nat.mod_lt x (show y > 0 by omega); omega), y, (x % y), rfl, (by rw [qz]; exact hg), zy, (eR zx (Nat.mod_le _ _)), h.re [0, 1, 2]⟩
 ·
  have hy : y = 0 := by simpa using hc1
  subst hy
  have c3 := bq false x k og zx
  have s3 := am (c3 w0)
  have hd : aS a b = (aC false x) := (by rw [Nat.gcd_zero_right] at hg; unfold aS; rw [← hg])
  refine gz h <| (xk c3) <| (W) ?_; clear h ac wo; intro ac wo h
  exact ret h rfl (.cell (v := (vI (aC false x))) rfl (i := 0) rfl aa25 zz25 rfl rfl rfl .nil) rfl (h.retP (by rw [hd] <;> rfl) (by rw [hd]; exact s3))
def aF (a : GI) (b : GI) : GI × GI × Int :=
 bif (decide (b.mag = 0)) then
  ((⟨false, 0⟩ : GI), (⟨false, 0⟩ : GI), 6)
 else
  bif (a.neg && (!(decide (((bc a.mag b.mag).2) = 0)))) then
   ((aC (a.neg != b.neg) (cr ((bc a.mag b.mag).1) 1)), (aC false (bS b.mag ((bc a.mag b.mag).2))), 0)
  else
   ((aC (a.neg != b.neg) ((bc a.mag b.mag).1)), (aC false ((bc a.mag b.mag).2)), 0)
theorem d9 (a : GI) (b : GI) (k : Nat) (hk : (k + 1) ≤ 40) (za : SzI (k + 1) a) (zb : SzI (k + 1) b) (w0 : World) : Calls Tryz.prog 253 #[(vI a), (vI b)] w0 (cq w0 (.tuple #[(vI ((aF a b).1)), (vI ((aF a b).2.1)), (.int .i64 ((aF a b).2.2))]) (SzI k ((aF a b).1) ∧ SzI k ((aF a b).2.1))) := by
 refine enter (N := 43) (args := [(vI a), (vI b)]) Tryz.func253 rfl rfl ?_; intro ac h
 refine gz h <| (xb) fun b1 => (xb) fun b2 => (xa) fun b3 => (xa) fun b4 => (ai) ?_ ?_ <;> clear h ac <;> intro ac wo h hc1
 ·
  have hd1 := of_decide_eq_true hc1
  have hd : aF a b = ((⟨false, 0⟩ : GI), (⟨false, 0⟩ : GI), 6) := pt
  refine gz h <| (xo (hs := by exact bF lO exs rfl (v := (vI (⟨false, 0⟩ : GI))) rfl)) <| (xo (hs := by exact bF lO exs rfl (v := (vI (⟨false, 0⟩ : GI))) rfl)) <| (W) ?_; clear h ac wo; intro ac wo h
  exact ret h rfl (.cell (v := (vI (⟨false, 0⟩ : GI))) rfl (i := 1) rfl aa25 zz25 rfl rfl rfl (.cell (v := (vI (⟨false, 0⟩ : GI))) rfl (i := 0) rfl aa25 zz25 rfl rfl rfl (.tmp rfl .nil))) rfl (h.retP (by rw [hd] <;> rfl) (by rw [hd]; exact ⟨(bZ 0 (by decide) og), (bZ 0 (by decide) og)⟩))
 ·
  have hd1 := of_decide_eq_false hc1
  have c1 := fH a.mag b.mag (k + 1) og za zb og
  have s1 := am (c1 w0)
  refine gz h <| (xk c1) <| (ai) ?_ ?_ <;> clear h ac wo <;> intro ac wo h hc2
  ·
   have s2 := am ((fb ((bc a.mag b.mag).1) 1 k og s1.1 (bZ 1 (by decide) og)) w0)
   have s3 := am ((eE b.mag ((bc a.mag b.mag).2) (k + 1) og zb s1.2 (Nat.le_of_lt (Nat.mod_lt _ og))) w0)
   refine gz h <| (dr0 (hob := (oK (fb ((bc a.mag b.mag).1) 1 k og s1.1 (bZ 1 (by decide) og))) <| (oK (eE b.mag ((bc a.mag b.mag).2) (k + 1) og zb s1.2 (Nat.le_of_lt (Nat.mod_lt _ og)))) <| oE)) <| (W) ?_; clear h ac wo; intro ac wo h
   have c4 := bq (a.neg != b.neg) (cr ((bc a.mag b.mag).1) 1) k og s2
   have s4 := am (c4 w0)
   have c5 := bq false (bS b.mag ((bc a.mag b.mag).2)) (k + 1) og s3
   have s5 := am (c5 w0)
   have hd : aF a b = ((aC (a.neg != b.neg) (cr ((bc a.mag b.mag).1) 1)), (aC false (bS b.mag ((bc a.mag b.mag).2))), 0) := pt
   refine gz h <| (xo (hs := by exact nH nn4 rfl rfl)) <| (xk c4) <| (xk c5) <| (W) ?_; clear h ac wo; intro ac wo h
   exact ret h rfl (.cell (v := (vI (aC (a.neg != b.neg) (cr ((bc a.mag b.mag).1) 1)))) rfl (i := 1) rfl aa25 zz25 rfl rfl rfl (.cell (v := (vI (aC false (bS b.mag ((bc a.mag b.mag).2))))) rfl (i := 0) rfl aa25 zz25 rfl rfl rfl (.tmp rfl .nil))) rfl (h.retP (by rw [hd] <;> rfl) (by rw [hd]; exact ⟨s4, (eC s5 og)⟩))
  ·
   have c6 := bq (a.neg != b.neg) ((bc a.mag b.mag).1) (k + 1) og s1.1
   have s6 := am (c6 w0)
   have c7 := bq false ((bc a.mag b.mag).2) (k + 1) og s1.2
   have s7 := am (c7 w0)
   have hd : aF a b = ((aC (a.neg != b.neg) ((bc a.mag b.mag).1)), (aC false ((bc a.mag b.mag).2)), 0) := pt
   refine gz h <| (xo (hs := by exact nH nn4 rfl rfl)) <| (xk c6) <| (xk c7) <| (W) ?_; clear h ac wo; intro ac wo h
   exact ret h rfl (.cell (v := (vI (aC (a.neg != b.neg) ((bc a.mag b.mag).1)))) rfl (i := 1) rfl aa25 zz25 rfl rfl rfl (.cell (v := (vI (aC false ((bc a.mag b.mag).2)))) rfl (i := 0) rfl aa25 zz25 rfl rfl rfl (.tmp rfl .nil))) rfl (h.retP (by rw [hd] <;> rfl) (by rw [hd]; exact ⟨(eC s6 og), (eC s7 og)⟩))
def rational_one  : GI :=
 (aw 1)
theorem dB (k : Nat) (hk : k ≤ 40) (w0 : World) : Calls Tryz.prog 159 #[] w0 (cq w0 (vI rational_one) (SzI k rational_one)) := by
 refine enter (N := 2) (args := []) Tryz.func159 rfl rfl ?_; intro ac h
 have c1 := eJ 1 k og  og
 have s1 := am (c1 w0)
 refine gz h <| (xa) fun b1 => (xk c1) <| (W) ?_; clear h ac; intro ac wo h
 exact ret h rfl (.cell (v := (vI (aw 1))) rfl (i := 0) rfl aa25 zz25 rfl rfl rfl .nil) rfl (h.retP (by unfold rational_one; rfl) (by unfold rational_one; exact s1))
def ak (n : Int) : GQ :=
 (⟨(aw n), (⟨false, 0⟩ : GI)⟩ : GQ)
theorem bP (n : Int) (k : Nat) (hk : k ≤ 40) (hn : -9223372036854775808 ≤ n ∧ n ≤ 9223372036854775807) (w0 : World) : Calls Tryz.prog 85 #[(.int .i64 n)] w0 (cq w0 (vQ (ak n)) (SzQ k (ak n))) := by
 refine enter (N := 6) (args := [(.int .i64 n)]) Tryz.func85 rfl rfl ?_; intro ac h
 have c1 := eJ n k og  og
 have s1 := am (c1 w0)
 refine gz h <| (xa) fun b1 => (xk c1) <| (xo (hs := by exact bF kx exs rfl (v := (vQ (⟨(aw n), (⟨false, 0⟩ : GI)⟩ : GQ))) rfl)) <| (W) ?_; clear h ac; intro ac wo h
 exact ret h rfl (.cell (v := (vQ (⟨(aw n), (⟨false, 0⟩ : GI)⟩ : GQ))) rfl (i := 0) rfl aa27 zz27 rfl rfl rfl .nil) rfl (h.retP (by unfold ak; rfl) (by unfold ak; exact ⟨s1, (bZ 0 (by decide) og)⟩))
def aa (a : GQ) : GI :=
 bif (decide (a.den = (⟨false, 0⟩ : GI))) then
  rational_one
 else
  a.den
theorem bh (a : GQ) (k : Nat) (hk : k ≤ 40) (za : SzQ k a) (w0 : World) : Calls Tryz.prog 98 #[(vQ a)] w0 (cq w0 (vI (aa a)) (SzI k (aa a))) := by
 refine enter (N := 10) (args := [(vQ a)]) Tryz.func98 rfl rfl ?_; intro ac h
 refine gz h <| (xb) fun b1 => (xa) fun b2 => (xo (hs := by exact bF lO exs rfl (v := (vI (⟨false, 0⟩ : GI))) rfl)) <| (ai) ?_ ?_ <;> clear h ac <;> intro ac wo h hc1
 ·
  have hd1 := of_decide_eq_true hc1
  have c1 := dB  k og
  have s1 := am (c1 w0)
  have hd : aa a = rational_one := pt
  refine gz h <| (xk c1) <| (W) ?_; clear h ac wo; intro ac wo h
  exact ret h rfl (.cell (v := (vI rational_one)) rfl (i := 0) rfl aa25 zz25 rfl rfl rfl .nil) rfl (h.retP (by rw [hd] <;> rfl) (by rw [hd]; exact s1))
 ·
  have hd1 := of_decide_eq_false hc1
  have hd : aa a = a.den := pt
  refine gz h <| (W) ?_; clear h ac wo; intro ac wo h
  exact ret h rfl (.cell (v := (vI a.den)) rfl (i := 0) rfl aa25 zz25 rfl rfl rfl .nil) rfl (h.retP (by rw [hd] <;> rfl) (by rw [hd]; exact za.2))
def aB (a : GI) (b : GI) : GI :=
 (aF a b).1
theorem cj (a : GI) (b : GI) (k : Nat) (hk : (k + 1) ≤ 40) (za : SzI (k + 1) a) (zb : SzI (k + 1) b) (w0 : World) : Calls Tryz.prog 192 #[(vI a), (vI b)] w0 (cq w0 (vI (aB a b)) (SzI k (aB a b))) := by
 refine enter (N := 16) (args := [(vI a), (vI b)]) Tryz.func192 rfl rfl ?_; intro ac h
 have c1 := d9 a b k og za zb
 have s1 := am (c1 w0)
 refine gz h <| (xb) fun b1 => (xb) fun b2 => (xa) fun b3 => (xk c1) <| (xa) fun b4 => (xa) fun b5 => (W) ?_; clear h ac; intro ac wo h
 exact ret h rfl (.cell (v := (vI ((aF a b).1))) rfl (i := 2) rfl aa25 zz25 rfl rfl rfl .nil) rfl (h.retP (by unfold aB; rfl) (by unfold aB; exact s1.1))
def aX (num : GI) (den : GI) : GQ :=
 bif (decide ((bK den) < 0)) then
  bif (decide ((aB (an den) (aS (an num) (an den))) = rational_one)) then
   (⟨(aB (an num) (aS (an num) (an den))), (⟨false, 0⟩ : GI)⟩ : GQ)
  else
   (⟨(aB (an num) (aS (an num) (an den))), (aB (an den) (aS (an num) (an den)))⟩ : GQ)
 else
  bif (decide ((aB den (aS num den)) = rational_one)) then
   (⟨(aB num (aS num den)), (⟨false, 0⟩ : GI)⟩ : GQ)
  else
   (⟨(aB num (aS num den)), (aB den (aS num den))⟩ : GQ)
theorem cM (num : GI) (den : GI) (k : Nat) (hk : (k + 1) ≤ 40) (znum : SzI (k + 1) num) (zden : SzI (k + 1) den) (w0 : World) : Calls Tryz.prog 95 #[(vI num), (vI den)] w0 (cq w0 (vQ (aX num den)) (SzQ k (aX num den))) := by
 refine enter (N := 29) (args := [(vI num), (vI den)]) Tryz.func95 rfl rfl ?_; intro ac h
 have p2 := am ((cJ den) w0)
 refine gz h <| (xb) fun b1 => (xb) fun b2 => (xa) fun b3 => (xk (cJ den)) <| (ai) ?_ ?_ <;> clear h ac <;> intro ac wo h hc1
 ·
  have hd1 := of_decide_eq_true hc1
  have s3 := am ((cO num (k + 1) og znum) w0)
  have s4 := am ((cO den (k + 1) og zden) w0)
  refine gz h <| (dr1 (H := [⟨_, []⟩, ⟨.blk b2 (cI den) 25, [(5, .con (.blk b2 (cI (an den)) 25))]⟩, ⟨.blk b1 (cI num) 25, [(4, .con (.blk b1 (cI (an num)) 25))]⟩]) (hob := (oK (cO num (k + 1) og znum)) <| (oK (cO den (k + 1) og zden)) <| oE)) <| (W) ?_; clear h ac wo; intro ac wo h
  have c5 := fI (an num) (an den) (k + 1) og s3 s4
  have s5 := am (c5 w0)
  have s6 := am ((cj (an num) (aS (an num) (an den)) k og s3 s5) w0)
  have s7 := am ((cj (an den) (aS (an num) (an den)) k og s4 s5) w0)
  refine gz h <| (xk c5) <| (xa) fun b4 => (dr1 (H := [⟨_, []⟩, ⟨_, []⟩, ⟨.blk b2 (cI (an den)) 25, [(7, .con (.blk b2 (cI (aB (an den) (aS (an num) (an den)))) 25))]⟩, ⟨.blk b1 (cI (an num)) 25, [(6, .con (.blk b1 (cI (aB (an num) (aS (an num) (an den)))) 25))]⟩]) (hob := (oK (cj (an num) (aS (an num) (an den)) k og s3 s5)) <| (oK (cj (an den) (aS (an num) (an den)) k og s4 s5)) <| oE)) <| (W) ?_; clear h ac wo; intro ac wo h
  have s8 := am ((dB  (k + 1) og ) w0)
  refine gz h <| (dr0 (hob := (oK (dB  (k + 1) og )) <| oE)) <| (ai) ?_ ?_ <;> clear h ac wo <;> intro ac wo h hc2
  ·
   have hd2 := of_decide_eq_true hc2
   have hd : aX num den = (⟨(aB (an num) (aS (an num) (an den))), (⟨false, 0⟩ : GI)⟩ : GQ) := pt
   refine gz h <| (xo (hs := by exact bF lO exs rfl (v := (vI (⟨false, 0⟩ : GI))) rfl)) <| (xo (hs := by exact bF kx exs rfl (v := (vQ (⟨(aB (an num) (aS (an num) (an den))), (⟨false, 0⟩ : GI)⟩ : GQ))) rfl)) <| (W) ?_; clear h ac wo; intro ac wo h
   exact ret h rfl (.cell (v := (vQ (⟨(aB (an num) (aS (an num) (an den))), (⟨false, 0⟩ : GI)⟩ : GQ))) rfl (i := 1) rfl aa27 zz27 rfl rfl rfl .nil) rfl (h.retP (by rw [hd] <;> rfl) (by rw [hd]; exact ⟨s6, (bZ 0 (by decide) og)⟩))
  ·
   have hd2 := of_decide_eq_false hc2
   have hd : aX num den = (⟨(aB (an num) (aS (an num) (an den))), (aB (an den) (aS (an num) (an den)))⟩ : GQ) := pt
   refine gz h <| (xo (hs := by exact bF kx exs rfl (v := (vQ (⟨(aB (an num) (aS (an num) (an den))), (aB (an den) (aS (an num) (an den)))⟩ : GQ))) rfl)) <| (W) ?_; clear h ac wo; intro ac wo h
   exact ret h rfl (.cell (v := (vQ (⟨(aB (an num) (aS (an num) (an den))), (aB (an den) (aS (an num) (an den)))⟩ : GQ))) rfl (i := 1) rfl aa27 zz27 rfl rfl rfl .nil) rfl (h.retP (by rw [hd] <;> rfl) (by rw [hd]; exact ⟨s6, s7⟩))
 ·
  have hd1 := of_decide_eq_false hc1
  have c9 := fI num den (k + 1) og znum zden
  have s9 := am (c9 w0)
  have s10 := am ((cj num (aS num den) k og znum s9) w0)
  have s11 := am ((cj den (aS num den) k og zden s9) w0)
  refine gz h <| (xk c9) <| (xa) fun b5 => (dr1 (H := [⟨_, []⟩, ⟨_, []⟩, ⟨.blk b2 (cI den) 25, [(7, .con (.blk b2 (cI (aB den (aS num den))) 25))]⟩, ⟨.blk b1 (cI num) 25, [(6, .con (.blk b1 (cI (aB num (aS num den))) 25))]⟩]) (hob := (oK (cj num (aS num den) k og znum s9)) <| (oK (cj den (aS num den) k og zden s9)) <| oE)) <| (W) ?_; clear h ac wo; intro ac wo h
  have s12 := am ((dB  (k + 1) og ) w0)
  refine gz h <| (dr0 (hob := (oK (dB  (k + 1) og )) <| oE)) <| (ai) ?_ ?_ <;> clear h ac wo <;> intro ac wo h hc3
  ·
   have hd3 := of_decide_eq_true hc3
   have hd : aX num den = (⟨(aB num (aS num den)), (⟨false, 0⟩ : GI)⟩ : GQ) := pt
   refine gz h <| (xo (hs := by exact bF lO exs rfl (v := (vI (⟨false, 0⟩ : GI))) rfl)) <| (xo (hs := by exact bF kx exs rfl (v := (vQ (⟨(aB num (aS num den)), (⟨false, 0⟩ : GI)⟩ : GQ))) rfl)) <| (W) ?_; clear h ac wo; intro ac wo h
   exact ret h rfl (.cell (v := (vQ (⟨(aB num (aS num den)), (⟨false, 0⟩ : GI)⟩ : GQ))) rfl (i := 1) rfl aa27 zz27 rfl rfl rfl .nil) rfl (h.retP (by rw [hd] <;> rfl) (by rw [hd]; exact ⟨s10, (bZ 0 (by decide) og)⟩))
  ·
   have hd3 := of_decide_eq_false hc3
   have hd : aX num den = (⟨(aB num (aS num den)), (aB den (aS num den))⟩ : GQ) := pt
   refine gz h <| (xo (hs := by exact bF kx exs rfl (v := (vQ (⟨(aB num (aS num den)), (aB den (aS num den))⟩ : GQ))) rfl)) <| (W) ?_; clear h ac wo; intro ac wo h
   exact ret h rfl (.cell (v := (vQ (⟨(aB num (aS num den)), (aB den (aS num den))⟩ : GQ))) rfl (i := 1) rfl aa27 zz27 rfl rfl rfl .nil) rfl (h.retP (by rw [hd] <;> rfl) (by rw [hd]; exact ⟨s10, s11⟩))
def aO (a : GQ) (b : GQ) : GI × GI × GI :=
 bif (decide (a.den = b.den)) then
  (a.num, b.num, (aa a))
 else
  ((ab a.num (aa b)), (ab b.num (aa a)), (ab (aa a) (aa b)))
theorem gK (a : GQ) (b : GQ) (k : Nat) (hk : (k + 1) ≤ 40) (za : SzQ (k + 1) a) (zb : SzQ (k + 1) b) (w0 : World) : Calls Tryz.prog 94 #[(vQ a), (vQ b)] w0 (cq w0 (.tuple #[(vI ((aO a b).1)), (vI ((aO a b).2.1)), (vI ((aO a b).2.2))]) (SzI k ((aO a b).1) ∧ SzI k ((aO a b).2.1) ∧ SzI k ((aO a b).2.2))) := by
 refine enter (N := 33) (args := [(vQ a), (vQ b)]) Tryz.func94 rfl rfl ?_; intro ac h
 refine gz h <| (xb) fun b1 => (xb) fun b2 => (xa) fun b3 => (xa) fun b4 => (xa) fun b5 => (ai) ?_ ?_ <;> clear h ac <;> intro ac wo h hc1
 ·
  have hd1 := of_decide_eq_true hc1
  refine gz h <| (W) ?_; clear h ac wo; intro ac wo h
  have s1 := am ((bh a (k + 1) og za) w0)
  have hd : aO a b = (a.num, b.num, (aa a)) := pt
  refine gz h <| (dr1 (H := [⟨.blk b5 (cI (⟨false, 0⟩ : GI)) 25, [(8, .con (.blk b5 (cI (aa a)) 25))]⟩, ⟨.blk b4 (cI (⟨false, 0⟩ : GI)) 25, [(7, .con (.blk b4 (cI b.num) 25))]⟩, ⟨.blk b3 (cI (⟨false, 0⟩ : GI)) 25, [(6, .con (.blk b3 (cI a.num) 25))]⟩, ⟨_, []⟩, ⟨_, []⟩]) (hob := (oK (bh a (k + 1) og za)) <| oE)) <| (W) ?_; clear h ac wo; intro ac wo h
  exact ret h rfl (.cell (v := (vI a.num)) rfl (i := 2) rfl aa25 zz25 rfl rfl rfl (.cell (v := (vI b.num)) rfl (i := 1) rfl aa25 zz25 rfl rfl rfl (.cell (v := (vI (aa a))) rfl (i := 0) rfl aa25 zz25 rfl rfl rfl .nil))) rfl (h.retP (by rw [hd] <;> rfl) (by rw [hd]; exact ⟨(cn za og).1, (cn zb og).1, (eC s1 og)⟩))
 ·
  have hd1 := of_decide_eq_false hc1
  refine gz h <| (W) ?_; clear h ac wo; intro ac wo h
  have s2 := am ((bh b (k + 1) og zb) w0)
  have s3 := am ((bo a.num (aa b) k og za.1 s2) w0)
  have s4 := am ((bh a (k + 1) og za) w0)
  have s5 := am ((bo b.num (aa a) k og zb.1 s4) w0)
  have s6 := am ((bh a (k + 1) og za) w0)
  have s7 := am ((bh b (k + 1) og zb) w0)
  have s8 := am ((bo (aa a) (aa b) k og s6 s7) w0)
  have hd : aO a b = ((ab a.num (aa b)), (ab b.num (aa a)), (ab (aa a) (aa b))) := pt
  refine gz h <| (dr1 (H := [⟨.blk b5 (cI (⟨false, 0⟩ : GI)) 25, [(17, .con (.blk b5 (cI (ab (aa a) (aa b))) 25))]⟩, ⟨.blk b4 (cI (⟨false, 0⟩ : GI)) 25, [(16, .con (.blk b4 (cI (ab b.num (aa a))) 25))]⟩, ⟨.blk b3 (cI (⟨false, 0⟩ : GI)) 25, [(15, .con (.blk b3 (cI (ab a.num (aa b))) 25))]⟩, ⟨_, []⟩, ⟨_, []⟩]) (hob := (oK (bh b (k + 1) og zb)) <| (oK (bo a.num (aa b) k og za.1 s2)) <| (oK (bh a (k + 1) og za)) <| (oK (bo b.num (aa a) k og zb.1 s4)) <| (oK (bh a (k + 1) og za)) <| (oK (bh b (k + 1) og zb)) <| (oK (bo (aa a) (aa b) k og s6 s7)) <| oE)) <| (W) ?_; clear h ac wo; intro ac wo h
  exact ret h rfl (.cell (v := (vI (ab a.num (aa b)))) rfl (i := 2) rfl aa25 zz25 rfl rfl rfl (.cell (v := (vI (ab b.num (aa a)))) rfl (i := 1) rfl aa25 zz25 rfl rfl rfl (.cell (v := (vI (ab (aa a) (aa b)))) rfl (i := 0) rfl aa25 zz25 rfl rfl rfl .nil))) rfl (h.retP (by rw [hd] <;> rfl) (by rw [hd]; exact ⟨s3, s5, s8⟩))
def au (a : GQ) (b : GQ) : GQ :=
 (aX (aE ((aO a b).1) ((aO a b).2.1)) ((aO a b).2.2))
theorem bL (a : GQ) (b : GQ) (k : Nat) (hk : (k + 3) ≤ 40) (za : SzQ (k + 3) a) (zb : SzQ (k + 3) b) (w0 : World) : Calls Tryz.prog 20 #[(vQ a), (vQ b)] w0 (cq w0 (vQ (au a b)) (SzQ k (au a b))) := by
 refine enter (N := 20) (args := [(vQ a), (vQ b)]) Tryz.func20 rfl rfl ?_; intro ac h
 have c1 := gK a b (k + 2) og za zb
 have s1 := am (c1 w0)
 have s2 := am ((dY ((aO a b).1) ((aO a b).2.1) (k + 1) og s1.1 s1.2.1) w0)
 have s3 := am ((cM (aE ((aO a b).1) ((aO a b).2.1)) ((aO a b).2.2) k og s2 (eC s1.2.2 og)) w0)
 refine gz h <| (xb) fun b1 => (xb) fun b2 => (xa) fun b3 => (xk c1) <| (xa) fun b4 => (xa) fun b5 => (xa) fun b6 => (dr1 (H := [⟨_, []⟩, ⟨_, []⟩, ⟨_, []⟩, ⟨.blk b3 (cQ oQ) 27, [(5, .con (.blk b3 (cQ (aX (aE ((aO a b).1) ((aO a b).2.1)) ((aO a b).2.2))) 27))]⟩, ⟨_, []⟩, ⟨_, []⟩]) (hob := (oK (dY ((aO a b).1) ((aO a b).2.1) (k + 1) og s1.1 s1.2.1)) <| (oK (cM (aE ((aO a b).1) ((aO a b).2.1)) ((aO a b).2.2) k og s2 (eC s1.2.2 og))) <| oE)) <| (W) ?_; clear h ac; intro ac wo h
 exact ret h rfl (.cell (v := (vQ (aX (aE ((aO a b).1) ((aO a b).2.1)) ((aO a b).2.2)))) rfl (i := 3) rfl aa27 zz27 rfl rfl rfl .nil) rfl (h.retP (by unfold au; rfl) (by unfold au; exact s3))
def aR (a : GQ) : GQ :=
 (⟨(an a.num), a.den⟩ : GQ)
theorem dO (a : GQ) (k : Nat) (hk : k ≤ 40) (za : SzQ k a) (w0 : World) : Calls Tryz.prog 63 #[(vQ a)] w0 (cq w0 (vQ (aR a)) (SzQ k (aR a))) := by
 refine enter (N := 9) (args := [(vQ a)]) Tryz.func63 rfl rfl ?_; intro ac h
 have s1 := am ((cO a.num k og za.1) w0)
 refine gz h <| (xb) fun b1 => (xa) fun b2 => (dr1 (H := [⟨.blk b2 (cQ oQ) 27, [(6, .con (.blk b2 (cQ (⟨(an a.num), a.den⟩ : GQ)) 27))]⟩, ⟨_, []⟩]) (hob := (oK (cO a.num k og za.1)) <| (oX (h := by exact fun _ => ba (bF kx exs rfl (v := (vQ (⟨(an a.num), a.den⟩ : GQ))) rfl))) <| oE)) <| (W) ?_; clear h ac; intro ac wo h
 exact ret h rfl (.cell (v := (vQ (⟨(an a.num), a.den⟩ : GQ))) rfl (i := 0) rfl aa27 zz27 rfl rfl rfl .nil) rfl (h.retP (by unfold aR; rfl) (by unfold aR; exact ⟨s1, za.2⟩))
def ah (a : GQ) (b : GQ) : GQ :=
 (au a (aR b))
theorem bO (a : GQ) (b : GQ) (k : Nat) (hk : (k + 3) ≤ 40) (za : SzQ (k + 3) a) (zb : SzQ (k + 3) b) (w0 : World) : Calls Tryz.prog 22 #[(vQ a), (vQ b)] w0 (cq w0 (vQ (ah a b)) (SzQ k (ah a b))) := by
 refine enter (N := 9) (args := [(vQ a), (vQ b)]) Tryz.func22 rfl rfl ?_; intro ac h
 have s1 := am ((dO b (k + 3) og zb) w0)
 have s2 := am ((bL a (aR b) k og za s1) w0)
 refine gz h <| (xb) fun b1 => (xb) fun b2 => (xa) fun b3 => (dr1 (H := [⟨.blk b3 (cQ oQ) 27, [(4, .con (.blk b3 (cQ (au a (aR b))) 27))]⟩, ⟨_, []⟩, ⟨_, []⟩]) (hob := (oK (dO b (k + 3) og zb)) <| (oK (bL a (aR b) k og za s1)) <| oE)) <| (W) ?_; clear h ac; intro ac wo h
 exact ret h rfl (.cell (v := (vQ (au a (aR b)))) rfl (i := 0) rfl aa27 zz27 rfl rfl rfl .nil) rfl (h.retP (by unfold ah; rfl) (by unfold ah; exact s2))
def aj (a : GQ) (b : GQ) : GQ :=
 (aX (ab a.num b.num) (ab (aa a) (aa b)))
theorem a7 (a : GQ) (b : GQ) (k : Nat) (hk : (k + 2) ≤ 40) (za : SzQ (k + 2) a) (zb : SzQ (k + 2) b) (w0 : World) : Calls Tryz.prog 21 #[(vQ a), (vQ b)] w0 (cq w0 (vQ (aj a b)) (SzQ k (aj a b))) := by
 refine enter (N := 16) (args := [(vQ a), (vQ b)]) Tryz.func21 rfl rfl ?_; intro ac h
 have s1 := am ((bo a.num b.num (k + 1) og za.1 zb.1) w0)
 have s2 := am ((bh a (k + 2) og za) w0)
 have s3 := am ((bh b (k + 2) og zb) w0)
 have s4 := am ((bo (aa a) (aa b) (k + 1) og s2 s3) w0)
 have s5 := am ((cM (ab a.num b.num) (ab (aa a) (aa b)) k og s1 s4) w0)
 refine gz h <| (xb) fun b1 => (xb) fun b2 => (xa) fun b3 => (dr1 (H := [⟨.blk b3 (cQ oQ) 27, [(11, .con (.blk b3 (cQ (aX (ab a.num b.num) (ab (aa a) (aa b)))) 27))]⟩, ⟨_, []⟩, ⟨_, []⟩]) (hob := (oK (bo a.num b.num (k + 1) og za.1 zb.1)) <| (oK (bh a (k + 2) og za)) <| (oK (bh b (k + 2) og zb)) <| (oK (bo (aa a) (aa b) (k + 1) og s2 s3)) <| (oK (cM (ab a.num b.num) (ab (aa a) (aa b)) k og s1 s4)) <| oE)) <| (W) ?_; clear h ac; intro ac wo h
 exact ret h rfl (.cell (v := (vQ (aX (ab a.num b.num) (ab (aa a) (aa b))))) rfl (i := 0) rfl aa27 zz27 rfl rfl rfl .nil) rfl (h.retP (by unfold aj; rfl) (by unfold aj; exact s5))
def ar (a : GQ) : Int :=
 (bK a.num)
theorem bN (a : GQ) (w0 : World) : Calls Tryz.prog 30 #[(vQ a)] w0 (cq w0 (.int .i64 (ar a)) ((-1 ≤ (ar a) ∧ (ar a) ≤ 1))) := by
 refine enter (N := 6) (args := [(vQ a)]) Tryz.func30 rfl rfl ?_; intro ac h
 have p2 := am ((cJ a.num) w0)
 refine gz h <| (xb) fun b1 => (xk (cJ a.num)) <| (W) ?_; clear h ac; intro ac wo h
 exact (rt h) (h.retP (by unfold ar; rfl) (by unfold ar; exact by first | omega | exact dT og og))
def aU (a : GQ) (b : GQ) : Int :=
 bif (decide (a = b)) then
  0
 else
  (ce ((aO a b).1) ((aO a b).2.1))
theorem fg (a : GQ) (b : GQ) (k : Nat) (hk : (k + 1) ≤ 40) (za : SzQ (k + 1) a) (zb : SzQ (k + 1) b) (w0 : World) : Calls Tryz.prog 87 #[(vQ a), (vQ b)] w0 (cq w0 (.int .i64 (aU a b)) ((-1 ≤ (aU a b) ∧ (aU a b) ≤ 1))) := by
 refine enter (N := 21) (args := [(vQ a), (vQ b)]) Tryz.func87 rfl rfl ?_; intro ac h
 refine gz h <| (xb) fun b1 => (xb) fun b2 => (ai) ?_ ?_ <;> clear h ac <;> intro ac wo h hc1
 ·
  have hd1 := of_decide_eq_true hc1
  have hd : aU a b = 0 := pt
  refine gz h <| (W) ?_; clear h ac wo; intro ac wo h
  exact (rt h) (h.retP (by rw [hd] <;> rfl) (by rw [hd]; exact by first | omega | exact dT og og))
 ·
  have hd1 := of_decide_eq_false hc1
  have c1 := gK a b k og za zb
  have s1 := am (c1 w0)
  have p3 := am ((eK ((aO a b).1) ((aO a b).2.1) k og s1.1 s1.2.1) w0)
  have hd : aU a b = (ce ((aO a b).1) ((aO a b).2.1)) := pt
  refine gz h <| (xk c1) <| (xa) fun b3 => (xa) fun b4 => (xa) fun b5 => (xk (eK ((aO a b).1) ((aO a b).2.1) k og s1.1 s1.2.1)) <| (W) ?_; clear h ac wo; intro ac wo h
  exact (rt h) (h.retP (by rw [hd] <;> rfl) (by rw [hd]; exact by first | omega | exact dT og og))
def aA (c : GQ) : Qd :=
 (⟨c, (⟨(⟨false, 0⟩ : GI), (⟨false, 0⟩ : GI)⟩ : GQ), (⟨(⟨false, 0⟩ : GI), (⟨false, 0⟩ : GI)⟩ : GQ)⟩ : Qd)
theorem iH (c : GQ) (k : Nat) (hk : k ≤ 40) (zc : SzQ k c) (w0 : World) : Calls Tryz.prog 113 #[(vQ c)] w0 (cq w0 (vD (aA c)) (SzD k (aA c))) := by
 refine enter (N := 5) (args := [(vQ c)]) Tryz.func113 rfl rfl ?_; intro ac h
 refine gz h <| (xb) fun b1 => (xa) fun b2 => (xo (hs := by exact bF rA exs rfl (v := (vD (⟨c, oQ, oQ⟩ : Qd))) rfl)) <| (W) ?_; clear h ac; intro ac wo h
 exact ret h rfl (.cell (v := (vD (⟨c, oQ, oQ⟩ : Qd))) rfl (i := 0) rfl Tryz.isAgg53 Tryz.sizeOf53 rfl rfl rfl .nil) rfl (h.retP (by unfold aA; rfl) (by unfold aA; exact ⟨zc, ⟨(bZ 0 (by decide) og), (bZ 0 (by decide) og)⟩, ⟨(bZ 0 (by decide) og), (bZ 0 (by decide) og)⟩⟩))
end Go.Sx
