/- A part of the proof of movingpointMeets. -/
import Derived.Test.YtbenbmdkhcfcfaaGreatDoorProg
import Derived.Test.YtbenbmdkhcfcfaaGreatDoorB4
set_option linter.unusedVariables false
set_option linter.unusedSimpArgs false
open Go.Proofs.Tryz renaming isAgg4 → aa4, underlying4 → nn4, isAgg9 → aa9, isAgg25 → aa25, sizeOf25 → zz25, isAgg27 → aa27, sizeOf27 → zz27
namespace Go.Sx
open Go Go.RowKit Go.Proofs
set_option maxRecDepth 100000
set_option maxHeartbeats 40000000
attribute [local irreducible] Code.wp wpList Rd Step ObS Ent
theorem eqi25 : EqIn Tryz.prog 2 25 vI := eqS (c := cI) (fun _ => rfl) Tryz.underlying25 Tryz.stoodInHeld25 fun d x y w hd => by
 refine Eq.trans (eqF (by decide) (dP aa4 rfl w) (dP aa4 rfl w) (eqB nn4 d og _ _ w) (eqF (by decide) (dP aa9 rfl w) (dP aa9 rfl w) (eqBs Tryz.underlying9 d og _ _ w) eqF0)) ?_
 congr 1
 rw [decide_eq_decide]
 cases x; cases y; simp
theorem eqp25 : EqP Tryz.prog 25 vI := EqIn.p (k := 2) rfl (c := fun x => (cI x).toArray) (fun _ => rfl) Tryz.eqGuardType25 eqi25
instance : Ep Tryz.prog 25 GI inferInstance vI := ⟨eqp25⟩
theorem mX : EqIn Tryz.prog 3 27 vQ := eqS (c := cQ) (fun _ => rfl) Tryz.underlying27 Tryz.stoodInHeld27 fun d x y w hd => by
 refine Eq.trans (eqF (by decide) (cL aa25 zz25 (v := vI (x.num)) rfl w) (cL aa25 zz25 (v := vI (y.num)) rfl w) (eqi25 d _ _ w og) (eqF (by decide) (cL aa25 zz25 (v := vI (x.den)) rfl w) (cL aa25 zz25 (v := vI (y.den)) rfl w) (eqi25 d _ _ w og) eqF0)) ?_
 congr 1
 rw [decide_eq_decide]
 cases x; cases y; simp
theorem eqp27 : EqP Tryz.prog 27 vQ := EqIn.p (k := 3) rfl (c := fun x => (cQ x).toArray) (fun _ => rfl) Tryz.eqGuardType27 mX
instance : Ep Tryz.prog 27 GQ inferInstance vQ := ⟨eqp27⟩
theorem eqi53 : EqIn Tryz.prog 4 53 vD := eqS (c := cD) (fun _ => rfl) Tryz.underlying53 Tryz.stoodInHeld53 fun d x y w hd => by
 refine Eq.trans (eqF (by decide) (cL aa27 zz27 (v := vQ (x.c0)) rfl w) (cL aa27 zz27 (v := vQ (y.c0)) rfl w) (mX d _ _ w og) (eqF (by decide) (cL aa27 zz27 (v := vQ (x.c1)) rfl w) (cL aa27 zz27 (v := vQ (y.c1)) rfl w) (mX d _ _ w og) (eqF (by decide) (cL aa27 zz27 (v := vQ (x.c2)) rfl w) (cL aa27 zz27 (v := vQ (y.c2)) rfl w) (mX d _ _ w og) eqF0))) ?_
 congr 1
 rw [decide_eq_decide]
 cases x; cases y; simp
theorem eqp53 : EqP Tryz.prog 53 vD := EqIn.p (k := 4) rfl (c := fun x => (cD x).toArray) (fun _ => rfl) Tryz.eqGuardType53 eqi53
instance : Ep Tryz.prog 53 Qd inferInstance vD := ⟨eqp53⟩
theorem eqi71 : EqIn Tryz.prog 4 71 vR := eqS (c := cR) (fun _ => rfl) Tryz.underlying71 Tryz.stoodInHeld71 fun d x y w hd => by
 refine Eq.trans (eqF (by decide) (cL aa27 zz27 (v := vQ (x.p)) rfl w) (cL aa27 zz27 (v := vQ (y.p)) rfl w) (mX d _ _ w og) (eqF (by decide) (cL aa27 zz27 (v := vQ (x.r)) rfl w) (cL aa27 zz27 (v := vQ (y.r)) rfl w) (mX d _ _ w og) (eqF (by decide) (dP aa4 rfl w) (dP aa4 rfl w) (eqB nn4 d og _ _ w) eqF0))) ?_
 congr 1
 rw [decide_eq_decide]
 cases x; cases y; simp
theorem eqp71 : EqP Tryz.prog 71 vR := EqIn.p (k := 4) rfl (c := fun x => (cR x).toArray) (fun _ => rfl) Tryz.eqGuardType71 eqi71
instance : Ep Tryz.prog 71 GR inferInstance vR := ⟨eqp71⟩
def bO (a : GI) : Int :=
 bif (decide (a.mag = 0)) then
  0
 else
  bif a.neg then
   (-1)
  else
   1
theorem dz (a : GI) (w0 : World) : Calls Tryz.prog 115 #[(vI a)] w0 (dr w0 (.int .i64 (bO a)) ((-1 ≤ (bO a) ∧ (bO a) ≤ 1))) := by
 refine enter (N := 10) (args := [(vI a)]) Tryz.func115 rfl rfl ?_; intro ac h
 refine gz h <| (xb) fun b1 => (ai) ?_ ?_ <;> clear h ac <;> intro ac wo h hc1
 ·
  have hd1 := of_decide_eq_true hc1
  have hd : bO a = 0 := pt
  refine gz h <| (W) ?_; clear h ac wo; intro ac wo h
  exact (rt h) (h.retP (by rw [hd] <;> rfl) (by rw [hd]; exact by first | omega | exact eB og og))
 ·
  have hd1 := of_decide_eq_false hc1
  refine gz h <| (ai) ?_ ?_ <;> clear h ac wo <;> intro ac wo h hc2
  ·
   have hd : bO a = (-1) := pt
   refine gz h <| (W) ?_; clear h ac wo; intro ac wo h
   exact (rt h) (h.retP (by rw [hd] <;> rfl) (by rw [hd]; exact by first | omega | exact eB og og))
  ·
   have hd : bO a = 1 := pt
   refine gz h <| (W) ?_; clear h ac wo; intro ac wo h
   exact (rt h) (h.retP (by rw [hd] <;> rfl) (by rw [hd]; exact by first | omega | exact eB og og))
def an (a : GI) : GI :=
 (aC (!a.neg) a.mag)
theorem dD (a : GI) (k : Nat) (hk : k ≤ 40) (za : SzI k a) (w0 : World) : Calls Tryz.prog 161 #[(vI a)] w0 (dr w0 (vI (an a)) (SzI k (an a))) := by
 refine enter (N := 9) (args := [(vI a)]) Tryz.func161 rfl rfl ?_; intro ac h
 have c1 := bI (!a.neg) a.mag k og za
 have s1 := am (c1 w0)
 refine gz h <| (xb) fun b1 => (xa) fun b2 => (xk c1) <| (W) ?_; clear h ac; intro ac wo h
 exact ret h rfl (.cell (v := (vI (aC (!a.neg) a.mag))) rfl (i := 0) rfl aa25 zz25 rfl rfl rfl .nil) rfl (h.retP (by unfold an; rfl) (by unfold an; exact s1))
def cK (a : GI) (b : GI) : Int :=
 bif (a.neg != b.neg) then
  (bR (bO a) (bO b))
 else
  bif a.neg then
   -(a8 a.mag b.mag)
  else
   (a8 a.mag b.mag)
theorem fk (a : GI) (b : GI) (k : Nat) (hk : k ≤ 40) (za : SzI k a) (zb : SzI k b) (w0 : World) : Calls Tryz.prog 158 #[(vI a), (vI b)] w0 (dr w0 (.int .i64 (cK a b)) ((-1 ≤ (cK a b) ∧ (cK a b) ≤ 1))) := by
 refine enter (N := 26) (args := [(vI a), (vI b)]) Tryz.func158 rfl rfl ?_; intro ac h
 refine gz h <| (xb) fun b1 => (xb) fun b2 => (xo (hs := by exact ph nn4 rfl rfl)) <| (ai) ?_ ?_ <;> clear h ac <;> intro ac wo h hc1
 ·
  refine gz h <| (W) ?_; clear h ac wo; intro ac wo h
  have p2 := am ((dz a) w0)
  have p4 := am ((dz b) w0)
  have p6 := am ((iO (bO a) (bO b)) w0)
  have hd : cK a b = (bR (bO a) (bO b)) := pt
  refine gz h <| (dr0 (hob := (oK (dz a)) <| (oK (dz b)) <| (oK (iO (bO a) (bO b))) <| oE)) <| (W) ?_; clear h ac wo; intro ac wo h
  exact (rt h) (h.retP (by rw [hd] <;> rfl) (by rw [hd]; exact by first | omega | exact eB og og))
 ·
  have p8 := am ((dM a.mag b.mag) w0)
  refine gz h <| (xk (dM a.mag b.mag)) <| (ai) ?_ ?_ <;> clear h ac wo <;> intro ac wo h hc2
  ·
   have hd : cK a b = -(a8 a.mag b.mag) := pt
   refine gz h <| (xo (hs := by exact r_neg rfl (r := -(a8 a.mag b.mag)) (by rw [IntKind.wrap_i64]; omega))) <| (W) ?_; clear h ac wo; intro ac wo h
   exact (rt h) (h.retP (by rw [hd] <;> rfl) (by rw [hd]; exact by first | omega | exact eB og og))
  ·
   have hd : cK a b = (a8 a.mag b.mag) := pt
   refine gz h <| (W) ?_; clear h ac wo; intro ac wo h
   exact (rt h) (h.retP (by rw [hd] <;> rfl) (by rw [hd]; exact by first | omega | exact eB og og))
def aF (a : GI) (b : GI) : GI :=
 bif (a.neg == b.neg) then
  (aC a.neg (de a.mag b.mag))
 else
  bif (decide ((a8 a.mag b.mag) ≥ 0)) then
   (aC a.neg (cq a.mag b.mag))
  else
   (aC b.neg (cq b.mag a.mag))
theorem eL (a : GI) (b : GI) (k : Nat) (hk : (k + 1) ≤ 40) (za : SzI (k + 1) a) (zb : SzI (k + 1) b) (w0 : World) : Calls Tryz.prog 96 #[(vI a), (vI b)] w0 (dr w0 (vI (aF a b)) (SzI k (aF a b))) := by
 refine enter (N := 42) (args := [(vI a), (vI b)]) Tryz.func96 rfl rfl ?_; intro ac h
 refine gz h <| (xb) fun b1 => (xb) fun b2 => (xa) fun b3 => (xo (hs := by exact ua nn4 rfl rfl)) <| (ai) ?_ ?_ <;> clear h ac <;> intro ac wo h hc1
 ·
  have hd1 := eq_of_beq hc1
  refine gz h <| (W) ?_; clear h ac wo; intro ac wo h
  have s1 := am ((fK a.mag b.mag k og za zb) w0)
  have s2 := am ((bI a.neg (de a.mag b.mag) k og s1) w0)
  have hd : aF a b = (aC a.neg (de a.mag b.mag)) := pt
  refine gz h <| (dr1 (H := [⟨.blk b3 (cI (⟨false, 0⟩ : GI)) 25, [(8, .con (.blk b3 (cI (aC a.neg (de a.mag b.mag))) 25))]⟩, ⟨_, []⟩, ⟨_, []⟩]) (hob := (oK (fK a.mag b.mag k og za zb)) <| (oK (bI a.neg (de a.mag b.mag) k og s1)) <| oE)) <| (W) ?_; clear h ac wo; intro ac wo h
  exact ret h rfl (.cell (v := (vI (aC a.neg (de a.mag b.mag)))) rfl (i := 0) rfl aa25 zz25 rfl rfl rfl .nil) rfl (h.retP (by rw [hd] <;> rfl) (by rw [hd]; exact s2))
 ·
  have hd1 := ne_of_beq_false hc1
  have p4 := am ((dM a.mag b.mag) w0)
  refine gz h <| (xk (dM a.mag b.mag)) <| (ai) ?_ ?_ <;> clear h ac wo <;> intro ac wo h hc2
  ·
   have hd2 := of_decide_eq_true hc2
   refine gz h <| (W) ?_; clear h ac wo; intro ac wo h
   have s5 := am ((fg a.mag b.mag (k + 1) og za zb (by first | exact qe ‹_› | exact qd ‹_›)) w0)
   have s6 := am ((bI a.neg (cq a.mag b.mag) (k + 1) og s5) w0)
   have hd : aF a b = (aC a.neg (cq a.mag b.mag)) := pt
   refine gz h <| (dr1 (H := [⟨.blk b3 (cI (⟨false, 0⟩ : GI)) 25, [(8, .con (.blk b3 (cI (aC a.neg (cq a.mag b.mag))) 25))]⟩, ⟨_, []⟩, ⟨_, []⟩]) (hob := (oK (fg a.mag b.mag (k + 1) og za zb (by first | exact qe ‹_› | exact qd ‹_›))) <| (oK (bI a.neg (cq a.mag b.mag) (k + 1) og s5)) <| oE)) <| (W) ?_; clear h ac wo; intro ac wo h
   exact ret h rfl (.cell (v := (vI (aC a.neg (cq a.mag b.mag)))) rfl (i := 0) rfl aa25 zz25 rfl rfl rfl .nil) rfl (h.retP (by rw [hd] <;> rfl) (by rw [hd]; exact (fe s6 og)))
  ·
   have hd2 := of_decide_eq_false hc2
   refine gz h <| (W) ?_; clear h ac wo; intro ac wo h
   have s7 := am ((fg b.mag a.mag (k + 1) og zb za (by first | exact qe ‹_› | exact qd ‹_›)) w0)
   have s8 := am ((bI b.neg (cq b.mag a.mag) (k + 1) og s7) w0)
   have hd : aF a b = (aC b.neg (cq b.mag a.mag)) := pt
   refine gz h <| (dr1 (H := [⟨.blk b3 (cI (⟨false, 0⟩ : GI)) 25, [(8, .con (.blk b3 (cI (aC b.neg (cq b.mag a.mag))) 25))]⟩, ⟨_, []⟩, ⟨_, []⟩]) (hob := (oK (fg b.mag a.mag (k + 1) og zb za (by first | exact qe ‹_› | exact qd ‹_›))) <| (oK (bI b.neg (cq b.mag a.mag) (k + 1) og s7)) <| oE)) <| (W) ?_; clear h ac wo; intro ac wo h
   exact ret h rfl (.cell (v := (vI (aC b.neg (cq b.mag a.mag)))) rfl (i := 0) rfl aa25 zz25 rfl rfl rfl .nil) rfl (h.retP (by rw [hd] <;> rfl) (by rw [hd]; exact (fe s8 og)))
def ab (a : GI) (b : GI) : GI :=
 (aC (a.neg != b.neg) (d4 a.mag b.mag))
theorem bC (a : GI) (b : GI) (k : Nat) (hk : (k + 1) ≤ 40) (za : SzI (k + 1) a) (zb : SzI (k + 1) b) (w0 : World) : Calls Tryz.prog 97 #[(vI a), (vI b)] w0 (dr w0 (vI (ab a b)) (SzI k (ab a b))) := by
 refine enter (N := 16) (args := [(vI a), (vI b)]) Tryz.func97 rfl rfl ?_; intro ac h
 have s1 := am ((ir a.mag b.mag k og za zb) w0)
 have s2 := am ((bI (a.neg != b.neg) (d4 a.mag b.mag) k og s1) w0)
 refine gz h <| (xb) fun b1 => (xb) fun b2 => (xa) fun b3 => (dr1 (H := [⟨.blk b3 (cI (⟨false, 0⟩ : GI)) 25, [(11, .con (.blk b3 (cI (aC (a.neg != b.neg) (d4 a.mag b.mag))) 25))]⟩, ⟨_, []⟩, ⟨_, []⟩]) (hob := (oX (h := by exact fun _ => bk (ph nn4 rfl rfl))) <| (oK (ir a.mag b.mag k og za zb)) <| (oK (bI (a.neg != b.neg) (d4 a.mag b.mag) k og s1)) <| oE)) <| (W) ?_; clear h ac; intro ac wo h
 exact ret h rfl (.cell (v := (vI (aC (a.neg != b.neg) (d4 a.mag b.mag)))) rfl (i := 0) rfl aa25 zz25 rfl rfl rfl .nil) rfl (h.retP (by unfold ab; rfl) (by unfold ab; exact s2))
def aO (a b : GI) : GI := aC false (Nat.gcd a.mag b.mag)
theorem rI (x y : Nat) : Nat.gcd y (x % y) = Nat.gcd x y := by rw [Nat.gcd_comm x y, Nat.gcd_rec y x, Nat.gcd_comm]
theorem gH (a : GI) (b : GI) (k : Nat) (hk : k ≤ 40) (za : SzI k a) (zb : SzI k b) (w0 : World) : Calls Tryz.prog 160 #[(vI a), (vI b)] w0 (dr w0 (vI (aO a b)) (SzI k (aO a b))) := by
 refine enter (N := 45) (args := [(vI a), (vI b)]) Tryz.func160 rfl rfl ?_; intro ac h
 refine gz h <| (xb) fun b1 => (xb) fun b2 => (xa) fun b3 => (dr0 (hob := oE)) <| (W) ?_; clear h ac; intro ac wo h
 refine wp_loop_ghost (fun n_ a_ w_ => ∃ (x : Nat) (y : Nat), n_ = 1 * y ∧ (Nat.gcd x y = Nat.gcd a.mag b.mag) ∧ (SzB k x) ∧ (SzB k y) ∧ St w0 45 [(4, (ptr b3 0)), (5, (.string (bs x))), (6, (.string (bs y)))] [.blk b3 (cI (⟨false, 0⟩ : GI)) 25, .blk b2 (cI b) 25, .blk b1 (cI a) 25] a_ w_) _ ⟨a.mag, b.mag, rfl, rfl, za, zb, h.re [0, 1, 2]⟩ ?_
 clear h ac wo; rintro _ ac wo ⟨x, y, rfl, hg, zx, zy, h⟩
 refine gz h <| (ai) ?_ ?_ <;> clear h ac wo <;> intro ac wo h hc1
 ·
  have hy : y ≠ 0 := by simpa using hc1
  refine gz h <| (xk (fd x y)) <| (ai) ?_ ?_ <;> clear h ac wo <;> intro ac wo h hc2
  ·
   obtain ⟨ha6, hb6, hw⟩ := jg hc2
   simp only [hw] at h
   refine gz h <| (W) ?_; clear h ac wo; intro ac wo h
   refine wp_loop_ghost (fun n_ a_ w_ => ∃ (u : Nat) (v : Nat), n_ = 1 * v ∧ (Nat.gcd u v = Nat.gcd a.mag b.mag) ∧ (SzB k u) ∧ (SzB k v) ∧ (u < 18446744073709551616 ∧ v < 18446744073709551616) ∧ St w0 45 [(4, (ptr b3 0)), (7, (.int .u64 ((u : Nat) : Int))), (8, (.int .u64 ((v : Nat) : Int)))] [.blk b3 (cI (⟨false, 0⟩ : GI)) 25, .blk b2 (cI b) 25, .blk b1 (cI a) 25] a_ w_) _ ⟨x, y, rfl, hg, zx, zy, ⟨ha6, hb6⟩, h.re [0, 1, 2]⟩ ?_
   clear h ac wo; rintro _ ac wo ⟨u, v, rfl, hgu, zu, zv, hul, h⟩
   refine gz h <| (ai) ?_ ?_ <;> clear h ac wo <;> intro ac wo h hc3
   ·
    have hv : v ≠ 0 := by have := hc3; simp at this; omega
    refine gz h <| (dr0 (hob := (oX (h := by exact fun _ => bk (qx rfl rfl (r := ((u % v : Nat) : Int)) og (by rw [Int.tmod_eq_emod_of_nonneg og]; rfl)))) <| oE)) <| (W) ?_; clear h ac wo; intro ac wo h
    exact aI ⟨_, (by have := Nat.mod_lt u (show v > 0 by omega); omega), v, (u % v), rfl, (by rw [rI]; exact hgu), zv, (fu zu (Nat.mod_le _ _)), ⟨hul.2, by have := Nat.mod_lt u (show v > 0 by omega); omega⟩, h.re [0, 1, 2]⟩
   ·
    have hv : v = 0 := by have := hc3; simp at this; omega
    subst hv
    have c1 := bI false (br u) k og zu
    have s1 := am (c1 w0)
    have hd : aO a b = (aC false (br u)) := (by rw [Nat.gcd_zero_right] at hgu; unfold aO; rw [← hgu]; rfl)
    refine gz h <| (xk (cu u hul.1)) <| (xk c1) <| (W) ?_; clear h ac wo; intro ac wo h
    exact ret h rfl (.cell (v := (vI (aC false (br u)))) rfl (i := 0) rfl aa25 zz25 rfl rfl rfl .nil) rfl (h.retP (by rw [hd] <;> rfl) (by rw [hd]; exact s1))
  ·
   have c2 := gG x y k og zx zy og
   have s2 := am (c2 w0)
   refine gz h <| (xk c2) <| (W) ?_; clear h ac wo; intro ac wo h
   exact aI ⟨_, (by have := Nat.mod_lt x (show y > 0 by omega); omega), y, (x % y), rfl, (by rw [rI]; exact hg), zy, (fu zx (Nat.mod_le _ _)), h.re [0, 1, 2]⟩
 ·
  have hy : y = 0 := by simpa using hc1
  subst hy
  have c3 := bI false x k og zx
  have s3 := am (c3 w0)
  have hd : aO a b = (aC false x) := (by rw [Nat.gcd_zero_right] at hg; unfold aO; rw [← hg])
  refine gz h <| (xk c3) <| (W) ?_; clear h ac wo; intro ac wo h
  exact ret h rfl (.cell (v := (vI (aC false x))) rfl (i := 0) rfl aa25 zz25 rfl rfl rfl .nil) rfl (h.retP (by rw [hd] <;> rfl) (by rw [hd]; exact s3))
def aH (a : GI) (b : GI) : GI × GI × Int :=
 bif (decide (b.mag = 0)) then
  ((⟨false, 0⟩ : GI), (⟨false, 0⟩ : GI), 6)
 else
  bif (a.neg && (!(decide (((bm a.mag b.mag).2) = 0)))) then
   ((aC (a.neg != b.neg) (de ((bm a.mag b.mag).1) 1)), (aC false (cq b.mag ((bm a.mag b.mag).2))), 0)
  else
   ((aC (a.neg != b.neg) ((bm a.mag b.mag).1)), (aC false ((bm a.mag b.mag).2)), 0)
theorem e5 (a : GI) (b : GI) (k : Nat) (hk : (k + 1) ≤ 40) (za : SzI (k + 1) a) (zb : SzI (k + 1) b) (w0 : World) : Calls Tryz.prog 253 #[(vI a), (vI b)] w0 (dr w0 (.tuple #[(vI ((aH a b).1)), (vI ((aH a b).2.1)), (.int .i64 ((aH a b).2.2))]) (SzI k ((aH a b).1) ∧ SzI k ((aH a b).2.1))) := by
 refine enter (N := 43) (args := [(vI a), (vI b)]) Tryz.func253 rfl rfl ?_; intro ac h
 refine gz h <| (xb) fun b1 => (xb) fun b2 => (xa) fun b3 => (xa) fun b4 => (ai) ?_ ?_ <;> clear h ac <;> intro ac wo h hc1
 ·
  have hd1 := of_decide_eq_true hc1
  have hd : aH a b = ((⟨false, 0⟩ : GI), (⟨false, 0⟩ : GI), 6) := pt
  refine gz h <| (xo (hs := by exact bD mY exs rfl (v := (vI (⟨false, 0⟩ : GI))) rfl)) <| (xo (hs := by exact bD mY exs rfl (v := (vI (⟨false, 0⟩ : GI))) rfl)) <| (W) ?_; clear h ac wo; intro ac wo h
  exact ret h rfl (.cell (v := (vI (⟨false, 0⟩ : GI))) rfl (i := 1) rfl aa25 zz25 rfl rfl rfl (.cell (v := (vI (⟨false, 0⟩ : GI))) rfl (i := 0) rfl aa25 zz25 rfl rfl rfl (.tmp rfl .nil))) rfl (h.retP (by rw [hd] <;> rfl) (by rw [hd]; exact ⟨(cp 0 (by decide) og), (cp 0 (by decide) og)⟩))
 ·
  have hd1 := of_decide_eq_false hc1
  have c1 := gG a.mag b.mag (k + 1) og za zb og
  have s1 := am (c1 w0)
  refine gz h <| (xk c1) <| (ai) ?_ ?_ <;> clear h ac wo <;> intro ac wo h hc2
  ·
   have s2 := am ((fK ((bm a.mag b.mag).1) 1 k og s1.1 (cp 1 (by decide) og)) w0)
   have s3 := am ((fg b.mag ((bm a.mag b.mag).2) (k + 1) og zb s1.2 (Nat.le_of_lt (Nat.mod_lt _ og))) w0)
   refine gz h <| (dr0 (hob := (oK (fK ((bm a.mag b.mag).1) 1 k og s1.1 (cp 1 (by decide) og))) <| (oK (fg b.mag ((bm a.mag b.mag).2) (k + 1) og zb s1.2 (Nat.le_of_lt (Nat.mod_lt _ og)))) <| oE)) <| (W) ?_; clear h ac wo; intro ac wo h
   have c4 := bI (a.neg != b.neg) (de ((bm a.mag b.mag).1) 1) k og s2
   have s4 := am (c4 w0)
   have c5 := bI false (cq b.mag ((bm a.mag b.mag).2)) (k + 1) og s3
   have s5 := am (c5 w0)
   have hd : aH a b = ((aC (a.neg != b.neg) (de ((bm a.mag b.mag).1) 1)), (aC false (cq b.mag ((bm a.mag b.mag).2))), 0) := pt
   refine gz h <| (xo (hs := by exact ph nn4 rfl rfl)) <| (xk c4) <| (xk c5) <| (W) ?_; clear h ac wo; intro ac wo h
   exact ret h rfl (.cell (v := (vI (aC (a.neg != b.neg) (de ((bm a.mag b.mag).1) 1)))) rfl (i := 1) rfl aa25 zz25 rfl rfl rfl (.cell (v := (vI (aC false (cq b.mag ((bm a.mag b.mag).2))))) rfl (i := 0) rfl aa25 zz25 rfl rfl rfl (.tmp rfl .nil))) rfl (h.retP (by rw [hd] <;> rfl) (by rw [hd]; exact ⟨s4, (fe s5 og)⟩))
  ·
   have c6 := bI (a.neg != b.neg) ((bm a.mag b.mag).1) (k + 1) og s1.1
   have s6 := am (c6 w0)
   have c7 := bI false ((bm a.mag b.mag).2) (k + 1) og s1.2
   have s7 := am (c7 w0)
   have hd : aH a b = ((aC (a.neg != b.neg) ((bm a.mag b.mag).1)), (aC false ((bm a.mag b.mag).2)), 0) := pt
   refine gz h <| (xo (hs := by exact ph nn4 rfl rfl)) <| (xk c6) <| (xk c7) <| (W) ?_; clear h ac wo; intro ac wo h
   exact ret h rfl (.cell (v := (vI (aC (a.neg != b.neg) ((bm a.mag b.mag).1)))) rfl (i := 1) rfl aa25 zz25 rfl rfl rfl (.cell (v := (vI (aC false ((bm a.mag b.mag).2)))) rfl (i := 0) rfl aa25 zz25 rfl rfl rfl (.tmp rfl .nil))) rfl (h.retP (by rw [hd] <;> rfl) (by rw [hd]; exact ⟨(fe s6 og), (fe s7 og)⟩))
def rational_one  : GI :=
 (aw 1)
theorem dU (k : Nat) (hk : k ≤ 40) (w0 : World) : Calls Tryz.prog 159 #[] w0 (dr w0 (vI rational_one) (SzI k rational_one)) := by
 refine enter (N := 2) (args := []) Tryz.func159 rfl rfl ?_; intro ac h
 have c1 := dY 1 k og  og
 have s1 := am (c1 w0)
 refine gz h <| (xa) fun b1 => (xk c1) <| (W) ?_; clear h ac; intro ac wo h
 exact ret h rfl (.cell (v := (vI (aw 1))) rfl (i := 0) rfl aa25 zz25 rfl rfl rfl .nil) rfl (h.retP (by unfold rational_one; rfl) (by unfold rational_one; exact s1))
def ah (n : Int) : GQ :=
 (⟨(aw n), (⟨false, 0⟩ : GI)⟩ : GQ)
theorem bL (n : Int) (k : Nat) (hk : k ≤ 40) (hn : -9223372036854775808 ≤ n ∧ n ≤ 9223372036854775807) (w0 : World) : Calls Tryz.prog 85 #[(.int .i64 n)] w0 (dr w0 (vQ (ah n)) (SzQ k (ah n))) := by
 refine enter (N := 6) (args := [(.int .i64 n)]) Tryz.func85 rfl rfl ?_; intro ac h
 have c1 := dY n k og  og
 have s1 := am (c1 w0)
 refine gz h <| (xa) fun b1 => (xk c1) <| (xo (hs := by exact bD mB exs rfl (v := (vQ (⟨(aw n), (⟨false, 0⟩ : GI)⟩ : GQ))) rfl)) <| (W) ?_; clear h ac; intro ac wo h
 exact ret h rfl (.cell (v := (vQ (⟨(aw n), (⟨false, 0⟩ : GI)⟩ : GQ))) rfl (i := 0) rfl aa27 zz27 rfl rfl rfl .nil) rfl (h.retP (by unfold ah; rfl) (by unfold ah; exact ⟨s1, (cp 0 (by decide) og)⟩))
def aa (a : GQ) : GI :=
 bif (decide (a.den = (⟨false, 0⟩ : GI))) then
  rational_one
 else
  a.den
theorem bn (a : GQ) (k : Nat) (hk : k ≤ 40) (za : SzQ k a) (w0 : World) : Calls Tryz.prog 98 #[(vQ a)] w0 (dr w0 (vI (aa a)) (SzI k (aa a))) := by
 refine enter (N := 10) (args := [(vQ a)]) Tryz.func98 rfl rfl ?_; intro ac h
 refine gz h <| (xb) fun b1 => (xa) fun b2 => (xo (hs := by exact bD mY exs rfl (v := (vI (⟨false, 0⟩ : GI))) rfl)) <| (ai) ?_ ?_ <;> clear h ac <;> intro ac wo h hc1
 ·
  have hd1 := of_decide_eq_true hc1
  have c1 := dU  k og
  have s1 := am (c1 w0)
  have hd : aa a = rational_one := pt
  refine gz h <| (xk c1) <| (W) ?_; clear h ac wo; intro ac wo h
  exact ret h rfl (.cell (v := (vI rational_one)) rfl (i := 0) rfl aa25 zz25 rfl rfl rfl .nil) rfl (h.retP (by rw [hd] <;> rfl) (by rw [hd]; exact s1))
 ·
  have hd1 := of_decide_eq_false hc1
  have hd : aa a = a.den := pt
  refine gz h <| (W) ?_; clear h ac wo; intro ac wo h
  exact ret h rfl (.cell (v := (vI a.den)) rfl (i := 0) rfl aa25 zz25 rfl rfl rfl .nil) rfl (h.retP (by rw [hd] <;> rfl) (by rw [hd]; exact za.2))
def aB (a : GI) (b : GI) : GI :=
 (aH a b).1
theorem cO (a : GI) (b : GI) (k : Nat) (hk : (k + 1) ≤ 40) (za : SzI (k + 1) a) (zb : SzI (k + 1) b) (w0 : World) : Calls Tryz.prog 192 #[(vI a), (vI b)] w0 (dr w0 (vI (aB a b)) (SzI k (aB a b))) := by
 refine enter (N := 16) (args := [(vI a), (vI b)]) Tryz.func192 rfl rfl ?_; intro ac h
 have c1 := e5 a b k og za zb
 have s1 := am (c1 w0)
 refine gz h <| (xb) fun b1 => (xb) fun b2 => (xa) fun b3 => (xk c1) <| (xa) fun b4 => (xa) fun b5 => (W) ?_; clear h ac; intro ac wo h
 exact ret h rfl (.cell (v := (vI ((aH a b).1))) rfl (i := 2) rfl aa25 zz25 rfl rfl rfl .nil) rfl (h.retP (by unfold aB; rfl) (by unfold aB; exact s1.1))
def a7 (num : GI) (den : GI) : GQ :=
 bif (decide ((bO den) < 0)) then
  bif (decide ((aB (an den) (aO (an num) (an den))) = rational_one)) then
   (⟨(aB (an num) (aO (an num) (an den))), (⟨false, 0⟩ : GI)⟩ : GQ)
  else
   (⟨(aB (an num) (aO (an num) (an den))), (aB (an den) (aO (an num) (an den)))⟩ : GQ)
 else
  bif (decide ((aB den (aO num den)) = rational_one)) then
   (⟨(aB num (aO num den)), (⟨false, 0⟩ : GI)⟩ : GQ)
  else
   (⟨(aB num (aO num den)), (aB den (aO num den))⟩ : GQ)
theorem dC (num : GI) (den : GI) (k : Nat) (hk : (k + 1) ≤ 40) (znum : SzI (k + 1) num) (zden : SzI (k + 1) den) (w0 : World) : Calls Tryz.prog 95 #[(vI num), (vI den)] w0 (dr w0 (vQ (a7 num den)) (SzQ k (a7 num den))) := by
 refine enter (N := 29) (args := [(vI num), (vI den)]) Tryz.func95 rfl rfl ?_; intro ac h
 have p2 := am ((dz den) w0)
 refine gz h <| (xb) fun b1 => (xb) fun b2 => (xa) fun b3 => (xk (dz den)) <| (ai) ?_ ?_ <;> clear h ac <;> intro ac wo h hc1
 ·
  have hd1 := of_decide_eq_true hc1
  have s3 := am ((dD num (k + 1) og znum) w0)
  have s4 := am ((dD den (k + 1) og zden) w0)
  refine gz h <| (dr1 (H := [⟨_, []⟩, ⟨.blk b2 (cI den) 25, [(5, .con (.blk b2 (cI (an den)) 25))]⟩, ⟨.blk b1 (cI num) 25, [(4, .con (.blk b1 (cI (an num)) 25))]⟩]) (hob := (oK (dD num (k + 1) og znum)) <| (oK (dD den (k + 1) og zden)) <| oE)) <| (W) ?_; clear h ac wo; intro ac wo h
  have c5 := gH (an num) (an den) (k + 1) og s3 s4
  have s5 := am (c5 w0)
  have s6 := am ((cO (an num) (aO (an num) (an den)) k og s3 s5) w0)
  have s7 := am ((cO (an den) (aO (an num) (an den)) k og s4 s5) w0)
  refine gz h <| (xk c5) <| (xa) fun b4 => (dr1 (H := [⟨_, []⟩, ⟨_, []⟩, ⟨.blk b2 (cI (an den)) 25, [(7, .con (.blk b2 (cI (aB (an den) (aO (an num) (an den)))) 25))]⟩, ⟨.blk b1 (cI (an num)) 25, [(6, .con (.blk b1 (cI (aB (an num) (aO (an num) (an den)))) 25))]⟩]) (hob := (oK (cO (an num) (aO (an num) (an den)) k og s3 s5)) <| (oK (cO (an den) (aO (an num) (an den)) k og s4 s5)) <| oE)) <| (W) ?_; clear h ac wo; intro ac wo h
  have s8 := am ((dU  (k + 1) og ) w0)
  refine gz h <| (dr0 (hob := (oK (dU  (k + 1) og )) <| oE)) <| (ai) ?_ ?_ <;> clear h ac wo <;> intro ac wo h hc2
  ·
   have hd2 := of_decide_eq_true hc2
   have hd : a7 num den = (⟨(aB (an num) (aO (an num) (an den))), (⟨false, 0⟩ : GI)⟩ : GQ) := pt
   refine gz h <| (xo (hs := by exact bD mY exs rfl (v := (vI (⟨false, 0⟩ : GI))) rfl)) <| (xo (hs := by exact bD mB exs rfl (v := (vQ (⟨(aB (an num) (aO (an num) (an den))), (⟨false, 0⟩ : GI)⟩ : GQ))) rfl)) <| (W) ?_; clear h ac wo; intro ac wo h
   exact ret h rfl (.cell (v := (vQ (⟨(aB (an num) (aO (an num) (an den))), (⟨false, 0⟩ : GI)⟩ : GQ))) rfl (i := 1) rfl aa27 zz27 rfl rfl rfl .nil) rfl (h.retP (by rw [hd] <;> rfl) (by rw [hd]; exact ⟨s6, (cp 0 (by decide) og)⟩))
  ·
   have hd2 := of_decide_eq_false hc2
   have hd : a7 num den = (⟨(aB (an num) (aO (an num) (an den))), (aB (an den) (aO (an num) (an den)))⟩ : GQ) := pt
   refine gz h <| (xo (hs := by exact bD mB exs rfl (v := (vQ (⟨(aB (an num) (aO (an num) (an den))), (aB (an den) (aO (an num) (an den)))⟩ : GQ))) rfl)) <| (W) ?_; clear h ac wo; intro ac wo h
   exact ret h rfl (.cell (v := (vQ (⟨(aB (an num) (aO (an num) (an den))), (aB (an den) (aO (an num) (an den)))⟩ : GQ))) rfl (i := 1) rfl aa27 zz27 rfl rfl rfl .nil) rfl (h.retP (by rw [hd] <;> rfl) (by rw [hd]; exact ⟨s6, s7⟩))
 ·
  have hd1 := of_decide_eq_false hc1
  have c9 := gH num den (k + 1) og znum zden
  have s9 := am (c9 w0)
  have s10 := am ((cO num (aO num den) k og znum s9) w0)
  have s11 := am ((cO den (aO num den) k og zden s9) w0)
  refine gz h <| (xk c9) <| (xa) fun b5 => (dr1 (H := [⟨_, []⟩, ⟨_, []⟩, ⟨.blk b2 (cI den) 25, [(7, .con (.blk b2 (cI (aB den (aO num den))) 25))]⟩, ⟨.blk b1 (cI num) 25, [(6, .con (.blk b1 (cI (aB num (aO num den))) 25))]⟩]) (hob := (oK (cO num (aO num den) k og znum s9)) <| (oK (cO den (aO num den) k og zden s9)) <| oE)) <| (W) ?_; clear h ac wo; intro ac wo h
  have s12 := am ((dU  (k + 1) og ) w0)
  refine gz h <| (dr0 (hob := (oK (dU  (k + 1) og )) <| oE)) <| (ai) ?_ ?_ <;> clear h ac wo <;> intro ac wo h hc3
  ·
   have hd3 := of_decide_eq_true hc3
   have hd : a7 num den = (⟨(aB num (aO num den)), (⟨false, 0⟩ : GI)⟩ : GQ) := pt
   refine gz h <| (xo (hs := by exact bD mY exs rfl (v := (vI (⟨false, 0⟩ : GI))) rfl)) <| (xo (hs := by exact bD mB exs rfl (v := (vQ (⟨(aB num (aO num den)), (⟨false, 0⟩ : GI)⟩ : GQ))) rfl)) <| (W) ?_; clear h ac wo; intro ac wo h
   exact ret h rfl (.cell (v := (vQ (⟨(aB num (aO num den)), (⟨false, 0⟩ : GI)⟩ : GQ))) rfl (i := 1) rfl aa27 zz27 rfl rfl rfl .nil) rfl (h.retP (by rw [hd] <;> rfl) (by rw [hd]; exact ⟨s10, (cp 0 (by decide) og)⟩))
  ·
   have hd3 := of_decide_eq_false hc3
   have hd : a7 num den = (⟨(aB num (aO num den)), (aB den (aO num den))⟩ : GQ) := pt
   refine gz h <| (xo (hs := by exact bD mB exs rfl (v := (vQ (⟨(aB num (aO num den)), (aB den (aO num den))⟩ : GQ))) rfl)) <| (W) ?_; clear h ac wo; intro ac wo h
   exact ret h rfl (.cell (v := (vQ (⟨(aB num (aO num den)), (aB den (aO num den))⟩ : GQ))) rfl (i := 1) rfl aa27 zz27 rfl rfl rfl .nil) rfl (h.retP (by rw [hd] <;> rfl) (by rw [hd]; exact ⟨s10, s11⟩))
def aM (a : GQ) (b : GQ) : GI × GI × GI :=
 bif (decide (a.den = b.den)) then
  (a.num, b.num, (aa a))
 else
  ((ab a.num (aa b)), (ab b.num (aa a)), (ab (aa a) (aa b)))
theorem iC (a : GQ) (b : GQ) (k : Nat) (hk : (k + 1) ≤ 40) (za : SzQ (k + 1) a) (zb : SzQ (k + 1) b) (w0 : World) : Calls Tryz.prog 94 #[(vQ a), (vQ b)] w0 (dr w0 (.tuple #[(vI ((aM a b).1)), (vI ((aM a b).2.1)), (vI ((aM a b).2.2))]) (SzI k ((aM a b).1) ∧ SzI k ((aM a b).2.1) ∧ SzI k ((aM a b).2.2))) := by
 refine enter (N := 33) (args := [(vQ a), (vQ b)]) Tryz.func94 rfl rfl ?_; intro ac h
 refine gz h <| (xb) fun b1 => (xb) fun b2 => (xa) fun b3 => (xa) fun b4 => (xa) fun b5 => (ai) ?_ ?_ <;> clear h ac <;> intro ac wo h hc1
 ·
  have hd1 := of_decide_eq_true hc1
  refine gz h <| (W) ?_; clear h ac wo; intro ac wo h
  have s1 := am ((bn a (k + 1) og za) w0)
  have hd : aM a b = (a.num, b.num, (aa a)) := pt
  refine gz h <| (dr1 (H := [⟨.blk b5 (cI (⟨false, 0⟩ : GI)) 25, [(8, .con (.blk b5 (cI (aa a)) 25))]⟩, ⟨.blk b4 (cI (⟨false, 0⟩ : GI)) 25, [(7, .con (.blk b4 (cI b.num) 25))]⟩, ⟨.blk b3 (cI (⟨false, 0⟩ : GI)) 25, [(6, .con (.blk b3 (cI a.num) 25))]⟩, ⟨_, []⟩, ⟨_, []⟩]) (hob := (oK (bn a (k + 1) og za)) <| oE)) <| (W) ?_; clear h ac wo; intro ac wo h
  exact ret h rfl (.cell (v := (vI a.num)) rfl (i := 2) rfl aa25 zz25 rfl rfl rfl (.cell (v := (vI b.num)) rfl (i := 1) rfl aa25 zz25 rfl rfl rfl (.cell (v := (vI (aa a))) rfl (i := 0) rfl aa25 zz25 rfl rfl rfl .nil))) rfl (h.retP (by rw [hd] <;> rfl) (by rw [hd]; exact ⟨(cr za og).1, (cr zb og).1, (fe s1 og)⟩))
 ·
  have hd1 := of_decide_eq_false hc1
  refine gz h <| (W) ?_; clear h ac wo; intro ac wo h
  have s2 := am ((bn b (k + 1) og zb) w0)
  have s3 := am ((bC a.num (aa b) k og za.1 s2) w0)
  have s4 := am ((bn a (k + 1) og za) w0)
  have s5 := am ((bC b.num (aa a) k og zb.1 s4) w0)
  have s6 := am ((bn a (k + 1) og za) w0)
  have s7 := am ((bn b (k + 1) og zb) w0)
  have s8 := am ((bC (aa a) (aa b) k og s6 s7) w0)
  have hd : aM a b = ((ab a.num (aa b)), (ab b.num (aa a)), (ab (aa a) (aa b))) := pt
  refine gz h <| (dr1 (H := [⟨.blk b5 (cI (⟨false, 0⟩ : GI)) 25, [(17, .con (.blk b5 (cI (ab (aa a) (aa b))) 25))]⟩, ⟨.blk b4 (cI (⟨false, 0⟩ : GI)) 25, [(16, .con (.blk b4 (cI (ab b.num (aa a))) 25))]⟩, ⟨.blk b3 (cI (⟨false, 0⟩ : GI)) 25, [(15, .con (.blk b3 (cI (ab a.num (aa b))) 25))]⟩, ⟨_, []⟩, ⟨_, []⟩]) (hob := (oK (bn b (k + 1) og zb)) <| (oK (bC a.num (aa b) k og za.1 s2)) <| (oK (bn a (k + 1) og za)) <| (oK (bC b.num (aa a) k og zb.1 s4)) <| (oK (bn a (k + 1) og za)) <| (oK (bn b (k + 1) og zb)) <| (oK (bC (aa a) (aa b) k og s6 s7)) <| oE)) <| (W) ?_; clear h ac wo; intro ac wo h
  exact ret h rfl (.cell (v := (vI (ab a.num (aa b)))) rfl (i := 2) rfl aa25 zz25 rfl rfl rfl (.cell (v := (vI (ab b.num (aa a)))) rfl (i := 1) rfl aa25 zz25 rfl rfl rfl (.cell (v := (vI (ab (aa a) (aa b)))) rfl (i := 0) rfl aa25 zz25 rfl rfl rfl .nil))) rfl (h.retP (by rw [hd] <;> rfl) (by rw [hd]; exact ⟨s3, s5, s8⟩))
def az (a : GQ) (b : GQ) : GQ :=
 (a7 (aF ((aM a b).1) ((aM a b).2.1)) ((aM a b).2.2))
theorem bU (a : GQ) (b : GQ) (k : Nat) (hk : (k + 3) ≤ 40) (za : SzQ (k + 3) a) (zb : SzQ (k + 3) b) (w0 : World) : Calls Tryz.prog 20 #[(vQ a), (vQ b)] w0 (dr w0 (vQ (az a b)) (SzQ k (az a b))) := by
 refine enter (N := 20) (args := [(vQ a), (vQ b)]) Tryz.func20 rfl rfl ?_; intro ac h
 have c1 := iC a b (k + 2) og za zb
 have s1 := am (c1 w0)
 have s2 := am ((eL ((aM a b).1) ((aM a b).2.1) (k + 1) og s1.1 s1.2.1) w0)
 have s3 := am ((dC (aF ((aM a b).1) ((aM a b).2.1)) ((aM a b).2.2) k og s2 (fe s1.2.2 og)) w0)
 refine gz h <| (xb) fun b1 => (xb) fun b2 => (xa) fun b3 => (xk c1) <| (xa) fun b4 => (xa) fun b5 => (xa) fun b6 => (dr1 (H := [⟨_, []⟩, ⟨_, []⟩, ⟨_, []⟩, ⟨.blk b3 (cQ oQ) 27, [(5, .con (.blk b3 (cQ (a7 (aF ((aM a b).1) ((aM a b).2.1)) ((aM a b).2.2))) 27))]⟩, ⟨_, []⟩, ⟨_, []⟩]) (hob := (oK (eL ((aM a b).1) ((aM a b).2.1) (k + 1) og s1.1 s1.2.1)) <| (oK (dC (aF ((aM a b).1) ((aM a b).2.1)) ((aM a b).2.2) k og s2 (fe s1.2.2 og))) <| oE)) <| (W) ?_; clear h ac; intro ac wo h
 exact ret h rfl (.cell (v := (vQ (a7 (aF ((aM a b).1) ((aM a b).2.1)) ((aM a b).2.2)))) rfl (i := 3) rfl aa27 zz27 rfl rfl rfl .nil) rfl (h.retP (by unfold az; rfl) (by unfold az; exact s3))
def aU (a : GQ) : GQ :=
 (⟨(an a.num), a.den⟩ : GQ)
theorem en (a : GQ) (k : Nat) (hk : k ≤ 40) (za : SzQ k a) (w0 : World) : Calls Tryz.prog 63 #[(vQ a)] w0 (dr w0 (vQ (aU a)) (SzQ k (aU a))) := by
 refine enter (N := 9) (args := [(vQ a)]) Tryz.func63 rfl rfl ?_; intro ac h
 have s1 := am ((dD a.num k og za.1) w0)
 refine gz h <| (xb) fun b1 => (xa) fun b2 => (dr1 (H := [⟨.blk b2 (cQ oQ) 27, [(6, .con (.blk b2 (cQ (⟨(an a.num), a.den⟩ : GQ)) 27))]⟩, ⟨_, []⟩]) (hob := (oK (dD a.num k og za.1)) <| (oX (h := by exact fun _ => bk (bD mB exs rfl (v := (vQ (⟨(an a.num), a.den⟩ : GQ))) rfl))) <| oE)) <| (W) ?_; clear h ac; intro ac wo h
 exact ret h rfl (.cell (v := (vQ (⟨(an a.num), a.den⟩ : GQ))) rfl (i := 0) rfl aa27 zz27 rfl rfl rfl .nil) rfl (h.retP (by unfold aU; rfl) (by unfold aU; exact ⟨s1, za.2⟩))
def aj (a : GQ) (b : GQ) : GQ :=
 (az a (aU b))
theorem cd (a : GQ) (b : GQ) (k : Nat) (hk : (k + 3) ≤ 40) (za : SzQ (k + 3) a) (zb : SzQ (k + 3) b) (w0 : World) : Calls Tryz.prog 22 #[(vQ a), (vQ b)] w0 (dr w0 (vQ (aj a b)) (SzQ k (aj a b))) := by
 refine enter (N := 9) (args := [(vQ a), (vQ b)]) Tryz.func22 rfl rfl ?_; intro ac h
 have s1 := am ((en b (k + 3) og zb) w0)
 have s2 := am ((bU a (aU b) k og za s1) w0)
 refine gz h <| (xb) fun b1 => (xb) fun b2 => (xa) fun b3 => (dr1 (H := [⟨.blk b3 (cQ oQ) 27, [(4, .con (.blk b3 (cQ (az a (aU b))) 27))]⟩, ⟨_, []⟩, ⟨_, []⟩]) (hob := (oK (en b (k + 3) og zb)) <| (oK (bU a (aU b) k og za s1)) <| oE)) <| (W) ?_; clear h ac; intro ac wo h
 exact ret h rfl (.cell (v := (vQ (az a (aU b)))) rfl (i := 0) rfl aa27 zz27 rfl rfl rfl .nil) rfl (h.retP (by unfold aj; rfl) (by unfold aj; exact s2))
def ak (a : GQ) (b : GQ) : GQ :=
 (a7 (ab a.num b.num) (ab (aa a) (aa b)))
theorem be (a : GQ) (b : GQ) (k : Nat) (hk : (k + 2) ≤ 40) (za : SzQ (k + 2) a) (zb : SzQ (k + 2) b) (w0 : World) : Calls Tryz.prog 21 #[(vQ a), (vQ b)] w0 (dr w0 (vQ (ak a b)) (SzQ k (ak a b))) := by
 refine enter (N := 16) (args := [(vQ a), (vQ b)]) Tryz.func21 rfl rfl ?_; intro ac h
 have s1 := am ((bC a.num b.num (k + 1) og za.1 zb.1) w0)
 have s2 := am ((bn a (k + 2) og za) w0)
 have s3 := am ((bn b (k + 2) og zb) w0)
 have s4 := am ((bC (aa a) (aa b) (k + 1) og s2 s3) w0)
 have s5 := am ((dC (ab a.num b.num) (ab (aa a) (aa b)) k og s1 s4) w0)
 refine gz h <| (xb) fun b1 => (xb) fun b2 => (xa) fun b3 => (dr1 (H := [⟨.blk b3 (cQ oQ) 27, [(11, .con (.blk b3 (cQ (a7 (ab a.num b.num) (ab (aa a) (aa b)))) 27))]⟩, ⟨_, []⟩, ⟨_, []⟩]) (hob := (oK (bC a.num b.num (k + 1) og za.1 zb.1)) <| (oK (bn a (k + 2) og za)) <| (oK (bn b (k + 2) og zb)) <| (oK (bC (aa a) (aa b) (k + 1) og s2 s3)) <| (oK (dC (ab a.num b.num) (ab (aa a) (aa b)) k og s1 s4)) <| oE)) <| (W) ?_; clear h ac; intro ac wo h
 exact ret h rfl (.cell (v := (vQ (a7 (ab a.num b.num) (ab (aa a) (aa b))))) rfl (i := 0) rfl aa27 zz27 rfl rfl rfl .nil) rfl (h.retP (by unfold ak; rfl) (by unfold ak; exact s5))
def au (a : GQ) : Int :=
 (bO a.num)
theorem cw (a : GQ) (w0 : World) : Calls Tryz.prog 30 #[(vQ a)] w0 (dr w0 (.int .i64 (au a)) ((-1 ≤ (au a) ∧ (au a) ≤ 1))) := by
 refine enter (N := 6) (args := [(vQ a)]) Tryz.func30 rfl rfl ?_; intro ac h
 have p2 := am ((dz a.num) w0)
 refine gz h <| (xb) fun b1 => (xk (dz a.num)) <| (W) ?_; clear h ac; intro ac wo h
 exact (rt h) (h.retP (by unfold au; rfl) (by unfold au; exact by first | omega | exact eB og og))
def bo (a : GQ) (b : GQ) : Int :=
 bif (decide (a = b)) then
  0
 else
  (cK ((aM a b).1) ((aM a b).2.1))
theorem fP (a : GQ) (b : GQ) (k : Nat) (hk : (k + 1) ≤ 40) (za : SzQ (k + 1) a) (zb : SzQ (k + 1) b) (w0 : World) : Calls Tryz.prog 87 #[(vQ a), (vQ b)] w0 (dr w0 (.int .i64 (bo a b)) ((-1 ≤ (bo a b) ∧ (bo a b) ≤ 1))) := by
 refine enter (N := 21) (args := [(vQ a), (vQ b)]) Tryz.func87 rfl rfl ?_; intro ac h
 refine gz h <| (xb) fun b1 => (xb) fun b2 => (ai) ?_ ?_ <;> clear h ac <;> intro ac wo h hc1
 ·
  have hd1 := of_decide_eq_true hc1
  have hd : bo a b = 0 := pt
  refine gz h <| (W) ?_; clear h ac wo; intro ac wo h
  exact (rt h) (h.retP (by rw [hd] <;> rfl) (by rw [hd]; exact by first | omega | exact eB og og))
 ·
  have hd1 := of_decide_eq_false hc1
  have c1 := iC a b k og za zb
  have s1 := am (c1 w0)
  have p3 := am ((fk ((aM a b).1) ((aM a b).2.1) k og s1.1 s1.2.1) w0)
  have hd : bo a b = (cK ((aM a b).1) ((aM a b).2.1)) := pt
  refine gz h <| (xk c1) <| (xa) fun b3 => (xa) fun b4 => (xa) fun b5 => (xk (fk ((aM a b).1) ((aM a b).2.1) k og s1.1 s1.2.1)) <| (W) ?_; clear h ac wo; intro ac wo h
  exact (rt h) (h.retP (by rw [hd] <;> rfl) (by rw [hd]; exact by first | omega | exact eB og og))
def aA (c : GQ) : Qd :=
 (⟨c, (⟨(⟨false, 0⟩ : GI), (⟨false, 0⟩ : GI)⟩ : GQ), (⟨(⟨false, 0⟩ : GI), (⟨false, 0⟩ : GI)⟩ : GQ)⟩ : Qd)
theorem jj (c : GQ) (k : Nat) (hk : k ≤ 40) (zc : SzQ k c) (w0 : World) : Calls Tryz.prog 113 #[(vQ c)] w0 (dr w0 (vD (aA c)) (SzD k (aA c))) := by
 refine enter (N := 5) (args := [(vQ c)]) Tryz.func113 rfl rfl ?_; intro ac h
 refine gz h <| (xb) fun b1 => (xa) fun b2 => (xo (hs := by exact bD vk exs rfl (v := (vD (⟨c, oQ, oQ⟩ : Qd))) rfl)) <| (W) ?_; clear h ac; intro ac wo h
 exact ret h rfl (.cell (v := (vD (⟨c, oQ, oQ⟩ : Qd))) rfl (i := 0) rfl Tryz.isAgg53 Tryz.sizeOf53 rfl rfl rfl .nil) rfl (h.retP (by unfold aA; rfl) (by unfold aA; exact ⟨zc, ⟨(cp 0 (by decide) og), (cp 0 (by decide) og)⟩, ⟨(cp 0 (by decide) og), (cp 0 (by decide) og)⟩⟩))
end Go.Sx
