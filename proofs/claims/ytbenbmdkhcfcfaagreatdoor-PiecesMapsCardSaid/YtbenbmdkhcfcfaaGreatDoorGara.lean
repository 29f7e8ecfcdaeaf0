/- Part of piecesMaps. -/
import Derived.Test.YtbenbmdkhcfcfaaGreatDoorProg
import Derived.Test.YtbenbmdkhcfcfaaGreatDoorGdiv
set_option linter.unusedVariables false
set_option linter.unusedSimpArgs false
open Go.Proofs.Tryz renaming prog → zP, isAgg4 → aa4, underlying4 → nn4, isAgg9 → aa9, isAgg25 → aa25, sizeOf25 → zz25, isAgg27 → aa27, sizeOf27 → zz27
namespace Go.Sx
open Go Go.RowKit Go.Proofs
set_option maxRecDepth 100000
set_option maxHeartbeats 40000000
attribute [local irreducible] Code.wp wpList Rd iq ObS Ent
theorem eqi25 : EqIn zP 2 25 vI := eqS (c := cI) (fun _ => rfl) Tryz.underlying25 Tryz.stoodInHeld25 fun d x y w hd => by
 refine Eq.trans (eqF DC (iw aa4 rfl w) (iw aa4 rfl w) (eqB nn4 d og _ _ w) (eqF DC (iw aa9 rfl w) (iw aa9 rfl w) (eqBs Tryz.underlying9 d og _ _ w) eqF0)) ?_
 congr 1
 rw [decide_eq_decide]
 cases x; cases y; simp
theorem eqp25 : EqP zP 25 vI := EqIn.p (k := 2) rfl (c := fun x => (cI x).toArray) (fun _ => rfl) Tryz.eqGuardType25 eqi25
instance : Ep zP 25 GI inferInstance vI := ⟨eqp25⟩
theorem u6 : EqIn zP 3 27 vQ := eqS (c := cQ) (fun _ => rfl) Tryz.underlying27 Tryz.stoodInHeld27 fun d x y w hd => by
 refine Eq.trans (eqF DC (ff aa25 zz25 (v := vI (x.num)) rfl w) (ff aa25 zz25 (v := vI (y.num)) rfl w) (eqi25 d _ _ w og) (eqF DC (ff aa25 zz25 (v := vI (x.den)) rfl w) (ff aa25 zz25 (v := vI (y.den)) rfl w) (eqi25 d _ _ w og) eqF0)) ?_
 congr 1
 rw [decide_eq_decide]
 cases x; cases y; simp
theorem eqp27 : EqP zP 27 vQ := EqIn.p (k := 3) rfl (c := fun x => (cQ x).toArray) (fun _ => rfl) Tryz.eqGuardType27 u6
instance : Ep zP 27 GQ inferInstance vQ := ⟨eqp27⟩
theorem eqi53 : EqIn zP 4 53 vD := eqS (c := cD) (fun _ => rfl) Tryz.underlying53 Tryz.stoodInHeld53 fun d x y w hd => by
 refine Eq.trans (eqF DC (ff aa27 zz27 (v := vQ (x.c0)) rfl w) (ff aa27 zz27 (v := vQ (y.c0)) rfl w) (u6 d _ _ w og) (eqF DC (ff aa27 zz27 (v := vQ (x.c1)) rfl w) (ff aa27 zz27 (v := vQ (y.c1)) rfl w) (u6 d _ _ w og) (eqF DC (ff aa27 zz27 (v := vQ (x.c2)) rfl w) (ff aa27 zz27 (v := vQ (y.c2)) rfl w) (u6 d _ _ w og) eqF0))) ?_
 congr 1
 rw [decide_eq_decide]
 cases x; cases y; simp
theorem eqp53 : EqP zP 53 vD := EqIn.p (k := 4) rfl (c := fun x => (cD x).toArray) (fun _ => rfl) Tryz.eqGuardType53 eqi53
instance : Ep zP 53 Qd inferInstance vD := ⟨eqp53⟩
theorem xd : EqIn zP 4 71 vR := eqS (c := cR) (fun _ => rfl) Tryz.underlying71 Tryz.stoodInHeld71 fun d x y w hd => by
 refine Eq.trans (eqF DC (ff aa27 zz27 (v := vQ (x.p)) rfl w) (ff aa27 zz27 (v := vQ (y.p)) rfl w) (u6 d _ _ w og) (eqF DC (ff aa27 zz27 (v := vQ (x.r)) rfl w) (ff aa27 zz27 (v := vQ (y.r)) rfl w) (u6 d _ _ w og) (eqF DC (iw aa4 rfl w) (iw aa4 rfl w) (eqB nn4 d og _ _ w) eqF0))) ?_
 congr 1
 rw [decide_eq_decide]
 cases x; cases y; simp
theorem eqp71 : EqP zP 71 vR := EqIn.p (k := 4) rfl (c := fun x => (cR x).toArray) (fun _ => rfl) Tryz.eqGuardType71 xd
instance : Ep zP 71 GR inferInstance vR := ⟨eqp71⟩
def dx (a : GI) : Int :=
 bif (decide (a.mag = 0)) then
  0
 else
  bif a.neg then
   (-1)
  else
   1
theorem eF (a : GI) (w0 : World) : Calls zP 115 #[(vI a)] w0 (RetP w0 (.int .i64 (dx a)) ((-1 ≤ (dx a) ∧ (dx a) ≤ 1))) := by
 refine enter (N := 10) Tryz.func115 rfl rfl ?_; intro ac h
 refine gz h <| (xb) fun b1 => (ai) ?_ ?_ <;> clear h <;> intro _ _ h hc1
 ·
  have hd1 := of_decide_eq_true hc1
  have hd : dx a = 0 := pt
  exact (rx h) fun _ _ h => (h.retP (by rw [hd] <;> rfl) (by rw [hd]; exact by first | omega | exact f8 og og))
 ·
  have hd1 := of_decide_eq_false hc1
  refine gz h <| (ai) ?_ ?_ <;> clear h <;> intro _ _ h hc2
  ·
   have hd : dx a = (-1) := pt
   exact (rx h) fun _ _ h => (h.retP (by rw [hd] <;> rfl) (by rw [hd]; exact by first | omega | exact f8 og og))
  ·
   have hd : dx a = 1 := pt
   exact (rx h) fun _ _ h => (h.retP (by rw [hd] <;> rfl) (by rw [hd]; exact by first | omega | exact f8 og og))
def aD (a : GI) : GI :=
 (aU (!a.neg) a.mag)
theorem fq (a : GI) (k : Nat) (hk : k ≤ 40) (za : SzI k a) (w0 : World) : Calls zP 161 #[(vI a)] w0 (RetP w0 (vI (aD a)) (SzI k (aD a))) := by
 refine enter (N := 9) Tryz.func161 rfl rfl ?_; intro ac h
 have c1 := cu (!a.neg) a.mag k og za
 have s1 := aA (c1 w0)
 refine gz h <| (xb) fun b1 => (xa) fun b2 => (xk c1) <| (W) ?_; clear h; intro _ _ h
 exact ret h rfl (.cell (v := (vI (aU (!a.neg) a.mag))) rfl (i := 0) rfl aa25 zz25 rfl rfl rfl .nil) rfl (h.retP (by unfold aD; rfl) (by unfold aD; exact s1))
def dQ (a : GI) (b : GI) : Int :=
 bif (a.neg != b.neg) then
  (cX (dx a) (dx b))
 else
  bif a.neg then
   -(bA a.mag b.mag)
  else
   (bA a.mag b.mag)
theorem iy (a : GI) (b : GI) (k : Nat) (hk : k ≤ 40) (za : SzI k a) (zb : SzI k b) (w0 : World) : Calls zP 158 #[(vI a), (vI b)] w0 (RetP w0 (.int .i64 (dQ a b)) ((-1 ≤ (dQ a b) ∧ (dQ a b) ≤ 1))) := by
 refine enter (N := 26) Tryz.func158 rfl rfl ?_; intro ac h
 refine gz h <| (xb) fun b1 => (xb) fun b2 => (xo (hs := by exact qA nn4 rfl rfl)) <| (ai) ?_ ?_ <;> clear h <;> intro _ _ h hc1
 ·
  refine gz h <| (W) ?_; clear h; intro _ _ h
  have p2 := aA ((eF a) w0)
  have p4 := aA ((eF b) w0)
  have p6 := aA ((j9 (dx a) (dx b)) w0)
  have hd : dQ a b = (cX (dx a) (dx b)) := pt
  refine gz h <| (dr0 (hob := (oK (eF a)) <| (oK (eF b)) <| (oK (j9 (dx a) (dx b))) <| oE)) <| (W) ?_; clear h; intro _ _ h
  exact (rt h) (h.retP (by rw [hd] <;> rfl) (by rw [hd]; exact by first | omega | exact f8 og og))
 ·
  have p8 := aA ((eu a.mag b.mag) w0)
  refine gz h <| (xk (eu a.mag b.mag)) <| (ai) ?_ ?_ <;> clear h <;> intro _ _ h hc2
  ·
   have hd : dQ a b = -(bA a.mag b.mag) := pt
   refine gz h <| (xo (hs := by exact r_neg rfl (r := -(bA a.mag b.mag)) (by rw [IntKind.wrap_i64]; omega))) <| (W) ?_; clear h; intro _ _ h
   exact (rt h) (h.retP (by rw [hd] <;> rfl) (by rw [hd]; exact by first | omega | exact f8 og og))
  ·
   have hd : dQ a b = (bA a.mag b.mag) := pt
   exact (rx h) fun _ _ h => (h.retP (by rw [hd] <;> rfl) (by rw [hd]; exact by first | omega | exact f8 og og))
def aN (a : GI) (b : GI) : GI :=
 bif (a.neg == b.neg) then
  (aU a.neg (dk a.mag b.mag))
 else
  bif (decide ((bA a.mag b.mag) ≥ 0)) then
   (aU a.neg (dA a.mag b.mag))
  else
   (aU b.neg (dA b.mag a.mag))
theorem fx (a : GI) (b : GI) (k : Nat) (hk : (k + 1) ≤ 40) (za : SzI (k + 1) a) (zb : SzI (k + 1) b) (w0 : World) : Calls zP 96 #[(vI a), (vI b)] w0 (RetP w0 (vI (aN a b)) (SzI k (aN a b))) := by
 refine enter (N := 42) Tryz.func96 rfl rfl ?_; intro ac h
 refine gz h <| (xb) fun b1 => (xb) fun b2 => (xa) fun b3 => (xo (hs := by exact r_eqlB nn4 rfl rfl)) <| (ai) ?_ ?_ <;> clear h <;> intro _ _ h hc1
 ·
  have hd1 := eq_of_beq hc1
  refine gz h <| (W) ?_; clear h; intro _ _ h
  have s1 := aA ((iY a.mag b.mag k og za zb) w0)
  have s2 := aA ((cu a.neg (dk a.mag b.mag) k og s1) w0)
  have hd : aN a b = (aU a.neg (dk a.mag b.mag)) := pt
  refine gz h <| (dr1 (H := [⟨.blk b3 (cI (⟨false, 0⟩ : GI)) 25, [(8, .con (.blk b3 (cI (aU a.neg (dk a.mag b.mag))) 25))]⟩, ⟨_, []⟩, ⟨_, []⟩]) (hob := (oK (iY a.mag b.mag k og za zb)) <| (oK (cu a.neg (dk a.mag b.mag) k og s1)) <| oE)) <| (W) ?_; clear h; intro _ _ h
  exact ret h rfl (.cell (v := (vI (aU a.neg (dk a.mag b.mag)))) rfl (i := 0) rfl aa25 zz25 rfl rfl rfl .nil) rfl (h.retP (by rw [hd] <;> rfl) (by rw [hd]; exact s2))
 ·
  have hd1 := ne_of_beq_false hc1
  have p4 := aA ((eu a.mag b.mag) w0)
  refine gz h <| (xk (eu a.mag b.mag)) <| (ai) ?_ ?_ <;> clear h <;> intro _ _ h hc2
  ·
   have hd2 := of_decide_eq_true hc2
   refine gz h <| (W) ?_; clear h; intro _ _ h
   have s5 := aA ((ir a.mag b.mag (k + 1) og za zb (by first | exact uy ‹_› | exact ux ‹_›)) w0)
   have s6 := aA ((cu a.neg (dA a.mag b.mag) (k + 1) og s5) w0)
   have hd : aN a b = (aU a.neg (dA a.mag b.mag)) := pt
   refine gz h <| (dr1 (H := [⟨.blk b3 (cI (⟨false, 0⟩ : GI)) 25, [(8, .con (.blk b3 (cI (aU a.neg (dA a.mag b.mag))) 25))]⟩, ⟨_, []⟩, ⟨_, []⟩]) (hob := (oK (ir a.mag b.mag (k + 1) og za zb (by first | exact uy ‹_› | exact ux ‹_›))) <| (oK (cu a.neg (dA a.mag b.mag) (k + 1) og s5)) <| oE)) <| (W) ?_; clear h; intro _ _ h
   exact ret h rfl (.cell (v := (vI (aU a.neg (dA a.mag b.mag)))) rfl (i := 0) rfl aa25 zz25 rfl rfl rfl .nil) rfl (h.retP (by rw [hd] <;> rfl) (by rw [hd]; exact (gp s6 og)))
  ·
   have hd2 := of_decide_eq_false hc2
   refine gz h <| (W) ?_; clear h; intro _ _ h
   have s7 := aA ((ir b.mag a.mag (k + 1) og zb za (by first | exact uy ‹_› | exact ux ‹_›)) w0)
   have s8 := aA ((cu b.neg (dA b.mag a.mag) (k + 1) og s7) w0)
   have hd : aN a b = (aU b.neg (dA b.mag a.mag)) := pt
   refine gz h <| (dr1 (H := [⟨.blk b3 (cI (⟨false, 0⟩ : GI)) 25, [(8, .con (.blk b3 (cI (aU b.neg (dA b.mag a.mag))) 25))]⟩, ⟨_, []⟩, ⟨_, []⟩]) (hob := (oK (ir b.mag a.mag (k + 1) og zb za (by first | exact uy ‹_› | exact ux ‹_›))) <| (oK (cu b.neg (dA b.mag a.mag) (k + 1) og s7)) <| oE)) <| (W) ?_; clear h; intro _ _ h
   exact ret h rfl (.cell (v := (vI (aU b.neg (dA b.mag a.mag)))) rfl (i := 0) rfl aa25 zz25 rfl rfl rfl .nil) rfl (h.retP (by rw [hd] <;> rfl) (by rw [hd]; exact (gp s8 og)))
def ab (a : GI) (b : GI) : GI :=
 (aU (a.neg != b.neg) (fV a.mag b.mag))
theorem cH (a : GI) (b : GI) (k : Nat) (hk : (k + 1) ≤ 40) (za : SzI (k + 1) a) (zb : SzI (k + 1) b) (w0 : World) : Calls zP 97 #[(vI a), (vI b)] w0 (RetP w0 (vI (ab a b)) (SzI k (ab a b))) := by
 refine enter (N := 16) Tryz.func97 rfl rfl ?_; intro ac h
 have s1 := aA ((ln a.mag b.mag k og za zb) w0)
 have s2 := aA ((cu (a.neg != b.neg) (fV a.mag b.mag) k og s1) w0)
 refine gz h <| (xb) fun b1 => (xb) fun b2 => (xa) fun b3 => (dr1 (H := [⟨.blk b3 (cI (⟨false, 0⟩ : GI)) 25, [(11, .con (.blk b3 (cI (aU (a.neg != b.neg) (fV a.mag b.mag))) 25))]⟩, ⟨_, []⟩, ⟨_, []⟩]) (hob := (oX (h := by exact fun _ => a6 (qA nn4 rfl rfl))) <| (oK (ln a.mag b.mag k og za zb)) <| (oK (cu (a.neg != b.neg) (fV a.mag b.mag) k og s1)) <| oE)) <| (W) ?_; clear h; intro _ _ h
 exact ret h rfl (.cell (v := (vI (aU (a.neg != b.neg) (fV a.mag b.mag)))) rfl (i := 0) rfl aa25 zz25 rfl rfl rfl .nil) rfl (h.retP (by unfold ab; rfl) (by unfold ab; exact s2))
def bh (a b : GI) : GI := aU false (Nat.gcd a.mag b.mag)
theorem um (x y : Nat) : Nat.gcd y (x % y) = Nat.gcd x y := by rw [Nat.gcd_comm x y, Nat.gcd_rec y x, Nat.gcd_comm]
theorem jU (a : GI) (b : GI) (k : Nat) (hk : k ≤ 40) (za : SzI k a) (zb : SzI k b) (w0 : World) : Calls zP 160 #[(vI a), (vI b)] w0 (RetP w0 (vI (bh a b)) (SzI k (bh a b))) := by
 refine enter (N := 45) Tryz.func160 rfl rfl ?_; intro ac h
 refine gz h <| (xb) fun b1 => (xb) fun b2 => (xa) fun b3 => (dr0 (hob := oE)) <| (W) ?_; clear h; intro _ _ h
 refine wp_loop_ghost (fun n_ a_ w_ => ∃ (x : Nat) (y : Nat), n_ = 1 * y ∧ (Nat.gcd x y = Nat.gcd a.mag b.mag) ∧ (SzB k x) ∧ (SzB k y) ∧ St w0 45 [(4, (ptr b3 0)), (5, (.string (bs x))), (6, (.string (bs y)))] [.blk b3 (cI (⟨false, 0⟩ : GI)) 25, .blk b2 (cI b) 25, .blk b1 (cI a) 25] a_ w_) _ ⟨a.mag, b.mag, rfl, rfl, za, zb, h.re [0, 1, 2]⟩ ?_
 clear h; rintro _ _ _ ⟨x, y, rfl, hg, zx, zy, h⟩
 refine gz h <| (ai) ?_ ?_ <;> clear h <;> intro _ _ h hc1
 ·
  have hy : y ≠ 0 := by simpa using hc1
  refine gz h <| (xk (im x y)) <| (ai) ?_ ?_ <;> clear h <;> intro _ _ h hc2
  ·
   obtain ⟨ha6, hb6, hw⟩ := mi hc2
   simp only [hw] at h
   refine gz h <| (W) ?_; clear h; intro _ _ h
   refine wp_loop_ghost (fun n_ a_ w_ => ∃ (u : Nat) (v : Nat), n_ = 1 * v ∧ (Nat.gcd u v = Nat.gcd a.mag b.mag) ∧ (SzB k u) ∧ (SzB k v) ∧ (u < 18446744073709551616 ∧ v < 18446744073709551616) ∧ St w0 45 [(4, (ptr b3 0)), (7, (.int .u64 (u : Int))), (8, (.int .u64 (v : Int)))] [.blk b3 (cI (⟨false, 0⟩ : GI)) 25, .blk b2 (cI b) 25, .blk b1 (cI a) 25] a_ w_) _ ⟨x, y, rfl, hg, zx, zy, ⟨ha6, hb6⟩, h.re [0, 1, 2]⟩ ?_
   clear h; rintro _ _ _ ⟨u, v, rfl, hgu, zu, zv, hul, h⟩
   refine gz h <| (ai) ?_ ?_ <;> clear h <;> intro _ _ h hc3
   ·
    have hv : v ≠ 0 := by have := hc3; simp at this; omega
    refine gz h <| (dr0 (hob := (oX (h := by exact fun _ => a6 (kb rfl rfl (r := ((u % v : Nat) : Int)) og (by rw [Int.tmod_eq_emod_of_nonneg og]; rfl)))) <| oE)) <| (W) ?_; clear h; intro _ _ h
    exact aE ⟨_, (by have := Nat.mod_lt u (show v > 0 by omega); omega), v, (u % v), rfl, (by rw [um]; exact hgu), zv, (i4 zu (Nat.mod_le _ _)), ⟨hul.2, by have := Nat.mod_lt u (show v > 0 by omega); omega⟩, h.re [0, 1, 2]⟩
   ·
    have hv : v = 0 := by have := hc3; simp at this; omega
    subst hv
    have c1 := cu false (bY u) k og zu
    have s1 := aA (c1 w0)
    have hd : bh a b = (aU false (bY u)) := (by rw [Nat.gcd_zero_right] at hgu; unfold bh; rw [← hgu]; rfl)
    refine gz h <| (xk (dD u hul.1)) <| (xk c1) <| (W) ?_; clear h; intro _ _ h
    exact ret h rfl (.cell (v := (vI (aU false (bY u)))) rfl (i := 0) rfl aa25 zz25 rfl rfl rfl .nil) rfl (h.retP (by rw [hd] <;> rfl) (by rw [hd]; exact s1))
  ·
   have c2 := jT x y k og zx zy og
   have s2 := aA (c2 w0)
   refine gz h <| (xk c2) <| (W) ?_; clear h; intro _ _ h
   exact aE ⟨_, (by have := Nat.mod_lt x (show y > 0 by omega); omega), y, (x % y), rfl, (by rw [um]; exact hg), zy, (i4 zx (Nat.mod_le _ _)), h.re [0, 1, 2]⟩
 ·
  have hy : y = 0 := by simpa using hc1
  subst hy
  have c3 := cu false x k og zx
  have s3 := aA (c3 w0)
  have hd : bh a b = (aU false x) := (by rw [Nat.gcd_zero_right] at hg; unfold bh; rw [← hg])
  refine gz h <| (xk c3) <| (W) ?_; clear h; intro _ _ h
  exact ret h rfl (.cell (v := (vI (aU false x))) rfl (i := 0) rfl aa25 zz25 rfl rfl rfl .nil) rfl (h.retP (by rw [hd] <;> rfl) (by rw [hd]; exact s3))
def aX (a : GI) (b : GI) : GI × GI × Int :=
 bif (decide (b.mag = 0)) then
  ((⟨false, 0⟩ : GI), (⟨false, 0⟩ : GI), 6)
 else
  bif (a.neg && (!(decide (((bB a.mag b.mag).2) = 0)))) then
   ((aU (a.neg != b.neg) (dk ((bB a.mag b.mag).1) 1)), (aU false (dA b.mag ((bB a.mag b.mag).2))), 0)
  else
   ((aU (a.neg != b.neg) ((bB a.mag b.mag).1)), (aU false ((bB a.mag b.mag).2)), 0)
theorem hG (a : GI) (b : GI) (k : Nat) (hk : (k + 1) ≤ 40) (za : SzI (k + 1) a) (zb : SzI (k + 1) b) (w0 : World) : Calls zP 253 #[(vI a), (vI b)] w0 (RetP w0 (.tuple #[(vI ((aX a b).1)), (vI ((aX a b).2.1)), (.int .i64 ((aX a b).2.2))]) (SzI k ((aX a b).1) ∧ SzI k ((aX a b).2.1))) := by
 refine enter (N := 43) Tryz.func253 rfl rfl ?_; intro ac h
 refine gz h <| (xb) fun b1 => (xb) fun b2 => (xa) fun b3 => (xa) fun b4 => (ai) ?_ ?_ <;> clear h <;> intro _ _ h hc1
 ·
  have hd1 := of_decide_eq_true hc1
  have hd : aX a b = ((⟨false, 0⟩ : GI), (⟨false, 0⟩ : GI), 6) := pt
  refine gz h <| (xo (hs := by exact bM qt exs rfl (v := (vI (⟨false, 0⟩ : GI))) rfl)) <| (xo (hs := by exact bM qt exs rfl (v := (vI (⟨false, 0⟩ : GI))) rfl)) <| (W) ?_; clear h; intro _ _ h
  exact ret h rfl (.cell (v := (vI (⟨false, 0⟩ : GI))) rfl (i := 1) rfl aa25 zz25 rfl rfl rfl (.cell (v := (vI (⟨false, 0⟩ : GI))) rfl (i := 0) rfl aa25 zz25 rfl rfl rfl (.tmp rfl .nil))) rfl (h.retP (by rw [hd] <;> rfl) (by rw [hd]; exact ⟨(bQ 0 DC og), (bQ 0 DC og)⟩))
 ·
  have hd1 := of_decide_eq_false hc1
  have c1 := jT a.mag b.mag (k + 1) og za zb og
  have s1 := aA (c1 w0)
  refine gz h <| (xk c1) <| (ai) ?_ ?_ <;> clear h <;> intro _ _ h hc2
  ·
   have s2 := aA ((iY ((bB a.mag b.mag).1) 1 k og s1.1 (bQ 1 DC og)) w0)
   have s3 := aA ((ir b.mag ((bB a.mag b.mag).2) (k + 1) og zb s1.2 (Nat.le_of_lt (Nat.mod_lt _ og))) w0)
   refine gz h <| (dr0 (hob := (oK (iY ((bB a.mag b.mag).1) 1 k og s1.1 (bQ 1 DC og))) <| (oK (ir b.mag ((bB a.mag b.mag).2) (k + 1) og zb s1.2 (Nat.le_of_lt (Nat.mod_lt _ og)))) <| oE)) <| (W) ?_; clear h; intro _ _ h
   have c4 := cu (a.neg != b.neg) (dk ((bB a.mag b.mag).1) 1) k og s2
   have s4 := aA (c4 w0)
   have c5 := cu false (dA b.mag ((bB a.mag b.mag).2)) (k + 1) og s3
   have s5 := aA (c5 w0)
   have hd : aX a b = ((aU (a.neg != b.neg) (dk ((bB a.mag b.mag).1) 1)), (aU false (dA b.mag ((bB a.mag b.mag).2))), 0) := pt
   refine gz h <| (xo (hs := by exact qA nn4 rfl rfl)) <| (xk c4) <| (xk c5) <| (W) ?_; clear h; intro _ _ h
   exact ret h rfl (.cell (v := (vI (aU (a.neg != b.neg) (dk ((bB a.mag b.mag).1) 1)))) rfl (i := 1) rfl aa25 zz25 rfl rfl rfl (.cell (v := (vI (aU false (dA b.mag ((bB a.mag b.mag).2))))) rfl (i := 0) rfl aa25 zz25 rfl rfl rfl (.tmp rfl .nil))) rfl (h.retP (by rw [hd] <;> rfl) (by rw [hd]; exact ⟨s4, (gp s5 og)⟩))
  ·
   have c6 := cu (a.neg != b.neg) ((bB a.mag b.mag).1) (k + 1) og s1.1
   have s6 := aA (c6 w0)
   have c7 := cu false ((bB a.mag b.mag).2) (k + 1) og s1.2
   have s7 := aA (c7 w0)
   have hd : aX a b = ((aU (a.neg != b.neg) ((bB a.mag b.mag).1)), (aU false ((bB a.mag b.mag).2)), 0) := pt
   refine gz h <| (xo (hs := by exact qA nn4 rfl rfl)) <| (xk c6) <| (xk c7) <| (W) ?_; clear h; intro _ _ h
   exact ret h rfl (.cell (v := (vI (aU (a.neg != b.neg) ((bB a.mag b.mag).1)))) rfl (i := 1) rfl aa25 zz25 rfl rfl rfl (.cell (v := (vI (aU false ((bB a.mag b.mag).2)))) rfl (i := 0) rfl aa25 zz25 rfl rfl rfl (.tmp rfl .nil))) rfl (h.retP (by rw [hd] <;> rfl) (by rw [hd]; exact ⟨(gp s6 og), (gp s7 og)⟩))
def rational_one  : GI :=
 (aB 1)
theorem fC (k : Nat) (hk : k ≤ 40) (w0 : World) : Calls zP 159 #[] w0 (RetP w0 (vI rational_one) (SzI k rational_one)) := by
 refine enter (N := 2) Tryz.func159 rfl rfl ?_; intro ac h
 have c1 := ew 1 k og  og
 have s1 := aA (c1 w0)
 refine gz h <| (xa) fun b1 => (xk c1) <| (W) ?_; clear h; intro _ _ h
 exact ret h rfl (.cell (v := (vI (aB 1))) rfl (i := 0) rfl aa25 zz25 rfl rfl rfl .nil) rfl (h.retP (by unfold rational_one; rfl) (by unfold rational_one; exact s1))
def ao (n : Int) : GQ :=
 (⟨(aB n), (⟨false, 0⟩ : GI)⟩ : GQ)
theorem cb (n : Int) (k : Nat) (hk : k ≤ 40) (hn : -9223372036854775808 ≤ n ∧ n ≤ 9223372036854775807) (w0 : World) : Calls zP 85 #[(.int .i64 n)] w0 (RetP w0 (vQ (ao n)) (SzQ k (ao n))) := by
 refine enter (N := 6) Tryz.func85 rfl rfl ?_; intro ac h
 have c1 := ew n k og  og
 have s1 := aA (c1 w0)
 refine gz h <| (xa) fun b1 => (xk c1) <| (xo (hs := by exact bM qc exs rfl (v := (vQ (⟨(aB n), (⟨false, 0⟩ : GI)⟩ : GQ))) rfl)) <| (W) ?_; clear h; intro _ _ h
 exact ret h rfl (.cell (v := (vQ (⟨(aB n), (⟨false, 0⟩ : GI)⟩ : GQ))) rfl (i := 0) rfl aa27 zz27 rfl rfl rfl .nil) rfl (h.retP (by unfold ao; rfl) (by unfold ao; exact ⟨s1, (bQ 0 DC og)⟩))
def aa (a : GQ) : GI :=
 bif (decide (a.den = (⟨false, 0⟩ : GI))) then
  rational_one
 else
  a.den
theorem cr (a : GQ) (k : Nat) (hk : k ≤ 40) (za : SzQ k a) (w0 : World) : Calls zP 98 #[(vQ a)] w0 (RetP w0 (vI (aa a)) (SzI k (aa a))) := by
 refine enter (N := 10) Tryz.func98 rfl rfl ?_; intro ac h
 refine gz h <| (xb) fun b1 => (xa) fun b2 => (xo (hs := by exact bM qt exs rfl (v := (vI (⟨false, 0⟩ : GI))) rfl)) <| (ai) ?_ ?_ <;> clear h <;> intro _ _ h hc1
 ·
  have hd1 := of_decide_eq_true hc1
  have c1 := fC  k og
  have s1 := aA (c1 w0)
  have hd : aa a = rational_one := pt
  refine gz h <| (xk c1) <| (W) ?_; clear h; intro _ _ h
  exact ret h rfl (.cell (v := (vI rational_one)) rfl (i := 0) rfl aa25 zz25 rfl rfl rfl .nil) rfl (h.retP (by rw [hd] <;> rfl) (by rw [hd]; exact s1))
 ·
  have hd1 := of_decide_eq_false hc1
  have hd : aa a = a.den := pt
  refine gz h <| (W) ?_; clear h; intro _ _ h
  exact ret h rfl (.cell (v := (vI a.den)) rfl (i := 0) rfl aa25 zz25 rfl rfl rfl .nil) rfl (h.retP (by rw [hd] <;> rfl) (by rw [hd]; exact za.2))
def aT (a : GI) (b : GI) : GI :=
 (aX a b).1
theorem dT (a : GI) (b : GI) (k : Nat) (hk : (k + 1) ≤ 40) (za : SzI (k + 1) a) (zb : SzI (k + 1) b) (w0 : World) : Calls zP 192 #[(vI a), (vI b)] w0 (RetP w0 (vI (aT a b)) (SzI k (aT a b))) := by
 refine enter (N := 16) Tryz.func192 rfl rfl ?_; intro ac h
 have c1 := hG a b k og za zb
 have s1 := aA (c1 w0)
 refine gz h <| (xb) fun b1 => (xb) fun b2 => (xa) fun b3 => (xk c1) <| (xa) fun b4 => (xa) fun b5 => (W) ?_; clear h; intro _ _ h
 exact ret h rfl (.cell (v := (vI ((aX a b).1))) rfl (i := 2) rfl aa25 zz25 rfl rfl rfl .nil) rfl (h.retP (by unfold aT; rfl) (by unfold aT; exact s1.1))
def bP (num : GI) (den : GI) : GQ :=
 bif (decide ((dx den) < 0)) then
  bif (decide ((aT (aD den) (bh (aD num) (aD den))) = rational_one)) then
   (⟨(aT (aD num) (bh (aD num) (aD den))), (⟨false, 0⟩ : GI)⟩ : GQ)
  else
   (⟨(aT (aD num) (bh (aD num) (aD den))), (aT (aD den) (bh (aD num) (aD den)))⟩ : GQ)
 else
  bif (decide ((aT den (bh num den)) = rational_one)) then
   (⟨(aT num (bh num den)), (⟨false, 0⟩ : GI)⟩ : GQ)
  else
   (⟨(aT num (bh num den)), (aT den (bh num den))⟩ : GQ)
theorem eK (num : GI) (den : GI) (k : Nat) (hk : (k + 1) ≤ 40) (znum : SzI (k + 1) num) (zden : SzI (k + 1) den) (w0 : World) : Calls zP 95 #[(vI num), (vI den)] w0 (RetP w0 (vQ (bP num den)) (SzQ k (bP num den))) := by
 refine enter (N := 29) Tryz.func95 rfl rfl ?_; intro ac h
 have p2 := aA ((eF den) w0)
 refine gz h <| (xb) fun b1 => (xb) fun b2 => (xa) fun b3 => (xk (eF den)) <| (ai) ?_ ?_ <;> clear h <;> intro _ _ h hc1
 ·
  have hd1 := of_decide_eq_true hc1
  have s3 := aA ((fq num (k + 1) og znum) w0)
  have s4 := aA ((fq den (k + 1) og zden) w0)
  refine gz h <| (dr1 (H := [⟨_, []⟩, ⟨.blk b2 (cI den) 25, [(5, .con (.blk b2 (cI (aD den)) 25))]⟩, ⟨.blk b1 (cI num) 25, [(4, .con (.blk b1 (cI (aD num)) 25))]⟩]) (hob := (oK (fq num (k + 1) og znum)) <| (oK (fq den (k + 1) og zden)) <| oE)) <| (W) ?_; clear h; intro _ _ h
  have c5 := jU (aD num) (aD den) (k + 1) og s3 s4
  have s5 := aA (c5 w0)
  have s6 := aA ((dT (aD num) (bh (aD num) (aD den)) k og s3 s5) w0)
  have s7 := aA ((dT (aD den) (bh (aD num) (aD den)) k og s4 s5) w0)
  refine gz h <| (xk c5) <| (xa) fun b4 => (dr1 (H := [⟨_, []⟩, ⟨_, []⟩, ⟨.blk b2 (cI (aD den)) 25, [(7, .con (.blk b2 (cI (aT (aD den) (bh (aD num) (aD den)))) 25))]⟩, ⟨.blk b1 (cI (aD num)) 25, [(6, .con (.blk b1 (cI (aT (aD num) (bh (aD num) (aD den)))) 25))]⟩]) (hob := (oK (dT (aD num) (bh (aD num) (aD den)) k og s3 s5)) <| (oK (dT (aD den) (bh (aD num) (aD den)) k og s4 s5)) <| oE)) <| (W) ?_; clear h; intro _ _ h
  have s8 := aA ((fC  (k + 1) og ) w0)
  refine gz h <| (dr0 (hob := (oK (fC  (k + 1) og )) <| oE)) <| (ai) ?_ ?_ <;> clear h <;> intro _ _ h hc2
  ·
   have hd2 := of_decide_eq_true hc2
   have hd : bP num den = (⟨(aT (aD num) (bh (aD num) (aD den))), (⟨false, 0⟩ : GI)⟩ : GQ) := pt
   refine gz h <| (xo (hs := by exact bM qt exs rfl (v := (vI (⟨false, 0⟩ : GI))) rfl)) <| (xo (hs := by exact bM qc exs rfl (v := (vQ (⟨(aT (aD num) (bh (aD num) (aD den))), (⟨false, 0⟩ : GI)⟩ : GQ))) rfl)) <| (W) ?_; clear h; intro _ _ h
   exact ret h rfl (.cell (v := (vQ (⟨(aT (aD num) (bh (aD num) (aD den))), (⟨false, 0⟩ : GI)⟩ : GQ))) rfl (i := 1) rfl aa27 zz27 rfl rfl rfl .nil) rfl (h.retP (by rw [hd] <;> rfl) (by rw [hd]; exact ⟨s6, (bQ 0 DC og)⟩))
  ·
   have hd2 := of_decide_eq_false hc2
   have hd : bP num den = (⟨(aT (aD num) (bh (aD num) (aD den))), (aT (aD den) (bh (aD num) (aD den)))⟩ : GQ) := pt
   refine gz h <| (xo (hs := by exact bM qc exs rfl (v := (vQ (⟨(aT (aD num) (bh (aD num) (aD den))), (aT (aD den) (bh (aD num) (aD den)))⟩ : GQ))) rfl)) <| (W) ?_; clear h; intro _ _ h
   exact ret h rfl (.cell (v := (vQ (⟨(aT (aD num) (bh (aD num) (aD den))), (aT (aD den) (bh (aD num) (aD den)))⟩ : GQ))) rfl (i := 1) rfl aa27 zz27 rfl rfl rfl .nil) rfl (h.retP (by rw [hd] <;> rfl) (by rw [hd]; exact ⟨s6, s7⟩))
 ·
  have hd1 := of_decide_eq_false hc1
  have c9 := jU num den (k + 1) og znum zden
  have s9 := aA (c9 w0)
  have s10 := aA ((dT num (bh num den) k og znum s9) w0)
  have s11 := aA ((dT den (bh num den) k og zden s9) w0)
  refine gz h <| (xk c9) <| (xa) fun b5 => (dr1 (H := [⟨_, []⟩, ⟨_, []⟩, ⟨.blk b2 (cI den) 25, [(7, .con (.blk b2 (cI (aT den (bh num den))) 25))]⟩, ⟨.blk b1 (cI num) 25, [(6, .con (.blk b1 (cI (aT num (bh num den))) 25))]⟩]) (hob := (oK (dT num (bh num den) k og znum s9)) <| (oK (dT den (bh num den) k og zden s9)) <| oE)) <| (W) ?_; clear h; intro _ _ h
  have s12 := aA ((fC  (k + 1) og ) w0)
  refine gz h <| (dr0 (hob := (oK (fC  (k + 1) og )) <| oE)) <| (ai) ?_ ?_ <;> clear h <;> intro _ _ h hc3
  ·
   have hd3 := of_decide_eq_true hc3
   have hd : bP num den = (⟨(aT num (bh num den)), (⟨false, 0⟩ : GI)⟩ : GQ) := pt
   refine gz h <| (xo (hs := by exact bM qt exs rfl (v := (vI (⟨false, 0⟩ : GI))) rfl)) <| (xo (hs := by exact bM qc exs rfl (v := (vQ (⟨(aT num (bh num den)), (⟨false, 0⟩ : GI)⟩ : GQ))) rfl)) <| (W) ?_; clear h; intro _ _ h
   exact ret h rfl (.cell (v := (vQ (⟨(aT num (bh num den)), (⟨false, 0⟩ : GI)⟩ : GQ))) rfl (i := 1) rfl aa27 zz27 rfl rfl rfl .nil) rfl (h.retP (by rw [hd] <;> rfl) (by rw [hd]; exact ⟨s10, (bQ 0 DC og)⟩))
  ·
   have hd3 := of_decide_eq_false hc3
   have hd : bP num den = (⟨(aT num (bh num den)), (aT den (bh num den))⟩ : GQ) := pt
   refine gz h <| (xo (hs := by exact bM qc exs rfl (v := (vQ (⟨(aT num (bh num den)), (aT den (bh num den))⟩ : GQ))) rfl)) <| (W) ?_; clear h; intro _ _ h
   exact ret h rfl (.cell (v := (vQ (⟨(aT num (bh num den)), (aT den (bh num den))⟩ : GQ))) rfl (i := 1) rfl aa27 zz27 rfl rfl rfl .nil) rfl (h.retP (by rw [hd] <;> rfl) (by rw [hd]; exact ⟨s10, s11⟩))
def bf (a : GQ) (b : GQ) : GI × GI × GI :=
 bif (decide (a.den = b.den)) then
  (a.num, b.num, (aa a))
 else
  ((ab a.num (aa b)), (ab b.num (aa a)), (ab (aa a) (aa b)))
theorem lD (a : GQ) (b : GQ) (k : Nat) (hk : (k + 1) ≤ 40) (za : SzQ (k + 1) a) (zb : SzQ (k + 1) b) (w0 : World) : Calls zP 94 #[(vQ a), (vQ b)] w0 (RetP w0 (.tuple #[(vI ((bf a b).1)), (vI ((bf a b).2.1)), (vI ((bf a b).2.2))]) (SzI k ((bf a b).1) ∧ SzI k ((bf a b).2.1) ∧ SzI k ((bf a b).2.2))) := by
 refine enter (N := 33) Tryz.func94 rfl rfl ?_; intro ac h
 refine gz h <| (xb) fun b1 => (xb) fun b2 => (xa) fun b3 => (xa) fun b4 => (xa) fun b5 => (ai) ?_ ?_ <;> clear h <;> intro _ _ h hc1
 ·
  have hd1 := of_decide_eq_true hc1
  refine gz h <| (W) ?_; clear h; intro _ _ h
  have s1 := aA ((cr a (k + 1) og za) w0)
  have hd : bf a b = (a.num, b.num, (aa a)) := pt
  refine gz h <| (dr1 (H := [⟨.blk b5 (cI (⟨false, 0⟩ : GI)) 25, [(8, .con (.blk b5 (cI (aa a)) 25))]⟩, ⟨.blk b4 (cI (⟨false, 0⟩ : GI)) 25, [(7, .con (.blk b4 (cI b.num) 25))]⟩, ⟨.blk b3 (cI (⟨false, 0⟩ : GI)) 25, [(6, .con (.blk b3 (cI a.num) 25))]⟩, ⟨_, []⟩, ⟨_, []⟩]) (hob := (oK (cr a (k + 1) og za)) <| oE)) <| (W) ?_; clear h; intro _ _ h
  exact ret h rfl (.cell (v := (vI a.num)) rfl (i := 2) rfl aa25 zz25 rfl rfl rfl (.cell (v := (vI b.num)) rfl (i := 1) rfl aa25 zz25 rfl rfl rfl (.cell (v := (vI (aa a))) rfl (i := 0) rfl aa25 zz25 rfl rfl rfl .nil))) rfl (h.retP (by rw [hd] <;> rfl) (by rw [hd]; exact ⟨(fu za og).1, (fu zb og).1, (gp s1 og)⟩))
 ·
  have hd1 := of_decide_eq_false hc1
  refine gz h <| (W) ?_; clear h; intro _ _ h
  have s2 := aA ((cr b (k + 1) og zb) w0)
  have s3 := aA ((cH a.num (aa b) k og za.1 s2) w0)
  have s4 := aA ((cr a (k + 1) og za) w0)
  have s5 := aA ((cH b.num (aa a) k og zb.1 s4) w0)
  have s6 := aA ((cr a (k + 1) og za) w0)
  have s7 := aA ((cr b (k + 1) og zb) w0)
  have s8 := aA ((cH (aa a) (aa b) k og s6 s7) w0)
  have hd : bf a b = ((ab a.num (aa b)), (ab b.num (aa a)), (ab (aa a) (aa b))) := pt
  refine gz h <| (dr1 (H := [⟨.blk b5 (cI (⟨false, 0⟩ : GI)) 25, [(17, .con (.blk b5 (cI (ab (aa a) (aa b))) 25))]⟩, ⟨.blk b4 (cI (⟨false, 0⟩ : GI)) 25, [(16, .con (.blk b4 (cI (ab b.num (aa a))) 25))]⟩, ⟨.blk b3 (cI (⟨false, 0⟩ : GI)) 25, [(15, .con (.blk b3 (cI (ab a.num (aa b))) 25))]⟩, ⟨_, []⟩, ⟨_, []⟩]) (hob := (oK (cr b (k + 1) og zb)) <| (oK (cH a.num (aa b) k og za.1 s2)) <| (oK (cr a (k + 1) og za)) <| (oK (cH b.num (aa a) k og zb.1 s4)) <| (oK (cr a (k + 1) og za)) <| (oK (cr b (k + 1) og zb)) <| (oK (cH (aa a) (aa b) k og s6 s7)) <| oE)) <| (W) ?_; clear h; intro _ _ h
  exact ret h rfl (.cell (v := (vI (ab a.num (aa b)))) rfl (i := 2) rfl aa25 zz25 rfl rfl rfl (.cell (v := (vI (ab b.num (aa a)))) rfl (i := 1) rfl aa25 zz25 rfl rfl rfl (.cell (v := (vI (ab (aa a) (aa b)))) rfl (i := 0) rfl aa25 zz25 rfl rfl rfl .nil))) rfl (h.retP (by rw [hd] <;> rfl) (by rw [hd]; exact ⟨s3, s5, s8⟩))
def aV (a : GQ) (b : GQ) : GQ :=
 (bP (aN ((bf a b).1) ((bf a b).2.1)) ((bf a b).2.2))
theorem bU (a : GQ) (b : GQ) (k : Nat) (hk : (k + 3) ≤ 40) (za : SzQ (k + 3) a) (zb : SzQ (k + 3) b) (w0 : World) : Calls zP 20 #[(vQ a), (vQ b)] w0 (RetP w0 (vQ (aV a b)) (SzQ k (aV a b))) := by
 refine enter (N := 20) Tryz.func20 rfl rfl ?_; intro ac h
 have c1 := lD a b (k + 2) og za zb
 have s1 := aA (c1 w0)
 have s2 := aA ((fx ((bf a b).1) ((bf a b).2.1) (k + 1) og s1.1 s1.2.1) w0)
 have s3 := aA ((eK (aN ((bf a b).1) ((bf a b).2.1)) ((bf a b).2.2) k og s2 (gp s1.2.2 og)) w0)
 refine gz h <| (xb) fun b1 => (xb) fun b2 => (xa) fun b3 => (xk c1) <| (xa) fun b4 => (xa) fun b5 => (xa) fun b6 => (dr1 (H := [⟨_, []⟩, ⟨_, []⟩, ⟨_, []⟩, ⟨.blk b3 (cQ oQ) 27, [(5, .con (.blk b3 (cQ (bP (aN ((bf a b).1) ((bf a b).2.1)) ((bf a b).2.2))) 27))]⟩, ⟨_, []⟩, ⟨_, []⟩]) (hob := (oK (fx ((bf a b).1) ((bf a b).2.1) (k + 1) og s1.1 s1.2.1)) <| (oK (eK (aN ((bf a b).1) ((bf a b).2.1)) ((bf a b).2.2) k og s2 (gp s1.2.2 og))) <| oE)) <| (W) ?_; clear h; intro _ _ h
 exact ret h rfl (.cell (v := (vQ (bP (aN ((bf a b).1) ((bf a b).2.1)) ((bf a b).2.2)))) rfl (i := 3) rfl aa27 zz27 rfl rfl rfl .nil) rfl (h.retP (by unfold aV; rfl) (by unfold aV; exact s3))
def cz (a : GQ) : GQ :=
 (⟨(aD a.num), a.den⟩ : GQ)
theorem jp (a : GQ) (k : Nat) (hk : k ≤ 40) (za : SzQ k a) (w0 : World) : Calls zP 63 #[(vQ a)] w0 (RetP w0 (vQ (cz a)) (SzQ k (cz a))) := by
 refine enter (N := 9) Tryz.func63 rfl rfl ?_; intro ac h
 have s1 := aA ((fq a.num k og za.1) w0)
 refine gz h <| (xb) fun b1 => (xa) fun b2 => (dr1 (H := [⟨.blk b2 (cQ oQ) 27, [(6, .con (.blk b2 (cQ (⟨(aD a.num), a.den⟩ : GQ)) 27))]⟩, ⟨_, []⟩]) (hob := (oK (fq a.num k og za.1)) <| (oX (h := by exact fun _ => a6 (bM qc exs rfl (v := (vQ (⟨(aD a.num), a.den⟩ : GQ))) rfl))) <| oE)) <| (W) ?_; clear h; intro _ _ h
 exact ret h rfl (.cell (v := (vQ (⟨(aD a.num), a.den⟩ : GQ))) rfl (i := 0) rfl aa27 zz27 rfl rfl rfl .nil) rfl (h.retP (by unfold cz; rfl) (by unfold cz; exact ⟨s1, za.2⟩))
def aF (a : GQ) (b : GQ) : GQ :=
 (aV a (cz b))
theorem dP (a : GQ) (b : GQ) (k : Nat) (hk : (k + 3) ≤ 40) (za : SzQ (k + 3) a) (zb : SzQ (k + 3) b) (w0 : World) : Calls zP 22 #[(vQ a), (vQ b)] w0 (RetP w0 (vQ (aF a b)) (SzQ k (aF a b))) := by
 refine enter (N := 9) Tryz.func22 rfl rfl ?_; intro ac h
 have s1 := aA ((jp b (k + 3) og zb) w0)
 have s2 := aA ((bU a (cz b) k og za s1) w0)
 refine gz h <| (xb) fun b1 => (xb) fun b2 => (xa) fun b3 => (dr1 (H := [⟨.blk b3 (cQ oQ) 27, [(4, .con (.blk b3 (cQ (aV a (cz b))) 27))]⟩, ⟨_, []⟩, ⟨_, []⟩]) (hob := (oK (jp b (k + 3) og zb)) <| (oK (bU a (cz b) k og za s1)) <| oE)) <| (W) ?_; clear h; intro _ _ h
 exact ret h rfl (.cell (v := (vQ (aV a (cz b)))) rfl (i := 0) rfl aa27 zz27 rfl rfl rfl .nil) rfl (h.retP (by unfold aF; rfl) (by unfold aF; exact s2))
def aH (a : GQ) (b : GQ) : GQ :=
 (bP (ab a.num b.num) (ab (aa a) (aa b)))
theorem ca (a : GQ) (b : GQ) (k : Nat) (hk : (k + 2) ≤ 40) (za : SzQ (k + 2) a) (zb : SzQ (k + 2) b) (w0 : World) : Calls zP 21 #[(vQ a), (vQ b)] w0 (RetP w0 (vQ (aH a b)) (SzQ k (aH a b))) := by
 refine enter (N := 16) Tryz.func21 rfl rfl ?_; intro ac h
 have s1 := aA ((cH a.num b.num (k + 1) og za.1 zb.1) w0)
 have s2 := aA ((cr a (k + 2) og za) w0)
 have s3 := aA ((cr b (k + 2) og zb) w0)
 have s4 := aA ((cH (aa a) (aa b) (k + 1) og s2 s3) w0)
 have s5 := aA ((eK (ab a.num b.num) (ab (aa a) (aa b)) k og s1 s4) w0)
 refine gz h <| (xb) fun b1 => (xb) fun b2 => (xa) fun b3 => (dr1 (H := [⟨.blk b3 (cQ oQ) 27, [(11, .con (.blk b3 (cQ (bP (ab a.num b.num) (ab (aa a) (aa b)))) 27))]⟩, ⟨_, []⟩, ⟨_, []⟩]) (hob := (oK (cH a.num b.num (k + 1) og za.1 zb.1)) <| (oK (cr a (k + 2) og za)) <| (oK (cr b (k + 2) og zb)) <| (oK (cH (aa a) (aa b) (k + 1) og s2 s3)) <| (oK (eK (ab a.num b.num) (ab (aa a) (aa b)) k og s1 s4)) <| oE)) <| (W) ?_; clear h; intro _ _ h
 exact ret h rfl (.cell (v := (vQ (bP (ab a.num b.num) (ab (aa a) (aa b))))) rfl (i := 0) rfl aa27 zz27 rfl rfl rfl .nil) rfl (h.retP (by unfold aH; rfl) (by unfold aH; exact s5))
def aR (a : GQ) : Int :=
 (dx a.num)
theorem cG (a : GQ) (w0 : World) : Calls zP 30 #[(vQ a)] w0 (RetP w0 (.int .i64 (aR a)) ((-1 ≤ (aR a) ∧ (aR a) ≤ 1))) := by
 refine enter (N := 6) Tryz.func30 rfl rfl ?_; intro ac h
 have p2 := aA ((eF a.num) w0)
 refine gz h <| (xb) fun b1 => (xk (eF a.num)) <| (W) ?_; clear h; intro _ _ h
 exact (rt h) (h.retP (by unfold aR; rfl) (by unfold aR; exact by first | omega | exact f8 og og))
def e8 (a : GQ) (b : GQ) : Int :=
 bif (decide (a = b)) then
  0
 else
  (dQ ((bf a b).1) ((bf a b).2.1))
theorem kA (a : GQ) (b : GQ) (k : Nat) (hk : (k + 1) ≤ 40) (za : SzQ (k + 1) a) (zb : SzQ (k + 1) b) (w0 : World) : Calls zP 87 #[(vQ a), (vQ b)] w0 (RetP w0 (.int .i64 (e8 a b)) ((-1 ≤ (e8 a b) ∧ (e8 a b) ≤ 1))) := by
 refine enter (N := 21) Tryz.func87 rfl rfl ?_; intro ac h
 refine gz h <| (xb) fun b1 => (xb) fun b2 => (ai) ?_ ?_ <;> clear h <;> intro _ _ h hc1
 ·
  have hd1 := of_decide_eq_true hc1
  have hd : e8 a b = 0 := pt
  exact (rx h) fun _ _ h => (h.retP (by rw [hd] <;> rfl) (by rw [hd]; exact by first | omega | exact f8 og og))
 ·
  have hd1 := of_decide_eq_false hc1
  have c1 := lD a b k og za zb
  have s1 := aA (c1 w0)
  have p3 := aA ((iy ((bf a b).1) ((bf a b).2.1) k og s1.1 s1.2.1) w0)
  have hd : e8 a b = (dQ ((bf a b).1) ((bf a b).2.1)) := pt
  refine gz h <| (xk c1) <| (xa) fun b3 => (xa) fun b4 => (xa) fun b5 => (xk (iy ((bf a b).1) ((bf a b).2.1) k og s1.1 s1.2.1)) <| (W) ?_; clear h; intro _ _ h
  exact (rt h) (h.retP (by rw [hd] <;> rfl) (by rw [hd]; exact by first | omega | exact f8 og og))
def aG (c : GQ) : Qd :=
 (⟨c, (⟨(⟨false, 0⟩ : GI), (⟨false, 0⟩ : GI)⟩ : GQ), (⟨(⟨false, 0⟩ : GI), (⟨false, 0⟩ : GI)⟩ : GQ)⟩ : Qd)
theorem iD (c : GQ) (k : Nat) (hk : k ≤ 40) (zc : SzQ k c) (w0 : World) : Calls zP 113 #[(vQ c)] w0 (RetP w0 (vD (aG c)) (SzD k (aG c))) := by
 refine enter (N := 5) Tryz.func113 rfl rfl ?_; intro ac h
 refine gz h <| (xb) fun b1 => (xa) fun b2 => (xo (hs := by exact bM tG exs rfl (v := (vD (⟨c, oQ, oQ⟩ : Qd))) rfl)) <| (W) ?_; clear h; intro _ _ h
 exact ret h rfl (.cell (v := (vD (⟨c, oQ, oQ⟩ : Qd))) rfl (i := 0) rfl Tryz.isAgg53 Tryz.sizeOf53 rfl rfl rfl .nil) rfl (h.retP (by unfold aG; rfl) (by unfold aG; exact ⟨zc, ⟨(bQ 0 DC og), (bQ 0 DC og)⟩, ⟨(bQ 0 DC og), (bQ 0 DC og)⟩⟩))
end Go.Sx
