/- A part of the proof of movingpointMoves. -/
import Derived.Test.YtbenbmdkhcfcfaaGreatDoorProg
import Derived.Test.YtbenbmdkhcfcfaaGreatDoorQ4
set_option linter.unusedVariables false
set_option linter.unusedSimpArgs false
open Go.Proofs.Tryz renaming isAgg4 → aa4, underlying4 → nn4, isAgg9 → aa9, isAgg25 → aa25, sizeOf25 → zz25, isAgg27 → aa27, sizeOf27 → zz27
namespace Go.Sx
open Go Go.RowKit Go.Proofs
set_option maxRecDepth 100000
set_option maxHeartbeats 40000000
attribute [local irreducible] Code.wp wpList Rd Step ObS Ent
theorem eqi25 : EqIn Tryz.prog 2 25 vI := eqS (c := cI) (fun _ => rfl) Tryz.underlying25 Tryz.stoodInHeld25 fun d x y w hd => by
 refine Eq.trans (eqF (by decide) (d4 aa4 rfl w) (d4 aa4 rfl w) (eqB nn4 d og _ _ w) (eqF (by decide) (d4 aa9 rfl w) (d4 aa9 rfl w) (eqBs Tryz.underlying9 d og _ _ w) eqF0)) ?_
 congr 1
 rw [decide_eq_decide]
 cases x; cases y; simp
theorem eqp25 : EqP Tryz.prog 25 vI := EqIn.p (k := 2) rfl (c := fun x => (cI x).toArray) (fun _ => rfl) Tryz.eqGuardType25 eqi25
instance yQ5_1 : Ep Tryz.prog 25 GI inferInstance vI := ⟨eqp25⟩
theorem nJ : EqIn Tryz.prog 3 27 vQ := eqS (c := cQ) (fun _ => rfl) Tryz.underlying27 Tryz.stoodInHeld27 fun d x y w hd => by
 refine Eq.trans (eqF (by decide) (c8 aa25 zz25 (v := vI (x.num)) rfl w) (c8 aa25 zz25 (v := vI (y.num)) rfl w) (eqi25 d _ _ w og) (eqF (by decide) (c8 aa25 zz25 (v := vI (x.den)) rfl w) (c8 aa25 zz25 (v := vI (y.den)) rfl w) (eqi25 d _ _ w og) eqF0)) ?_
 congr 1
 rw [decide_eq_decide]
 cases x; cases y; simp
theorem eqp27 : EqP Tryz.prog 27 vQ := EqIn.p (k := 3) rfl (c := fun x => (cQ x).toArray) (fun _ => rfl) Tryz.eqGuardType27 nJ
instance yQ5_2 : Ep Tryz.prog 27 GQ inferInstance vQ := ⟨eqp27⟩
theorem eqi53 : EqIn Tryz.prog 4 53 vD := eqS (c := cD) (fun _ => rfl) Tryz.underlying53 Tryz.stoodInHeld53 fun d x y w hd => by
 refine Eq.trans (eqF (by decide) (c8 aa27 zz27 (v := vQ (x.c0)) rfl w) (c8 aa27 zz27 (v := vQ (y.c0)) rfl w) (nJ d _ _ w og) (eqF (by decide) (c8 aa27 zz27 (v := vQ (x.c1)) rfl w) (c8 aa27 zz27 (v := vQ (y.c1)) rfl w) (nJ d _ _ w og) (eqF (by decide) (c8 aa27 zz27 (v := vQ (x.c2)) rfl w) (c8 aa27 zz27 (v := vQ (y.c2)) rfl w) (nJ d _ _ w og) eqF0))) ?_
 congr 1
 rw [decide_eq_decide]
 cases x; cases y; simp
theorem eqp53 : EqP Tryz.prog 53 vD := EqIn.p (k := 4) rfl (c := fun x => (cD x).toArray) (fun _ => rfl) Tryz.eqGuardType53 eqi53
instance yQ5_3 : Ep Tryz.prog 53 Qd inferInstance vD := ⟨eqp53⟩
theorem eqi71 : EqIn Tryz.prog 4 71 vR := eqS (c := cR) (fun _ => rfl) Tryz.underlying71 Tryz.stoodInHeld71 fun d x y w hd => by
 refine Eq.trans (eqF (by decide) (c8 aa27 zz27 (v := vQ (x.p)) rfl w) (c8 aa27 zz27 (v := vQ (y.p)) rfl w) (nJ d _ _ w og) (eqF (by decide) (c8 aa27 zz27 (v := vQ (x.r)) rfl w) (c8 aa27 zz27 (v := vQ (y.r)) rfl w) (nJ d _ _ w og) (eqF (by decide) (d4 aa4 rfl w) (d4 aa4 rfl w) (eqB nn4 d og _ _ w) eqF0))) ?_
 congr 1
 rw [decide_eq_decide]
 cases x; cases y; simp
theorem eqp71 : EqP Tryz.prog 71 vR := EqIn.p (k := 4) rfl (c := fun x => (cR x).toArray) (fun _ => rfl) Tryz.eqGuardType71 eqi71
instance yQ5_4 : Ep Tryz.prog 71 GR inferInstance vR := ⟨eqp71⟩
def bW (a : GI) : Int :=
 bif (decide (a.mag = 0)) then
  0
 else
  bif a.neg then
   (-1)
  else
   1
theorem dG (a : GI) (w0 : World) : Calls Tryz.prog 115 #[(vI a)] w0 (dh w0 (.int .i64 (bW a)) ((-1 ≤ (bW a) ∧ (bW a) ≤ 1))) := by
 refine enter (N := 10) (args := [(vI a)]) Tryz.func115 rfl rfl ?_; intro ac h
 refine gz h <| (xb) fun b1 => (ai) ?_ ?_ <;> clear h ac <;> intro ac wo h hc1
 ·
  have hd1 := of_decide_eq_true hc1
  have hd : bW a = 0 := pt
  refine gz h <| (W) ?_; clear h ac wo; intro ac wo h
  exact (rt h) (h.retP (by rw [hd] <;> rfl) (by rw [hd]; exact by first | omega | exact eJ og og))
 ·
  have hd1 := of_decide_eq_false hc1
  refine gz h <| (ai) ?_ ?_ <;> clear h ac wo <;> intro ac wo h hc2
  ·
   have hd : bW a = (-1) := pt
   refine gz h <| (W) ?_; clear h ac wo; intro ac wo h
   exact (rt h) (h.retP (by rw [hd] <;> rfl) (by rw [hd]; exact by first | omega | exact eJ og og))
  ·
   have hd : bW a = 1 := pt
   refine gz h <| (W) ?_; clear h ac wo; intro ac wo h
   exact (rt h) (h.retP (by rw [hd] <;> rfl) (by rw [hd]; exact by first | omega | exact eJ og og))
def aq (a : GI) : GI :=
 (aG (!a.neg) a.mag)
theorem dM (a : GI) (k : Nat) (hk : k ≤ 40) (za : SzI k a) (w0 : World) : Calls Tryz.prog 161 #[(vI a)] w0 (dh w0 (vI (aq a)) (SzI k (aq a))) := by
 refine enter (N := 9) (args := [(vI a)]) Tryz.func161 rfl rfl ?_; intro ac h
 have c1 := bN (!a.neg) a.mag k og za
 have s1 := am (c1 w0)
 refine gz h <| (xb) fun b1 => (xa) fun b2 => (xk c1) <| (W) ?_; clear h ac; intro ac wo h
 exact ret h rfl (.cell (v := (vI (aG (!a.neg) a.mag))) rfl (i := 0) rfl aa25 zz25 rfl rfl rfl .nil) rfl (h.retP (by unfold aq; rfl) (by unfold aq; exact s1))
def cL (a : GI) (b : GI) : Int :=
 bif (a.neg != b.neg) then
  (bP (bW a) (bW b))
 else
  bif a.neg then
   -(ba a.mag b.mag)
  else
   (ba a.mag b.mag)
theorem fH (a : GI) (b : GI) (k : Nat) (hk : k ≤ 40) (za : SzI k a) (zb : SzI k b) (w0 : World) : Calls Tryz.prog 158 #[(vI a), (vI b)] w0 (dh w0 (.int .i64 (cL a b)) ((-1 ≤ (cL a b) ∧ (cL a b) ≤ 1))) := by
 refine enter (N := 26) (args := [(vI a), (vI b)]) Tryz.func158 rfl rfl ?_; intro ac h
 refine gz h <| (xb) fun b1 => (xb) fun b2 => (xo (hs := by exact qi nn4 rfl rfl)) <| (ai) ?_ ?_ <;> clear h ac <;> intro ac wo h hc1
 ·
  refine gz h <| (W) ?_; clear h ac wo; intro ac wo h
  have p2 := am ((dG a) w0)
  have p4 := am ((dG b) w0)
  have p6 := am ((jk (bW a) (bW b)) w0)
  have hd : cL a b = (bP (bW a) (bW b)) := pt
  refine gz h <| (dr0 (hob := (oK (dG a)) <| (oK (dG b)) <| (oK (jk (bW a) (bW b))) <| oE)) <| (W) ?_; clear h ac wo; intro ac wo h
  exact (rt h) (h.retP (by rw [hd] <;> rfl) (by rw [hd]; exact by first | omega | exact eJ og og))
 ·
  have p8 := am ((dW a.mag b.mag) w0)
  refine gz h <| (xk (dW a.mag b.mag)) <| (ai) ?_ ?_ <;> clear h ac wo <;> intro ac wo h hc2
  ·
   have hd : cL a b = -(ba a.mag b.mag) := pt
   refine gz h <| (xo (hs := by exact r_neg rfl (r := -(ba a.mag b.mag)) (by rw [IntKind.wrap_i64]; omega))) <| (W) ?_; clear h ac wo; intro ac wo h
   exact (rt h) (h.retP (by rw [hd] <;> rfl) (by rw [hd]; exact by first | omega | exact eJ og og))
  ·
   have hd : cL a b = (ba a.mag b.mag) := pt
   refine gz h <| (W) ?_; clear h ac wo; intro ac wo h
   exact (rt h) (h.retP (by rw [hd] <;> rfl) (by rw [hd]; exact by first | omega | exact eJ og og))
def aI (a : GI) (b : GI) : GI :=
 bif (a.neg == b.neg) then
  (aG a.neg (dp a.mag b.mag))
 else
  bif (decide ((ba a.mag b.mag) ≥ 0)) then
   (aG a.neg (cz a.mag b.mag))
  else
   (aG b.neg (cz b.mag a.mag))
theorem eW (a : GI) (b : GI) (k : Nat) (hk : (k + 1) ≤ 40) (za : SzI (k + 1) a) (zb : SzI (k + 1) b) (w0 : World) : Calls Tryz.prog 96 #[(vI a), (vI b)] w0 (dh w0 (vI (aI a b)) (SzI k (aI a b))) := by
 refine enter (N := 42) (args := [(vI a), (vI b)]) Tryz.func96 rfl rfl ?_; intro ac h
 refine gz h <| (xb) fun b1 => (xb) fun b2 => (xa) fun b3 => (xo (hs := by exact vy nn4 rfl rfl)) <| (ai) ?_ ?_ <;> clear h ac <;> intro ac wo h hc1
 ·
  have hd1 := eq_of_beq hc1
  refine gz h <| (W) ?_; clear h ac wo; intro ac wo h
  have s1 := am ((f5 a.mag b.mag k og za zb) w0)
  have s2 := am ((bN a.neg (dp a.mag b.mag) k og s1) w0)
  have hd : aI a b = (aG a.neg (dp a.mag b.mag)) := pt
  refine gz h <| (dr1 (H := [⟨.blk b3 (cI (⟨false, 0⟩ : GI)) 25, [(8, .con (.blk b3 (cI (aG a.neg (dp a.mag b.mag))) 25))]⟩, ⟨_, []⟩, ⟨_, []⟩]) (hob := (oK (f5 a.mag b.mag k og za zb)) <| (oK (bN a.neg (dp a.mag b.mag) k og s1)) <| oE)) <| (W) ?_; clear h ac wo; intro ac wo h
  exact ret h rfl (.cell (v := (vI (aG a.neg (dp a.mag b.mag)))) rfl (i := 0) rfl aa25 zz25 rfl rfl rfl .nil) rfl (h.retP (by rw [hd] <;> rfl) (by rw [hd]; exact s2))
 ·
  have hd1 := ne_of_beq_false hc1
  have p4 := am ((dW a.mag b.mag) w0)
  refine gz h <| (xk (dW a.mag b.mag)) <| (ai) ?_ ?_ <;> clear h ac wo <;> intro ac wo h hc2
  ·
   have hd2 := of_decide_eq_true hc2
   refine gz h <| (W) ?_; clear h ac wo; intro ac wo h
   have s5 := am ((fE a.mag b.mag (k + 1) og za zb (by first | exact q9 ‹_› | exact q8 ‹_›)) w0)
   have s6 := am ((bN a.neg (cz a.mag b.mag) (k + 1) og s5) w0)
   have hd : aI a b = (aG a.neg (cz a.mag b.mag)) := pt
   refine gz h <| (dr1 (H := [⟨.blk b3 (cI (⟨false, 0⟩ : GI)) 25, [(8, .con (.blk b3 (cI (aG a.neg (cz a.mag b.mag))) 25))]⟩, ⟨_, []⟩, ⟨_, []⟩]) (hob := (oK (fE a.mag b.mag (k + 1) og za zb (by first | exact q9 ‹_› | exact q8 ‹_›))) <| (oK (bN a.neg (cz a.mag b.mag) (k + 1) og s5)) <| oE)) <| (W) ?_; clear h ac wo; intro ac wo h
   exact ret h rfl (.cell (v := (vI (aG a.neg (cz a.mag b.mag)))) rfl (i := 0) rfl aa25 zz25 rfl rfl rfl .nil) rfl (h.retP (by rw [hd] <;> rfl) (by rw [hd]; exact (fB s6 og)))
  ·
   have hd2 := of_decide_eq_false hc2
   refine gz h <| (W) ?_; clear h ac wo; intro ac wo h
   have s7 := am ((fE b.mag a.mag (k + 1) og zb za (by first | exact q9 ‹_› | exact q8 ‹_›)) w0)
   have s8 := am ((bN b.neg (cz b.mag a.mag) (k + 1) og s7) w0)
   have hd : aI a b = (aG b.neg (cz b.mag a.mag)) := pt
   refine gz h <| (dr1 (H := [⟨.blk b3 (cI (⟨false, 0⟩ : GI)) 25, [(8, .con (.blk b3 (cI (aG b.neg (cz b.mag a.mag))) 25))]⟩, ⟨_, []⟩, ⟨_, []⟩]) (hob := (oK (fE b.mag a.mag (k + 1) og zb za (by first | exact q9 ‹_› | exact q8 ‹_›))) <| (oK (bN b.neg (cz b.mag a.mag) (k + 1) og s7)) <| oE)) <| (W) ?_; clear h ac wo; intro ac wo h
   exact ret h rfl (.cell (v := (vI (aG b.neg (cz b.mag a.mag)))) rfl (i := 0) rfl aa25 zz25 rfl rfl rfl .nil) rfl (h.retP (by rw [hd] <;> rfl) (by rw [hd]; exact (fB s8 og)))
def ab (a : GI) (b : GI) : GI :=
 (aG (a.neg != b.neg) (er a.mag b.mag))
theorem bF (a : GI) (b : GI) (k : Nat) (hk : (k + 1) ≤ 40) (za : SzI (k + 1) a) (zb : SzI (k + 1) b) (w0 : World) : Calls Tryz.prog 97 #[(vI a), (vI b)] w0 (dh w0 (vI (ab a b)) (SzI k (ab a b))) := by
 refine enter (N := 16) (args := [(vI a), (vI b)]) Tryz.func97 rfl rfl ?_; intro ac h
 have s1 := am ((iZ a.mag b.mag k og za zb) w0)
 have s2 := am ((bN (a.neg != b.neg) (er a.mag b.mag) k og s1) w0)
 refine gz h <| (xb) fun b1 => (xb) fun b2 => (xa) fun b3 => (dr1 (H := [⟨.blk b3 (cI (⟨false, 0⟩ : GI)) 25, [(11, .con (.blk b3 (cI (aG (a.neg != b.neg) (er a.mag b.mag))) 25))]⟩, ⟨_, []⟩, ⟨_, []⟩]) (hob := (oX (h := by exact fun _ => a6 (qi nn4 rfl rfl))) <| (oK (iZ a.mag b.mag k og za zb)) <| (oK (bN (a.neg != b.neg) (er a.mag b.mag) k og s1)) <| oE)) <| (W) ?_; clear h ac; intro ac wo h
 exact ret h rfl (.cell (v := (vI (aG (a.neg != b.neg) (er a.mag b.mag)))) rfl (i := 0) rfl aa25 zz25 rfl rfl rfl .nil) rfl (h.retP (by unfold ab; rfl) (by unfold ab; exact s2))
def aS (a b : GI) : GI := aG false (Nat.gcd a.mag b.mag)
theorem sW (x y : Nat) : Nat.gcd y (x % y) = Nat.gcd x y := by rw [Nat.gcd_comm x y, Nat.gcd_rec y x, Nat.gcd_comm]
theorem ie (a : GI) (b : GI) (k : Nat) (hk : k ≤ 40) (za : SzI k a) (zb : SzI k b) (w0 : World) : Calls Tryz.prog 160 #[(vI a), (vI b)] w0 (dh w0 (vI (aS a b)) (SzI k (aS a b))) := by
 refine enter (N := 45) (args := [(vI a), (vI b)]) Tryz.func160 rfl rfl ?_; intro ac h
 refine gz h <| (xb) fun b1 => (xb) fun b2 => (xa) fun b3 => (dr0 (hob := oE)) <| (W) ?_; clear h ac; intro ac wo h
 refine wp_loop_ghost (fun n_ a_ w_ => ∃ (x : Nat) (y : Nat), n_ = 1 * y ∧ (Nat.gcd x y = Nat.gcd a.mag b.mag) ∧ (SzB k x) ∧ (SzB k y) ∧ St w0 45 [(4, (ptr b3 0)), (5, (.string (bs x))), (6, (.string (bs y)))] [.blk b3 (cI (⟨false, 0⟩ : GI)) 25, .blk b2 (cI b) 25, .blk b1 (cI a) 25] a_ w_) _ ⟨a.mag, b.mag, rfl, rfl, za, zb, h.re [0, 1, 2]⟩ ?_
 clear h ac wo; rintro _ ac wo ⟨x, y, rfl, hg, zx, zy, h⟩
 refine gz h <| (ai) ?_ ?_ <;> clear h ac wo <;> intro ac wo h hc1
 ·
  have hy : y ≠ 0 := by simpa using hc1
  refine gz h <| (xk (fz x y)) <| (ai) ?_ ?_ <;> clear h ac wo <;> intro ac wo h hc2
  ·
   obtain ⟨ha6, hb6, hw⟩ := jO hc2
   simp only [hw] at h
   refine gz h <| (W) ?_; clear h ac wo; intro ac wo h
   refine wp_loop_ghost (fun n_ a_ w_ => ∃ (u : Nat) (v : Nat), n_ = 1 * v ∧ (Nat.gcd u v = Nat.gcd a.mag b.mag) ∧ (SzB k u) ∧ (SzB k v) ∧ (u < 18446744073709551616 ∧ v < 18446744073709551616) ∧ St w0 45 [(4, (ptr b3 0)), (7, (.int .u64 ((u : Nat) : Int))), (8, (.int .u64 ((v : Nat) : Int)))] [.blk b3 (cI (⟨false, 0⟩ : GI)) 25, .blk b2 (cI b) 25, .blk b1 (cI a) 25] a_ w_) _ ⟨x, y, rfl, hg, zx, zy, ⟨ha6, hb6⟩, h.re [0, 1, 2]⟩ ?_
   clear h ac wo; rintro _ ac wo ⟨u, v, rfl, hgu, zu, zv, hul, h⟩
   refine gz h <| (ai) ?_ ?_ <;> clear h ac wo <;> intro ac wo h hc3
   ·
    have hv : v ≠ 0 := by have := hc3; simp at this; omega
    refine gz h <| (dr0 (hob := (oX (h := by exact fun _ => a6 (rG rfl rfl (r := ((u % v : Nat) : Int)) og (by rw [Int.tmod_eq_emod_of_nonneg og]; rfl)))) <| oE)) <| (W) ?_; clear h ac wo; intro ac wo h
    exact aK ⟨_, (by have := Nat.mod_lt u (show v > 0 by omega); omega), v, (u % v), rfl, (by rw [sW]; exact hgu), zv, (fO zu (Nat.mod_le _ _)), ⟨hul.2, by have := Nat.mod_lt u (show v > 0 by omega); omega⟩, h.re [0, 1, 2]⟩
   ·
    have hv : v = 0 := by have := hc3; simp at this; omega
    subst hv
    have c1 := bN false (bB u) k og zu
    have s1 := am (c1 w0)
    have hd : aS a b = (aG false (bB u)) := (by rw [Nat.gcd_zero_right] at hgu; unfold aS; rw [← hgu]; rfl)
    refine gz h <| (xk (cG u hul.1)) <| (xk c1) <| (W) ?_; clear h ac wo; intro ac wo h
    exact ret h rfl (.cell (v := (vI (aG false (bB u)))) rfl (i := 0) rfl aa25 zz25 rfl rfl rfl .nil) rfl (h.retP (by rw [hd] <;> rfl) (by rw [hd]; exact s1))
  ·
   have c2 := g9 x y k og zx zy og
   have s2 := am (c2 w0)
   refine gz h <| (xk c2) <| (W) ?_; clear h ac wo; intro ac wo h
   exact aK ⟨_, (by have := Nat.mod_lt x (show y > 0 by omega); omega), y, (x % y), rfl, (by rw [sW]; exact hg), zy, (fO zx (Nat.mod_le _ _)), h.re [0, 1, 2]⟩
 ·
  have hy : y = 0 := by simpa using hc1
  subst hy
  have c3 := bN false x k og zx
  have s3 := am (c3 w0)
  have hd : aS a b = (aG false x) := (by rw [Nat.gcd_zero_right] at hg; unfold aS; rw [← hg])
  refine gz h <| (xk c3) <| (W) ?_; clear h ac wo; intro ac wo h
  exact ret h rfl (.cell (v := (vI (aG false x))) rfl (i := 0) rfl aa25 zz25 rfl rfl rfl .nil) rfl (h.retP (by rw [hd] <;> rfl) (by rw [hd]; exact s3))
def aL (a : GI) (b : GI) : GI × GI × Int :=
 bif (decide (b.mag = 0)) then
  ((⟨false, 0⟩ : GI), (⟨false, 0⟩ : GI), 6)
 else
  bif (a.neg && (!(decide (((bq a.mag b.mag).2) = 0)))) then
   ((aG (a.neg != b.neg) (dp ((bq a.mag b.mag).1) 1)), (aG false (cz b.mag ((bq a.mag b.mag).2))), 0)
  else
   ((aG (a.neg != b.neg) ((bq a.mag b.mag).1)), (aG false ((bq a.mag b.mag).2)), 0)
theorem fj (a : GI) (b : GI) (k : Nat) (hk : (k + 1) ≤ 40) (za : SzI (k + 1) a) (zb : SzI (k + 1) b) (w0 : World) : Calls Tryz.prog 253 #[(vI a), (vI b)] w0 (dh w0 (.tuple #[(vI ((aL a b).1)), (vI ((aL a b).2.1)), (.int .i64 ((aL a b).2.2))]) (SzI k ((aL a b).1) ∧ SzI k ((aL a b).2.1))) := by
 refine enter (N := 43) (args := [(vI a), (vI b)]) Tryz.func253 rfl rfl ?_; intro ac h
 refine gz h <| (xb) fun b1 => (xb) fun b2 => (xa) fun b3 => (xa) fun b4 => (ai) ?_ ?_ <;> clear h ac <;> intro ac wo h hc1
 ·
  have hd1 := of_decide_eq_true hc1
  have hd : aL a b = ((⟨false, 0⟩ : GI), (⟨false, 0⟩ : GI), 6) := pt
  refine gz h <| (xo (hs := by exact bA nK exs rfl (v := (vI (⟨false, 0⟩ : GI))) rfl)) <| (xo (hs := by exact bA nK exs rfl (v := (vI (⟨false, 0⟩ : GI))) rfl)) <| (W) ?_; clear h ac wo; intro ac wo h
  exact ret h rfl (.cell (v := (vI (⟨false, 0⟩ : GI))) rfl (i := 1) rfl aa25 zz25 rfl rfl rfl (.cell (v := (vI (⟨false, 0⟩ : GI))) rfl (i := 0) rfl aa25 zz25 rfl rfl rfl (.tmp rfl .nil))) rfl (h.retP (by rw [hd] <;> rfl) (by rw [hd]; exact ⟨(cw 0 (by decide) og), (cw 0 (by decide) og)⟩))
 ·
  have hd1 := of_decide_eq_false hc1
  have c1 := g9 a.mag b.mag (k + 1) og za zb og
  have s1 := am (c1 w0)
  refine gz h <| (xk c1) <| (ai) ?_ ?_ <;> clear h ac wo <;> intro ac wo h hc2
  ·
   have s2 := am ((f5 ((bq a.mag b.mag).1) 1 k og s1.1 (cw 1 (by decide) og)) w0)
   have s3 := am ((fE b.mag ((bq a.mag b.mag).2) (k + 1) og zb s1.2 (Nat.le_of_lt (Nat.mod_lt _ og))) w0)
   refine gz h <| (dr0 (hob := (oK (f5 ((bq a.mag b.mag).1) 1 k og s1.1 (cw 1 (by decide) og))) <| (oK (fE b.mag ((bq a.mag b.mag).2) (k + 1) og zb s1.2 (Nat.le_of_lt (Nat.mod_lt _ og)))) <| oE)) <| (W) ?_; clear h ac wo; intro ac wo h
   have c4 := bN (a.neg != b.neg) (dp ((bq a.mag b.mag).1) 1) k og s2
   have s4 := am (c4 w0)
   have c5 := bN false (cz b.mag ((bq a.mag b.mag).2)) (k + 1) og s3
   have s5 := am (c5 w0)
   have hd : aL a b = ((aG (a.neg != b.neg) (dp ((bq a.mag b.mag).1) 1)), (aG false (cz b.mag ((bq a.mag b.mag).2))), 0) := pt
   refine gz h <| (xo (hs := by exact qi nn4 rfl rfl)) <| (xk c4) <| (xk c5) <| (W) ?_; clear h ac wo; intro ac wo h
   exact ret h rfl (.cell (v := (vI (aG (a.neg != b.neg) (dp ((bq a.mag b.mag).1) 1)))) rfl (i := 1) rfl aa25 zz25 rfl rfl rfl (.cell (v := (vI (aG false (cz b.mag ((bq a.mag b.mag).2))))) rfl (i := 0) rfl aa25 zz25 rfl rfl rfl (.tmp rfl .nil))) rfl (h.retP (by rw [hd] <;> rfl) (by rw [hd]; exact ⟨s4, (fB s5 og)⟩))
  ·
   have c6 := bN (a.neg != b.neg) ((bq a.mag b.mag).1) (k + 1) og s1.1
   have s6 := am (c6 w0)
   have c7 := bN false ((bq a.mag b.mag).2) (k + 1) og s1.2
   have s7 := am (c7 w0)
   have hd : aL a b = ((aG (a.neg != b.neg) ((bq a.mag b.mag).1)), (aG false ((bq a.mag b.mag).2)), 0) := pt
   refine gz h <| (xo (hs := by exact qi nn4 rfl rfl)) <| (xk c6) <| (xk c7) <| (W) ?_; clear h ac wo; intro ac wo h
   exact ret h rfl (.cell (v := (vI (aG (a.neg != b.neg) ((bq a.mag b.mag).1)))) rfl (i := 1) rfl aa25 zz25 rfl rfl rfl (.cell (v := (vI (aG false ((bq a.mag b.mag).2)))) rfl (i := 0) rfl aa25 zz25 rfl rfl rfl (.tmp rfl .nil))) rfl (h.retP (by rw [hd] <;> rfl) (by rw [hd]; exact ⟨(fB s6 og), (fB s7 og)⟩))
def rational_one  : GI :=
 (au 1)
theorem ed (k : Nat) (hk : k ≤ 40) (w0 : World) : Calls Tryz.prog 159 #[] w0 (dh w0 (vI rational_one) (SzI k rational_one)) := by
 refine enter (N := 2) (args := []) Tryz.func159 rfl rfl ?_; intro ac h
 have c1 := en 1 k og  og
 have s1 := am (c1 w0)
 refine gz h <| (xa) fun b1 => (xk c1) <| (W) ?_; clear h ac; intro ac wo h
 exact ret h rfl (.cell (v := (vI (au 1))) rfl (i := 0) rfl aa25 zz25 rfl rfl rfl .nil) rfl (h.retP (by unfold rational_one; rfl) (by unfold rational_one; exact s1))
def ah (n : Int) : GQ :=
 (⟨(au n), (⟨false, 0⟩ : GI)⟩ : GQ)
theorem bR (n : Int) (k : Nat) (hk : k ≤ 40) (hn : -9223372036854775808 ≤ n ∧ n ≤ 9223372036854775807) (w0 : World) : Calls Tryz.prog 85 #[(.int .i64 n)] w0 (dh w0 (vQ (ah n)) (SzQ k (ah n))) := by
 refine enter (N := 6) (args := [(.int .i64 n)]) Tryz.func85 rfl rfl ?_; intro ac h
 have c1 := en n k og  og
 have s1 := am (c1 w0)
 refine gz h <| (xa) fun b1 => (xk c1) <| (xo (hs := by exact bA no exs rfl (v := (vQ (⟨(au n), (⟨false, 0⟩ : GI)⟩ : GQ))) rfl)) <| (W) ?_; clear h ac; intro ac wo h
 exact ret h rfl (.cell (v := (vQ (⟨(au n), (⟨false, 0⟩ : GI)⟩ : GQ))) rfl (i := 0) rfl aa27 zz27 rfl rfl rfl .nil) rfl (h.retP (by unfold ah; rfl) (by unfold ah; exact ⟨s1, (cw 0 (by decide) og)⟩))
def aa (a : GQ) : GI :=
 bif (decide (a.den = (⟨false, 0⟩ : GI))) then
  rational_one
 else
  a.den
theorem br (a : GQ) (k : Nat) (hk : k ≤ 40) (za : SzQ k a) (w0 : World) : Calls Tryz.prog 98 #[(vQ a)] w0 (dh w0 (vI (aa a)) (SzI k (aa a))) := by
 refine enter (N := 10) (args := [(vQ a)]) Tryz.func98 rfl rfl ?_; intro ac h
 refine gz h <| (xb) fun b1 => (xa) fun b2 => (xo (hs := by exact bA nK exs rfl (v := (vI (⟨false, 0⟩ : GI))) rfl)) <| (ai) ?_ ?_ <;> clear h ac <;> intro ac wo h hc1
 ·
  have hd1 := of_decide_eq_true hc1
  have c1 := ed  k og
  have s1 := am (c1 w0)
  have hd : aa a = rational_one := pt
  refine gz h <| (xk c1) <| (W) ?_; clear h ac wo; intro ac wo h
  exact ret h rfl (.cell (v := (vI rational_one)) rfl (i := 0) rfl aa25 zz25 rfl rfl rfl .nil) rfl (h.retP (by rw [hd] <;> rfl) (by rw [hd]; exact s1))
 ·
  have hd1 := of_decide_eq_false hc1
  have hd : aa a = a.den := pt
  refine gz h <| (W) ?_; clear h ac wo; intro ac wo h
  exact ret h rfl (.cell (v := (vI a.den)) rfl (i := 0) rfl aa25 zz25 rfl rfl rfl .nil) rfl (h.retP (by rw [hd] <;> rfl) (by rw [hd]; exact za.2))
def aF (a : GI) (b : GI) : GI :=
 (aL a b).1
theorem dc (a : GI) (b : GI) (k : Nat) (hk : (k + 1) ≤ 40) (za : SzI (k + 1) a) (zb : SzI (k + 1) b) (w0 : World) : Calls Tryz.prog 192 #[(vI a), (vI b)] w0 (dh w0 (vI (aF a b)) (SzI k (aF a b))) := by
 refine enter (N := 16) (args := [(vI a), (vI b)]) Tryz.func192 rfl rfl ?_; intro ac h
 have c1 := fj a b k og za zb
 have s1 := am (c1 w0)
 refine gz h <| (xb) fun b1 => (xb) fun b2 => (xa) fun b3 => (xk c1) <| (xa) fun b4 => (xa) fun b5 => (W) ?_; clear h ac; intro ac wo h
 exact ret h rfl (.cell (v := (vI ((aL a b).1))) rfl (i := 2) rfl aa25 zz25 rfl rfl rfl .nil) rfl (h.retP (by unfold aF; rfl) (by unfold aF; exact s1.1))
def a8 (num : GI) (den : GI) : GQ :=
 bif (decide ((bW den) < 0)) then
  bif (decide ((aF (aq den) (aS (aq num) (aq den))) = rational_one)) then
   (⟨(aF (aq num) (aS (aq num) (aq den))), (⟨false, 0⟩ : GI)⟩ : GQ)
  else
   (⟨(aF (aq num) (aS (aq num) (aq den))), (aF (aq den) (aS (aq num) (aq den)))⟩ : GQ)
 else
  bif (decide ((aF den (aS num den)) = rational_one)) then
   (⟨(aF num (aS num den)), (⟨false, 0⟩ : GI)⟩ : GQ)
  else
   (⟨(aF num (aS num den)), (aF den (aS num den))⟩ : GQ)
theorem dK (num : GI) (den : GI) (k : Nat) (hk : (k + 1) ≤ 40) (znum : SzI (k + 1) num) (zden : SzI (k + 1) den) (w0 : World) : Calls Tryz.prog 95 #[(vI num), (vI den)] w0 (dh w0 (vQ (a8 num den)) (SzQ k (a8 num den))) := by
 refine enter (N := 29) (args := [(vI num), (vI den)]) Tryz.func95 rfl rfl ?_; intro ac h
 have p2 := am ((dG den) w0)
 refine gz h <| (xb) fun b1 => (xb) fun b2 => (xa) fun b3 => (xk (dG den)) <| (ai) ?_ ?_ <;> clear h ac <;> intro ac wo h hc1
 ·
  have hd1 := of_decide_eq_true hc1
  have s3 := am ((dM num (k + 1) og znum) w0)
  have s4 := am ((dM den (k + 1) og zden) w0)
  refine gz h <| (dr1 (H := [⟨_, []⟩, ⟨.blk b2 (cI den) 25, [(5, .con (.blk b2 (cI (aq den)) 25))]⟩, ⟨.blk b1 (cI num) 25, [(4, .con (.blk b1 (cI (aq num)) 25))]⟩]) (hob := (oK (dM num (k + 1) og znum)) <| (oK (dM den (k + 1) og zden)) <| oE)) <| (W) ?_; clear h ac wo; intro ac wo h
  have c5 := ie (aq num) (aq den) (k + 1) og s3 s4
  have s5 := am (c5 w0)
  have s6 := am ((dc (aq num) (aS (aq num) (aq den)) k og s3 s5) w0)
  have s7 := am ((dc (aq den) (aS (aq num) (aq den)) k og s4 s5) w0)
  refine gz h <| (xk c5) <| (xa) fun b4 => (dr1 (H := [⟨_, []⟩, ⟨_, []⟩, ⟨.blk b2 (cI (aq den)) 25, [(7, .con (.blk b2 (cI (aF (aq den) (aS (aq num) (aq den)))) 25))]⟩, ⟨.blk b1 (cI (aq num)) 25, [(6, .con (.blk b1 (cI (aF (aq num) (aS (aq num) (aq den)))) 25))]⟩]) (hob := (oK (dc (aq num) (aS (aq num) (aq den)) k og s3 s5)) <| (oK (dc (aq den) (aS (aq num) (aq den)) k og s4 s5)) <| oE)) <| (W) ?_; clear h ac wo; intro ac wo h
  have s8 := am ((ed  (k + 1) og ) w0)
  refine gz h <| (dr0 (hob := (oK (ed  (k + 1) og )) <| oE)) <| (ai) ?_ ?_ <;> clear h ac wo <;> intro ac wo h hc2
  ·
   have hd2 := of_decide_eq_true hc2
   have hd : a8 num den = (⟨(aF (aq num) (aS (aq num) (aq den))), (⟨false, 0⟩ : GI)⟩ : GQ) := pt
   refine gz h <| (xo (hs := by exact bA nK exs rfl (v := (vI (⟨false, 0⟩ : GI))) rfl)) <| (xo (hs := by exact bA no exs rfl (v := (vQ (⟨(aF (aq num) (aS (aq num) (aq den))), (⟨false, 0⟩ : GI)⟩ : GQ))) rfl)) <| (W) ?_; clear h ac wo; intro ac wo h
   exact ret h rfl (.cell (v := (vQ (⟨(aF (aq num) (aS (aq num) (aq den))), (⟨false, 0⟩ : GI)⟩ : GQ))) rfl (i := 1) rfl aa27 zz27 rfl rfl rfl .nil) rfl (h.retP (by rw [hd] <;> rfl) (by rw [hd]; exact ⟨s6, (cw 0 (by decide) og)⟩))
  ·
   have hd2 := of_decide_eq_false hc2
   have hd : a8 num den = (⟨(aF (aq num) (aS (aq num) (aq den))), (aF (aq den) (aS (aq num) (aq den)))⟩ : GQ) := pt
   refine gz h <| (xo (hs := by exact bA no exs rfl (v := (vQ (⟨(aF (aq num) (aS (aq num) (aq den))), (aF (aq den) (aS (aq num) (aq den)))⟩ : GQ))) rfl)) <| (W) ?_; clear h ac wo; intro ac wo h
   exact ret h rfl (.cell (v := (vQ (⟨(aF (aq num) (aS (aq num) (aq den))), (aF (aq den) (aS (aq num) (aq den)))⟩ : GQ))) rfl (i := 1) rfl aa27 zz27 rfl rfl rfl .nil) rfl (h.retP (by rw [hd] <;> rfl) (by rw [hd]; exact ⟨s6, s7⟩))
 ·
  have hd1 := of_decide_eq_false hc1
  have c9 := ie num den (k + 1) og znum zden
  have s9 := am (c9 w0)
  have s10 := am ((dc num (aS num den) k og znum s9) w0)
  have s11 := am ((dc den (aS num den) k og zden s9) w0)
  refine gz h <| (xk c9) <| (xa) fun b5 => (dr1 (H := [⟨_, []⟩, ⟨_, []⟩, ⟨.blk b2 (cI den) 25, [(7, .con (.blk b2 (cI (aF den (aS num den))) 25))]⟩, ⟨.blk b1 (cI num) 25, [(6, .con (.blk b1 (cI (aF num (aS num den))) 25))]⟩]) (hob := (oK (dc num (aS num den) k og znum s9)) <| (oK (dc den (aS num den) k og zden s9)) <| oE)) <| (W) ?_; clear h ac wo; intro ac wo h
  have s12 := am ((ed  (k + 1) og ) w0)
  refine gz h <| (dr0 (hob := (oK (ed  (k + 1) og )) <| oE)) <| (ai) ?_ ?_ <;> clear h ac wo <;> intro ac wo h hc3
  ·
   have hd3 := of_decide_eq_true hc3
   have hd : a8 num den = (⟨(aF num (aS num den)), (⟨false, 0⟩ : GI)⟩ : GQ) := pt
   refine gz h <| (xo (hs := by exact bA nK exs rfl (v := (vI (⟨false, 0⟩ : GI))) rfl)) <| (xo (hs := by exact bA no exs rfl (v := (vQ (⟨(aF num (aS num den)), (⟨false, 0⟩ : GI)⟩ : GQ))) rfl)) <| (W) ?_; clear h ac wo; intro ac wo h
   exact ret h rfl (.cell (v := (vQ (⟨(aF num (aS num den)), (⟨false, 0⟩ : GI)⟩ : GQ))) rfl (i := 1) rfl aa27 zz27 rfl rfl rfl .nil) rfl (h.retP (by rw [hd] <;> rfl) (by rw [hd]; exact ⟨s10, (cw 0 (by decide) og)⟩))
  ·
   have hd3 := of_decide_eq_false hc3
   have hd : a8 num den = (⟨(aF num (aS num den)), (aF den (aS num den))⟩ : GQ) := pt
   refine gz h <| (xo (hs := by exact bA no exs rfl (v := (vQ (⟨(aF num (aS num den)), (aF den (aS num den))⟩ : GQ))) rfl)) <| (W) ?_; clear h ac wo; intro ac wo h
   exact ret h rfl (.cell (v := (vQ (⟨(aF num (aS num den)), (aF den (aS num den))⟩ : GQ))) rfl (i := 1) rfl aa27 zz27 rfl rfl rfl .nil) rfl (h.retP (by rw [hd] <;> rfl) (by rw [hd]; exact ⟨s10, s11⟩))
def aT (a : GQ) (b : GQ) : GI × GI × GI :=
 bif (decide (a.den = b.den)) then
  (a.num, b.num, (aa a))
 else
  ((ab a.num (aa b)), (ab b.num (aa a)), (ab (aa a) (aa b)))
theorem jb (a : GQ) (b : GQ) (k : Nat) (hk : (k + 1) ≤ 40) (za : SzQ (k + 1) a) (zb : SzQ (k + 1) b) (w0 : World) : Calls Tryz.prog 94 #[(vQ a), (vQ b)] w0 (dh w0 (.tuple #[(vI ((aT a b).1)), (vI ((aT a b).2.1)), (vI ((aT a b).2.2))]) (SzI k ((aT a b).1) ∧ SzI k ((aT a b).2.1) ∧ SzI k ((aT a b).2.2))) := by
 refine enter (N := 33) (args := [(vQ a), (vQ b)]) Tryz.func94 rfl rfl ?_; intro ac h
 refine gz h <| (xb) fun b1 => (xb) fun b2 => (xa) fun b3 => (xa) fun b4 => (xa) fun b5 => (ai) ?_ ?_ <;> clear h ac <;> intro ac wo h hc1
 ·
  have hd1 := of_decide_eq_true hc1
  refine gz h <| (W) ?_; clear h ac wo; intro ac wo h
  have s1 := am ((br a (k + 1) og za) w0)
  have hd : aT a b = (a.num, b.num, (aa a)) := pt
  refine gz h <| (dr1 (H := [⟨.blk b5 (cI (⟨false, 0⟩ : GI)) 25, [(8, .con (.blk b5 (cI (aa a)) 25))]⟩, ⟨.blk b4 (cI (⟨false, 0⟩ : GI)) 25, [(7, .con (.blk b4 (cI b.num) 25))]⟩, ⟨.blk b3 (cI (⟨false, 0⟩ : GI)) 25, [(6, .con (.blk b3 (cI a.num) 25))]⟩, ⟨_, []⟩, ⟨_, []⟩]) (hob := (oK (br a (k + 1) og za)) <| oE)) <| (W) ?_; clear h ac wo; intro ac wo h
  exact ret h rfl (.cell (v := (vI a.num)) rfl (i := 2) rfl aa25 zz25 rfl rfl rfl (.cell (v := (vI b.num)) rfl (i := 1) rfl aa25 zz25 rfl rfl rfl (.cell (v := (vI (aa a))) rfl (i := 0) rfl aa25 zz25 rfl rfl rfl .nil))) rfl (h.retP (by rw [hd] <;> rfl) (by rw [hd]; exact ⟨(bQ za og).1, (bQ zb og).1, (fB s1 og)⟩))
 ·
  have hd1 := of_decide_eq_false hc1
  refine gz h <| (W) ?_; clear h ac wo; intro ac wo h
  have s2 := am ((br b (k + 1) og zb) w0)
  have s3 := am ((bF a.num (aa b) k og za.1 s2) w0)
  have s4 := am ((br a (k + 1) og za) w0)
  have s5 := am ((bF b.num (aa a) k og zb.1 s4) w0)
  have s6 := am ((br a (k + 1) og za) w0)
  have s7 := am ((br b (k + 1) og zb) w0)
  have s8 := am ((bF (aa a) (aa b) k og s6 s7) w0)
  have hd : aT a b = ((ab a.num (aa b)), (ab b.num (aa a)), (ab (aa a) (aa b))) := pt
  refine gz h <| (dr1 (H := [⟨.blk b5 (cI (⟨false, 0⟩ : GI)) 25, [(17, .con (.blk b5 (cI (ab (aa a) (aa b))) 25))]⟩, ⟨.blk b4 (cI (⟨false, 0⟩ : GI)) 25, [(16, .con (.blk b4 (cI (ab b.num (aa a))) 25))]⟩, ⟨.blk b3 (cI (⟨false, 0⟩ : GI)) 25, [(15, .con (.blk b3 (cI (ab a.num (aa b))) 25))]⟩, ⟨_, []⟩, ⟨_, []⟩]) (hob := (oK (br b (k + 1) og zb)) <| (oK (bF a.num (aa b) k og za.1 s2)) <| (oK (br a (k + 1) og za)) <| (oK (bF b.num (aa a) k og zb.1 s4)) <| (oK (br a (k + 1) og za)) <| (oK (br b (k + 1) og zb)) <| (oK (bF (aa a) (aa b) k og s6 s7)) <| oE)) <| (W) ?_; clear h ac wo; intro ac wo h
  exact ret h rfl (.cell (v := (vI (ab a.num (aa b)))) rfl (i := 2) rfl aa25 zz25 rfl rfl rfl (.cell (v := (vI (ab b.num (aa a)))) rfl (i := 1) rfl aa25 zz25 rfl rfl rfl (.cell (v := (vI (ab (aa a) (aa b)))) rfl (i := 0) rfl aa25 zz25 rfl rfl rfl .nil))) rfl (h.retP (by rw [hd] <;> rfl) (by rw [hd]; exact ⟨s3, s5, s8⟩))
def an (a : GQ) (b : GQ) : GQ :=
 (a8 (aI ((aT a b).1) ((aT a b).2.1)) ((aT a b).2.2))
theorem bt (a : GQ) (b : GQ) (k : Nat) (hk : (k + 3) ≤ 40) (za : SzQ (k + 3) a) (zb : SzQ (k + 3) b) (w0 : World) : Calls Tryz.prog 20 #[(vQ a), (vQ b)] w0 (dh w0 (vQ (an a b)) (SzQ k (an a b))) := by
 refine enter (N := 20) (args := [(vQ a), (vQ b)]) Tryz.func20 rfl rfl ?_; intro ac h
 have c1 := jb a b (k + 2) og za zb
 have s1 := am (c1 w0)
 have s2 := am ((eW ((aT a b).1) ((aT a b).2.1) (k + 1) og s1.1 s1.2.1) w0)
 have s3 := am ((dK (aI ((aT a b).1) ((aT a b).2.1)) ((aT a b).2.2) k og s2 (fB s1.2.2 og)) w0)
 refine gz h <| (xb) fun b1 => (xb) fun b2 => (xa) fun b3 => (xk c1) <| (xa) fun b4 => (xa) fun b5 => (xa) fun b6 => (dr1 (H := [⟨_, []⟩, ⟨_, []⟩, ⟨_, []⟩, ⟨.blk b3 (cQ oQ) 27, [(5, .con (.blk b3 (cQ (a8 (aI ((aT a b).1) ((aT a b).2.1)) ((aT a b).2.2))) 27))]⟩, ⟨_, []⟩, ⟨_, []⟩]) (hob := (oK (eW ((aT a b).1) ((aT a b).2.1) (k + 1) og s1.1 s1.2.1)) <| (oK (dK (aI ((aT a b).1) ((aT a b).2.1)) ((aT a b).2.2) k og s2 (fB s1.2.2 og))) <| oE)) <| (W) ?_; clear h ac; intro ac wo h
 exact ret h rfl (.cell (v := (vQ (a8 (aI ((aT a b).1) ((aT a b).2.1)) ((aT a b).2.2)))) rfl (i := 3) rfl aa27 zz27 rfl rfl rfl .nil) rfl (h.retP (by unfold an; rfl) (by unfold an; exact s3))
def aD (a : GQ) : GQ :=
 (⟨(aq a.num), a.den⟩ : GQ)
theorem cY (a : GQ) (k : Nat) (hk : k ≤ 40) (za : SzQ k a) (w0 : World) : Calls Tryz.prog 63 #[(vQ a)] w0 (dh w0 (vQ (aD a)) (SzQ k (aD a))) := by
 refine enter (N := 9) (args := [(vQ a)]) Tryz.func63 rfl rfl ?_; intro ac h
 have s1 := am ((dM a.num k og za.1) w0)
 refine gz h <| (xb) fun b1 => (xa) fun b2 => (dr1 (H := [⟨.blk b2 (cQ oQ) 27, [(6, .con (.blk b2 (cQ (⟨(aq a.num), a.den⟩ : GQ)) 27))]⟩, ⟨_, []⟩]) (hob := (oK (dM a.num k og za.1)) <| (oX (h := by exact fun _ => a6 (bA no exs rfl (v := (vQ (⟨(aq a.num), a.den⟩ : GQ))) rfl))) <| oE)) <| (W) ?_; clear h ac; intro ac wo h
 exact ret h rfl (.cell (v := (vQ (⟨(aq a.num), a.den⟩ : GQ))) rfl (i := 0) rfl aa27 zz27 rfl rfl rfl .nil) rfl (h.retP (by unfold aD; rfl) (by unfold aD; exact ⟨s1, za.2⟩))
def aj (a : GQ) (b : GQ) : GQ :=
 (an a (aD b))
theorem cp (a : GQ) (b : GQ) (k : Nat) (hk : (k + 3) ≤ 40) (za : SzQ (k + 3) a) (zb : SzQ (k + 3) b) (w0 : World) : Calls Tryz.prog 22 #[(vQ a), (vQ b)] w0 (dh w0 (vQ (aj a b)) (SzQ k (aj a b))) := by
 refine enter (N := 9) (args := [(vQ a), (vQ b)]) Tryz.func22 rfl rfl ?_; intro ac h
 have s1 := am ((cY b (k + 3) og zb) w0)
 have s2 := am ((bt a (aD b) k og za s1) w0)
 refine gz h <| (xb) fun b1 => (xb) fun b2 => (xa) fun b3 => (dr1 (H := [⟨.blk b3 (cQ oQ) 27, [(4, .con (.blk b3 (cQ (an a (aD b))) 27))]⟩, ⟨_, []⟩, ⟨_, []⟩]) (hob := (oK (cY b (k + 3) og zb)) <| (oK (bt a (aD b) k og za s1)) <| oE)) <| (W) ?_; clear h ac; intro ac wo h
 exact ret h rfl (.cell (v := (vQ (an a (aD b)))) rfl (i := 0) rfl aa27 zz27 rfl rfl rfl .nil) rfl (h.retP (by unfold aj; rfl) (by unfold aj; exact s2))
def ak (a : GQ) (b : GQ) : GQ :=
 (a8 (ab a.num b.num) (ab (aa a) (aa b)))
theorem be (a : GQ) (b : GQ) (k : Nat) (hk : (k + 2) ≤ 40) (za : SzQ (k + 2) a) (zb : SzQ (k + 2) b) (w0 : World) : Calls Tryz.prog 21 #[(vQ a), (vQ b)] w0 (dh w0 (vQ (ak a b)) (SzQ k (ak a b))) := by
 refine enter (N := 16) (args := [(vQ a), (vQ b)]) Tryz.func21 rfl rfl ?_; intro ac h
 have s1 := am ((bF a.num b.num (k + 1) og za.1 zb.1) w0)
 have s2 := am ((br a (k + 2) og za) w0)
 have s3 := am ((br b (k + 2) og zb) w0)
 have s4 := am ((bF (aa a) (aa b) (k + 1) og s2 s3) w0)
 have s5 := am ((dK (ab a.num b.num) (ab (aa a) (aa b)) k og s1 s4) w0)
 refine gz h <| (xb) fun b1 => (xb) fun b2 => (xa) fun b3 => (dr1 (H := [⟨.blk b3 (cQ oQ) 27, [(11, .con (.blk b3 (cQ (a8 (ab a.num b.num) (ab (aa a) (aa b)))) 27))]⟩, ⟨_, []⟩, ⟨_, []⟩]) (hob := (oK (bF a.num b.num (k + 1) og za.1 zb.1)) <| (oK (br a (k + 2) og za)) <| (oK (br b (k + 2) og zb)) <| (oK (bF (aa a) (aa b) (k + 1) og s2 s3)) <| (oK (dK (ab a.num b.num) (ab (aa a) (aa b)) k og s1 s4)) <| oE)) <| (W) ?_; clear h ac; intro ac wo h
 exact ret h rfl (.cell (v := (vQ (a8 (ab a.num b.num) (ab (aa a) (aa b))))) rfl (i := 0) rfl aa27 zz27 rfl rfl rfl .nil) rfl (h.retP (by unfold ak; rfl) (by unfold ak; exact s5))
def aw (a : GQ) : Int :=
 (bW a.num)
theorem cH (a : GQ) (w0 : World) : Calls Tryz.prog 30 #[(vQ a)] w0 (dh w0 (.int .i64 (aw a)) ((-1 ≤ (aw a) ∧ (aw a) ≤ 1))) := by
 refine enter (N := 6) (args := [(vQ a)]) Tryz.func30 rfl rfl ?_; intro ac h
 have p2 := am ((dG a.num) w0)
 refine gz h <| (xb) fun b1 => (xk (dG a.num)) <| (W) ?_; clear h ac; intro ac wo h
 exact (rt h) (h.retP (by unfold aw; rfl) (by unfold aw; exact by first | omega | exact eJ og og))
def aY (a : GQ) (b : GQ) : Int :=
 bif (decide (a = b)) then
  0
 else
  (cL ((aT a b).1) ((aT a b).2.1))
theorem gg (a : GQ) (b : GQ) (k : Nat) (hk : (k + 1) ≤ 40) (za : SzQ (k + 1) a) (zb : SzQ (k + 1) b) (w0 : World) : Calls Tryz.prog 87 #[(vQ a), (vQ b)] w0 (dh w0 (.int .i64 (aY a b)) ((-1 ≤ (aY a b) ∧ (aY a b) ≤ 1))) := by
 refine enter (N := 21) (args := [(vQ a), (vQ b)]) Tryz.func87 rfl rfl ?_; intro ac h
 refine gz h <| (xb) fun b1 => (xb) fun b2 => (ai) ?_ ?_ <;> clear h ac <;> intro ac wo h hc1
 ·
  have hd1 := of_decide_eq_true hc1
  have hd : aY a b = 0 := pt
  refine gz h <| (W) ?_; clear h ac wo; intro ac wo h
  exact (rt h) (h.retP (by rw [hd] <;> rfl) (by rw [hd]; exact by first | omega | exact eJ og og))
 ·
  have hd1 := of_decide_eq_false hc1
  have c1 := jb a b k og za zb
  have s1 := am (c1 w0)
  have p3 := am ((fH ((aT a b).1) ((aT a b).2.1) k og s1.1 s1.2.1) w0)
  have hd : aY a b = (cL ((aT a b).1) ((aT a b).2.1)) := pt
  refine gz h <| (xk c1) <| (xa) fun b3 => (xa) fun b4 => (xa) fun b5 => (xk (fH ((aT a b).1) ((aT a b).2.1) k og s1.1 s1.2.1)) <| (W) ?_; clear h ac wo; intro ac wo h
  exact (rt h) (h.retP (by rw [hd] <;> rfl) (by rw [hd]; exact by first | omega | exact eJ og og))
def ay (c : GQ) : Qd :=
 (⟨c, (⟨(⟨false, 0⟩ : GI), (⟨false, 0⟩ : GI)⟩ : GQ), (⟨(⟨false, 0⟩ : GI), (⟨false, 0⟩ : GI)⟩ : GQ)⟩ : Qd)
theorem jS (c : GQ) (k : Nat) (hk : k ≤ 40) (zc : SzQ k c) (w0 : World) : Calls Tryz.prog 113 #[(vQ c)] w0 (dh w0 (vD (ay c)) (SzD k (ay c))) := by
 refine enter (N := 5) (args := [(vQ c)]) Tryz.func113 rfl rfl ?_; intro ac h
 refine gz h <| (xb) fun b1 => (xa) fun b2 => (xo (hs := by exact bA ur exs rfl (v := (vD (⟨c, oQ, oQ⟩ : Qd))) rfl)) <| (W) ?_; clear h ac; intro ac wo h
 exact ret h rfl (.cell (v := (vD (⟨c, oQ, oQ⟩ : Qd))) rfl (i := 0) rfl Tryz.isAgg53 Tryz.sizeOf53 rfl rfl rfl .nil) rfl (h.retP (by unfold ay; rfl) (by unfold ay; exact ⟨zc, ⟨(cw 0 (by decide) og), (cw 0 (by decide) og)⟩, ⟨(cw 0 (by decide) og), (cw 0 (by decide) og)⟩⟩))
end Go.Sx
