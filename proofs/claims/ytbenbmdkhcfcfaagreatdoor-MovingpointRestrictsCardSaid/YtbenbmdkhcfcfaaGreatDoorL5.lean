/- A part of the proof of movingpointRestricts. -/
import Derived.Test.YtbenbmdkhcfcfaaGreatDoorProg
import Derived.Test.YtbenbmdkhcfcfaaGreatDoorL4
set_option linter.unusedVariables false
set_option linter.unusedSimpArgs false
open Go.Proofs.Tryz renaming isAgg4 → aa4, underlying4 → nn4, isAgg9 → aa9, isAgg25 → aa25, sizeOf25 → zz25, isAgg27 → aa27, sizeOf27 → zz27
namespace Go.Sx
open Go Go.RowKit Go.Proofs
set_option maxRecDepth 100000
set_option maxHeartbeats 40000000
attribute [local irreducible] Code.wp wpList Rd Step ObS Ent
theorem eqi25 : EqIn Tryz.prog 2 25 vI := eqS (c := cI) (fun _ => rfl) Tryz.underlying25 Tryz.stoodInHeld25 fun d x y w hd => by
 refine Eq.trans (eqF (by decide) (dY aa4 rfl w) (dY aa4 rfl w) (eqB nn4 d og _ _ w) (eqF (by decide) (dY aa9 rfl w) (dY aa9 rfl w) (eqBs Tryz.underlying9 d og _ _ w) eqF0)) ?_
 congr 1
 rw [decide_eq_decide]
 cases x; cases y; simp
theorem eqp25 : EqP Tryz.prog 25 vI := EqIn.p (k := 2) rfl (c := fun x => (cI x).toArray) (fun _ => rfl) Tryz.eqGuardType25 eqi25
instance yL5_1 : Ep Tryz.prog 25 GI inferInstance vI := ⟨eqp25⟩
theorem nC : EqIn Tryz.prog 3 27 vQ := eqS (c := cQ) (fun _ => rfl) Tryz.underlying27 Tryz.stoodInHeld27 fun d x y w hd => by
 refine Eq.trans (eqF (by decide) (dg aa25 zz25 (v := vI (x.num)) rfl w) (dg aa25 zz25 (v := vI (y.num)) rfl w) (eqi25 d _ _ w og) (eqF (by decide) (dg aa25 zz25 (v := vI (x.den)) rfl w) (dg aa25 zz25 (v := vI (y.den)) rfl w) (eqi25 d _ _ w og) eqF0)) ?_
 congr 1
 rw [decide_eq_decide]
 cases x; cases y; simp
theorem eqp27 : EqP Tryz.prog 27 vQ := EqIn.p (k := 3) rfl (c := fun x => (cQ x).toArray) (fun _ => rfl) Tryz.eqGuardType27 nC
instance yL5_2 : Ep Tryz.prog 27 GQ inferInstance vQ := ⟨eqp27⟩
theorem eqi53 : EqIn Tryz.prog 4 53 vD := eqS (c := cD) (fun _ => rfl) Tryz.underlying53 Tryz.stoodInHeld53 fun d x y w hd => by
 refine Eq.trans (eqF (by decide) (dg aa27 zz27 (v := vQ (x.c0)) rfl w) (dg aa27 zz27 (v := vQ (y.c0)) rfl w) (nC d _ _ w og) (eqF (by decide) (dg aa27 zz27 (v := vQ (x.c1)) rfl w) (dg aa27 zz27 (v := vQ (y.c1)) rfl w) (nC d _ _ w og) (eqF (by decide) (dg aa27 zz27 (v := vQ (x.c2)) rfl w) (dg aa27 zz27 (v := vQ (y.c2)) rfl w) (nC d _ _ w og) eqF0))) ?_
 congr 1
 rw [decide_eq_decide]
 cases x; cases y; simp
theorem eqp53 : EqP Tryz.prog 53 vD := EqIn.p (k := 4) rfl (c := fun x => (cD x).toArray) (fun _ => rfl) Tryz.eqGuardType53 eqi53
instance yL5_3 : Ep Tryz.prog 53 Qd inferInstance vD := ⟨eqp53⟩
theorem eqi71 : EqIn Tryz.prog 4 71 vR := eqS (c := cR) (fun _ => rfl) Tryz.underlying71 Tryz.stoodInHeld71 fun d x y w hd => by
 refine Eq.trans (eqF (by decide) (dg aa27 zz27 (v := vQ (x.p)) rfl w) (dg aa27 zz27 (v := vQ (y.p)) rfl w) (nC d _ _ w og) (eqF (by decide) (dg aa27 zz27 (v := vQ (x.r)) rfl w) (dg aa27 zz27 (v := vQ (y.r)) rfl w) (nC d _ _ w og) (eqF (by decide) (dY aa4 rfl w) (dY aa4 rfl w) (eqB nn4 d og _ _ w) eqF0))) ?_
 congr 1
 rw [decide_eq_decide]
 cases x; cases y; simp
theorem eqp71 : EqP Tryz.prog 71 vR := EqIn.p (k := 4) rfl (c := fun x => (cR x).toArray) (fun _ => rfl) Tryz.eqGuardType71 eqi71
instance yL5_4 : Ep Tryz.prog 71 GR inferInstance vR := ⟨eqp71⟩
def bR (a : GI) : Int :=
 bif (decide (a.mag = 0)) then
  0
 else
  bif a.neg then
   (-1)
  else
   1
theorem dG (a : GI) (w0 : World) : Calls Tryz.prog 115 #[(vI a)] w0 (dA w0 (.int .i64 (bR a)) ((-1 ≤ (bR a) ∧ (bR a) ≤ 1))) := by
 refine enter (N := 10) (args := [(vI a)]) Tryz.func115 rfl rfl ?_; intro ac h
 refine gz h <| (xb) fun b1 => (ai) ?_ ?_ <;> clear h ac <;> intro ac wo h hc1
 ·
  have hd1 := of_decide_eq_true hc1
  have hd : bR a = 0 := pt
  refine gz h <| (W) ?_; clear h ac wo; intro ac wo h
  exact (rt h) (h.retP (by rw [hd] <;> rfl) (by rw [hd]; exact by first | omega | exact eK og og))
 ·
  have hd1 := of_decide_eq_false hc1
  refine gz h <| (ai) ?_ ?_ <;> clear h ac wo <;> intro ac wo h hc2
  ·
   have hd : bR a = (-1) := pt
   refine gz h <| (W) ?_; clear h ac wo; intro ac wo h
   exact (rt h) (h.retP (by rw [hd] <;> rfl) (by rw [hd]; exact by first | omega | exact eK og og))
  ·
   have hd : bR a = 1 := pt
   refine gz h <| (W) ?_; clear h ac wo; intro ac wo h
   exact (rt h) (h.retP (by rw [hd] <;> rfl) (by rw [hd]; exact by first | omega | exact eK og og))
def ao (a : GI) : GI :=
 (aF (!a.neg) a.mag)
theorem dK (a : GI) (k : Nat) (hk : k ≤ 40) (za : SzI k a) (w0 : World) : Calls Tryz.prog 161 #[(vI a)] w0 (dA w0 (vI (ao a)) (SzI k (ao a))) := by
 refine enter (N := 9) (args := [(vI a)]) Tryz.func161 rfl rfl ?_; intro ac h
 have c1 := bL (!a.neg) a.mag k og za
 have s1 := an (c1 w0)
 refine gz h <| (xb) fun b1 => (xa) fun b2 => (xk c1) <| (W) ?_; clear h ac; intro ac wo h
 exact ret h rfl (.cell (v := (vI (aF (!a.neg) a.mag))) rfl (i := 0) rfl aa25 zz25 rfl rfl rfl .nil) rfl (h.retP (by unfold ao; rfl) (by unfold ao; exact s1))
def df (a : GI) (b : GI) : Int :=
 bif (a.neg != b.neg) then
  (bU (bR a) (bR b))
 else
  bif a.neg then
   -(ba a.mag b.mag)
  else
   (ba a.mag b.mag)
theorem fD (a : GI) (b : GI) (k : Nat) (hk : k ≤ 40) (za : SzI k a) (zb : SzI k b) (w0 : World) : Calls Tryz.prog 158 #[(vI a), (vI b)] w0 (dA w0 (.int .i64 (df a b)) ((-1 ≤ (df a b) ∧ (df a b) ≤ 1))) := by
 refine enter (N := 26) (args := [(vI a), (vI b)]) Tryz.func158 rfl rfl ?_; intro ac h
 refine gz h <| (xb) fun b1 => (xb) fun b2 => (xo (hs := by exact qd nn4 rfl rfl)) <| (ai) ?_ ?_ <;> clear h ac <;> intro ac wo h hc1
 ·
  refine gz h <| (W) ?_; clear h ac wo; intro ac wo h
  have p2 := an ((dG a) w0)
  have p4 := an ((dG b) w0)
  have p6 := an ((jb (bR a) (bR b)) w0)
  have hd : df a b = (bU (bR a) (bR b)) := pt
  refine gz h <| (dr0 (hob := (oK (dG a)) <| (oK (dG b)) <| (oK (jb (bR a) (bR b))) <| oE)) <| (W) ?_; clear h ac wo; intro ac wo h
  exact (rt h) (h.retP (by rw [hd] <;> rfl) (by rw [hd]; exact by first | omega | exact eK og og))
 ·
  have p8 := an ((dT a.mag b.mag) w0)
  refine gz h <| (xk (dT a.mag b.mag)) <| (ai) ?_ ?_ <;> clear h ac wo <;> intro ac wo h hc2
  ·
   have hd : df a b = -(ba a.mag b.mag) := pt
   refine gz h <| (xo (hs := by exact r_neg rfl (r := -(ba a.mag b.mag)) (by rw [IntKind.wrap_i64]; omega))) <| (W) ?_; clear h ac wo; intro ac wo h
   exact (rt h) (h.retP (by rw [hd] <;> rfl) (by rw [hd]; exact by first | omega | exact eK og og))
  ·
   have hd : df a b = (ba a.mag b.mag) := pt
   refine gz h <| (W) ?_; clear h ac wo; intro ac wo h
   exact (rt h) (h.retP (by rw [hd] <;> rfl) (by rw [hd]; exact by first | omega | exact eK og og))
def aI (a : GI) (b : GI) : GI :=
 bif (a.neg == b.neg) then
  (aF a.neg (dr a.mag b.mag))
 else
  bif (decide ((ba a.mag b.mag) ≥ 0)) then
   (aF a.neg (cK a.mag b.mag))
  else
   (aF b.neg (cK b.mag a.mag))
theorem eV (a : GI) (b : GI) (k : Nat) (hk : (k + 1) ≤ 40) (za : SzI (k + 1) a) (zb : SzI (k + 1) b) (w0 : World) : Calls Tryz.prog 96 #[(vI a), (vI b)] w0 (dA w0 (vI (aI a b)) (SzI k (aI a b))) := by
 refine enter (N := 42) (args := [(vI a), (vI b)]) Tryz.func96 rfl rfl ?_; intro ac h
 refine gz h <| (xb) fun b1 => (xb) fun b2 => (xa) fun b3 => (xo (hs := by exact uR nn4 rfl rfl)) <| (ai) ?_ ?_ <;> clear h ac <;> intro ac wo h hc1
 ·
  have hd1 := eq_of_beq hc1
  refine gz h <| (W) ?_; clear h ac wo; intro ac wo h
  have s1 := an ((fU a.mag b.mag k og za zb) w0)
  have s2 := an ((bL a.neg (dr a.mag b.mag) k og s1) w0)
  have hd : aI a b = (aF a.neg (dr a.mag b.mag)) := pt
  refine gz h <| (dr1 (H := [⟨.blk b3 (cI (⟨false, 0⟩ : GI)) 25, [(8, .con (.blk b3 (cI (aF a.neg (dr a.mag b.mag))) 25))]⟩, ⟨_, []⟩, ⟨_, []⟩]) (hob := (oK (fU a.mag b.mag k og za zb)) <| (oK (bL a.neg (dr a.mag b.mag) k og s1)) <| oE)) <| (W) ?_; clear h ac wo; intro ac wo h
  exact ret h rfl (.cell (v := (vI (aF a.neg (dr a.mag b.mag)))) rfl (i := 0) rfl aa25 zz25 rfl rfl rfl .nil) rfl (h.retP (by rw [hd] <;> rfl) (by rw [hd]; exact s2))
 ·
  have hd1 := ne_of_beq_false hc1
  have p4 := an ((dT a.mag b.mag) w0)
  refine gz h <| (xk (dT a.mag b.mag)) <| (ai) ?_ ?_ <;> clear h ac wo <;> intro ac wo h hc2
  ·
   have hd2 := of_decide_eq_true hc2
   refine gz h <| (W) ?_; clear h ac wo; intro ac wo h
   have s5 := an ((fu a.mag b.mag (k + 1) og za zb (by first | exact qP ‹_› | exact qO ‹_›)) w0)
   have s6 := an ((bL a.neg (cK a.mag b.mag) (k + 1) og s5) w0)
   have hd : aI a b = (aF a.neg (cK a.mag b.mag)) := pt
   refine gz h <| (dr1 (H := [⟨.blk b3 (cI (⟨false, 0⟩ : GI)) 25, [(8, .con (.blk b3 (cI (aF a.neg (cK a.mag b.mag))) 25))]⟩, ⟨_, []⟩, ⟨_, []⟩]) (hob := (oK (fu a.mag b.mag (k + 1) og za zb (by first | exact qP ‹_› | exact qO ‹_›))) <| (oK (bL a.neg (cK a.mag b.mag) (k + 1) og s5)) <| oE)) <| (W) ?_; clear h ac wo; intro ac wo h
   exact ret h rfl (.cell (v := (vI (aF a.neg (cK a.mag b.mag)))) rfl (i := 0) rfl aa25 zz25 rfl rfl rfl .nil) rfl (h.retP (by rw [hd] <;> rfl) (by rw [hd]; exact (fp s6 og)))
  ·
   have hd2 := of_decide_eq_false hc2
   refine gz h <| (W) ?_; clear h ac wo; intro ac wo h
   have s7 := an ((fu b.mag a.mag (k + 1) og zb za (by first | exact qP ‹_› | exact qO ‹_›)) w0)
   have s8 := an ((bL b.neg (cK b.mag a.mag) (k + 1) og s7) w0)
   have hd : aI a b = (aF b.neg (cK b.mag a.mag)) := pt
   refine gz h <| (dr1 (H := [⟨.blk b3 (cI (⟨false, 0⟩ : GI)) 25, [(8, .con (.blk b3 (cI (aF b.neg (cK b.mag a.mag))) 25))]⟩, ⟨_, []⟩, ⟨_, []⟩]) (hob := (oK (fu b.mag a.mag (k + 1) og zb za (by first | exact qP ‹_› | exact qO ‹_›))) <| (oK (bL b.neg (cK b.mag a.mag) (k + 1) og s7)) <| oE)) <| (W) ?_; clear h ac wo; intro ac wo h
   exact ret h rfl (.cell (v := (vI (aF b.neg (cK b.mag a.mag)))) rfl (i := 0) rfl aa25 zz25 rfl rfl rfl .nil) rfl (h.retP (by rw [hd] <;> rfl) (by rw [hd]; exact (fp s8 og)))
def ab (a : GI) (b : GI) : GI :=
 (aF (a.neg != b.neg) (en a.mag b.mag))
theorem bF (a : GI) (b : GI) (k : Nat) (hk : (k + 1) ≤ 40) (za : SzI (k + 1) a) (zb : SzI (k + 1) b) (w0 : World) : Calls Tryz.prog 97 #[(vI a), (vI b)] w0 (dA w0 (vI (ab a b)) (SzI k (ab a b))) := by
 refine enter (N := 16) (args := [(vI a), (vI b)]) Tryz.func97 rfl rfl ?_; intro ac h
 have s1 := an ((iP a.mag b.mag k og za zb) w0)
 have s2 := an ((bL (a.neg != b.neg) (en a.mag b.mag) k og s1) w0)
 refine gz h <| (xb) fun b1 => (xb) fun b2 => (xa) fun b3 => (dr1 (H := [⟨.blk b3 (cI (⟨false, 0⟩ : GI)) 25, [(11, .con (.blk b3 (cI (aF (a.neg != b.neg) (en a.mag b.mag))) 25))]⟩, ⟨_, []⟩, ⟨_, []⟩]) (hob := (oX (h := by exact fun _ => bm (qd nn4 rfl rfl))) <| (oK (iP a.mag b.mag k og za zb)) <| (oK (bL (a.neg != b.neg) (en a.mag b.mag) k og s1)) <| oE)) <| (W) ?_; clear h ac; intro ac wo h
 exact ret h rfl (.cell (v := (vI (aF (a.neg != b.neg) (en a.mag b.mag)))) rfl (i := 0) rfl aa25 zz25 rfl rfl rfl .nil) rfl (h.retP (by unfold ab; rfl) (by unfold ab; exact s2))
def aR (a b : GI) : GI := aF false (Nat.gcd a.mag b.mag)
theorem sA (x y : Nat) : Nat.gcd y (x % y) = Nat.gcd x y := by rw [Nat.gcd_comm x y, Nat.gcd_rec y x, Nat.gcd_comm]
theorem gY (a : GI) (b : GI) (k : Nat) (hk : k ≤ 40) (za : SzI k a) (zb : SzI k b) (w0 : World) : Calls Tryz.prog 160 #[(vI a), (vI b)] w0 (dA w0 (vI (aR a b)) (SzI k (aR a b))) := by
 refine enter (N := 45) (args := [(vI a), (vI b)]) Tryz.func160 rfl rfl ?_; intro ac h
 refine gz h <| (xb) fun b1 => (xb) fun b2 => (xa) fun b3 => (dr0 (hob := oE)) <| (W) ?_; clear h ac; intro ac wo h
 refine wp_loop_ghost (fun n_ a_ w_ => ∃ (x : Nat) (y : Nat), n_ = 1 * y ∧ (Nat.gcd x y = Nat.gcd a.mag b.mag) ∧ (SzB k x) ∧ (SzB k y) ∧ St w0 45 [(4, (ptr b3 0)), (5, (.string (bs x))), (6, (.string (bs y)))] [.blk b3 (cI (⟨false, 0⟩ : GI)) 25, .blk b2 (cI b) 25, .blk b1 (cI a) 25] a_ w_) _ ⟨a.mag, b.mag, rfl, rfl, za, zb, h.re [0, 1, 2]⟩ ?_
 clear h ac wo; rintro _ ac wo ⟨x, y, rfl, hg, zx, zy, h⟩
 refine gz h <| (ai) ?_ ?_ <;> clear h ac wo <;> intro ac wo h hc1
 ·
  have hy : y ≠ 0 := by simpa using hc1
  refine gz h <| (xk (fo x y)) <| (ai) ?_ ?_ <;> clear h ac wo <;> intro ac wo h hc2
  ·
   obtain ⟨ha6, hb6, hw⟩ := jD hc2
   simp only [hw] at h
   refine gz h <| (W) ?_; clear h ac wo; intro ac wo h
   refine wp_loop_ghost (fun n_ a_ w_ => ∃ (u : Nat) (v : Nat), n_ = 1 * v ∧ (Nat.gcd u v = Nat.gcd a.mag b.mag) ∧ (SzB k u) ∧ (SzB k v) ∧ (u < 18446744073709551616 ∧ v < 18446744073709551616) ∧ St w0 45 [(4, (ptr b3 0)), (7, (.int .u64 ((u : Nat) : Int))), (8, (.int .u64 ((v : Nat) : Int)))] [.blk b3 (cI (⟨false, 0⟩ : GI)) 25, .blk b2 (cI b) 25, .blk b1 (cI a) 25] a_ w_) _ ⟨x, y, rfl, hg, zx, zy, ⟨ha6, hb6⟩, h.re [0, 1, 2]⟩ ?_
   clear h ac wo; rintro _ ac wo ⟨u, v, rfl, hgu, zu, zv, hul, h⟩
   refine gz h <| (ai) ?_ ?_ <;> clear h ac wo <;> intro ac wo h hc3
   ·
    have hv : v ≠ 0 := by have := hc3; simp at this; omega
    refine gz h <| (dr0 (hob := (oX (h := by exact fun _ => bm (rb rfl rfl (r := ((u % v : Nat) : Int)) og (by rw [Int.tmod_eq_emod_of_nonneg og]; rfl)))) <| oE)) <| (W) ?_; clear h ac wo; intro ac wo h
    exact aK ⟨_, (by have := Nat.mod_lt u (show v > 0 by omega); omega), v, (u % v), rfl, (by rw [sA]; exact hgu), zv, (fJ zu (Nat.mod_le _ _)), ⟨hul.2, by have := Nat.mod_lt u (show v > 0 by omega); omega⟩, h.re [0, 1, 2]⟩
   ·
    have hv : v = 0 := by have := hc3; simp at this; omega
    subst hv
    have c1 := bL false (bt u) k og zu
    have s1 := an (c1 w0)
    have hd : aR a b = (aF false (bt u)) := (by rw [Nat.gcd_zero_right] at hgu; unfold aR; rw [← hgu]; rfl)
    refine gz h <| (xk (cM u hul.1)) <| (xk c1) <| (W) ?_; clear h ac wo; intro ac wo h
    exact ret h rfl (.cell (v := (vI (aF false (bt u)))) rfl (i := 0) rfl aa25 zz25 rfl rfl rfl .nil) rfl (h.retP (by rw [hd] <;> rfl) (by rw [hd]; exact s1))
  ·
   have c2 := gW x y k og zx zy og
   have s2 := an (c2 w0)
   refine gz h <| (xk c2) <| (W) ?_; clear h ac wo; intro ac wo h
   exact aK ⟨_, (by have := Nat.mod_lt x (show y > 0 by omega); omega), y, (x % y), rfl, (by rw [sA]; exact hg), zy, (fJ zx (Nat.mod_le _ _)), h.re [0, 1, 2]⟩
 ·
  have hy : y = 0 := by simpa using hc1
  subst hy
  have c3 := bL false x k og zx
  have s3 := an (c3 w0)
  have hd : aR a b = (aF false x) := (by rw [Nat.gcd_zero_right] at hg; unfold aR; rw [← hg])
  refine gz h <| (xk c3) <| (W) ?_; clear h ac wo; intro ac wo h
  exact ret h rfl (.cell (v := (vI (aF false x))) rfl (i := 0) rfl aa25 zz25 rfl rfl rfl .nil) rfl (h.retP (by rw [hd] <;> rfl) (by rw [hd]; exact s3))
def aJ (a : GI) (b : GI) : GI × GI × Int :=
 bif (decide (b.mag = 0)) then
  ((⟨false, 0⟩ : GI), (⟨false, 0⟩ : GI), 6)
 else
  bif (a.neg && (!(decide (((bo a.mag b.mag).2) = 0)))) then
   ((aF (a.neg != b.neg) (dr ((bo a.mag b.mag).1) 1)), (aF false (cK b.mag ((bo a.mag b.mag).2))), 0)
  else
   ((aF (a.neg != b.neg) ((bo a.mag b.mag).1)), (aF false ((bo a.mag b.mag).2)), 0)
theorem fg (a : GI) (b : GI) (k : Nat) (hk : (k + 1) ≤ 40) (za : SzI (k + 1) a) (zb : SzI (k + 1) b) (w0 : World) : Calls Tryz.prog 253 #[(vI a), (vI b)] w0 (dA w0 (.tuple #[(vI ((aJ a b).1)), (vI ((aJ a b).2.1)), (.int .i64 ((aJ a b).2.2))]) (SzI k ((aJ a b).1) ∧ SzI k ((aJ a b).2.1))) := by
 refine enter (N := 43) (args := [(vI a), (vI b)]) Tryz.func253 rfl rfl ?_; intro ac h
 refine gz h <| (xb) fun b1 => (xb) fun b2 => (xa) fun b3 => (xa) fun b4 => (ai) ?_ ?_ <;> clear h ac <;> intro ac wo h hc1
 ·
  have hd1 := of_decide_eq_true hc1
  have hd : aJ a b = ((⟨false, 0⟩ : GI), (⟨false, 0⟩ : GI), 6) := pt
  refine gz h <| (xo (hs := by exact bG nD exs rfl (v := (vI (⟨false, 0⟩ : GI))) rfl)) <| (xo (hs := by exact bG nD exs rfl (v := (vI (⟨false, 0⟩ : GI))) rfl)) <| (W) ?_; clear h ac wo; intro ac wo h
  exact ret h rfl (.cell (v := (vI (⟨false, 0⟩ : GI))) rfl (i := 1) rfl aa25 zz25 rfl rfl rfl (.cell (v := (vI (⟨false, 0⟩ : GI))) rfl (i := 0) rfl aa25 zz25 rfl rfl rfl (.tmp rfl .nil))) rfl (h.retP (by rw [hd] <;> rfl) (by rw [hd]; exact ⟨(cG 0 (by decide) og), (cG 0 (by decide) og)⟩))
 ·
  have hd1 := of_decide_eq_false hc1
  have c1 := gW a.mag b.mag (k + 1) og za zb og
  have s1 := an (c1 w0)
  refine gz h <| (xk c1) <| (ai) ?_ ?_ <;> clear h ac wo <;> intro ac wo h hc2
  ·
   have s2 := an ((fU ((bo a.mag b.mag).1) 1 k og s1.1 (cG 1 (by decide) og)) w0)
   have s3 := an ((fu b.mag ((bo a.mag b.mag).2) (k + 1) og zb s1.2 (Nat.le_of_lt (Nat.mod_lt _ og))) w0)
   refine gz h <| (dr0 (hob := (oK (fU ((bo a.mag b.mag).1) 1 k og s1.1 (cG 1 (by decide) og))) <| (oK (fu b.mag ((bo a.mag b.mag).2) (k + 1) og zb s1.2 (Nat.le_of_lt (Nat.mod_lt _ og)))) <| oE)) <| (W) ?_; clear h ac wo; intro ac wo h
   have c4 := bL (a.neg != b.neg) (dr ((bo a.mag b.mag).1) 1) k og s2
   have s4 := an (c4 w0)
   have c5 := bL false (cK b.mag ((bo a.mag b.mag).2)) (k + 1) og s3
   have s5 := an (c5 w0)
   have hd : aJ a b = ((aF (a.neg != b.neg) (dr ((bo a.mag b.mag).1) 1)), (aF false (cK b.mag ((bo a.mag b.mag).2))), 0) := pt
   refine gz h <| (xo (hs := by exact qd nn4 rfl rfl)) <| (xk c4) <| (xk c5) <| (W) ?_; clear h ac wo; intro ac wo h
   exact ret h rfl (.cell (v := (vI (aF (a.neg != b.neg) (dr ((bo a.mag b.mag).1) 1)))) rfl (i := 1) rfl aa25 zz25 rfl rfl rfl (.cell (v := (vI (aF false (cK b.mag ((bo a.mag b.mag).2))))) rfl (i := 0) rfl aa25 zz25 rfl rfl rfl (.tmp rfl .nil))) rfl (h.retP (by rw [hd] <;> rfl) (by rw [hd]; exact ⟨s4, (fp s5 og)⟩))
  ·
   have c6 := bL (a.neg != b.neg) ((bo a.mag b.mag).1) (k + 1) og s1.1
   have s6 := an (c6 w0)
   have c7 := bL false ((bo a.mag b.mag).2) (k + 1) og s1.2
   have s7 := an (c7 w0)
   have hd : aJ a b = ((aF (a.neg != b.neg) ((bo a.mag b.mag).1)), (aF false ((bo a.mag b.mag).2)), 0) := pt
   refine gz h <| (xo (hs := by exact qd nn4 rfl rfl)) <| (xk c6) <| (xk c7) <| (W) ?_; clear h ac wo; intro ac wo h
   exact ret h rfl (.cell (v := (vI (aF (a.neg != b.neg) ((bo a.mag b.mag).1)))) rfl (i := 1) rfl aa25 zz25 rfl rfl rfl (.cell (v := (vI (aF false ((bo a.mag b.mag).2)))) rfl (i := 0) rfl aa25 zz25 rfl rfl rfl (.tmp rfl .nil))) rfl (h.retP (by rw [hd] <;> rfl) (by rw [hd]; exact ⟨(fp s6 og), (fp s7 og)⟩))
def rational_one  : GI :=
 (ax 1)
theorem d9 (k : Nat) (hk : k ≤ 40) (w0 : World) : Calls Tryz.prog 159 #[] w0 (dA w0 (vI rational_one) (SzI k rational_one)) := by
 refine enter (N := 2) (args := []) Tryz.func159 rfl rfl ?_; intro ac h
 have c1 := em 1 k og  og
 have s1 := an (c1 w0)
 refine gz h <| (xa) fun b1 => (xk c1) <| (W) ?_; clear h ac; intro ac wo h
 exact ret h rfl (.cell (v := (vI (ax 1))) rfl (i := 0) rfl aa25 zz25 rfl rfl rfl .nil) rfl (h.retP (by unfold rational_one; rfl) (by unfold rational_one; exact s1))
def ah (n : Int) : GQ :=
 (⟨(ax n), (⟨false, 0⟩ : GI)⟩ : GQ)
theorem bN (n : Int) (k : Nat) (hk : k ≤ 40) (hn : -9223372036854775808 ≤ n ∧ n ≤ 9223372036854775807) (w0 : World) : Calls Tryz.prog 85 #[(.int .i64 n)] w0 (dA w0 (vQ (ah n)) (SzQ k (ah n))) := by
 refine enter (N := 6) (args := [(.int .i64 n)]) Tryz.func85 rfl rfl ?_; intro ac h
 have c1 := em n k og  og
 have s1 := an (c1 w0)
 refine gz h <| (xa) fun b1 => (xk c1) <| (xo (hs := by exact bG m7 exs rfl (v := (vQ (⟨(ax n), (⟨false, 0⟩ : GI)⟩ : GQ))) rfl)) <| (W) ?_; clear h ac; intro ac wo h
 exact ret h rfl (.cell (v := (vQ (⟨(ax n), (⟨false, 0⟩ : GI)⟩ : GQ))) rfl (i := 0) rfl aa27 zz27 rfl rfl rfl .nil) rfl (h.retP (by unfold ah; rfl) (by unfold ah; exact ⟨s1, (cG 0 (by decide) og)⟩))
def aa (a : GQ) : GI :=
 bif (decide (a.den = (⟨false, 0⟩ : GI))) then
  rational_one
 else
  a.den
theorem bq (a : GQ) (k : Nat) (hk : k ≤ 40) (za : SzQ k a) (w0 : World) : Calls Tryz.prog 98 #[(vQ a)] w0 (dA w0 (vI (aa a)) (SzI k (aa a))) := by
 refine enter (N := 10) (args := [(vQ a)]) Tryz.func98 rfl rfl ?_; intro ac h
 refine gz h <| (xb) fun b1 => (xa) fun b2 => (xo (hs := by exact bG nD exs rfl (v := (vI (⟨false, 0⟩ : GI))) rfl)) <| (ai) ?_ ?_ <;> clear h ac <;> intro ac wo h hc1
 ·
  have hd1 := of_decide_eq_true hc1
  have c1 := d9  k og
  have s1 := an (c1 w0)
  have hd : aa a = rational_one := pt
  refine gz h <| (xk c1) <| (W) ?_; clear h ac wo; intro ac wo h
  exact ret h rfl (.cell (v := (vI rational_one)) rfl (i := 0) rfl aa25 zz25 rfl rfl rfl .nil) rfl (h.retP (by rw [hd] <;> rfl) (by rw [hd]; exact s1))
 ·
  have hd1 := of_decide_eq_false hc1
  have hd : aa a = a.den := pt
  refine gz h <| (W) ?_; clear h ac wo; intro ac wo h
  exact ret h rfl (.cell (v := (vI a.den)) rfl (i := 0) rfl aa25 zz25 rfl rfl rfl .nil) rfl (h.retP (by rw [hd] <;> rfl) (by rw [hd]; exact za.2))
def aE (a : GI) (b : GI) : GI :=
 (aJ a b).1
theorem dh (a : GI) (b : GI) (k : Nat) (hk : (k + 1) ≤ 40) (za : SzI (k + 1) a) (zb : SzI (k + 1) b) (w0 : World) : Calls Tryz.prog 192 #[(vI a), (vI b)] w0 (dA w0 (vI (aE a b)) (SzI k (aE a b))) := by
 refine enter (N := 16) (args := [(vI a), (vI b)]) Tryz.func192 rfl rfl ?_; intro ac h
 have c1 := fg a b k og za zb
 have s1 := an (c1 w0)
 refine gz h <| (xb) fun b1 => (xb) fun b2 => (xa) fun b3 => (xk c1) <| (xa) fun b4 => (xa) fun b5 => (W) ?_; clear h ac; intro ac wo h
 exact ret h rfl (.cell (v := (vI ((aJ a b).1))) rfl (i := 2) rfl aa25 zz25 rfl rfl rfl .nil) rfl (h.retP (by unfold aE; rfl) (by unfold aE; exact s1.1))
def a8 (num : GI) (den : GI) : GQ :=
 bif (decide ((bR den) < 0)) then
  bif (decide ((aE (ao den) (aR (ao num) (ao den))) = rational_one)) then
   (⟨(aE (ao num) (aR (ao num) (ao den))), (⟨false, 0⟩ : GI)⟩ : GQ)
  else
   (⟨(aE (ao num) (aR (ao num) (ao den))), (aE (ao den) (aR (ao num) (ao den)))⟩ : GQ)
 else
  bif (decide ((aE den (aR num den)) = rational_one)) then
   (⟨(aE num (aR num den)), (⟨false, 0⟩ : GI)⟩ : GQ)
  else
   (⟨(aE num (aR num den)), (aE den (aR num den))⟩ : GQ)
theorem dJ (num : GI) (den : GI) (k : Nat) (hk : (k + 1) ≤ 40) (znum : SzI (k + 1) num) (zden : SzI (k + 1) den) (w0 : World) : Calls Tryz.prog 95 #[(vI num), (vI den)] w0 (dA w0 (vQ (a8 num den)) (SzQ k (a8 num den))) := by
 refine enter (N := 29) (args := [(vI num), (vI den)]) Tryz.func95 rfl rfl ?_; intro ac h
 have p2 := an ((dG den) w0)
 refine gz h <| (xb) fun b1 => (xb) fun b2 => (xa) fun b3 => (xk (dG den)) <| (ai) ?_ ?_ <;> clear h ac <;> intro ac wo h hc1
 ·
  have hd1 := of_decide_eq_true hc1
  have s3 := an ((dK num (k + 1) og znum) w0)
  have s4 := an ((dK den (k + 1) og zden) w0)
  refine gz h <| (dr1 (H := [⟨_, []⟩, ⟨.blk b2 (cI den) 25, [(5, .con (.blk b2 (cI (ao den)) 25))]⟩, ⟨.blk b1 (cI num) 25, [(4, .con (.blk b1 (cI (ao num)) 25))]⟩]) (hob := (oK (dK num (k + 1) og znum)) <| (oK (dK den (k + 1) og zden)) <| oE)) <| (W) ?_; clear h ac wo; intro ac wo h
  have c5 := gY (ao num) (ao den) (k + 1) og s3 s4
  have s5 := an (c5 w0)
  have s6 := an ((dh (ao num) (aR (ao num) (ao den)) k og s3 s5) w0)
  have s7 := an ((dh (ao den) (aR (ao num) (ao den)) k og s4 s5) w0)
  refine gz h <| (xk c5) <| (xa) fun b4 => (dr1 (H := [⟨_, []⟩, ⟨_, []⟩, ⟨.blk b2 (cI (ao den)) 25, [(7, .con (.blk b2 (cI (aE (ao den) (aR (ao num) (ao den)))) 25))]⟩, ⟨.blk b1 (cI (ao num)) 25, [(6, .con (.blk b1 (cI (aE (ao num) (aR (ao num) (ao den)))) 25))]⟩]) (hob := (oK (dh (ao num) (aR (ao num) (ao den)) k og s3 s5)) <| (oK (dh (ao den) (aR (ao num) (ao den)) k og s4 s5)) <| oE)) <| (W) ?_; clear h ac wo; intro ac wo h
  have s8 := an ((d9  (k + 1) og ) w0)
  refine gz h <| (dr0 (hob := (oK (d9  (k + 1) og )) <| oE)) <| (ai) ?_ ?_ <;> clear h ac wo <;> intro ac wo h hc2
  ·
   have hd2 := of_decide_eq_true hc2
   have hd : a8 num den = (⟨(aE (ao num) (aR (ao num) (ao den))), (⟨false, 0⟩ : GI)⟩ : GQ) := pt
   refine gz h <| (xo (hs := by exact bG nD exs rfl (v := (vI (⟨false, 0⟩ : GI))) rfl)) <| (xo (hs := by exact bG m7 exs rfl (v := (vQ (⟨(aE (ao num) (aR (ao num) (ao den))), (⟨false, 0⟩ : GI)⟩ : GQ))) rfl)) <| (W) ?_; clear h ac wo; intro ac wo h
   exact ret h rfl (.cell (v := (vQ (⟨(aE (ao num) (aR (ao num) (ao den))), (⟨false, 0⟩ : GI)⟩ : GQ))) rfl (i := 1) rfl aa27 zz27 rfl rfl rfl .nil) rfl (h.retP (by rw [hd] <;> rfl) (by rw [hd]; exact ⟨s6, (cG 0 (by decide) og)⟩))
  ·
   have hd2 := of_decide_eq_false hc2
   have hd : a8 num den = (⟨(aE (ao num) (aR (ao num) (ao den))), (aE (ao den) (aR (ao num) (ao den)))⟩ : GQ) := pt
   refine gz h <| (xo (hs := by exact bG m7 exs rfl (v := (vQ (⟨(aE (ao num) (aR (ao num) (ao den))), (aE (ao den) (aR (ao num) (ao den)))⟩ : GQ))) rfl)) <| (W) ?_; clear h ac wo; intro ac wo h
   exact ret h rfl (.cell (v := (vQ (⟨(aE (ao num) (aR (ao num) (ao den))), (aE (ao den) (aR (ao num) (ao den)))⟩ : GQ))) rfl (i := 1) rfl aa27 zz27 rfl rfl rfl .nil) rfl (h.retP (by rw [hd] <;> rfl) (by rw [hd]; exact ⟨s6, s7⟩))
 ·
  have hd1 := of_decide_eq_false hc1
  have c9 := gY num den (k + 1) og znum zden
  have s9 := an (c9 w0)
  have s10 := an ((dh num (aR num den) k og znum s9) w0)
  have s11 := an ((dh den (aR num den) k og zden s9) w0)
  refine gz h <| (xk c9) <| (xa) fun b5 => (dr1 (H := [⟨_, []⟩, ⟨_, []⟩, ⟨.blk b2 (cI den) 25, [(7, .con (.blk b2 (cI (aE den (aR num den))) 25))]⟩, ⟨.blk b1 (cI num) 25, [(6, .con (.blk b1 (cI (aE num (aR num den))) 25))]⟩]) (hob := (oK (dh num (aR num den) k og znum s9)) <| (oK (dh den (aR num den) k og zden s9)) <| oE)) <| (W) ?_; clear h ac wo; intro ac wo h
  have s12 := an ((d9  (k + 1) og ) w0)
  refine gz h <| (dr0 (hob := (oK (d9  (k + 1) og )) <| oE)) <| (ai) ?_ ?_ <;> clear h ac wo <;> intro ac wo h hc3
  ·
   have hd3 := of_decide_eq_true hc3
   have hd : a8 num den = (⟨(aE num (aR num den)), (⟨false, 0⟩ : GI)⟩ : GQ) := pt
   refine gz h <| (xo (hs := by exact bG nD exs rfl (v := (vI (⟨false, 0⟩ : GI))) rfl)) <| (xo (hs := by exact bG m7 exs rfl (v := (vQ (⟨(aE num (aR num den)), (⟨false, 0⟩ : GI)⟩ : GQ))) rfl)) <| (W) ?_; clear h ac wo; intro ac wo h
   exact ret h rfl (.cell (v := (vQ (⟨(aE num (aR num den)), (⟨false, 0⟩ : GI)⟩ : GQ))) rfl (i := 1) rfl aa27 zz27 rfl rfl rfl .nil) rfl (h.retP (by rw [hd] <;> rfl) (by rw [hd]; exact ⟨s10, (cG 0 (by decide) og)⟩))
  ·
   have hd3 := of_decide_eq_false hc3
   have hd : a8 num den = (⟨(aE num (aR num den)), (aE den (aR num den))⟩ : GQ) := pt
   refine gz h <| (xo (hs := by exact bG m7 exs rfl (v := (vQ (⟨(aE num (aR num den)), (aE den (aR num den))⟩ : GQ))) rfl)) <| (W) ?_; clear h ac wo; intro ac wo h
   exact ret h rfl (.cell (v := (vQ (⟨(aE num (aR num den)), (aE den (aR num den))⟩ : GQ))) rfl (i := 1) rfl aa27 zz27 rfl rfl rfl .nil) rfl (h.retP (by rw [hd] <;> rfl) (by rw [hd]; exact ⟨s10, s11⟩))
def aO (a : GQ) (b : GQ) : GI × GI × GI :=
 bif (decide (a.den = b.den)) then
  (a.num, b.num, (aa a))
 else
  ((ab a.num (aa b)), (ab b.num (aa a)), (ab (aa a) (aa b)))
theorem iU (a : GQ) (b : GQ) (k : Nat) (hk : (k + 1) ≤ 40) (za : SzQ (k + 1) a) (zb : SzQ (k + 1) b) (w0 : World) : Calls Tryz.prog 94 #[(vQ a), (vQ b)] w0 (dA w0 (.tuple #[(vI ((aO a b).1)), (vI ((aO a b).2.1)), (vI ((aO a b).2.2))]) (SzI k ((aO a b).1) ∧ SzI k ((aO a b).2.1) ∧ SzI k ((aO a b).2.2))) := by
 refine enter (N := 33) (args := [(vQ a), (vQ b)]) Tryz.func94 rfl rfl ?_; intro ac h
 refine gz h <| (xb) fun b1 => (xb) fun b2 => (xa) fun b3 => (xa) fun b4 => (xa) fun b5 => (ai) ?_ ?_ <;> clear h ac <;> intro ac wo h hc1
 ·
  have hd1 := of_decide_eq_true hc1
  refine gz h <| (W) ?_; clear h ac wo; intro ac wo h
  have s1 := an ((bq a (k + 1) og za) w0)
  have hd : aO a b = (a.num, b.num, (aa a)) := pt
  refine gz h <| (dr1 (H := [⟨.blk b5 (cI (⟨false, 0⟩ : GI)) 25, [(8, .con (.blk b5 (cI (aa a)) 25))]⟩, ⟨.blk b4 (cI (⟨false, 0⟩ : GI)) 25, [(7, .con (.blk b4 (cI b.num) 25))]⟩, ⟨.blk b3 (cI (⟨false, 0⟩ : GI)) 25, [(6, .con (.blk b3 (cI a.num) 25))]⟩, ⟨_, []⟩, ⟨_, []⟩]) (hob := (oK (bq a (k + 1) og za)) <| oE)) <| (W) ?_; clear h ac wo; intro ac wo h
  exact ret h rfl (.cell (v := (vI a.num)) rfl (i := 2) rfl aa25 zz25 rfl rfl rfl (.cell (v := (vI b.num)) rfl (i := 1) rfl aa25 zz25 rfl rfl rfl (.cell (v := (vI (aa a))) rfl (i := 0) rfl aa25 zz25 rfl rfl rfl .nil))) rfl (h.retP (by rw [hd] <;> rfl) (by rw [hd]; exact ⟨(cw za og).1, (cw zb og).1, (fp s1 og)⟩))
 ·
  have hd1 := of_decide_eq_false hc1
  refine gz h <| (W) ?_; clear h ac wo; intro ac wo h
  have s2 := an ((bq b (k + 1) og zb) w0)
  have s3 := an ((bF a.num (aa b) k og za.1 s2) w0)
  have s4 := an ((bq a (k + 1) og za) w0)
  have s5 := an ((bF b.num (aa a) k og zb.1 s4) w0)
  have s6 := an ((bq a (k + 1) og za) w0)
  have s7 := an ((bq b (k + 1) og zb) w0)
  have s8 := an ((bF (aa a) (aa b) k og s6 s7) w0)
  have hd : aO a b = ((ab a.num (aa b)), (ab b.num (aa a)), (ab (aa a) (aa b))) := pt
  refine gz h <| (dr1 (H := [⟨.blk b5 (cI (⟨false, 0⟩ : GI)) 25, [(17, .con (.blk b5 (cI (ab (aa a) (aa b))) 25))]⟩, ⟨.blk b4 (cI (⟨false, 0⟩ : GI)) 25, [(16, .con (.blk b4 (cI (ab b.num (aa a))) 25))]⟩, ⟨.blk b3 (cI (⟨false, 0⟩ : GI)) 25, [(15, .con (.blk b3 (cI (ab a.num (aa b))) 25))]⟩, ⟨_, []⟩, ⟨_, []⟩]) (hob := (oK (bq b (k + 1) og zb)) <| (oK (bF a.num (aa b) k og za.1 s2)) <| (oK (bq a (k + 1) og za)) <| (oK (bF b.num (aa a) k og zb.1 s4)) <| (oK (bq a (k + 1) og za)) <| (oK (bq b (k + 1) og zb)) <| (oK (bF (aa a) (aa b) k og s6 s7)) <| oE)) <| (W) ?_; clear h ac wo; intro ac wo h
  exact ret h rfl (.cell (v := (vI (ab a.num (aa b)))) rfl (i := 2) rfl aa25 zz25 rfl rfl rfl (.cell (v := (vI (ab b.num (aa a)))) rfl (i := 1) rfl aa25 zz25 rfl rfl rfl (.cell (v := (vI (ab (aa a) (aa b)))) rfl (i := 0) rfl aa25 zz25 rfl rfl rfl .nil))) rfl (h.retP (by rw [hd] <;> rfl) (by rw [hd]; exact ⟨s3, s5, s8⟩))
def aC (a : GQ) (b : GQ) : GQ :=
 (a8 (aI ((aO a b).1) ((aO a b).2.1)) ((aO a b).2.2))
theorem bW (a : GQ) (b : GQ) (k : Nat) (hk : (k + 3) ≤ 40) (za : SzQ (k + 3) a) (zb : SzQ (k + 3) b) (w0 : World) : Calls Tryz.prog 20 #[(vQ a), (vQ b)] w0 (dA w0 (vQ (aC a b)) (SzQ k (aC a b))) := by
 refine enter (N := 20) (args := [(vQ a), (vQ b)]) Tryz.func20 rfl rfl ?_; intro ac h
 have c1 := iU a b (k + 2) og za zb
 have s1 := an (c1 w0)
 have s2 := an ((eV ((aO a b).1) ((aO a b).2.1) (k + 1) og s1.1 s1.2.1) w0)
 have s3 := an ((dJ (aI ((aO a b).1) ((aO a b).2.1)) ((aO a b).2.2) k og s2 (fp s1.2.2 og)) w0)
 refine gz h <| (xb) fun b1 => (xb) fun b2 => (xa) fun b3 => (xk c1) <| (xa) fun b4 => (xa) fun b5 => (xa) fun b6 => (dr1 (H := [⟨_, []⟩, ⟨_, []⟩, ⟨_, []⟩, ⟨.blk b3 (cQ oQ) 27, [(5, .con (.blk b3 (cQ (a8 (aI ((aO a b).1) ((aO a b).2.1)) ((aO a b).2.2))) 27))]⟩, ⟨_, []⟩, ⟨_, []⟩]) (hob := (oK (eV ((aO a b).1) ((aO a b).2.1) (k + 1) og s1.1 s1.2.1)) <| (oK (dJ (aI ((aO a b).1) ((aO a b).2.1)) ((aO a b).2.2) k og s2 (fp s1.2.2 og))) <| oE)) <| (W) ?_; clear h ac; intro ac wo h
 exact ret h rfl (.cell (v := (vQ (a8 (aI ((aO a b).1) ((aO a b).2.1)) ((aO a b).2.2)))) rfl (i := 3) rfl aa27 zz27 rfl rfl rfl .nil) rfl (h.retP (by unfold aC; rfl) (by unfold aC; exact s3))
def aU (a : GQ) : GQ :=
 (⟨(ao a.num), a.den⟩ : GQ)
theorem eG (a : GQ) (k : Nat) (hk : k ≤ 40) (za : SzQ k a) (w0 : World) : Calls Tryz.prog 63 #[(vQ a)] w0 (dA w0 (vQ (aU a)) (SzQ k (aU a))) := by
 refine enter (N := 9) (args := [(vQ a)]) Tryz.func63 rfl rfl ?_; intro ac h
 have s1 := an ((dK a.num k og za.1) w0)
 refine gz h <| (xb) fun b1 => (xa) fun b2 => (dr1 (H := [⟨.blk b2 (cQ oQ) 27, [(6, .con (.blk b2 (cQ (⟨(ao a.num), a.den⟩ : GQ)) 27))]⟩, ⟨_, []⟩]) (hob := (oK (dK a.num k og za.1)) <| (oX (h := by exact fun _ => bm (bG m7 exs rfl (v := (vQ (⟨(ao a.num), a.den⟩ : GQ))) rfl))) <| oE)) <| (W) ?_; clear h ac; intro ac wo h
 exact ret h rfl (.cell (v := (vQ (⟨(ao a.num), a.den⟩ : GQ))) rfl (i := 0) rfl aa27 zz27 rfl rfl rfl .nil) rfl (h.retP (by unfold aU; rfl) (by unfold aU; exact ⟨s1, za.2⟩))
def aj (a : GQ) (b : GQ) : GQ :=
 (aC a (aU b))
theorem cr (a : GQ) (b : GQ) (k : Nat) (hk : (k + 3) ≤ 40) (za : SzQ (k + 3) a) (zb : SzQ (k + 3) b) (w0 : World) : Calls Tryz.prog 22 #[(vQ a), (vQ b)] w0 (dA w0 (vQ (aj a b)) (SzQ k (aj a b))) := by
 refine enter (N := 9) (args := [(vQ a), (vQ b)]) Tryz.func22 rfl rfl ?_; intro ac h
 have s1 := an ((eG b (k + 3) og zb) w0)
 have s2 := an ((bW a (aU b) k og za s1) w0)
 refine gz h <| (xb) fun b1 => (xb) fun b2 => (xa) fun b3 => (dr1 (H := [⟨.blk b3 (cQ oQ) 27, [(4, .con (.blk b3 (cQ (aC a (aU b))) 27))]⟩, ⟨_, []⟩, ⟨_, []⟩]) (hob := (oK (eG b (k + 3) og zb)) <| (oK (bW a (aU b) k og za s1)) <| oE)) <| (W) ?_; clear h ac; intro ac wo h
 exact ret h rfl (.cell (v := (vQ (aC a (aU b)))) rfl (i := 0) rfl aa27 zz27 rfl rfl rfl .nil) rfl (h.retP (by unfold aj; rfl) (by unfold aj; exact s2))
def ak (a : GQ) (b : GQ) : GQ :=
 (a8 (ab a.num b.num) (ab (aa a) (aa b)))
theorem bh (a : GQ) (b : GQ) (k : Nat) (hk : (k + 2) ≤ 40) (za : SzQ (k + 2) a) (zb : SzQ (k + 2) b) (w0 : World) : Calls Tryz.prog 21 #[(vQ a), (vQ b)] w0 (dA w0 (vQ (ak a b)) (SzQ k (ak a b))) := by
 refine enter (N := 16) (args := [(vQ a), (vQ b)]) Tryz.func21 rfl rfl ?_; intro ac h
 have s1 := an ((bF a.num b.num (k + 1) og za.1 zb.1) w0)
 have s2 := an ((bq a (k + 2) og za) w0)
 have s3 := an ((bq b (k + 2) og zb) w0)
 have s4 := an ((bF (aa a) (aa b) (k + 1) og s2 s3) w0)
 have s5 := an ((dJ (ab a.num b.num) (ab (aa a) (aa b)) k og s1 s4) w0)
 refine gz h <| (xb) fun b1 => (xb) fun b2 => (xa) fun b3 => (dr1 (H := [⟨.blk b3 (cQ oQ) 27, [(11, .con (.blk b3 (cQ (a8 (ab a.num b.num) (ab (aa a) (aa b)))) 27))]⟩, ⟨_, []⟩, ⟨_, []⟩]) (hob := (oK (bF a.num b.num (k + 1) og za.1 zb.1)) <| (oK (bq a (k + 2) og za)) <| (oK (bq b (k + 2) og zb)) <| (oK (bF (aa a) (aa b) (k + 1) og s2 s3)) <| (oK (dJ (ab a.num b.num) (ab (aa a) (aa b)) k og s1 s4)) <| oE)) <| (W) ?_; clear h ac; intro ac wo h
 exact ret h rfl (.cell (v := (vQ (a8 (ab a.num b.num) (ab (aa a) (aa b))))) rfl (i := 0) rfl aa27 zz27 rfl rfl rfl .nil) rfl (h.retP (by unfold ak; rfl) (by unfold ak; exact s5))
def aw (a : GQ) : Int :=
 (bR a.num)
theorem cp (a : GQ) (w0 : World) : Calls Tryz.prog 30 #[(vQ a)] w0 (dA w0 (.int .i64 (aw a)) ((-1 ≤ (aw a) ∧ (aw a) ≤ 1))) := by
 refine enter (N := 6) (args := [(vQ a)]) Tryz.func30 rfl rfl ?_; intro ac h
 have p2 := an ((dG a.num) w0)
 refine gz h <| (xb) fun b1 => (xk (dG a.num)) <| (W) ?_; clear h ac; intro ac wo h
 exact (rt h) (h.retP (by unfold aw; rfl) (by unfold aw; exact by first | omega | exact eK og og))
def bn (a : GQ) (b : GQ) : Int :=
 bif (decide (a = b)) then
  0
 else
  (df ((aO a b).1) ((aO a b).2.1))
theorem fY (a : GQ) (b : GQ) (k : Nat) (hk : (k + 1) ≤ 40) (za : SzQ (k + 1) a) (zb : SzQ (k + 1) b) (w0 : World) : Calls Tryz.prog 87 #[(vQ a), (vQ b)] w0 (dA w0 (.int .i64 (bn a b)) ((-1 ≤ (bn a b) ∧ (bn a b) ≤ 1))) := by
 refine enter (N := 21) (args := [(vQ a), (vQ b)]) Tryz.func87 rfl rfl ?_; intro ac h
 refine gz h <| (xb) fun b1 => (xb) fun b2 => (ai) ?_ ?_ <;> clear h ac <;> intro ac wo h hc1
 ·
  have hd1 := of_decide_eq_true hc1
  have hd : bn a b = 0 := pt
  refine gz h <| (W) ?_; clear h ac wo; intro ac wo h
  exact (rt h) (h.retP (by rw [hd] <;> rfl) (by rw [hd]; exact by first | omega | exact eK og og))
 ·
  have hd1 := of_decide_eq_false hc1
  have c1 := iU a b k og za zb
  have s1 := an (c1 w0)
  have p3 := an ((fD ((aO a b).1) ((aO a b).2.1) k og s1.1 s1.2.1) w0)
  have hd : bn a b = (df ((aO a b).1) ((aO a b).2.1)) := pt
  refine gz h <| (xk c1) <| (xa) fun b3 => (xa) fun b4 => (xa) fun b5 => (xk (fD ((aO a b).1) ((aO a b).2.1) k og s1.1 s1.2.1)) <| (W) ?_; clear h ac wo; intro ac wo h
  exact (rt h) (h.retP (by rw [hd] <;> rfl) (by rw [hd]; exact by first | omega | exact eK og og))
def aD (c : GQ) : Qd :=
 (⟨c, (⟨(⟨false, 0⟩ : GI), (⟨false, 0⟩ : GI)⟩ : GQ), (⟨(⟨false, 0⟩ : GI), (⟨false, 0⟩ : GI)⟩ : GQ)⟩ : Qd)
theorem jH (c : GQ) (k : Nat) (hk : k ≤ 40) (zc : SzQ k c) (w0 : World) : Calls Tryz.prog 113 #[(vQ c)] w0 (dA w0 (vD (aD c)) (SzD k (aD c))) := by
 refine enter (N := 5) (args := [(vQ c)]) Tryz.func113 rfl rfl ?_; intro ac h
 refine gz h <| (xb) fun b1 => (xa) fun b2 => (xo (hs := by exact bG wt exs rfl (v := (vD (⟨c, oQ, oQ⟩ : Qd))) rfl)) <| (W) ?_; clear h ac; intro ac wo h
 exact ret h rfl (.cell (v := (vD (⟨c, oQ, oQ⟩ : Qd))) rfl (i := 0) rfl Tryz.isAgg53 Tryz.sizeOf53 rfl rfl rfl .nil) rfl (h.retP (by unfold aD; rfl) (by unfold aD; exact ⟨zc, ⟨(cG 0 (by decide) og), (cG 0 (by decide) og)⟩, ⟨(cG 0 (by decide) og), (cG 0 (by decide) og)⟩⟩))
end Go.Sx
