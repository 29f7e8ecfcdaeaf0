/- A part of the proof of movingpointNumbers. -/
import Derived.Test.YtbenbmdkhcfcfaaGreatDoorProg
import Derived.Test.YtbenbmdkhcfcfaaGreatDoorG5
set_option linter.unusedVariables false
set_option linter.unusedSimpArgs false
open Go.Proofs.Tryz renaming isAgg4 → aa4, underlying4 → nn4, isAgg9 → aa9, isAgg25 → aa25, sizeOf25 → zz25, isAgg27 → aa27, sizeOf27 → zz27
namespace Go.Sx
open Go Go.RowKit Go.Proofs
set_option maxRecDepth 100000
set_option maxHeartbeats 40000000
attribute [local irreducible] Code.wp wpList Rd Step ObS Ent
theorem eqi25 : EqIn Tryz.prog 2 25 vI := eqS (c := cI) (fun _ => rfl) Tryz.underlying25 Tryz.stoodInHeld25 fun d x y w hd => by
 refine Eq.trans (eqF (by decide) (eB aa4 rfl w) (eB aa4 rfl w) (eqB nn4 d og _ _ w) (eqF (by decide) (eB aa9 rfl w) (eB aa9 rfl w) (eqBs Tryz.underlying9 d og _ _ w) eqF0)) ?_
 congr 1
 rw [decide_eq_decide]
 cases x; cases y; simp
theorem eqp25 : EqP Tryz.prog 25 vI := EqIn.p (k := 2) rfl (c := fun x => (cI x).toArray) (fun _ => rfl) Tryz.eqGuardType25 eqi25
instance : Ep Tryz.prog 25 GI inferInstance vI := ⟨eqp25⟩
theorem pg : EqIn Tryz.prog 3 27 vQ := eqS (c := cQ) (fun _ => rfl) Tryz.underlying27 Tryz.stoodInHeld27 fun d x y w hd => by
 refine Eq.trans (eqF (by decide) (di aa25 zz25 (v := vI (x.num)) rfl w) (di aa25 zz25 (v := vI (y.num)) rfl w) (eqi25 d _ _ w og) (eqF (by decide) (di aa25 zz25 (v := vI (x.den)) rfl w) (di aa25 zz25 (v := vI (y.den)) rfl w) (eqi25 d _ _ w og) eqF0)) ?_
 congr 1
 rw [decide_eq_decide]
 cases x; cases y; simp
theorem eqp27 : EqP Tryz.prog 27 vQ := EqIn.p (k := 3) rfl (c := fun x => (cQ x).toArray) (fun _ => rfl) Tryz.eqGuardType27 pg
instance : Ep Tryz.prog 27 GQ inferInstance vQ := ⟨eqp27⟩
theorem eqi53 : EqIn Tryz.prog 4 53 vD := eqS (c := cD) (fun _ => rfl) Tryz.underlying53 Tryz.stoodInHeld53 fun d x y w hd => by
 refine Eq.trans (eqF (by decide) (di aa27 zz27 (v := vQ (x.c0)) rfl w) (di aa27 zz27 (v := vQ (y.c0)) rfl w) (pg d _ _ w og) (eqF (by decide) (di aa27 zz27 (v := vQ (x.c1)) rfl w) (di aa27 zz27 (v := vQ (y.c1)) rfl w) (pg d _ _ w og) (eqF (by decide) (di aa27 zz27 (v := vQ (x.c2)) rfl w) (di aa27 zz27 (v := vQ (y.c2)) rfl w) (pg d _ _ w og) eqF0))) ?_
 congr 1
 rw [decide_eq_decide]
 cases x; cases y; simp
theorem eqp53 : EqP Tryz.prog 53 vD := EqIn.p (k := 4) rfl (c := fun x => (cD x).toArray) (fun _ => rfl) Tryz.eqGuardType53 eqi53
instance : Ep Tryz.prog 53 Qd inferInstance vD := ⟨eqp53⟩
theorem eqi71 : EqIn Tryz.prog 4 71 vR := eqS (c := cR) (fun _ => rfl) Tryz.underlying71 Tryz.stoodInHeld71 fun d x y w hd => by
 refine Eq.trans (eqF (by decide) (di aa27 zz27 (v := vQ (x.p)) rfl w) (di aa27 zz27 (v := vQ (y.p)) rfl w) (pg d _ _ w og) (eqF (by decide) (di aa27 zz27 (v := vQ (x.r)) rfl w) (di aa27 zz27 (v := vQ (y.r)) rfl w) (pg d _ _ w og) (eqF (by decide) (eB aa4 rfl w) (eB aa4 rfl w) (eqB nn4 d og _ _ w) eqF0))) ?_
 congr 1
 rw [decide_eq_decide]
 cases x; cases y; simp
theorem eqp71 : EqP Tryz.prog 71 vR := EqIn.p (k := 4) rfl (c := fun x => (cR x).toArray) (fun _ => rfl) Tryz.eqGuardType71 eqi71
instance : Ep Tryz.prog 71 GR inferInstance vR := ⟨eqp71⟩
def cz (a : GI) : Int :=
 bif (decide (a.mag = 0)) then
  0
 else
  bif a.neg then
   (-1)
  else
   1
theorem dX (a : GI) (w0 : World) : Calls Tryz.prog 115 #[(vI a)] w0 (dI w0 (.int .i64 (cz a)) ((-1 ≤ (cz a) ∧ (cz a) ≤ 1))) := by
 refine enter (N := 10) (args := [(vI a)]) Tryz.func115 rfl rfl ?_; intro ac h
 refine gz h <| (xb) fun b1 => (ai) ?_ ?_ <;> clear h ac <;> intro ac wo h hc1
 ·
  have hd1 := of_decide_eq_true hc1
  have hd : cz a = 0 := pt
  refine gz h <| (W) ?_; clear h ac wo; intro ac wo h
  exact (rt h) (h.retP (by rw [hd] <;> rfl) (by rw [hd]; exact by first | omega | exact fw og og))
 ·
  have hd1 := of_decide_eq_false hc1
  refine gz h <| (ai) ?_ ?_ <;> clear h ac wo <;> intro ac wo h hc2
  ·
   have hd : cz a = (-1) := pt
   refine gz h <| (W) ?_; clear h ac wo; intro ac wo h
   exact (rt h) (h.retP (by rw [hd] <;> rfl) (by rw [hd]; exact by first | omega | exact fw og og))
  ·
   have hd : cz a = 1 := pt
   refine gz h <| (W) ?_; clear h ac wo; intro ac wo h
   exact (rt h) (h.retP (by rw [hd] <;> rfl) (by rw [hd]; exact by first | omega | exact fw og og))
def aq (a : GI) : GI :=
 (aH (!a.neg) a.mag)
theorem d7 (a : GI) (k : Nat) (hk : k ≤ 40) (za : SzI k a) (w0 : World) : Calls Tryz.prog 161 #[(vI a)] w0 (dI w0 (vI (aq a)) (SzI k (aq a))) := by
 refine enter (N := 9) (args := [(vI a)]) Tryz.func161 rfl rfl ?_; intro ac h
 have c1 := bW (!a.neg) a.mag k og za
 have s1 := ao (c1 w0)
 refine gz h <| (xb) fun b1 => (xa) fun b2 => (xk c1) <| (W) ?_; clear h ac; intro ac wo h
 exact ret h rfl (.cell (v := (vI (aH (!a.neg) a.mag))) rfl (i := 0) rfl aa25 zz25 rfl rfl rfl .nil) rfl (h.retP (by unfold aq; rfl) (by unfold aq; exact s1))
def dB (a : GI) (b : GI) : Int :=
 bif (a.neg != b.neg) then
  (bO (cz a) (cz b))
 else
  bif a.neg then
   -(bp a.mag b.mag)
  else
   (bp a.mag b.mag)
theorem gC (a : GI) (b : GI) (k : Nat) (hk : k ≤ 40) (za : SzI k a) (zb : SzI k b) (w0 : World) : Calls Tryz.prog 158 #[(vI a), (vI b)] w0 (dI w0 (.int .i64 (dB a b)) ((-1 ≤ (dB a b) ∧ (dB a b) ≤ 1))) := by
 refine enter (N := 26) (args := [(vI a), (vI b)]) Tryz.func158 rfl rfl ?_; intro ac h
 refine gz h <| (xb) fun b1 => (xb) fun b2 => (xo (hs := by exact rh nn4 rfl rfl)) <| (ai) ?_ ?_ <;> clear h ac <;> intro ac wo h hc1
 ·
  refine gz h <| (W) ?_; clear h ac wo; intro ac wo h
  have p2 := ao ((dX a) w0)
  have p4 := ao ((dX b) w0)
  have p6 := ao ((jo (cz a) (cz b)) w0)
  have hd : dB a b = (bO (cz a) (cz b)) := pt
  refine gz h <| (dr0 (hob := (oK (dX a)) <| (oK (dX b)) <| (oK (jo (cz a) (cz b))) <| oE)) <| (W) ?_; clear h ac wo; intro ac wo h
  exact (rt h) (h.retP (by rw [hd] <;> rfl) (by rw [hd]; exact by first | omega | exact fw og og))
 ·
  have p8 := ao ((es a.mag b.mag) w0)
  refine gz h <| (xk (es a.mag b.mag)) <| (ai) ?_ ?_ <;> clear h ac wo <;> intro ac wo h hc2
  ·
   have hd : dB a b = -(bp a.mag b.mag) := pt
   refine gz h <| (xo (hs := by exact r_neg rfl (r := -(bp a.mag b.mag)) (by rw [IntKind.wrap_i64]; omega))) <| (W) ?_; clear h ac wo; intro ac wo h
   exact (rt h) (h.retP (by rw [hd] <;> rfl) (by rw [hd]; exact by first | omega | exact fw og og))
  ·
   have hd : dB a b = (bp a.mag b.mag) := pt
   refine gz h <| (W) ?_; clear h ac wo; intro ac wo h
   exact (rt h) (h.retP (by rw [hd] <;> rfl) (by rw [hd]; exact by first | omega | exact fw og og))
def aK (a : GI) (b : GI) : GI :=
 bif (a.neg == b.neg) then
  (aH a.neg (dL a.mag b.mag))
 else
  bif (decide ((bp a.mag b.mag) ≥ 0)) then
   (aH a.neg (dh a.mag b.mag))
  else
   (aH b.neg (dh b.mag a.mag))
theorem fI (a : GI) (b : GI) (k : Nat) (hk : (k + 1) ≤ 40) (za : SzI (k + 1) a) (zb : SzI (k + 1) b) (w0 : World) : Calls Tryz.prog 96 #[(vI a), (vI b)] w0 (dI w0 (vI (aK a b)) (SzI k (aK a b))) := by
 refine enter (N := 42) (args := [(vI a), (vI b)]) Tryz.func96 rfl rfl ?_; intro ac h
 refine gz h <| (xb) fun b1 => (xb) fun b2 => (xa) fun b3 => (xo (hs := by exact wn nn4 rfl rfl)) <| (ai) ?_ ?_ <;> clear h ac <;> intro ac wo h hc1
 ·
  have hd1 := eq_of_beq hc1
  refine gz h <| (W) ?_; clear h ac wo; intro ac wo h
  have s1 := ao ((ii a.mag b.mag k og za zb) w0)
  have s2 := ao ((bW a.neg (dL a.mag b.mag) k og s1) w0)
  have hd : aK a b = (aH a.neg (dL a.mag b.mag)) := pt
  refine gz h <| (dr1 (H := [⟨.blk b3 (cI (⟨false, 0⟩ : GI)) 25, [(8, .con (.blk b3 (cI (aH a.neg (dL a.mag b.mag))) 25))]⟩, ⟨_, []⟩, ⟨_, []⟩]) (hob := (oK (ii a.mag b.mag k og za zb)) <| (oK (bW a.neg (dL a.mag b.mag) k og s1)) <| oE)) <| (W) ?_; clear h ac wo; intro ac wo h
  exact ret h rfl (.cell (v := (vI (aH a.neg (dL a.mag b.mag)))) rfl (i := 0) rfl aa25 zz25 rfl rfl rfl .nil) rfl (h.retP (by rw [hd] <;> rfl) (by rw [hd]; exact s2))
 ·
  have hd1 := ne_of_beq_false hc1
  have p4 := ao ((es a.mag b.mag) w0)
  refine gz h <| (xk (es a.mag b.mag)) <| (ai) ?_ ?_ <;> clear h ac wo <;> intro ac wo h hc2
  ·
   have hd2 := of_decide_eq_true hc2
   refine gz h <| (W) ?_; clear h ac wo; intro ac wo h
   have s5 := ao ((gj a.mag b.mag (k + 1) og za zb (by first | exact r0 ‹_› | exact rZ ‹_›)) w0)
   have s6 := ao ((bW a.neg (dh a.mag b.mag) (k + 1) og s5) w0)
   have hd : aK a b = (aH a.neg (dh a.mag b.mag)) := pt
   refine gz h <| (dr1 (H := [⟨.blk b3 (cI (⟨false, 0⟩ : GI)) 25, [(8, .con (.blk b3 (cI (aH a.neg (dh a.mag b.mag))) 25))]⟩, ⟨_, []⟩, ⟨_, []⟩]) (hob := (oK (gj a.mag b.mag (k + 1) og za zb (by first | exact r0 ‹_› | exact rZ ‹_›))) <| (oK (bW a.neg (dh a.mag b.mag) (k + 1) og s5)) <| oE)) <| (W) ?_; clear h ac wo; intro ac wo h
   exact ret h rfl (.cell (v := (vI (aH a.neg (dh a.mag b.mag)))) rfl (i := 0) rfl aa25 zz25 rfl rfl rfl .nil) rfl (h.retP (by rw [hd] <;> rfl) (by rw [hd]; exact (gh s6 og)))
  ·
   have hd2 := of_decide_eq_false hc2
   refine gz h <| (W) ?_; clear h ac wo; intro ac wo h
   have s7 := ao ((gj b.mag a.mag (k + 1) og zb za (by first | exact r0 ‹_› | exact rZ ‹_›)) w0)
   have s8 := ao ((bW b.neg (dh b.mag a.mag) (k + 1) og s7) w0)
   have hd : aK a b = (aH b.neg (dh b.mag a.mag)) := pt
   refine gz h <| (dr1 (H := [⟨.blk b3 (cI (⟨false, 0⟩ : GI)) 25, [(8, .con (.blk b3 (cI (aH b.neg (dh b.mag a.mag))) 25))]⟩, ⟨_, []⟩, ⟨_, []⟩]) (hob := (oK (gj b.mag a.mag (k + 1) og zb za (by first | exact r0 ‹_› | exact rZ ‹_›))) <| (oK (bW b.neg (dh b.mag a.mag) (k + 1) og s7)) <| oE)) <| (W) ?_; clear h ac wo; intro ac wo h
   exact ret h rfl (.cell (v := (vI (aH b.neg (dh b.mag a.mag)))) rfl (i := 0) rfl aa25 zz25 rfl rfl rfl .nil) rfl (h.retP (by rw [hd] <;> rfl) (by rw [hd]; exact (gh s8 og)))
def ab (a : GI) (b : GI) : GI :=
 (aH (a.neg != b.neg) (e5 a.mag b.mag))
theorem bM (a : GI) (b : GI) (k : Nat) (hk : (k + 1) ≤ 40) (za : SzI (k + 1) a) (zb : SzI (k + 1) b) (w0 : World) : Calls Tryz.prog 97 #[(vI a), (vI b)] w0 (dI w0 (vI (ab a b)) (SzI k (ab a b))) := by
 refine enter (N := 16) (args := [(vI a), (vI b)]) Tryz.func97 rfl rfl ?_; intro ac h
 have s1 := ao ((j2 a.mag b.mag k og za zb) w0)
 have s2 := ao ((bW (a.neg != b.neg) (e5 a.mag b.mag) k og s1) w0)
 refine gz h <| (xb) fun b1 => (xb) fun b2 => (xa) fun b3 => (dr1 (H := [⟨.blk b3 (cI (⟨false, 0⟩ : GI)) 25, [(11, .con (.blk b3 (cI (aH (a.neg != b.neg) (e5 a.mag b.mag))) 25))]⟩, ⟨_, []⟩, ⟨_, []⟩]) (hob := (oX (h := by exact fun _ => bk (rh nn4 rfl rfl))) <| (oK (j2 a.mag b.mag k og za zb)) <| (oK (bW (a.neg != b.neg) (e5 a.mag b.mag) k og s1)) <| oE)) <| (W) ?_; clear h ac; intro ac wo h
 exact ret h rfl (.cell (v := (vI (aH (a.neg != b.neg) (e5 a.mag b.mag)))) rfl (i := 0) rfl aa25 zz25 rfl rfl rfl .nil) rfl (h.retP (by unfold ab; rfl) (by unfold ab; exact s2))
def aW (a b : GI) : GI := aH false (Nat.gcd a.mag b.mag)
theorem tT (x y : Nat) : Nat.gcd y (x % y) = Nat.gcd x y := by rw [Nat.gcd_comm x y, Nat.gcd_rec y x, Nat.gcd_comm]
theorem jd (a : GI) (b : GI) (k : Nat) (hk : k ≤ 40) (za : SzI k a) (zb : SzI k b) (w0 : World) : Calls Tryz.prog 160 #[(vI a), (vI b)] w0 (dI w0 (vI (aW a b)) (SzI k (aW a b))) := by
 refine enter (N := 45) (args := [(vI a), (vI b)]) Tryz.func160 rfl rfl ?_; intro ac h
 refine gz h <| (xb) fun b1 => (xb) fun b2 => (xa) fun b3 => (dr0 (hob := oE)) <| (W) ?_; clear h ac; intro ac wo h
 refine wp_loop_ghost (fun n_ a_ w_ => ∃ (x : Nat) (y : Nat), n_ = 1 * y ∧ (Nat.gcd x y = Nat.gcd a.mag b.mag) ∧ (SzB k x) ∧ (SzB k y) ∧ St w0 45 [(4, (ptr b3 0)), (5, (.string (bs x))), (6, (.string (bs y)))] [.blk b3 (cI (⟨false, 0⟩ : GI)) 25, .blk b2 (cI b) 25, .blk b1 (cI a) 25] a_ w_) _ ⟨a.mag, b.mag, rfl, rfl, za, zb, h.re [0, 1, 2]⟩ ?_
 clear h ac wo; rintro _ ac wo ⟨x, y, rfl, hg, zx, zy, h⟩
 refine gz h <| (ai) ?_ ?_ <;> clear h ac wo <;> intro ac wo h hc1
 ·
  have hy : y ≠ 0 := by simpa using hc1
  refine gz h <| (xk (gg x y)) <| (ai) ?_ ?_ <;> clear h ac wo <;> intro ac wo h hc2
  ·
   obtain ⟨ha6, hb6, hw⟩ := kX hc2
   simp only [hw] at h
   refine gz h <| (W) ?_; clear h ac wo; intro ac wo h
   refine wp_loop_ghost (fun n_ a_ w_ => ∃ (u : Nat) (v : Nat), n_ = 1 * v ∧ (Nat.gcd u v = Nat.gcd a.mag b.mag) ∧ (SzB k u) ∧ (SzB k v) ∧ (u < 18446744073709551616 ∧ v < 18446744073709551616) ∧ St w0 45 [(4, (ptr b3 0)), (7, (.int .u64 ((u : Nat) : Int))), (8, (.int .u64 ((v : Nat) : Int)))] [.blk b3 (cI (⟨false, 0⟩ : GI)) 25, .blk b2 (cI b) 25, .blk b1 (cI a) 25] a_ w_) _ ⟨x, y, rfl, hg, zx, zy, ⟨ha6, hb6⟩, h.re [0, 1, 2]⟩ ?_
   clear h ac wo; rintro _ ac wo ⟨u, v, rfl, hgu, zu, zv, hul, h⟩
   refine gz h <| (ai) ?_ ?_ <;> clear h ac wo <;> intro ac wo h hc3
   ·
    have hv : v ≠ 0 := by have := hc3; simp at this; omega
    refine gz h <| (dr0 (hob := (oX (h := by exact fun _ => bk (su rfl rfl (r := ((u % v : Nat) : Int)) og (by rw [Int.tmod_eq_emod_of_nonneg og]; rfl)))) <| oE)) <| (W) ?_; clear h ac wo; intro ac wo h
    exact az ⟨_, (by have := Nat.mod_lt u (show v > 0 by omega); omega), v, (u % v), rfl, (by rw [tT]; exact hgu), zv, (gQ zu (Nat.mod_le _ _)), ⟨hul.2, by have := Nat.mod_lt u (show v > 0 by omega); omega⟩, h.re [0, 1, 2]⟩
   ·
    have hv : v = 0 := by have := hc3; simp at this; omega
    subst hv
    have c1 := bW false (bH u) k og zu
    have s1 := ao (c1 w0)
    have hd : aW a b = (aH false (bH u)) := (by rw [Nat.gcd_zero_right] at hgu; unfold aW; rw [← hgu]; rfl)
    refine gz h <| (xk (dl u hul.1)) <| (xk c1) <| (W) ?_; clear h ac wo; intro ac wo h
    exact ret h rfl (.cell (v := (vI (aH false (bH u)))) rfl (i := 0) rfl aa25 zz25 rfl rfl rfl .nil) rfl (h.retP (by rw [hd] <;> rfl) (by rw [hd]; exact s1))
  ·
   have c2 := jc x y k og zx zy og
   have s2 := ao (c2 w0)
   refine gz h <| (xk c2) <| (W) ?_; clear h ac wo; intro ac wo h
   exact az ⟨_, (by have := Nat.mod_lt x (show y > 0 by omega); omega), y, (x % y), rfl, (by rw [tT]; exact hg), zy, (gQ zx (Nat.mod_le _ _)), h.re [0, 1, 2]⟩
 ·
  have hy : y = 0 := by simpa using hc1
  subst hy
  have c3 := bW false x k og zx
  have s3 := ao (c3 w0)
  have hd : aW a b = (aH false x) := (by rw [Nat.gcd_zero_right] at hg; unfold aW; rw [← hg])
  refine gz h <| (xk c3) <| (W) ?_; clear h ac wo; intro ac wo h
  exact ret h rfl (.cell (v := (vI (aH false x))) rfl (i := 0) rfl aa25 zz25 rfl rfl rfl .nil) rfl (h.retP (by rw [hd] <;> rfl) (by rw [hd]; exact s3))
def aM (a : GI) (b : GI) : GI × GI × Int :=
 bif (decide (b.mag = 0)) then
  ((⟨false, 0⟩ : GI), (⟨false, 0⟩ : GI), 6)
 else
  bif (a.neg && (!(decide (((bB a.mag b.mag).2) = 0)))) then
   ((aH (a.neg != b.neg) (dL ((bB a.mag b.mag).1) 1)), (aH false (dh b.mag ((bB a.mag b.mag).2))), 0)
  else
   ((aH (a.neg != b.neg) ((bB a.mag b.mag).1)), (aH false ((bB a.mag b.mag).2)), 0)
theorem fX (a : GI) (b : GI) (k : Nat) (hk : (k + 1) ≤ 40) (za : SzI (k + 1) a) (zb : SzI (k + 1) b) (w0 : World) : Calls Tryz.prog 253 #[(vI a), (vI b)] w0 (dI w0 (.tuple #[(vI ((aM a b).1)), (vI ((aM a b).2.1)), (.int .i64 ((aM a b).2.2))]) (SzI k ((aM a b).1) ∧ SzI k ((aM a b).2.1))) := by
 refine enter (N := 43) (args := [(vI a), (vI b)]) Tryz.func253 rfl rfl ?_; intro ac h
 refine gz h <| (xb) fun b1 => (xb) fun b2 => (xa) fun b3 => (xa) fun b4 => (ai) ?_ ?_ <;> clear h ac <;> intro ac wo h hc1
 ·
  have hd1 := of_decide_eq_true hc1
  have hd : aM a b = ((⟨false, 0⟩ : GI), (⟨false, 0⟩ : GI), 6) := pt
  refine gz h <| (xo (hs := by exact bA pj exs rfl (v := (vI (⟨false, 0⟩ : GI))) rfl)) <| (xo (hs := by exact bA pj exs rfl (v := (vI (⟨false, 0⟩ : GI))) rfl)) <| (W) ?_; clear h ac wo; intro ac wo h
  exact ret h rfl (.cell (v := (vI (⟨false, 0⟩ : GI))) rfl (i := 1) rfl aa25 zz25 rfl rfl rfl (.cell (v := (vI (⟨false, 0⟩ : GI))) rfl (i := 0) rfl aa25 zz25 rfl rfl rfl (.tmp rfl .nil))) rfl (h.retP (by rw [hd] <;> rfl) (by rw [hd]; exact ⟨(df 0 (by decide) og), (df 0 (by decide) og)⟩))
 ·
  have hd1 := of_decide_eq_false hc1
  have c1 := jc a.mag b.mag (k + 1) og za zb og
  have s1 := ao (c1 w0)
  refine gz h <| (xk c1) <| (ai) ?_ ?_ <;> clear h ac wo <;> intro ac wo h hc2
  ·
   have s2 := ao ((ii ((bB a.mag b.mag).1) 1 k og s1.1 (df 1 (by decide) og)) w0)
   have s3 := ao ((gj b.mag ((bB a.mag b.mag).2) (k + 1) og zb s1.2 (Nat.le_of_lt (Nat.mod_lt _ og))) w0)
   refine gz h <| (dr0 (hob := (oK (ii ((bB a.mag b.mag).1) 1 k og s1.1 (df 1 (by decide) og))) <| (oK (gj b.mag ((bB a.mag b.mag).2) (k + 1) og zb s1.2 (Nat.le_of_lt (Nat.mod_lt _ og)))) <| oE)) <| (W) ?_; clear h ac wo; intro ac wo h
   have c4 := bW (a.neg != b.neg) (dL ((bB a.mag b.mag).1) 1) k og s2
   have s4 := ao (c4 w0)
   have c5 := bW false (dh b.mag ((bB a.mag b.mag).2)) (k + 1) og s3
   have s5 := ao (c5 w0)
   have hd : aM a b = ((aH (a.neg != b.neg) (dL ((bB a.mag b.mag).1) 1)), (aH false (dh b.mag ((bB a.mag b.mag).2))), 0) := pt
   refine gz h <| (xo (hs := by exact rh nn4 rfl rfl)) <| (xk c4) <| (xk c5) <| (W) ?_; clear h ac wo; intro ac wo h
   exact ret h rfl (.cell (v := (vI (aH (a.neg != b.neg) (dL ((bB a.mag b.mag).1) 1)))) rfl (i := 1) rfl aa25 zz25 rfl rfl rfl (.cell (v := (vI (aH false (dh b.mag ((bB a.mag b.mag).2))))) rfl (i := 0) rfl aa25 zz25 rfl rfl rfl (.tmp rfl .nil))) rfl (h.retP (by rw [hd] <;> rfl) (by rw [hd]; exact ⟨s4, (gh s5 og)⟩))
  ·
   have c6 := bW (a.neg != b.neg) ((bB a.mag b.mag).1) (k + 1) og s1.1
   have s6 := ao (c6 w0)
   have c7 := bW false ((bB a.mag b.mag).2) (k + 1) og s1.2
   have s7 := ao (c7 w0)
   have hd : aM a b = ((aH (a.neg != b.neg) ((bB a.mag b.mag).1)), (aH false ((bB a.mag b.mag).2)), 0) := pt
   refine gz h <| (xo (hs := by exact rh nn4 rfl rfl)) <| (xk c6) <| (xk c7) <| (W) ?_; clear h ac wo; intro ac wo h
   exact ret h rfl (.cell (v := (vI (aH (a.neg != b.neg) ((bB a.mag b.mag).1)))) rfl (i := 1) rfl aa25 zz25 rfl rfl rfl (.cell (v := (vI (aH false ((bB a.mag b.mag).2)))) rfl (i := 0) rfl aa25 zz25 rfl rfl rfl (.tmp rfl .nil))) rfl (h.retP (by rw [hd] <;> rfl) (by rw [hd]; exact ⟨(gh s6 og), (gh s7 og)⟩))
def rational_one  : GI :=
 (ay 1)
theorem eO (k : Nat) (hk : k ≤ 40) (w0 : World) : Calls Tryz.prog 159 #[] w0 (dI w0 (vI rational_one) (SzI k rational_one)) := by
 refine enter (N := 2) (args := []) Tryz.func159 rfl rfl ?_; intro ac h
 have c1 := eU 1 k og  og
 have s1 := ao (c1 w0)
 refine gz h <| (xa) fun b1 => (xk c1) <| (W) ?_; clear h ac; intro ac wo h
 exact ret h rfl (.cell (v := (vI (ay 1))) rfl (i := 0) rfl aa25 zz25 rfl rfl rfl .nil) rfl (h.retP (by unfold rational_one; rfl) (by unfold rational_one; exact s1))
def ak (n : Int) : GQ :=
 (⟨(ay n), (⟨false, 0⟩ : GI)⟩ : GQ)
theorem cq (n : Int) (k : Nat) (hk : k ≤ 40) (hn : -9223372036854775808 ≤ n ∧ n ≤ 9223372036854775807) (w0 : World) : Calls Tryz.prog 85 #[(.int .i64 n)] w0 (dI w0 (vQ (ak n)) (SzQ k (ak n))) := by
 refine enter (N := 6) (args := [(.int .i64 n)]) Tryz.func85 rfl rfl ?_; intro ac h
 have c1 := eU n k og  og
 have s1 := ao (c1 w0)
 refine gz h <| (xa) fun b1 => (xk c1) <| (xo (hs := by exact bA oF exs rfl (v := (vQ (⟨(ay n), (⟨false, 0⟩ : GI)⟩ : GQ))) rfl)) <| (W) ?_; clear h ac; intro ac wo h
 exact ret h rfl (.cell (v := (vQ (⟨(ay n), (⟨false, 0⟩ : GI)⟩ : GQ))) rfl (i := 0) rfl aa27 zz27 rfl rfl rfl .nil) rfl (h.retP (by unfold ak; rfl) (by unfold ak; exact ⟨s1, (df 0 (by decide) og)⟩))
def aa (a : GQ) : GI :=
 bif (decide (a.den = (⟨false, 0⟩ : GI))) then
  rational_one
 else
  a.den
theorem bE (a : GQ) (k : Nat) (hk : k ≤ 40) (za : SzQ k a) (w0 : World) : Calls Tryz.prog 98 #[(vQ a)] w0 (dI w0 (vI (aa a)) (SzI k (aa a))) := by
 refine enter (N := 10) (args := [(vQ a)]) Tryz.func98 rfl rfl ?_; intro ac h
 refine gz h <| (xb) fun b1 => (xa) fun b2 => (xo (hs := by exact bA pj exs rfl (v := (vI (⟨false, 0⟩ : GI))) rfl)) <| (ai) ?_ ?_ <;> clear h ac <;> intro ac wo h hc1
 ·
  have hd1 := of_decide_eq_true hc1
  have c1 := eO  k og
  have s1 := ao (c1 w0)
  have hd : aa a = rational_one := pt
  refine gz h <| (xk c1) <| (W) ?_; clear h ac wo; intro ac wo h
  exact ret h rfl (.cell (v := (vI rational_one)) rfl (i := 0) rfl aa25 zz25 rfl rfl rfl .nil) rfl (h.retP (by rw [hd] <;> rfl) (by rw [hd]; exact s1))
 ·
  have hd1 := of_decide_eq_false hc1
  have hd : aa a = a.den := pt
  refine gz h <| (W) ?_; clear h ac wo; intro ac wo h
  exact ret h rfl (.cell (v := (vI a.den)) rfl (i := 0) rfl aa25 zz25 rfl rfl rfl .nil) rfl (h.retP (by rw [hd] <;> rfl) (by rw [hd]; exact za.2))
def aG (a : GI) (b : GI) : GI :=
 (aM a b).1
theorem dE (a : GI) (b : GI) (k : Nat) (hk : (k + 1) ≤ 40) (za : SzI (k + 1) a) (zb : SzI (k + 1) b) (w0 : World) : Calls Tryz.prog 192 #[(vI a), (vI b)] w0 (dI w0 (vI (aG a b)) (SzI k (aG a b))) := by
 refine enter (N := 16) (args := [(vI a), (vI b)]) Tryz.func192 rfl rfl ?_; intro ac h
 have c1 := fX a b k og za zb
 have s1 := ao (c1 w0)
 refine gz h <| (xb) fun b1 => (xb) fun b2 => (xa) fun b3 => (xk c1) <| (xa) fun b4 => (xa) fun b5 => (W) ?_; clear h ac; intro ac wo h
 exact ret h rfl (.cell (v := (vI ((aM a b).1))) rfl (i := 2) rfl aa25 zz25 rfl rfl rfl .nil) rfl (h.retP (by unfold aG; rfl) (by unfold aG; exact s1.1))
def bo (num : GI) (den : GI) : GQ :=
 bif (decide ((cz den) < 0)) then
  bif (decide ((aG (aq den) (aW (aq num) (aq den))) = rational_one)) then
   (⟨(aG (aq num) (aW (aq num) (aq den))), (⟨false, 0⟩ : GI)⟩ : GQ)
  else
   (⟨(aG (aq num) (aW (aq num) (aq den))), (aG (aq den) (aW (aq num) (aq den)))⟩ : GQ)
 else
  bif (decide ((aG den (aW num den)) = rational_one)) then
   (⟨(aG num (aW num den)), (⟨false, 0⟩ : GI)⟩ : GQ)
  else
   (⟨(aG num (aW num den)), (aG den (aW num den))⟩ : GQ)
theorem d6 (num : GI) (den : GI) (k : Nat) (hk : (k + 1) ≤ 40) (znum : SzI (k + 1) num) (zden : SzI (k + 1) den) (w0 : World) : Calls Tryz.prog 95 #[(vI num), (vI den)] w0 (dI w0 (vQ (bo num den)) (SzQ k (bo num den))) := by
 refine enter (N := 29) (args := [(vI num), (vI den)]) Tryz.func95 rfl rfl ?_; intro ac h
 have p2 := ao ((dX den) w0)
 refine gz h <| (xb) fun b1 => (xb) fun b2 => (xa) fun b3 => (xk (dX den)) <| (ai) ?_ ?_ <;> clear h ac <;> intro ac wo h hc1
 ·
  have hd1 := of_decide_eq_true hc1
  have s3 := ao ((d7 num (k + 1) og znum) w0)
  have s4 := ao ((d7 den (k + 1) og zden) w0)
  refine gz h <| (dr1 (H := [⟨_, []⟩, ⟨.blk b2 (cI den) 25, [(5, .con (.blk b2 (cI (aq den)) 25))]⟩, ⟨.blk b1 (cI num) 25, [(4, .con (.blk b1 (cI (aq num)) 25))]⟩]) (hob := (oK (d7 num (k + 1) og znum)) <| (oK (d7 den (k + 1) og zden)) <| oE)) <| (W) ?_; clear h ac wo; intro ac wo h
  have c5 := jd (aq num) (aq den) (k + 1) og s3 s4
  have s5 := ao (c5 w0)
  have s6 := ao ((dE (aq num) (aW (aq num) (aq den)) k og s3 s5) w0)
  have s7 := ao ((dE (aq den) (aW (aq num) (aq den)) k og s4 s5) w0)
  refine gz h <| (xk c5) <| (xa) fun b4 => (dr1 (H := [⟨_, []⟩, ⟨_, []⟩, ⟨.blk b2 (cI (aq den)) 25, [(7, .con (.blk b2 (cI (aG (aq den) (aW (aq num) (aq den)))) 25))]⟩, ⟨.blk b1 (cI (aq num)) 25, [(6, .con (.blk b1 (cI (aG (aq num) (aW (aq num) (aq den)))) 25))]⟩]) (hob := (oK (dE (aq num) (aW (aq num) (aq den)) k og s3 s5)) <| (oK (dE (aq den) (aW (aq num) (aq den)) k og s4 s5)) <| oE)) <| (W) ?_; clear h ac wo; intro ac wo h
  have s8 := ao ((eO  (k + 1) og ) w0)
  refine gz h <| (dr0 (hob := (oK (eO  (k + 1) og )) <| oE)) <| (ai) ?_ ?_ <;> clear h ac wo <;> intro ac wo h hc2
  ·
   have hd2 := of_decide_eq_true hc2
   have hd : bo num den = (⟨(aG (aq num) (aW (aq num) (aq den))), (⟨false, 0⟩ : GI)⟩ : GQ) := pt
   refine gz h <| (xo (hs := by exact bA pj exs rfl (v := (vI (⟨false, 0⟩ : GI))) rfl)) <| (xo (hs := by exact bA oF exs rfl (v := (vQ (⟨(aG (aq num) (aW (aq num) (aq den))), (⟨false, 0⟩ : GI)⟩ : GQ))) rfl)) <| (W) ?_; clear h ac wo; intro ac wo h
   exact ret h rfl (.cell (v := (vQ (⟨(aG (aq num) (aW (aq num) (aq den))), (⟨false, 0⟩ : GI)⟩ : GQ))) rfl (i := 1) rfl aa27 zz27 rfl rfl rfl .nil) rfl (h.retP (by rw [hd] <;> rfl) (by rw [hd]; exact ⟨s6, (df 0 (by decide) og)⟩))
  ·
   have hd2 := of_decide_eq_false hc2
   have hd : bo num den = (⟨(aG (aq num) (aW (aq num) (aq den))), (aG (aq den) (aW (aq num) (aq den)))⟩ : GQ) := pt
   refine gz h <| (xo (hs := by exact bA oF exs rfl (v := (vQ (⟨(aG (aq num) (aW (aq num) (aq den))), (aG (aq den) (aW (aq num) (aq den)))⟩ : GQ))) rfl)) <| (W) ?_; clear h ac wo; intro ac wo h
   exact ret h rfl (.cell (v := (vQ (⟨(aG (aq num) (aW (aq num) (aq den))), (aG (aq den) (aW (aq num) (aq den)))⟩ : GQ))) rfl (i := 1) rfl aa27 zz27 rfl rfl rfl .nil) rfl (h.retP (by rw [hd] <;> rfl) (by rw [hd]; exact ⟨s6, s7⟩))
 ·
  have hd1 := of_decide_eq_false hc1
  have c9 := jd num den (k + 1) og znum zden
  have s9 := ao (c9 w0)
  have s10 := ao ((dE num (aW num den) k og znum s9) w0)
  have s11 := ao ((dE den (aW num den) k og zden s9) w0)
  refine gz h <| (xk c9) <| (xa) fun b5 => (dr1 (H := [⟨_, []⟩, ⟨_, []⟩, ⟨.blk b2 (cI den) 25, [(7, .con (.blk b2 (cI (aG den (aW num den))) 25))]⟩, ⟨.blk b1 (cI num) 25, [(6, .con (.blk b1 (cI (aG num (aW num den))) 25))]⟩]) (hob := (oK (dE num (aW num den) k og znum s9)) <| (oK (dE den (aW num den) k og zden s9)) <| oE)) <| (W) ?_; clear h ac wo; intro ac wo h
  have s12 := ao ((eO  (k + 1) og ) w0)
  refine gz h <| (dr0 (hob := (oK (eO  (k + 1) og )) <| oE)) <| (ai) ?_ ?_ <;> clear h ac wo <;> intro ac wo h hc3
  ·
   have hd3 := of_decide_eq_true hc3
   have hd : bo num den = (⟨(aG num (aW num den)), (⟨false, 0⟩ : GI)⟩ : GQ) := pt
   refine gz h <| (xo (hs := by exact bA pj exs rfl (v := (vI (⟨false, 0⟩ : GI))) rfl)) <| (xo (hs := by exact bA oF exs rfl (v := (vQ (⟨(aG num (aW num den)), (⟨false, 0⟩ : GI)⟩ : GQ))) rfl)) <| (W) ?_; clear h ac wo; intro ac wo h
   exact ret h rfl (.cell (v := (vQ (⟨(aG num (aW num den)), (⟨false, 0⟩ : GI)⟩ : GQ))) rfl (i := 1) rfl aa27 zz27 rfl rfl rfl .nil) rfl (h.retP (by rw [hd] <;> rfl) (by rw [hd]; exact ⟨s10, (df 0 (by decide) og)⟩))
  ·
   have hd3 := of_decide_eq_false hc3
   have hd : bo num den = (⟨(aG num (aW num den)), (aG den (aW num den))⟩ : GQ) := pt
   refine gz h <| (xo (hs := by exact bA oF exs rfl (v := (vQ (⟨(aG num (aW num den)), (aG den (aW num den))⟩ : GQ))) rfl)) <| (W) ?_; clear h ac wo; intro ac wo h
   exact ret h rfl (.cell (v := (vQ (⟨(aG num (aW num den)), (aG den (aW num den))⟩ : GQ))) rfl (i := 1) rfl aa27 zz27 rfl rfl rfl .nil) rfl (h.retP (by rw [hd] <;> rfl) (by rw [hd]; exact ⟨s10, s11⟩))
def aT (a : GQ) (b : GQ) : GI × GI × GI :=
 bif (decide (a.den = b.den)) then
  (a.num, b.num, (aa a))
 else
  ((ab a.num (aa b)), (ab b.num (aa a)), (ab (aa a) (aa b)))
theorem kg (a : GQ) (b : GQ) (k : Nat) (hk : (k + 1) ≤ 40) (za : SzQ (k + 1) a) (zb : SzQ (k + 1) b) (w0 : World) : Calls Tryz.prog 94 #[(vQ a), (vQ b)] w0 (dI w0 (.tuple #[(vI ((aT a b).1)), (vI ((aT a b).2.1)), (vI ((aT a b).2.2))]) (SzI k ((aT a b).1) ∧ SzI k ((aT a b).2.1) ∧ SzI k ((aT a b).2.2))) := by
 refine enter (N := 33) (args := [(vQ a), (vQ b)]) Tryz.func94 rfl rfl ?_; intro ac h
 refine gz h <| (xb) fun b1 => (xb) fun b2 => (xa) fun b3 => (xa) fun b4 => (xa) fun b5 => (ai) ?_ ?_ <;> clear h ac <;> intro ac wo h hc1
 ·
  have hd1 := of_decide_eq_true hc1
  refine gz h <| (W) ?_; clear h ac wo; intro ac wo h
  have s1 := ao ((bE a (k + 1) og za) w0)
  have hd : aT a b = (a.num, b.num, (aa a)) := pt
  refine gz h <| (dr1 (H := [⟨.blk b5 (cI (⟨false, 0⟩ : GI)) 25, [(8, .con (.blk b5 (cI (aa a)) 25))]⟩, ⟨.blk b4 (cI (⟨false, 0⟩ : GI)) 25, [(7, .con (.blk b4 (cI b.num) 25))]⟩, ⟨.blk b3 (cI (⟨false, 0⟩ : GI)) 25, [(6, .con (.blk b3 (cI a.num) 25))]⟩, ⟨_, []⟩, ⟨_, []⟩]) (hob := (oK (bE a (k + 1) og za)) <| oE)) <| (W) ?_; clear h ac wo; intro ac wo h
  exact ret h rfl (.cell (v := (vI a.num)) rfl (i := 2) rfl aa25 zz25 rfl rfl rfl (.cell (v := (vI b.num)) rfl (i := 1) rfl aa25 zz25 rfl rfl rfl (.cell (v := (vI (aa a))) rfl (i := 0) rfl aa25 zz25 rfl rfl rfl .nil))) rfl (h.retP (by rw [hd] <;> rfl) (by rw [hd]; exact ⟨(cO za og).1, (cO zb og).1, (gh s1 og)⟩))
 ·
  have hd1 := of_decide_eq_false hc1
  refine gz h <| (W) ?_; clear h ac wo; intro ac wo h
  have s2 := ao ((bE b (k + 1) og zb) w0)
  have s3 := ao ((bM a.num (aa b) k og za.1 s2) w0)
  have s4 := ao ((bE a (k + 1) og za) w0)
  have s5 := ao ((bM b.num (aa a) k og zb.1 s4) w0)
  have s6 := ao ((bE a (k + 1) og za) w0)
  have s7 := ao ((bE b (k + 1) og zb) w0)
  have s8 := ao ((bM (aa a) (aa b) k og s6 s7) w0)
  have hd : aT a b = ((ab a.num (aa b)), (ab b.num (aa a)), (ab (aa a) (aa b))) := pt
  refine gz h <| (dr1 (H := [⟨.blk b5 (cI (⟨false, 0⟩ : GI)) 25, [(17, .con (.blk b5 (cI (ab (aa a) (aa b))) 25))]⟩, ⟨.blk b4 (cI (⟨false, 0⟩ : GI)) 25, [(16, .con (.blk b4 (cI (ab b.num (aa a))) 25))]⟩, ⟨.blk b3 (cI (⟨false, 0⟩ : GI)) 25, [(15, .con (.blk b3 (cI (ab a.num (aa b))) 25))]⟩, ⟨_, []⟩, ⟨_, []⟩]) (hob := (oK (bE b (k + 1) og zb)) <| (oK (bM a.num (aa b) k og za.1 s2)) <| (oK (bE a (k + 1) og za)) <| (oK (bM b.num (aa a) k og zb.1 s4)) <| (oK (bE a (k + 1) og za)) <| (oK (bE b (k + 1) og zb)) <| (oK (bM (aa a) (aa b) k og s6 s7)) <| oE)) <| (W) ?_; clear h ac wo; intro ac wo h
  exact ret h rfl (.cell (v := (vI (ab a.num (aa b)))) rfl (i := 2) rfl aa25 zz25 rfl rfl rfl (.cell (v := (vI (ab b.num (aa a)))) rfl (i := 1) rfl aa25 zz25 rfl rfl rfl (.cell (v := (vI (ab (aa a) (aa b)))) rfl (i := 0) rfl aa25 zz25 rfl rfl rfl .nil))) rfl (h.retP (by rw [hd] <;> rfl) (by rw [hd]; exact ⟨s3, s5, s8⟩))
def aE (a : GQ) (b : GQ) : GQ :=
 (bo (aK ((aT a b).1) ((aT a b).2.1)) ((aT a b).2.2))
theorem cd (a : GQ) (b : GQ) (k : Nat) (hk : (k + 3) ≤ 40) (za : SzQ (k + 3) a) (zb : SzQ (k + 3) b) (w0 : World) : Calls Tryz.prog 20 #[(vQ a), (vQ b)] w0 (dI w0 (vQ (aE a b)) (SzQ k (aE a b))) := by
 refine enter (N := 20) (args := [(vQ a), (vQ b)]) Tryz.func20 rfl rfl ?_; intro ac h
 have c1 := kg a b (k + 2) og za zb
 have s1 := ao (c1 w0)
 have s2 := ao ((fI ((aT a b).1) ((aT a b).2.1) (k + 1) og s1.1 s1.2.1) w0)
 have s3 := ao ((d6 (aK ((aT a b).1) ((aT a b).2.1)) ((aT a b).2.2) k og s2 (gh s1.2.2 og)) w0)
 refine gz h <| (xb) fun b1 => (xb) fun b2 => (xa) fun b3 => (xk c1) <| (xa) fun b4 => (xa) fun b5 => (xa) fun b6 => (dr1 (H := [⟨_, []⟩, ⟨_, []⟩, ⟨_, []⟩, ⟨.blk b3 (cQ oQ) 27, [(5, .con (.blk b3 (cQ (bo (aK ((aT a b).1) ((aT a b).2.1)) ((aT a b).2.2))) 27))]⟩, ⟨_, []⟩, ⟨_, []⟩]) (hob := (oK (fI ((aT a b).1) ((aT a b).2.1) (k + 1) og s1.1 s1.2.1)) <| (oK (d6 (aK ((aT a b).1) ((aT a b).2.1)) ((aT a b).2.2) k og s2 (gh s1.2.2 og))) <| oE)) <| (W) ?_; clear h ac; intro ac wo h
 exact ret h rfl (.cell (v := (vQ (bo (aK ((aT a b).1) ((aT a b).2.1)) ((aT a b).2.2)))) rfl (i := 3) rfl aa27 zz27 rfl rfl rfl .nil) rfl (h.retP (by unfold aE; rfl) (by unfold aE; exact s3))
def aZ (a : GQ) : GQ :=
 (⟨(aq a.num), a.den⟩ : GQ)
theorem fl (a : GQ) (k : Nat) (hk : k ≤ 40) (za : SzQ k a) (w0 : World) : Calls Tryz.prog 63 #[(vQ a)] w0 (dI w0 (vQ (aZ a)) (SzQ k (aZ a))) := by
 refine enter (N := 9) (args := [(vQ a)]) Tryz.func63 rfl rfl ?_; intro ac h
 have s1 := ao ((d7 a.num k og za.1) w0)
 refine gz h <| (xb) fun b1 => (xa) fun b2 => (dr1 (H := [⟨.blk b2 (cQ oQ) 27, [(6, .con (.blk b2 (cQ (⟨(aq a.num), a.den⟩ : GQ)) 27))]⟩, ⟨_, []⟩]) (hob := (oK (d7 a.num k og za.1)) <| (oX (h := by exact fun _ => bk (bA oF exs rfl (v := (vQ (⟨(aq a.num), a.den⟩ : GQ))) rfl))) <| oE)) <| (W) ?_; clear h ac; intro ac wo h
 exact ret h rfl (.cell (v := (vQ (⟨(aq a.num), a.den⟩ : GQ))) rfl (i := 0) rfl aa27 zz27 rfl rfl rfl .nil) rfl (h.retP (by unfold aZ; rfl) (by unfold aZ; exact ⟨s1, za.2⟩))
def am (a : GQ) (b : GQ) : GQ :=
 (aE a (aZ b))
theorem cX (a : GQ) (b : GQ) (k : Nat) (hk : (k + 3) ≤ 40) (za : SzQ (k + 3) a) (zb : SzQ (k + 3) b) (w0 : World) : Calls Tryz.prog 22 #[(vQ a), (vQ b)] w0 (dI w0 (vQ (am a b)) (SzQ k (am a b))) := by
 refine enter (N := 9) (args := [(vQ a), (vQ b)]) Tryz.func22 rfl rfl ?_; intro ac h
 have s1 := ao ((fl b (k + 3) og zb) w0)
 have s2 := ao ((cd a (aZ b) k og za s1) w0)
 refine gz h <| (xb) fun b1 => (xb) fun b2 => (xa) fun b3 => (dr1 (H := [⟨.blk b3 (cQ oQ) 27, [(4, .con (.blk b3 (cQ (aE a (aZ b))) 27))]⟩, ⟨_, []⟩, ⟨_, []⟩]) (hob := (oK (fl b (k + 3) og zb)) <| (oK (cd a (aZ b) k og za s1)) <| oE)) <| (W) ?_; clear h ac; intro ac wo h
 exact ret h rfl (.cell (v := (vQ (aE a (aZ b)))) rfl (i := 0) rfl aa27 zz27 rfl rfl rfl .nil) rfl (h.retP (by unfold am; rfl) (by unfold am; exact s2))
def an (a : GQ) (b : GQ) : GQ :=
 (bo (ab a.num b.num) (ab (aa a) (aa b)))
theorem be (a : GQ) (b : GQ) (k : Nat) (hk : (k + 2) ≤ 40) (za : SzQ (k + 2) a) (zb : SzQ (k + 2) b) (w0 : World) : Calls Tryz.prog 21 #[(vQ a), (vQ b)] w0 (dI w0 (vQ (an a b)) (SzQ k (an a b))) := by
 refine enter (N := 16) (args := [(vQ a), (vQ b)]) Tryz.func21 rfl rfl ?_; intro ac h
 have s1 := ao ((bM a.num b.num (k + 1) og za.1 zb.1) w0)
 have s2 := ao ((bE a (k + 2) og za) w0)
 have s3 := ao ((bE b (k + 2) og zb) w0)
 have s4 := ao ((bM (aa a) (aa b) (k + 1) og s2 s3) w0)
 have s5 := ao ((d6 (ab a.num b.num) (ab (aa a) (aa b)) k og s1 s4) w0)
 refine gz h <| (xb) fun b1 => (xb) fun b2 => (xa) fun b3 => (dr1 (H := [⟨.blk b3 (cQ oQ) 27, [(11, .con (.blk b3 (cQ (bo (ab a.num b.num) (ab (aa a) (aa b)))) 27))]⟩, ⟨_, []⟩, ⟨_, []⟩]) (hob := (oK (bM a.num b.num (k + 1) og za.1 zb.1)) <| (oK (bE a (k + 2) og za)) <| (oK (bE b (k + 2) og zb)) <| (oK (bM (aa a) (aa b) (k + 1) og s2 s3)) <| (oK (d6 (ab a.num b.num) (ab (aa a) (aa b)) k og s1 s4)) <| oE)) <| (W) ?_; clear h ac; intro ac wo h
 exact ret h rfl (.cell (v := (vQ (bo (ab a.num b.num) (ab (aa a) (aa b))))) rfl (i := 0) rfl aa27 zz27 rfl rfl rfl .nil) rfl (h.retP (by unfold an; rfl) (by unfold an; exact s5))
def au (a : GQ) : Int :=
 (cz a.num)
theorem dp (a : GQ) (w0 : World) : Calls Tryz.prog 30 #[(vQ a)] w0 (dI w0 (.int .i64 (au a)) ((-1 ≤ (au a) ∧ (au a) ≤ 1))) := by
 refine enter (N := 6) (args := [(vQ a)]) Tryz.func30 rfl rfl ?_; intro ac h
 have p2 := ao ((dX a.num) w0)
 refine gz h <| (xb) fun b1 => (xk (dX a.num)) <| (W) ?_; clear h ac; intro ac wo h
 exact (rt h) (h.retP (by unfold au; rfl) (by unfold au; exact by first | omega | exact fw og og))
def br (a : GQ) (b : GQ) : Int :=
 bif (decide (a = b)) then
  0
 else
  (dB ((aT a b).1) ((aT a b).2.1))
theorem it (a : GQ) (b : GQ) (k : Nat) (hk : (k + 1) ≤ 40) (za : SzQ (k + 1) a) (zb : SzQ (k + 1) b) (w0 : World) : Calls Tryz.prog 87 #[(vQ a), (vQ b)] w0 (dI w0 (.int .i64 (br a b)) ((-1 ≤ (br a b) ∧ (br a b) ≤ 1))) := by
 refine enter (N := 21) (args := [(vQ a), (vQ b)]) Tryz.func87 rfl rfl ?_; intro ac h
 refine gz h <| (xb) fun b1 => (xb) fun b2 => (ai) ?_ ?_ <;> clear h ac <;> intro ac wo h hc1
 ·
  have hd1 := of_decide_eq_true hc1
  have hd : br a b = 0 := pt
  refine gz h <| (W) ?_; clear h ac wo; intro ac wo h
  exact (rt h) (h.retP (by rw [hd] <;> rfl) (by rw [hd]; exact by first | omega | exact fw og og))
 ·
  have hd1 := of_decide_eq_false hc1
  have c1 := kg a b k og za zb
  have s1 := ao (c1 w0)
  have p3 := ao ((gC ((aT a b).1) ((aT a b).2.1) k og s1.1 s1.2.1) w0)
  have hd : br a b = (dB ((aT a b).1) ((aT a b).2.1)) := pt
  refine gz h <| (xk c1) <| (xa) fun b3 => (xa) fun b4 => (xa) fun b5 => (xk (gC ((aT a b).1) ((aT a b).2.1) k og s1.1 s1.2.1)) <| (W) ?_; clear h ac wo; intro ac wo h
  exact (rt h) (h.retP (by rw [hd] <;> rfl) (by rw [hd]; exact by first | omega | exact fw og og))
def aA (c : GQ) : Qd :=
 (⟨c, (⟨(⟨false, 0⟩ : GI), (⟨false, 0⟩ : GI)⟩ : GQ), (⟨(⟨false, 0⟩ : GI), (⟨false, 0⟩ : GI)⟩ : GQ)⟩ : Qd)
theorem gG (c : GQ) (k : Nat) (hk : k ≤ 40) (zc : SzQ k c) (w0 : World) : Calls Tryz.prog 113 #[(vQ c)] w0 (dI w0 (vD (aA c)) (SzD k (aA c))) := by
 refine enter (N := 5) (args := [(vQ c)]) Tryz.func113 rfl rfl ?_; intro ac h
 refine gz h <| (xb) fun b1 => (xa) fun b2 => (xo (hs := by exact bA xF exs rfl (v := (vD (⟨c, oQ, oQ⟩ : Qd))) rfl)) <| (W) ?_; clear h ac; intro ac wo h
 exact ret h rfl (.cell (v := (vD (⟨c, oQ, oQ⟩ : Qd))) rfl (i := 0) rfl Tryz.isAgg53 Tryz.sizeOf53 rfl rfl rfl .nil) rfl (h.retP (by unfold aA; rfl) (by unfold aA; exact ⟨zc, ⟨(df 0 (by decide) og), (df 0 (by decide) og)⟩, ⟨(df 0 (by decide) og), (df 0 (by decide) og)⟩⟩))
end Go.Sx
