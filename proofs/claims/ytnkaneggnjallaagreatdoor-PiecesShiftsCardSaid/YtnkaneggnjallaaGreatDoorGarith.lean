/- A part of the proof that the law PiecesShifts answers true at every input and leaves its arguments as they were. -/
import Derived.Test.YtnkaneggnjallaaGreatDoorProg
import Derived.Test.YtnkaneggnjallaaGreatDoorGdiv
set_option linter.unusedVariables false
set_option linter.unusedSimpArgs false
open Go.Proofs.Tryz renaming isAgg4 → aa4, underlying4 → nn4, isAgg9 → aa9, isAgg38 → aa38, sizeOf38 → zz38, isAgg40 → aa40, sizeOf40 → zz40, runUnderlying38 → uu38, sizeOf9 → zz9, sizeOf4 → zz4, zeroValue38 → vv38, call172 → cc172, call124 → cc124, call192 → cc192, zeroValue40 → vv40, runUnderlying40 → uu40, call164 → cc164, call118 → cc118, call188 → cc188, call159 → cc159, call158 → cc158, call102 → cc102, zeroValue69 → vv69, sizeOf69 → zz69, isAgg69 → aa69, runUnderlying69 → uu69, call100 → cc100, call101 → cc101, runUnderlying53 → uu53, isAgg53 → aa53, sizeOf53 → zz53, call45 → cc45, call58 → cc58, runUnderlying55 → uu55
namespace Go.Sx
open Go Go.RowKit Go.Proofs
set_option maxRecDepth 100000
theorem eqi38 : EqIn Tryz.prog 2 38 vI := eqS (c := cI) (fun _ => rfl) Tryz.underlying38 Tryz.stoodInHeld38 fun d x y w hd => by
 refine Eq.trans (eqF (by decide) (gg aa4 rfl w) (gg aa4 rfl w) (eqB nn4 d (by omega) _ _ w) (eqF (by decide) (gg aa9 rfl w) (gg aa9 rfl w) (eqBs Tryz.underlying9 d (by omega) _ _ w) eqF0)) ?_
 congr 1
 rw [decide_eq_decide]
 cases x; cases y; simp
theorem pX : EqP Tryz.prog 38 vI := EqIn.p (k := 2) rfl (c := fun x => (cI x).toArray) (fun _ => rfl) Tryz.eqGuardType38 eqi38
theorem pY : EqIn Tryz.prog 3 40 vQ := eqS (c := cQ) (fun _ => rfl) Tryz.underlying40 Tryz.stoodInHeld40 fun d x y w hd => by
 refine Eq.trans (eqF (by decide) (ep aa38 zz38 (v := vI (x.num)) rfl w) (ep aa38 zz38 (v := vI (y.num)) rfl w) (eqi38 d _ _ w (by omega)) (eqF (by decide) (ep aa38 zz38 (v := vI (x.den)) rfl w) (ep aa38 zz38 (v := vI (y.den)) rfl w) (eqi38 d _ _ w (by omega)) eqF0)) ?_
 congr 1
 rw [decide_eq_decide]
 cases x; cases y; simp
theorem eqp40 : EqP Tryz.prog 40 vQ := EqIn.p (k := 3) rfl (c := fun x => (cQ x).toArray) (fun _ => rfl) Tryz.eqGuardType40 pY
theorem eqi53 : EqIn Tryz.prog 4 53 vR := eqS (c := cR) (fun _ => rfl) Tryz.underlying53 Tryz.stoodInHeld53 fun d x y w hd => by
 refine Eq.trans (eqF (by decide) (ep aa40 zz40 (v := vQ (x.p)) rfl w) (ep aa40 zz40 (v := vQ (y.p)) rfl w) (pY d _ _ w (by omega)) (eqF (by decide) (ep aa40 zz40 (v := vQ (x.r)) rfl w) (ep aa40 zz40 (v := vQ (y.r)) rfl w) (pY d _ _ w (by omega)) (eqF (by decide) (gg aa4 rfl w) (gg aa4 rfl w) (eqB nn4 d (by omega) _ _ w) eqF0))) ?_
 congr 1
 rw [decide_eq_decide]
 cases x; cases y; simp
theorem m0 : EqP Tryz.prog 53 vR := EqIn.p (k := 4) rfl (c := fun x => (cR x).toArray) (fun _ => rfl) Tryz.eqGuardType53 eqi53
theorem eqi69 : EqIn Tryz.prog 4 69 vD := eqS (c := cD) (fun _ => rfl) Tryz.underlying69 Tryz.stoodInHeld69 fun d x y w hd => by
 refine Eq.trans (eqF (by decide) (ep aa40 zz40 (v := vQ (x.c0)) rfl w) (ep aa40 zz40 (v := vQ (y.c0)) rfl w) (pY d _ _ w (by omega)) (eqF (by decide) (ep aa40 zz40 (v := vQ (x.c1)) rfl w) (ep aa40 zz40 (v := vQ (y.c1)) rfl w) (pY d _ _ w (by omega)) (eqF (by decide) (ep aa40 zz40 (v := vQ (x.c2)) rfl w) (ep aa40 zz40 (v := vQ (y.c2)) rfl w) (pY d _ _ w (by omega)) eqF0))) ?_
 congr 1
 rw [decide_eq_decide]
 cases x; cases y; simp
theorem pW : EqP Tryz.prog 69 vD := EqIn.p (k := 4) rfl (c := fun x => (cD x).toArray) (fun _ => rfl) Tryz.eqGuardType69 eqi69
def cj (a : GI) : Int :=
 bif (decide (a.mag = 0)) then
  0
 else
  bif a.neg then
   (-1)
  else
   1
theorem dx (a : GI) (w0 : World) : Calls Tryz.prog 124 #[(vI a)] w0 (ec w0 (.int .i64 (cj a)) ((-1 ≤ (cj a) ∧ (cj a) ≤ 1))) := by
 refine enter (N := 10) (args := [(vI a)]) Tryz.func124 rfl rfl ?_; intro ac h
 refine dU fun K1 hK1 => ?_
 refine bx h (cI a) rfl rfl rfl fun b1 => g0 (ae rfl) rfl <| gn hK1 <| gq fun K2 hK2 => gB <| gr fun K3 hK3 => g0 (fa uu38 rfl zz9 rfl rfl rfl (k' := 1)) rfl <| g1 0 rfl (aX aa9 zz9 rfl rfl rfl (v := (.string (bs a.mag))) rfl) rfl <| g0 (mF rfl rfl (m := a.mag) (n := 0)) rfl <| g0 (ae rfl) rfl <| gn hK3 ?_; clear h ac; intro ac wo h
 refine cO h rfl (fun hc1 => ?_) (fun hc1 => ?_)
 ·
  have hd1 := of_decide_eq_true hc1
  refine gz h <| gr fun K4 hK4 => g0 (ae rfl) rfl <| gn hK4 <| gT ?_; clear h ac wo; intro ac wo h
  have hd : cj a = 0 := (cT hc1)
  exact ret h rfl (.tmp rfl .nil) rfl (h.retP (by rw [hd] <;> rfl) (by rw [hd]; exact by first | omega | exact es (by omega) (by omega)))
 ·
  have hd1 := of_decide_eq_false hc1
  refine gz h <| gr fun K5 hK5 => g0 (fa uu38 rfl zz4 rfl rfl rfl (k' := 0)) rfl <| g1 0 rfl (aX aa4 zz4 rfl rfl rfl (v := (.bool a.neg)) rfl) rfl <| g0 (ae rfl) rfl <| gn hK5 ?_; clear h ac wo; intro ac wo h
  refine cO h rfl (fun hc2 => ?_) (fun hc2 => ?_)
  ·
   refine gz h <| gr fun K6 hK6 => g0 (ae rfl) rfl <| gn hK6 <| gT ?_; clear h ac wo; intro ac wo h
   have hd : cj a = (-1) := (Eq.trans (cF hc1) (cT hc2))
   exact ret h rfl (.tmp rfl .nil) rfl (h.retP (by rw [hd] <;> rfl) (by rw [hd]; exact by first | omega | exact es (by omega) (by omega)))
  ·
   refine gz h <| gS <| gN <| gx hK2 <| gr fun K7 hK7 => g0 (ae rfl) rfl <| gn hK7 <| gT ?_; clear h ac wo; intro ac wo h
   have hd : cj a = 1 := (Eq.trans (cF hc1) (cF hc2))
   exact ret h rfl (.tmp rfl .nil) rfl (h.retP (by rw [hd] <;> rfl) (by rw [hd]; exact by first | omega | exact es (by omega) (by omega)))
def aj (a : GI) : GI :=
 (aE (!a.neg) a.mag)
theorem eh (a : GI) (k : Nat) (hk : k ≤ 40) (za : SzI k a) (w0 : World) : Calls Tryz.prog 118 #[(vI a)] w0 (ec w0 (vI (aj a)) (SzI k (aj a))) := by
 refine enter (N := 9) (args := [(vI a)]) Tryz.func118 rfl rfl ?_; intro ac h
 have c1 := bW (!a.neg) a.mag k (by omega) za
 have s1 := aA (c1 w0)
 refine dU fun K1 hK1 => ?_
 refine bx h (cI a) rfl rfl rfl fun b1 => ga (cI (⟨false, 0⟩ : GI)) vv38 rfl rfl fun b2 => gn hK1 <| gr fun K2 hK2 => g0 (fa uu38 rfl zz4 rfl rfl rfl (k' := 0)) rfl <| g1 1 rfl (aX aa4 zz4 rfl rfl rfl (v := (.bool a.neg)) rfl) rfl <| g0 (eZ rfl) rfl <| g0 (fa uu38 rfl zz9 rfl rfl rfl (k' := 1)) rfl <| g1 1 rfl (aX aa9 zz9 rfl rfl rfl (v := (.string (bs a.mag))) rfl) rfl <| gl cc172 rfl c1 rfl <| gs 0 (cI (aE (!a.neg) a.mag)) rfl zz38 rfl rfl rfl rfl rfl rfl rfl <| gn hK2 <| gT ?_; clear h ac; intro ac wo h
 exact ret h rfl (.cell (v := (vI (aE (!a.neg) a.mag))) rfl (i := 0) rfl aa38 zz38 rfl rfl rfl .nil) rfl (h.retP (by unfold aj; rfl) (by unfold aj; exact s1))
def aR (a : GI) (b : GI) : Int :=
 bif (a.neg != b.neg) then
  (cY (cj a) (cj b))
 else
  bif a.neg then
   -(ba a.mag b.mag)
  else
   (ba a.mag b.mag)
theorem e9 (a : GI) (b : GI) (k : Nat) (hk : k ≤ 40) (za : SzI k a) (zb : SzI k b) (w0 : World) : Calls Tryz.prog 163 #[(vI a), (vI b)] w0 (ec w0 (.int .i64 (aR a b)) ((-1 ≤ (aR a b) ∧ (aR a b) ≤ 1))) := by
 refine enter (N := 26) (args := [(vI a), (vI b)]) Tryz.func163 rfl rfl ?_; intro ac h
 refine dU fun K1 hK1 => ?_
 refine bx h (cI a) rfl rfl rfl fun b1 => gb (cI b) rfl rfl rfl fun b2 => g0 (ae rfl) rfl <| gn hK1 <| gq fun K2 hK2 => gr fun K3 hK3 => g0 (fa uu38 rfl zz4 rfl rfl rfl (k' := 0)) rfl <| g1 1 rfl (aX aa4 zz4 rfl rfl rfl (v := (.bool a.neg)) rfl) rfl <| g0 (fa uu38 rfl zz4 rfl rfl rfl (k' := 0)) rfl <| g1 0 rfl (aX aa4 zz4 rfl rfl rfl (v := (.bool b.neg)) rfl) rfl <| g0 (oY nn4 rfl rfl) rfl <| gn hK3 ?_; clear h ac; intro ac wo h
 refine cO h rfl (fun hc1 => ?_) (fun hc1 => ?_)
 ·
  refine dy fun K4 hK4 => ?_
  have p2 := aA ((dx a) w0)
  have p4 := aA ((dx b) w0)
  have p6 := aA ((iK (cj a) (cj b)) w0)
  refine cv mixed [dw _ [1], dv _, dw _ [0], dv _, dv _, dv _] [⟨_, []⟩, ⟨_, []⟩] h rfl (by kernel_rfl) ⟨fun _ _ => cr _ rfl rfl (aX aa38 zz38 rfl rfl rfl (v := (vI a)) rfl), fun _ _ => dW (cP cc124 rfl (dx a)), fun _ _ => cr _ rfl rfl (aX aa38 zz38 rfl rfl rfl (v := (vI b)) rfl), fun _ _ => dW (cP cc124 rfl (dx b)), fun _ _ => dW (cP Tryz.call149 rfl (iK (cj a) (cj b))), fun _ _ => aC (ae rfl), trivial⟩ ?_
  clear h ac wo; intro ξ ac wo hφ h
  replace h : St w0 26 [(4, (.int .i64 (cY (cj a) (cj b))))] [.blk b2 (cI b) 38, .blk b1 (cI a) 38] ac wo := h.sub ⟨rfl, trivial⟩
  clear hφ ξ
  refine hK4 _ _ ?_
  refine fw ?_
  have hd : aR a b = (cY (cj a) (cj b)) := (cT hc1)
  exact ret h rfl (.tmp rfl .nil) rfl (h.retP (by rw [hd] <;> rfl) (by rw [hd]; exact by first | omega | exact es (by omega) (by omega)))
 ·
  have p8 := aA ((dq a.mag b.mag) w0)
  refine gz h <| gS <| gx hK2 <| gr fun K5 hK5 => g0 (fa uu38 rfl zz9 rfl rfl rfl (k' := 1)) rfl <| g1 1 rfl (aX aa9 zz9 rfl rfl rfl (v := (.string (bs a.mag))) rfl) rfl <| g0 (fa uu38 rfl zz9 rfl rfl rfl (k' := 1)) rfl <| g1 0 rfl (aX aa9 zz9 rfl rfl rfl (v := (.string (bs b.mag))) rfl) rfl <| gl Tryz.call191 rfl (dq a.mag b.mag) rfl <| g0 (ae rfl) rfl <| gn hK5 <| gq fun K6 hK6 => gr fun K7 hK7 => g0 (fa uu38 rfl zz4 rfl rfl rfl (k' := 0)) rfl <| g1 1 rfl (aX aa4 zz4 rfl rfl rfl (v := (.bool a.neg)) rfl) rfl <| gn hK7 ?_; clear h ac wo; intro ac wo h
  refine cO h rfl (fun hc2 => ?_) (fun hc2 => ?_)
  ·
   refine gz h <| gr fun K8 hK8 => g0 (af rfl) rfl <| g0 (r_neg rfl (r := -(ba a.mag b.mag)) (by rw [IntKind.wrap_i64]; omega)) rfl <| g0 (ae rfl) rfl <| gn hK8 <| gT ?_; clear h ac wo; intro ac wo h
   have hd : aR a b = -(ba a.mag b.mag) := (Eq.trans (cF hc1) (cT hc2))
   exact ret h rfl (.tmp rfl .nil) rfl (h.retP (by rw [hd] <;> rfl) (by rw [hd]; exact by first | omega | exact es (by omega) (by omega)))
  ·
   refine gz h <| gS <| gx hK6 <| gr fun K9 hK9 => g0 (af rfl) rfl <| g0 (ae rfl) rfl <| gn hK9 <| gT ?_; clear h ac wo; intro ac wo h
   have hd : aR a b = (ba a.mag b.mag) := (Eq.trans (cF hc1) (cF hc2))
   exact ret h rfl (.tmp rfl .nil) rfl (h.retP (by rw [hd] <;> rfl) (by rw [hd]; exact by first | omega | exact es (by omega) (by omega)))
def dC (a : GI) (b : GI) : GI :=
 bif (a.neg == b.neg) then
  (aE a.neg (cb a.mag b.mag))
 else
  bif (decide ((ba a.mag b.mag) ≥ 0)) then
   (aE a.neg (cg a.mag b.mag))
  else
   (aE b.neg (cg b.mag a.mag))
theorem jL (a : GI) (b : GI) (k : Nat) (hk : (k + 1) ≤ 40) (za : SzI (k + 1) a) (zb : SzI (k + 1) b) (w0 : World) : Calls Tryz.prog 161 #[(vI a), (vI b)] w0 (ec w0 (vI (dC a b)) (SzI k (dC a b))) := by
 refine enter (N := 42) (args := [(vI a), (vI b)]) Tryz.func161 rfl rfl ?_; intro ac h
 refine dU fun K1 hK1 => ?_
 refine bx h (cI a) rfl rfl rfl fun b1 => gb (cI b) rfl rfl rfl fun b2 => ga (cI (⟨false, 0⟩ : GI)) vv38 rfl rfl fun b3 => gn hK1 <| gq fun K2 hK2 => gB <| gr fun K3 hK3 => g0 (fa uu38 rfl zz4 rfl rfl rfl (k' := 0)) rfl <| g1 2 rfl (aX aa4 zz4 rfl rfl rfl (v := (.bool a.neg)) rfl) rfl <| g0 (fa uu38 rfl zz4 rfl rfl rfl (k' := 0)) rfl <| g1 1 rfl (aX aa4 zz4 rfl rfl rfl (v := (.bool b.neg)) rfl) rfl <| g0 (r_eqlB nn4 rfl rfl) rfl <| g0 (ae rfl) rfl <| gn hK3 ?_; clear h ac; intro ac wo h
 refine cO h rfl (fun hc1 => ?_) (fun hc1 => ?_)
 ·
  have hd1 := eq_of_beq hc1
  refine dy fun K4 hK4 => ?_
  have s1 := aA ((fv a.mag b.mag k (by omega) za zb) w0)
  have s2 := aA ((bW a.neg (cb a.mag b.mag) k (by omega) s1) w0)
  refine cv mixed [dv _, dw _ [2], dv _, dw _ [2], dv _, dw _ [1], dv _, dv _, dw _ [0]] [⟨.blk b3 (cI (⟨false, 0⟩ : GI)) 38, [(8, .con _)]⟩, ⟨_, []⟩, ⟨_, []⟩] h rfl (by kernel_rfl) ⟨fun _ _ => aC (fa uu38 rfl zz4 rfl rfl rfl (k' := 0)), fun _ _ => cr _ rfl rfl (aX aa4 zz4 rfl rfl rfl (v := (.bool a.neg)) rfl), fun _ _ => aC (fa uu38 rfl zz9 rfl rfl rfl (k' := 1)), fun _ _ => cr _ rfl rfl (aX aa9 zz9 rfl rfl rfl (v := (.string (bs a.mag))) rfl), fun _ _ => aC (fa uu38 rfl zz9 rfl rfl rfl (k' := 1)), fun _ _ => cr _ rfl rfl (aX aa9 zz9 rfl rfl rfl (v := (.string (bs b.mag))) rfl), fun _ _ => dW (cP Tryz.call190 rfl (fv a.mag b.mag k (by omega) za zb)), fun _ _ => dW (cP cc172 rfl (bW a.neg (cb a.mag b.mag) k (by omega) s1)), fun _ _ => gh _ [.blk b3 (cI (aE a.neg (cb a.mag b.mag))) 38] rfl rfl (gH zz38 rfl rfl rfl rfl rfl rfl rfl), trivial⟩ ?_
  clear h ac wo; intro ξ ac wo hφ h
  replace h : St w0 42 [(4, (ptr b3 0))] [.blk b3 (cI (aE a.neg (cb a.mag b.mag))) 38, .blk b2 (cI b) 38, .blk b1 (cI a) 38] ac wo := h.sub ⟨rfl, trivial⟩
  clear hφ ξ
  refine hK4 _ _ ?_
  refine fw ?_
  have hd : dC a b = (aE a.neg (cb a.mag b.mag)) := (cT hc1)
  exact ret h rfl (.cell (v := (vI (aE a.neg (cb a.mag b.mag)))) rfl (i := 0) rfl aa38 zz38 rfl rfl rfl .nil) rfl (h.retP (by rw [hd] <;> rfl) (by rw [hd]; exact s2))
 ·
  have hd1 := ne_of_beq_false hc1
  have p4 := aA ((dq a.mag b.mag) w0)
  refine gz h <| gr fun K5 hK5 => g0 (fa uu38 rfl zz9 rfl rfl rfl (k' := 1)) rfl <| g1 2 rfl (aX aa9 zz9 rfl rfl rfl (v := (.string (bs a.mag))) rfl) rfl <| g0 (fa uu38 rfl zz9 rfl rfl rfl (k' := 1)) rfl <| g1 1 rfl (aX aa9 zz9 rfl rfl rfl (v := (.string (bs b.mag))) rfl) rfl <| gl Tryz.call191 rfl (dq a.mag b.mag) rfl <| g0 (mD rfl rfl) rfl <| g0 (ae rfl) rfl <| gn hK5 ?_; clear h ac wo; intro ac wo h
  refine cO h rfl (fun hc2 => ?_) (fun hc2 => ?_)
  ·
   have hd2 := of_decide_eq_true hc2
   refine dy fun K6 hK6 => ?_
   have s5 := aA ((eX a.mag b.mag (k + 1) (by omega) za zb (by first | exact pv ‹_› | exact pu ‹_›)) w0)
   have s6 := aA ((bW a.neg (cg a.mag b.mag) (k + 1) (by omega) s5) w0)
   refine cv mixed [dv _, dw _ [2], dv _, dw _ [2], dv _, dw _ [1], dv _, dv _, dw _ [0]] [⟨.blk b3 (cI (⟨false, 0⟩ : GI)) 38, [(8, .con _)]⟩, ⟨_, []⟩, ⟨_, []⟩] h rfl (by kernel_rfl) ⟨fun _ _ => aC (fa uu38 rfl zz4 rfl rfl rfl (k' := 0)), fun _ _ => cr _ rfl rfl (aX aa4 zz4 rfl rfl rfl (v := (.bool a.neg)) rfl), fun _ _ => aC (fa uu38 rfl zz9 rfl rfl rfl (k' := 1)), fun _ _ => cr _ rfl rfl (aX aa9 zz9 rfl rfl rfl (v := (.string (bs a.mag))) rfl), fun _ _ => aC (fa uu38 rfl zz9 rfl rfl rfl (k' := 1)), fun _ _ => cr _ rfl rfl (aX aa9 zz9 rfl rfl rfl (v := (.string (bs b.mag))) rfl), fun _ _ => dW (cP cc192 rfl (eX a.mag b.mag (k + 1) (by omega) za zb (by first | exact pv ‹_› | exact pu ‹_›))), fun _ _ => dW (cP cc172 rfl (bW a.neg (cg a.mag b.mag) (k + 1) (by omega) s5)), fun _ _ => gh _ [.blk b3 (cI (aE a.neg (cg a.mag b.mag))) 38] rfl rfl (gH zz38 rfl rfl rfl rfl rfl rfl rfl), trivial⟩ ?_
   clear h ac wo; intro ξ ac wo hφ h
   replace h : St w0 42 [(4, (ptr b3 0))] [.blk b3 (cI (aE a.neg (cg a.mag b.mag))) 38, .blk b2 (cI b) 38, .blk b1 (cI a) 38] ac wo := h.sub ⟨rfl, trivial⟩
   clear hφ ξ
   refine hK6 _ _ ?_
   refine fw ?_
   have hd : dC a b = (aE a.neg (cg a.mag b.mag)) := (Eq.trans (cF hc1) (cT hc2))
   exact ret h rfl (.cell (v := (vI (aE a.neg (cg a.mag b.mag)))) rfl (i := 0) rfl aa38 zz38 rfl rfl rfl .nil) rfl (h.retP (by rw [hd] <;> rfl) (by rw [hd]; exact (ig s6 (by omega))))
  ·
   have hd2 := of_decide_eq_false hc2
   refine dZ ?_
   refine nW ?_
   refine hK2 _ _ ?_
   refine dy fun K7 hK7 => ?_
   have s7 := aA ((eX b.mag a.mag (k + 1) (by omega) zb za (by first | exact pv ‹_› | exact pu ‹_›)) w0)
   have s8 := aA ((bW b.neg (cg b.mag a.mag) (k + 1) (by omega) s7) w0)
   refine cv mixed [dv _, dw _ [1], dv _, dw _ [1], dv _, dw _ [2], dv _, dv _, dw _ [0]] [⟨.blk b3 (cI (⟨false, 0⟩ : GI)) 38, [(8, .con _)]⟩, ⟨_, []⟩, ⟨_, []⟩] h rfl (by kernel_rfl) ⟨fun _ _ => aC (fa uu38 rfl zz4 rfl rfl rfl (k' := 0)), fun _ _ => cr _ rfl rfl (aX aa4 zz4 rfl rfl rfl (v := (.bool b.neg)) rfl), fun _ _ => aC (fa uu38 rfl zz9 rfl rfl rfl (k' := 1)), fun _ _ => cr _ rfl rfl (aX aa9 zz9 rfl rfl rfl (v := (.string (bs b.mag))) rfl), fun _ _ => aC (fa uu38 rfl zz9 rfl rfl rfl (k' := 1)), fun _ _ => cr _ rfl rfl (aX aa9 zz9 rfl rfl rfl (v := (.string (bs a.mag))) rfl), fun _ _ => dW (cP cc192 rfl (eX b.mag a.mag (k + 1) (by omega) zb za (by first | exact pv ‹_› | exact pu ‹_›))), fun _ _ => dW (cP cc172 rfl (bW b.neg (cg b.mag a.mag) (k + 1) (by omega) s7)), fun _ _ => gh _ [.blk b3 (cI (aE b.neg (cg b.mag a.mag))) 38] rfl rfl (gH zz38 rfl rfl rfl rfl rfl rfl rfl), trivial⟩ ?_
   clear h ac wo; intro ξ ac wo hφ h
   replace h : St w0 42 [(4, (ptr b3 0))] [.blk b3 (cI (aE b.neg (cg b.mag a.mag))) 38, .blk b2 (cI b) 38, .blk b1 (cI a) 38] ac wo := h.sub ⟨rfl, trivial⟩
   clear hφ ξ
   refine hK7 _ _ ?_
   refine fw ?_
   have hd : dC a b = (aE b.neg (cg b.mag a.mag)) := (Eq.trans (cF hc1) (cF hc2))
   exact ret h rfl (.cell (v := (vI (aE b.neg (cg b.mag a.mag)))) rfl (i := 0) rfl aa38 zz38 rfl rfl rfl .nil) rfl (h.retP (by rw [hd] <;> rfl) (by rw [hd]; exact (ig s8 (by omega))))
def bm (a : GI) (b : GI) : GI :=
 (aE (a.neg != b.neg) (dm a.mag b.mag))
theorem dM (a : GI) (b : GI) (k : Nat) (hk : (k + 1) ≤ 40) (za : SzI (k + 1) a) (zb : SzI (k + 1) b) (w0 : World) : Calls Tryz.prog 158 #[(vI a), (vI b)] w0 (ec w0 (vI (bm a b)) (SzI k (bm a b))) := by
 refine enter (N := 16) (args := [(vI a), (vI b)]) Tryz.func158 rfl rfl ?_; intro ac h
 have s1 := aA ((iz a.mag b.mag k (by omega) za zb) w0)
 have s2 := aA ((bW (a.neg != b.neg) (dm a.mag b.mag) k (by omega) s1) w0)
 refine dU fun K1 hK1 => ?_
 refine bx h (cI a) rfl rfl rfl fun b1 => gb (cI b) rfl rfl rfl fun b2 => ga (cI (⟨false, 0⟩ : GI)) vv38 rfl rfl fun b3 => gn hK1 <| gq fun K2 hK2 => ?_; clear h ac; intro ac wo h
 refine cv mixed [dv _, dw _ [2], dv _, dw _ [1], dv _, dv _, dw _ [2], dv _, dw _ [1], dv _, dv _, dw _ [0]] [⟨.blk b3 (cI (⟨false, 0⟩ : GI)) 38, [(11, .con _)]⟩, ⟨_, []⟩, ⟨_, []⟩] h rfl (by kernel_rfl) ⟨fun _ _ => aC (fa uu38 rfl zz4 rfl rfl rfl (k' := 0)), fun _ _ => cr _ rfl rfl (aX aa4 zz4 rfl rfl rfl (v := (.bool a.neg)) rfl), fun _ _ => aC (fa uu38 rfl zz4 rfl rfl rfl (k' := 0)), fun _ _ => cr _ rfl rfl (aX aa4 zz4 rfl rfl rfl (v := (.bool b.neg)) rfl), fun _ _ => aC (oY nn4 rfl rfl), fun _ _ => aC (fa uu38 rfl zz9 rfl rfl rfl (k' := 1)), fun _ _ => cr _ rfl rfl (aX aa9 zz9 rfl rfl rfl (v := (.string (bs a.mag))) rfl), fun _ _ => aC (fa uu38 rfl zz9 rfl rfl rfl (k' := 1)), fun _ _ => cr _ rfl rfl (aX aa9 zz9 rfl rfl rfl (v := (.string (bs b.mag))) rfl), fun _ _ => dW (cP Tryz.call189 rfl (iz a.mag b.mag k (by omega) za zb)), fun _ _ => dW (cP cc172 rfl (bW (a.neg != b.neg) (dm a.mag b.mag) k (by omega) s1)), fun _ _ => gh _ [.blk b3 (cI (aE (a.neg != b.neg) (dm a.mag b.mag))) 38] rfl rfl (gH zz38 rfl rfl rfl rfl rfl rfl rfl), trivial⟩ ?_
 clear h ac wo; intro ξ ac wo hφ h
 replace h : St w0 16 [(4, (ptr b3 0))] [.blk b3 (cI (aE (a.neg != b.neg) (dm a.mag b.mag))) 38, .blk b2 (cI b) 38, .blk b1 (cI a) 38] ac wo := h.sub ⟨rfl, trivial⟩
 clear hφ ξ
 refine hK2 _ _ ?_
 refine fw ?_
 exact ret h rfl (.cell (v := (vI (aE (a.neg != b.neg) (dm a.mag b.mag)))) rfl (i := 0) rfl aa38 zz38 rfl rfl rfl .nil) rfl (h.retP (by unfold bm; rfl) (by unfold bm; exact s2))
def aB (a b : GI) : GI := aE false (Nat.gcd a.mag b.mag)
theorem pi (x y : Nat) : Nat.gcd y (x % y) = Nat.gcd x y := by rw [Nat.gcd_comm x y, Nat.gcd_rec y x, Nat.gcd_comm]
theorem gm (a : GI) (b : GI) (k : Nat) (hk : k ≤ 40) (za : SzI k a) (zb : SzI k b) (w0 : World) : Calls Tryz.prog 165 #[(vI a), (vI b)] w0 (ec w0 (vI (aB a b)) (SzI k (aB a b))) := by
 refine enter (N := 45) (args := [(vI a), (vI b)]) Tryz.func165 rfl rfl ?_; intro ac h
 refine dU fun K1 hK1 => ?_
 refine bx h (cI a) rfl rfl rfl fun b1 => gb (cI b) rfl rfl rfl fun b2 => ga (cI (⟨false, 0⟩ : GI)) vv38 rfl rfl fun b3 => gn hK1 <| gq fun K2 hK2 => ?_; clear h ac; intro ac wo h
 refine cv mixed [dv _, dw _ [2], dv _, dw _ [1], dv _, dv _] [⟨_, []⟩, ⟨_, []⟩, ⟨_, []⟩] h rfl (by kernel_rfl) ⟨fun _ _ => aC (fa uu38 rfl zz9 rfl rfl rfl (k' := 1)), fun _ _ => cr _ rfl rfl (aX aa9 zz9 rfl rfl rfl (v := (.string (bs a.mag))) rfl), fun _ _ => aC (fa uu38 rfl zz9 rfl rfl rfl (k' := 1)), fun _ _ => cr _ rfl rfl (aX aa9 zz9 rfl rfl rfl (v := (.string (bs b.mag))) rfl), fun _ _ => aC (ae rfl), fun _ _ => aC (ae rfl), trivial⟩ ?_
 clear h ac wo; intro ξ ac wo hφ h
 replace h : St w0 45 [(4, (ptr b3 0)), (5, (.string (bs a.mag))), (6, (.string (bs b.mag)))] [.blk b3 (cI (⟨false, 0⟩ : GI)) 38, .blk b2 (cI b) 38, .blk b1 (cI a) 38] ac wo := h.sub ⟨rfl, rfl, rfl, trivial⟩
 clear hφ ξ
 refine hK2 _ _ ?_
 refine dy fun K3 hK3 => ?_
 refine fH ?_
 refine wp_loop_ghost (fun n_ a_ w_ => ∃ (x : Nat) (y : Nat), n_ = 1 * y ∧ (Nat.gcd x y = Nat.gcd a.mag b.mag) ∧ (SzB k x) ∧ (SzB k y) ∧ St w0 45 [(4, (ptr b3 0)), (5, (.string (bs x))), (6, (.string (bs y)))] [.blk b3 (cI (⟨false, 0⟩ : GI)) 38, .blk b2 (cI b) 38, .blk b1 (cI a) 38] a_ w_) _ ⟨a.mag, b.mag, rfl, rfl, za, zb, (h.pick [0, 1, 2] (by decide)).sub ⟨rfl, rfl, rfl, trivial⟩⟩ ?_
 clear h ac wo; rintro _ ac wo ⟨x, y, rfl, hg, zx, zy, h⟩
 refine gz h <| gq fun K4 hK4 => gr fun K5 hK5 => g0 (af rfl) rfl <| g0 (lD rfl rfl (m := y) (n := 0)) rfl <| gn hK5 ?_; clear h ac wo; intro ac wo h
 refine cO h rfl (fun hc1 => ?_) (fun hc1 => ?_)
 ·
  have hy : y ≠ 0 := by simpa using hc1
  refine gz h <| gS <| gx hK4 <| gB <| gq fun K6 hK6 => gr fun K7 hK7 => g0 (af rfl) rfl <| g0 (af rfl) rfl <| gl Tryz.call193 rfl (eV x y) rfl <| g0 (af rfl) rfl <| g0 (bg rfl rfl) rfl <| g0 (bg rfl rfl) rfl <| g0 (bg rfl rfl) rfl <| g0 (ae rfl) rfl <| g0 (ae rfl) rfl <| g0 (ae rfl) rfl <| gn hK7 <| gr fun K8 hK8 => g0 (af rfl) rfl <| gn hK8 ?_; clear h ac wo; intro ac wo h
  refine cO h rfl (fun hc2 => ?_) (fun hc2 => ?_)
  ·
   obtain ⟨ha6, hb6, hw⟩ := ja hc2
   simp only [hw] at h
   refine dy fun K9 hK9 => ?_
   refine fH ?_
   refine wp_loop_ghost (fun n_ a_ w_ => ∃ (u : Nat) (v : Nat), n_ = 1 * v ∧ (Nat.gcd u v = Nat.gcd a.mag b.mag) ∧ (SzB k u) ∧ (SzB k v) ∧ (u < 18446744073709551616 ∧ v < 18446744073709551616) ∧ St w0 45 [(4, (ptr b3 0)), (7, (.int .u64 ((u : Nat) : Int))), (8, (.int .u64 ((v : Nat) : Int)))] [.blk b3 (cI (⟨false, 0⟩ : GI)) 38, .blk b2 (cI b) 38, .blk b1 (cI a) 38] a_ w_) _ ⟨x, y, rfl, hg, zx, zy, ⟨ha6, hb6⟩, (h.pick [0, 1, 2] (by decide)).sub ⟨rfl, rfl, rfl, trivial⟩⟩ ?_
   clear h ac wo; rintro _ ac wo ⟨u, v, rfl, hgu, zu, zv, hul, h⟩
   refine gz h <| gq fun K10 hK10 => gr fun K11 hK11 => g0 (af rfl) rfl <| g0 (gw rfl rfl) rfl <| gn hK11 ?_; clear h ac wo; intro ac wo h
   refine cO h rfl (fun hc3 => ?_) (fun hc3 => ?_)
   ·
    have hv : v ≠ 0 := by have := hc3; simp at this; omega
    refine dZ ?_
    refine hK10 _ _ ?_
    refine fH ?_
    refine cv mixed [dv _, dv _, dv _, dv _, dv _, dv _] [⟨_, []⟩, ⟨_, []⟩, ⟨_, []⟩] h rfl (by kernel_rfl) ⟨fun _ _ => om rfl, fun _ _ => om rfl, fun _ _ => om rfl, fun _ _ => aC (gC rfl rfl (r := ((u % v : Nat) : Int)) (by omega) (by rw [Int.tmod_eq_emod_of_nonneg (by omega)]; rfl)), fun _ _ => aC (ae rfl), fun _ _ => aC (ae rfl), trivial⟩ ?_
    clear h ac wo; intro ξ ac wo hφ h
    replace h : St w0 45 [(4, (ptr b3 0)), (7, (.int .u64 ((v : Nat) : Int))), (8, (.int .u64 ((u % v : Nat) : Int)))] [.blk b3 (cI (⟨false, 0⟩ : GI)) 38, .blk b2 (cI b) 38, .blk b1 (cI a) 38] ac wo := h.sub ⟨rfl, rfl, rfl, trivial⟩
    clear hφ ξ
    refine nW ?_
    exact aM ⟨_, (by have := Nat.mod_lt u (show v > 0 by omega); omega), v, (u % v), rfl, (by rw [pi]; exact hgu), zv, (fA zu (Nat.mod_le _ _)), ⟨hul.2, by have := Nat.mod_lt u (show v > 0 by omega); omega⟩, (h.pick [0, 1, 2] (by decide)).sub ⟨rfl, rfl, rfl, trivial⟩⟩
   ·
    have hv : v = 0 := by have := hc3; simp at this; omega
    subst hv
    have c1 := bW false (bk u) k (by omega) zu
    have s1 := aA (c1 w0)
    refine gz h <| gE <| gx hK9 <| gr fun K12 hK12 => g0 (af rfl) rfl <| gl Tryz.call173 rfl (cL u hul.1) rfl <| gl cc172 rfl c1 rfl <| gs 0 (cI (aE false (bk u))) rfl zz38 rfl rfl rfl rfl rfl rfl rfl <| gn hK12 <| gT ?_; clear h ac wo; intro ac wo h
    have hd : aB a b = (aE false (bk u)) := (by rw [Nat.gcd_zero_right] at hgu; unfold aB; rw [← hgu]; rfl)
    exact ret h rfl (.cell (v := (vI (aE false (bk u)))) rfl (i := 0) rfl aa38 zz38 rfl rfl rfl .nil) rfl (h.retP (by rw [hd] <;> rfl) (by rw [hd]; exact s1))
  ·
   have c2 := gk x y k (by omega) zx zy (by omega)
   have s2 := aA (c2 w0)
   refine gz h <| gS <| gx hK6 <| gr fun K13 hK13 => g0 (af rfl) rfl <| g0 (af rfl) rfl <| gl Tryz.call194 rfl c2 rfl <| g0 (af rfl) rfl <| g0 (bg rfl rfl) rfl <| g0 (bg rfl rfl) rfl <| g0 (ae rfl) rfl <| g0 (ae rfl) rfl <| gn hK13 <| gR <| g0 (af rfl) rfl <| g0 (af rfl) rfl <| g0 (ae rfl) rfl <| g0 (ae rfl) rfl <| gx (fun _ _ => bR) <| gN ?_; clear h ac wo; intro ac wo h
   exact aM ⟨_, (by have := Nat.mod_lt x (show y > 0 by omega); omega), y, (x % y), rfl, (by rw [pi]; exact hg), zy, (fA zx (Nat.mod_le _ _)), (h.pick [0, 1, 2] (by decide)).sub ⟨rfl, rfl, rfl, trivial⟩⟩
 ·
  have hy : y = 0 := by simpa using hc1
  subst hy
  have c3 := bW false x k (by omega) zx
  have s3 := aA (c3 w0)
  refine gz h <| gE <| gx hK3 <| gr fun K14 hK14 => g0 (af rfl) rfl <| gl cc172 rfl c3 rfl <| gs 0 (cI (aE false x)) rfl zz38 rfl rfl rfl rfl rfl rfl rfl <| gn hK14 <| gT ?_; clear h ac wo; intro ac wo h
  have hd : aB a b = (aE false x) := (by rw [Nat.gcd_zero_right] at hg; unfold aB; rw [← hg])
  exact ret h rfl (.cell (v := (vI (aE false x))) rfl (i := 0) rfl aa38 zz38 rfl rfl rfl .nil) rfl (h.retP (by rw [hd] <;> rfl) (by rw [hd]; exact s3))
def cJ (a : GI) (b : GI) : GI × GI × Int :=
 bif (decide (b.mag = 0)) then
  ((⟨false, 0⟩ : GI), (⟨false, 0⟩ : GI), 6)
 else
  bif (a.neg && (!(decide (((aW a.mag b.mag).2) = 0)))) then
   ((aE (a.neg != b.neg) (cb ((aW a.mag b.mag).1) 1)), (aE false (cg b.mag ((aW a.mag b.mag).2))), 0)
  else
   ((aE (a.neg != b.neg) ((aW a.mag b.mag).1)), (aE false ((aW a.mag b.mag).2)), 0)
theorem kF (a : GI) (b : GI) (k : Nat) (hk : (k + 1) ≤ 40) (za : SzI (k + 1) a) (zb : SzI (k + 1) b) (w0 : World) : Calls Tryz.prog 212 #[(vI a), (vI b)] w0 (ec w0 (.tuple #[(vI ((cJ a b).1)), (vI ((cJ a b).2.1)), (.int .i64 ((cJ a b).2.2))]) (SzI k ((cJ a b).1) ∧ SzI k ((cJ a b).2.1))) := by
 refine enter (N := 43) (args := [(vI a), (vI b)]) Tryz.func212 rfl rfl ?_; intro ac h
 refine dU fun K1 hK1 => ?_
 refine bx h (cI a) rfl rfl rfl fun b1 => gb (cI b) rfl rfl rfl fun b2 => ga (cI (⟨false, 0⟩ : GI)) vv38 rfl rfl fun b3 => ga (cI (⟨false, 0⟩ : GI)) vv38 rfl rfl fun b4 => g0 (ae rfl) rfl <| gn hK1 <| gq fun K2 hK2 => gr fun K3 hK3 => g0 (fa uu38 rfl zz9 rfl rfl rfl (k' := 1)) rfl <| g1 2 rfl (aX aa9 zz9 rfl rfl rfl (v := (.string (bs b.mag))) rfl) rfl <| g0 (mF rfl rfl (m := b.mag) (n := 0)) rfl <| gn hK3 ?_; clear h ac; intro ac wo h
 refine cO h rfl (fun hc1 => ?_) (fun hc1 => ?_)
 ·
  have hd1 := of_decide_eq_true hc1
  refine gz h <| gr fun K4 hK4 => g0 (bC nh rfl rfl (v := (vI (⟨false, 0⟩ : GI))) rfl) rfl <| g0 (bC nh rfl rfl (v := (vI (⟨false, 0⟩ : GI))) rfl) rfl <| gs 1 (cI (⟨false, 0⟩ : GI)) rfl zz38 rfl rfl rfl rfl rfl rfl rfl <| gs 0 (cI (⟨false, 0⟩ : GI)) rfl zz38 rfl rfl rfl rfl rfl rfl rfl <| g0 (ae rfl) rfl <| gn hK4 <| gT ?_; clear h ac wo; intro ac wo h
  have hd : cJ a b = ((⟨false, 0⟩ : GI), (⟨false, 0⟩ : GI), 6) := (cT hc1)
  exact ret h rfl (.cell (v := (vI (⟨false, 0⟩ : GI))) rfl (i := 1) rfl aa38 zz38 rfl rfl rfl (.cell (v := (vI (⟨false, 0⟩ : GI))) rfl (i := 0) rfl aa38 zz38 rfl rfl rfl (.tmp rfl .nil))) rfl (h.retP (by rw [hd] <;> rfl) (by rw [hd]; exact ⟨(cc 0 (by decide) (by omega)), (cc 0 (by decide) (by omega))⟩))
 ·
  have hd1 := of_decide_eq_false hc1
  have c1 := gk a.mag b.mag (k + 1) (by omega) za zb (by omega)
  have s1 := aA (c1 w0)
  refine gz h <| gS <| gx hK2 <| gr fun K5 hK5 => g0 (fa uu38 rfl zz9 rfl rfl rfl (k' := 1)) rfl <| g1 3 rfl (aX aa9 zz9 rfl rfl rfl (v := (.string (bs a.mag))) rfl) rfl <| g0 (fa uu38 rfl zz9 rfl rfl rfl (k' := 1)) rfl <| g1 2 rfl (aX aa9 zz9 rfl rfl rfl (v := (.string (bs b.mag))) rfl) rfl <| gl Tryz.call194 rfl c1 rfl <| g0 (af rfl) rfl <| g0 (bg rfl rfl) rfl <| g0 (bg rfl rfl) rfl <| g0 (ae rfl) rfl <| g0 (ae rfl) rfl <| gn hK5 <| gq fun K6 hK6 => gr fun K7 hK7 => g0 (fa uu38 rfl zz4 rfl rfl rfl (k' := 0)) rfl <| g1 3 rfl (aX aa4 zz4 rfl rfl rfl (v := (.bool a.neg)) rfl) rfl <| g0 (af rfl) rfl <| ge1 rfl rfl (fun hg => (Rd.of_nil (af rfl)).step) rfl <| ge1 rfl rfl (fun hg => (Rd.of_nil (lD (ap rfl hg) rfl (m := ((aW a.mag b.mag).2)) (n := 0))).step) rfl <| g0 (ef rfl (fun e => (ap rfl e))) rfl <| gn hK7 ?_; clear h ac wo; intro ac wo h
  refine cO h rfl (fun hc2 => ?_) (fun hc2 => ?_)
  ·
   have s2 := aA ((fv ((aW a.mag b.mag).1) 1 k (by omega) s1.1 (cc 1 (by decide) (by omega))) w0)
   have s3 := aA ((eX b.mag ((aW a.mag b.mag).2) (k + 1) (by omega) zb s1.2 (Nat.le_of_lt (Nat.mod_lt _ (by omega)))) w0)
   refine cv mixed [dv _, dv _, dv _, dw _ [2], dv _, dv _, dv _, dv _] [⟨_, []⟩, ⟨_, []⟩, ⟨_, []⟩, ⟨_, []⟩] h rfl (by kernel_rfl) ⟨fun _ _ => om rfl, fun _ _ => dW (cP Tryz.call190 rfl (fv ((aW a.mag b.mag).1) 1 k (by omega) s1.1 (cc 1 (by decide) (by omega)))), fun _ _ => aC (fa uu38 rfl zz9 rfl rfl rfl (k' := 1)), fun _ _ => cr _ rfl rfl (aX aa9 zz9 rfl rfl rfl (v := (.string (bs b.mag))) rfl), fun _ _ => om rfl, fun _ _ => dW (cP cc192 rfl (eX b.mag ((aW a.mag b.mag).2) (k + 1) (by omega) zb s1.2 (Nat.le_of_lt (Nat.mod_lt _ (by omega))))), fun _ _ => aC (ae rfl), fun _ _ => aC (ae rfl), trivial⟩ ?_
   clear h ac wo; intro ξ ac wo hφ h
   replace h : St w0 43 [(2, (ptr b1 0)), (3, (ptr b2 0)), (4, (ptr b3 0)), (5, (ptr b4 0)), (7, (.string (bs (cb ((aW a.mag b.mag).1) 1)))), (8, (.string (bs (cg b.mag ((aW a.mag b.mag).2)))))] [.blk b4 (cI (⟨false, 0⟩ : GI)) 38, .blk b3 (cI (⟨false, 0⟩ : GI)) 38, .blk b2 (cI b) 38, .blk b1 (cI a) 38] ac wo := h.sub ⟨rfl, rfl, rfl, rfl, rfl, rfl, trivial⟩
   clear hφ ξ
   have c4 := bW (a.neg != b.neg) (cb ((aW a.mag b.mag).1) 1) k (by omega) s2
   have s4 := aA (c4 w0)
   have c5 := bW false (cg b.mag ((aW a.mag b.mag).2)) (k + 1) (by omega) s3
   have s5 := aA (c5 w0)
   refine gz h <| gx hK6 <| gr fun K8 hK8 => g0 (fa uu38 rfl zz4 rfl rfl rfl (k' := 0)) rfl <| g1 3 rfl (aX aa4 zz4 rfl rfl rfl (v := (.bool a.neg)) rfl) rfl <| g0 (fa uu38 rfl zz4 rfl rfl rfl (k' := 0)) rfl <| g1 2 rfl (aX aa4 zz4 rfl rfl rfl (v := (.bool b.neg)) rfl) rfl <| g0 (oY nn4 rfl rfl) rfl <| g0 (af rfl) rfl <| gl cc172 rfl c4 rfl <| g0 (af rfl) rfl <| gl cc172 rfl c5 rfl <| gs 1 (cI (aE (a.neg != b.neg) (cb ((aW a.mag b.mag).1) 1))) rfl zz38 rfl rfl rfl rfl rfl rfl rfl <| gs 0 (cI (aE false (cg b.mag ((aW a.mag b.mag).2)))) rfl zz38 rfl rfl rfl rfl rfl rfl rfl <| g0 (ae rfl) rfl <| gn hK8 <| gT ?_; clear h ac wo; intro ac wo h
   have hd : cJ a b = ((aE (a.neg != b.neg) (cb ((aW a.mag b.mag).1) 1)), (aE false (cg b.mag ((aW a.mag b.mag).2))), 0) := (Eq.trans (cF hc1) (cT hc2))
   exact ret h rfl (.cell (v := (vI (aE (a.neg != b.neg) (cb ((aW a.mag b.mag).1) 1)))) rfl (i := 1) rfl aa38 zz38 rfl rfl rfl (.cell (v := (vI (aE false (cg b.mag ((aW a.mag b.mag).2))))) rfl (i := 0) rfl aa38 zz38 rfl rfl rfl (.tmp rfl .nil))) rfl (h.retP (by rw [hd] <;> rfl) (by rw [hd]; exact ⟨s4, (ig s5 (by omega))⟩))
  ·
   have c6 := bW (a.neg != b.neg) ((aW a.mag b.mag).1) (k + 1) (by omega) s1.1
   have s6 := aA (c6 w0)
   have c7 := bW false ((aW a.mag b.mag).2) (k + 1) (by omega) s1.2
   have s7 := aA (c7 w0)
   refine gz h <| gS <| gx hK6 <| gr fun K9 hK9 => g0 (fa uu38 rfl zz4 rfl rfl rfl (k' := 0)) rfl <| g1 3 rfl (aX aa4 zz4 rfl rfl rfl (v := (.bool a.neg)) rfl) rfl <| g0 (fa uu38 rfl zz4 rfl rfl rfl (k' := 0)) rfl <| g1 2 rfl (aX aa4 zz4 rfl rfl rfl (v := (.bool b.neg)) rfl) rfl <| g0 (oY nn4 rfl rfl) rfl <| g0 (af rfl) rfl <| gl cc172 rfl c6 rfl <| g0 (af rfl) rfl <| gl cc172 rfl c7 rfl <| gs 1 (cI (aE (a.neg != b.neg) ((aW a.mag b.mag).1))) rfl zz38 rfl rfl rfl rfl rfl rfl rfl <| gs 0 (cI (aE false ((aW a.mag b.mag).2))) rfl zz38 rfl rfl rfl rfl rfl rfl rfl <| g0 (ae rfl) rfl <| gn hK9 <| gT ?_; clear h ac wo; intro ac wo h
   have hd : cJ a b = ((aE (a.neg != b.neg) ((aW a.mag b.mag).1)), (aE false ((aW a.mag b.mag).2)), 0) := (Eq.trans (cF hc1) (cF hc2))
   exact ret h rfl (.cell (v := (vI (aE (a.neg != b.neg) ((aW a.mag b.mag).1)))) rfl (i := 1) rfl aa38 zz38 rfl rfl rfl (.cell (v := (vI (aE false ((aW a.mag b.mag).2)))) rfl (i := 0) rfl aa38 zz38 rfl rfl rfl (.tmp rfl .nil))) rfl (h.retP (by rw [hd] <;> rfl) (by rw [hd]; exact ⟨(ig s6 (by omega)), (ig s7 (by omega))⟩))
def rational_one  : GI :=
 (a6 1)
theorem d6 (k : Nat) (hk : k ≤ 40) (w0 : World) : Calls Tryz.prog 164 #[] w0 (ec w0 (vI rational_one) (SzI k rational_one)) := by
 refine enter (N := 2) (args := []) Tryz.func164 rfl rfl ?_; intro ac h
 have c1 := e8 1 k (by omega)  (by omega)
 have s1 := aA (c1 w0)
 refine dU fun K1 hK1 => ?_
 refine al h (cI (⟨false, 0⟩ : GI)) vv38 rfl rfl fun b1 => gn hK1 <| gr fun K2 hK2 => gl Tryz.call113 rfl c1 rfl <| gs 0 (cI (a6 1)) rfl zz38 rfl rfl rfl rfl rfl rfl rfl <| gn hK2 <| gT ?_; clear h ac; intro ac wo h
 exact ret h rfl (.cell (v := (vI (a6 1))) rfl (i := 0) rfl aa38 zz38 rfl rfl rfl .nil) rfl (h.retP (by unfold rational_one; rfl) (by unfold rational_one; exact s1))
def ah (n : Int) : GQ :=
 (⟨(a6 n), (⟨false, 0⟩ : GI)⟩ : GQ)
theorem bD (n : Int) (k : Nat) (hk : k ≤ 40) (hn : -9223372036854775808 ≤ n ∧ n ≤ 9223372036854775807) (w0 : World) : Calls Tryz.prog 45 #[(.int .i64 n)] w0 (ec w0 (vQ (ah n)) (SzQ k (ah n))) := by
 refine enter (N := 6) (args := [(.int .i64 n)]) Tryz.func45 rfl rfl ?_; intro ac h
 have c1 := e8 n k (by omega)  (by omega)
 have s1 := aA (c1 w0)
 refine dU fun K1 hK1 => ?_
 refine al h (cQ oQ) vv40 rfl rfl fun b1 => gn hK1 <| gr fun K2 hK2 => g0 (af rfl) rfl <| gl Tryz.call113 rfl c1 rfl <| g0 (bC lW rfl rfl (v := (vQ (⟨(a6 n), (⟨false, 0⟩ : GI)⟩ : GQ))) rfl) rfl <| gs 0 (cQ (⟨(a6 n), (⟨false, 0⟩ : GI)⟩ : GQ)) rfl zz40 rfl rfl rfl rfl rfl rfl rfl <| gn hK2 <| gT ?_; clear h ac; intro ac wo h
 exact ret h rfl (.cell (v := (vQ (⟨(a6 n), (⟨false, 0⟩ : GI)⟩ : GQ))) rfl (i := 0) rfl aa40 zz40 rfl rfl rfl .nil) rfl (h.retP (by unfold ah; rfl) (by unfold ah; exact ⟨s1, (cc 0 (by decide) (by omega))⟩))
def aG (a : GQ) : GI :=
 bif (decide (a.den = (⟨false, 0⟩ : GI))) then
  rational_one
 else
  a.den
theorem cq (a : GQ) (k : Nat) (hk : k ≤ 40) (za : SzQ k a) (w0 : World) : Calls Tryz.prog 159 #[(vQ a)] w0 (ec w0 (vI (aG a)) (SzI k (aG a))) := by
 refine enter (N := 10) (args := [(vQ a)]) Tryz.func159 rfl rfl ?_; intro ac h
 refine dU fun K1 hK1 => ?_
 refine bx h (cQ a) rfl rfl rfl fun b1 => ga (cI (⟨false, 0⟩ : GI)) vv38 rfl rfl fun b2 => gn hK1 <| gq fun K2 hK2 => gr fun K3 hK3 => g0 (fa uu40 rfl zz38 rfl rfl rfl (k' := 2)) rfl <| g1 1 rfl (aX aa38 zz38 rfl rfl rfl (v := (vI a.den)) rfl) rfl <| g0 (bC nh rfl rfl (v := (vI (⟨false, 0⟩ : GI))) rfl) rfl <| g0 (fM pX rfl rfl) rfl <| gn hK3 ?_; clear h ac; intro ac wo h
 refine cO h rfl (fun hc1 => ?_) (fun hc1 => ?_)
 ·
  have hd1 := of_decide_eq_true hc1
  have c1 := d6  k (by omega) 
  have s1 := aA (c1 w0)
  refine gz h <| gr fun K4 hK4 => gl cc164 rfl c1 rfl <| gs 0 (cI rational_one) rfl zz38 rfl rfl rfl rfl rfl rfl rfl <| gn hK4 <| gT ?_; clear h ac wo; intro ac wo h
  have hd : aG a = rational_one := (cT hc1)
  exact ret h rfl (.cell (v := (vI rational_one)) rfl (i := 0) rfl aa38 zz38 rfl rfl rfl .nil) rfl (h.retP (by rw [hd] <;> rfl) (by rw [hd]; exact s1))
 ·
  have hd1 := of_decide_eq_false hc1
  refine gz h <| gS <| gx hK2 <| gr fun K5 hK5 => g0 (fa uu40 rfl zz38 rfl rfl rfl (k' := 2)) rfl <| g1 1 rfl (aX aa38 zz38 rfl rfl rfl (v := (vI a.den)) rfl) rfl <| gs 0 (cI a.den) rfl zz38 rfl rfl rfl rfl rfl rfl rfl <| gn hK5 <| gT ?_; clear h ac wo; intro ac wo h
  have hd : aG a = a.den := (cF hc1)
  exact ret h rfl (.cell (v := (vI a.den)) rfl (i := 0) rfl aa38 zz38 rfl rfl rfl .nil) rfl (h.retP (by rw [hd] <;> rfl) (by rw [hd]; exact za.2))
def ao (a : GI) (b : GI) : GI :=
 (cJ a b).1
theorem da (a : GI) (b : GI) (k : Nat) (hk : (k + 1) ≤ 40) (za : SzI (k + 1) a) (zb : SzI (k + 1) b) (w0 : World) : Calls Tryz.prog 188 #[(vI a), (vI b)] w0 (ec w0 (vI (ao a b)) (SzI k (ao a b))) := by
 refine enter (N := 16) (args := [(vI a), (vI b)]) Tryz.func188 rfl rfl ?_; intro ac h
 have c1 := kF a b k (by omega) za zb
 have s1 := aA (c1 w0)
 refine dU fun K1 hK1 => ?_
 refine bx h (cI a) rfl rfl rfl fun b1 => gb (cI b) rfl rfl rfl fun b2 => ga (cI (⟨false, 0⟩ : GI)) vv38 rfl rfl fun b3 => gn hK1 <| gr fun K2 hK2 => g1 2 rfl (aX aa38 zz38 rfl rfl rfl (v := (vI a)) rfl) rfl <| g1 1 rfl (aX aa38 zz38 rfl rfl rfl (v := (vI b)) rfl) rfl <| gl Tryz.call212 rfl c1 rfl <| g0 (af rfl) rfl <| g0 (bg rfl rfl) rfl <| g0 (bg rfl rfl) rfl <| g0 (bg rfl rfl) rfl <| ga (cI (⟨false, 0⟩ : GI)) vv38 rfl rfl fun b4 => ga (cI (⟨false, 0⟩ : GI)) vv38 rfl rfl fun b5 => gs 1 (cI ((cJ a b).1)) rfl zz38 rfl rfl rfl rfl rfl rfl rfl <| gs 0 (cI ((cJ a b).2.1)) rfl zz38 rfl rfl rfl rfl rfl rfl rfl <| g0 (ae rfl) rfl <| gn hK2 <| gr fun K3 hK3 => g1 1 rfl (aX aa38 zz38 rfl rfl rfl (v := (vI ((cJ a b).1))) rfl) rfl <| gs 2 (cI ((cJ a b).1)) rfl zz38 rfl rfl rfl rfl rfl rfl rfl <| gn hK3 <| gT ?_; clear h ac; intro ac wo h
 exact ret h rfl (.cell (v := (vI ((cJ a b).1))) rfl (i := 2) rfl aa38 zz38 rfl rfl rfl .nil) rfl (h.retP (by unfold ao; rfl) (by unfold ao; exact s1.1))
def aZ (num : GI) (den : GI) : GQ :=
 bif (decide ((cj den) < 0)) then
  bif (decide ((ao (aj den) (aB (aj num) (aj den))) = rational_one)) then
   (⟨(ao (aj num) (aB (aj num) (aj den))), (⟨false, 0⟩ : GI)⟩ : GQ)
  else
   (⟨(ao (aj num) (aB (aj num) (aj den))), (ao (aj den) (aB (aj num) (aj den)))⟩ : GQ)
 else
  bif (decide ((ao den (aB num den)) = rational_one)) then
   (⟨(ao num (aB num den)), (⟨false, 0⟩ : GI)⟩ : GQ)
  else
   (⟨(ao num (aB num den)), (ao den (aB num den))⟩ : GQ)
theorem dF (num : GI) (den : GI) (k : Nat) (hk : (k + 1) ≤ 40) (znum : SzI (k + 1) num) (zden : SzI (k + 1) den) (w0 : World) : Calls Tryz.prog 157 #[(vI num), (vI den)] w0 (ec w0 (vQ (aZ num den)) (SzQ k (aZ num den))) := by
 refine enter (N := 29) (args := [(vI num), (vI den)]) Tryz.func157 rfl rfl ?_; intro ac h
 have p2 := aA ((dx den) w0)
 refine dU fun K1 hK1 => ?_
 refine bx h (cI num) rfl rfl rfl fun b1 => gb (cI den) rfl rfl rfl fun b2 => ga (cQ oQ) vv40 rfl rfl fun b3 => gn hK1 <| gq fun K2 hK2 => gr fun K3 hK3 => g1 1 rfl (aX aa38 zz38 rfl rfl rfl (v := (vI den)) rfl) rfl <| gl cc124 rfl (dx den) rfl <| g0 (dY rfl rfl) rfl <| gn hK3 ?_; clear h ac; intro ac wo h
 refine cO h rfl (fun hc1 => ?_) (fun hc1 => ?_)
 ·
  have hd1 := of_decide_eq_true hc1
  have s3 := aA ((eh num (k + 1) (by omega) znum) w0)
  have s4 := aA ((eh den (k + 1) (by omega) zden) w0)
  refine cv mixed [dw _ [2], dv _, dw _ [1], dv _, dw _ [2], dw _ [1]] [⟨_, []⟩, ⟨.blk b2 (cI den) 38, [(5, .con _)]⟩, ⟨.blk b1 (cI num) 38, [(4, .con _)]⟩] h rfl (by kernel_rfl) ⟨fun _ _ => cr _ rfl rfl (aX aa38 zz38 rfl rfl rfl (v := (vI num)) rfl), fun _ _ => dW (cP cc118 rfl (eh num (k + 1) (by omega) znum)), fun _ _ => cr _ rfl rfl (aX aa38 zz38 rfl rfl rfl (v := (vI den)) rfl), fun _ _ => dW (cP cc118 rfl (eh den (k + 1) (by omega) zden)), fun _ _ => gh _ [.blk b1 (cI (aj num)) 38] rfl rfl (gH zz38 rfl rfl rfl rfl rfl rfl rfl), fun _ _ => gh _ [.blk b2 (cI (aj den)) 38] rfl rfl (gH zz38 rfl rfl rfl rfl rfl rfl rfl), trivial⟩ ?_
  clear h ac wo; intro ξ ac wo hφ h
  replace h : St w0 29 [(2, (ptr b1 0)), (3, (ptr b2 0)), (4, (ptr b3 0))] [.blk b3 (cQ oQ) 40, .blk b2 (cI (aj den)) 38, .blk b1 (cI (aj num)) 38] ac wo := h.sub ⟨rfl, rfl, rfl, trivial⟩
  clear hφ ξ
  have c5 := gm (aj num) (aj den) (k + 1) (by omega) s3 s4
  have s5 := aA (c5 w0)
  have s6 := aA ((da (aj num) (aB (aj num) (aj den)) k (by omega) s3 s5) w0)
  have s7 := aA ((da (aj den) (aB (aj num) (aj den)) k (by omega) s4 s5) w0)
  refine gz h <| gx hK2 <| gr fun K4 hK4 => g1 2 rfl (aX aa38 zz38 rfl rfl rfl (v := (vI (aj num))) rfl) rfl <| g1 1 rfl (aX aa38 zz38 rfl rfl rfl (v := (vI (aj den))) rfl) rfl <| gl Tryz.call165 rfl c5 rfl <| ga (cI (⟨false, 0⟩ : GI)) vv38 rfl rfl fun b4 => gs 0 (cI (aB (aj num) (aj den))) rfl zz38 rfl rfl rfl rfl rfl rfl rfl <| gn hK4 <| gq fun K5 hK5 => ?_; clear h ac wo; intro ac wo h
  refine cv mixed [dw _ [3], dw _ [0], dv _, dw _ [2], dw _ [0], dv _, dw _ [3], dw _ [2]] [⟨_, []⟩, ⟨_, []⟩, ⟨.blk b2 (cI (aj den)) 38, [(7, .con _)]⟩, ⟨.blk b1 (cI (aj num)) 38, [(6, .con _)]⟩] h rfl (by kernel_rfl) ⟨fun _ _ => cr _ rfl rfl (aX aa38 zz38 rfl rfl rfl (v := (vI (aj num))) rfl), fun _ _ => cr _ rfl rfl (aX aa38 zz38 rfl rfl rfl (v := (vI (aB (aj num) (aj den)))) rfl), fun _ _ => dW (cP cc188 rfl (da (aj num) (aB (aj num) (aj den)) k (by omega) s3 s5)), fun _ _ => cr _ rfl rfl (aX aa38 zz38 rfl rfl rfl (v := (vI (aj den))) rfl), fun _ _ => cr _ rfl rfl (aX aa38 zz38 rfl rfl rfl (v := (vI (aB (aj num) (aj den)))) rfl), fun _ _ => dW (cP cc188 rfl (da (aj den) (aB (aj num) (aj den)) k (by omega) s4 s5)), fun _ _ => gh _ [.blk b1 (cI (ao (aj num) (aB (aj num) (aj den)))) 38] rfl rfl (gH zz38 rfl rfl rfl rfl rfl rfl rfl), fun _ _ => gh _ [.blk b2 (cI (ao (aj den) (aB (aj num) (aj den)))) 38] rfl rfl (gH zz38 rfl rfl rfl rfl rfl rfl rfl), trivial⟩ ?_
  clear h ac wo; intro ξ ac wo hφ h
  replace h : St w0 29 [(2, (ptr b1 0)), (3, (ptr b2 0)), (4, (ptr b3 0))] [.blk b4 (cI (aB (aj num) (aj den))) 38, .blk b3 (cQ oQ) 40, .blk b2 (cI (ao (aj den) (aB (aj num) (aj den)))) 38, .blk b1 (cI (ao (aj num) (aB (aj num) (aj den)))) 38] ac wo := h.sub ⟨rfl, rfl, rfl, trivial⟩
  clear hφ ξ
  refine hK5 _ _ ?_
  refine dy fun K6 hK6 => ?_
  refine dy fun K7 hK7 => ?_
  have s8 := aA ((d6  (k + 1) (by omega) ) w0)
  refine cv mixed [dw _ [2], dv _, dv _] [⟨_, []⟩, ⟨_, []⟩, ⟨_, []⟩, ⟨_, []⟩] h rfl (by kernel_rfl) ⟨fun _ _ => cr _ rfl rfl (aX aa38 zz38 rfl rfl rfl (v := (vI (ao (aj den) (aB (aj num) (aj den))))) rfl), fun _ _ => dW (cP cc164 rfl (d6  (k + 1) (by omega) )), fun _ _ => aC (fM pX rfl rfl), trivial⟩ ?_
  clear h ac wo; intro ξ ac wo hφ h
  replace h : St w0 29 [(2, (ptr b1 0)), (3, (ptr b2 0)), (4, (ptr b3 0)), (24, (.bool (decide ((ao (aj den) (aB (aj num) (aj den))) = rational_one))))] [.blk b4 (cI (aB (aj num) (aj den))) 38, .blk b3 (cQ oQ) 40, .blk b2 (cI (ao (aj den) (aB (aj num) (aj den)))) 38, .blk b1 (cI (ao (aj num) (aB (aj num) (aj den)))) 38] ac wo := h.sub ⟨rfl, rfl, rfl, rfl, trivial⟩
  clear hφ ξ
  refine hK7 _ _ ?_
  refine cO h rfl (fun hc2 => ?_) (fun hc2 => ?_)
  ·
   have hd2 := of_decide_eq_true hc2
   refine gz h <| gR <| g0 (bC nh rfl rfl (v := (vI (⟨false, 0⟩ : GI))) rfl) rfl <| gs 2 (cI (⟨false, 0⟩ : GI)) rfl zz38 rfl rfl rfl rfl rfl rfl rfl <| gn hK6 <| gr fun K8 hK8 => g1 3 rfl (aX aa38 zz38 rfl rfl rfl (v := (vI (ao (aj num) (aB (aj num) (aj den))))) rfl) rfl <| g1 2 rfl (aX aa38 zz38 rfl rfl rfl (v := (vI (⟨false, 0⟩ : GI))) rfl) rfl <| g0 (bC lW rfl rfl (v := (vQ (⟨(ao (aj num) (aB (aj num) (aj den))), (⟨false, 0⟩ : GI)⟩ : GQ))) rfl) rfl <| gs 1 (cQ (⟨(ao (aj num) (aB (aj num) (aj den))), (⟨false, 0⟩ : GI)⟩ : GQ)) rfl zz40 rfl rfl rfl rfl rfl rfl rfl <| gn hK8 <| gT ?_; clear h ac wo; intro ac wo h
   have hd : aZ num den = (⟨(ao (aj num) (aB (aj num) (aj den))), (⟨false, 0⟩ : GI)⟩ : GQ) := (Eq.trans (cT hc1) (cT hc2))
   exact ret h rfl (.cell (v := (vQ (⟨(ao (aj num) (aB (aj num) (aj den))), (⟨false, 0⟩ : GI)⟩ : GQ))) rfl (i := 1) rfl aa40 zz40 rfl rfl rfl .nil) rfl (h.retP (by rw [hd] <;> rfl) (by rw [hd]; exact ⟨s6, (cc 0 (by decide) (by omega))⟩))
  ·
   have hd2 := of_decide_eq_false hc2
   refine gz h <| gS <| gx hK6 <| gr fun K9 hK9 => g1 3 rfl (aX aa38 zz38 rfl rfl rfl (v := (vI (ao (aj num) (aB (aj num) (aj den))))) rfl) rfl <| g1 2 rfl (aX aa38 zz38 rfl rfl rfl (v := (vI (ao (aj den) (aB (aj num) (aj den))))) rfl) rfl <| g0 (bC lW rfl rfl (v := (vQ (⟨(ao (aj num) (aB (aj num) (aj den))), (ao (aj den) (aB (aj num) (aj den)))⟩ : GQ))) rfl) rfl <| gs 1 (cQ (⟨(ao (aj num) (aB (aj num) (aj den))), (ao (aj den) (aB (aj num) (aj den)))⟩ : GQ)) rfl zz40 rfl rfl rfl rfl rfl rfl rfl <| gn hK9 <| gT ?_; clear h ac wo; intro ac wo h
   have hd : aZ num den = (⟨(ao (aj num) (aB (aj num) (aj den))), (ao (aj den) (aB (aj num) (aj den)))⟩ : GQ) := (Eq.trans (cT hc1) (cF hc2))
   exact ret h rfl (.cell (v := (vQ (⟨(ao (aj num) (aB (aj num) (aj den))), (ao (aj den) (aB (aj num) (aj den)))⟩ : GQ))) rfl (i := 1) rfl aa40 zz40 rfl rfl rfl .nil) rfl (h.retP (by rw [hd] <;> rfl) (by rw [hd]; exact ⟨s6, s7⟩))
 ·
  have hd1 := of_decide_eq_false hc1
  have c9 := gm num den (k + 1) (by omega) znum zden
  have s9 := aA (c9 w0)
  have s10 := aA ((da num (aB num den) k (by omega) znum s9) w0)
  have s11 := aA ((da den (aB num den) k (by omega) zden s9) w0)
  refine gz h <| gS <| gx hK2 <| gr fun K10 hK10 => g1 2 rfl (aX aa38 zz38 rfl rfl rfl (v := (vI num)) rfl) rfl <| g1 1 rfl (aX aa38 zz38 rfl rfl rfl (v := (vI den)) rfl) rfl <| gl Tryz.call165 rfl c9 rfl <| ga (cI (⟨false, 0⟩ : GI)) vv38 rfl rfl fun b5 => gs 0 (cI (aB num den)) rfl zz38 rfl rfl rfl rfl rfl rfl rfl <| gn hK10 <| gq fun K11 hK11 => ?_; clear h ac wo; intro ac wo h
  refine cv mixed [dw _ [3], dw _ [0], dv _, dw _ [2], dw _ [0], dv _, dw _ [3], dw _ [2]] [⟨_, []⟩, ⟨_, []⟩, ⟨.blk b2 (cI den) 38, [(7, .con _)]⟩, ⟨.blk b1 (cI num) 38, [(6, .con _)]⟩] h rfl (by kernel_rfl) ⟨fun _ _ => cr _ rfl rfl (aX aa38 zz38 rfl rfl rfl (v := (vI num)) rfl), fun _ _ => cr _ rfl rfl (aX aa38 zz38 rfl rfl rfl (v := (vI (aB num den))) rfl), fun _ _ => dW (cP cc188 rfl (da num (aB num den) k (by omega) znum s9)), fun _ _ => cr _ rfl rfl (aX aa38 zz38 rfl rfl rfl (v := (vI den)) rfl), fun _ _ => cr _ rfl rfl (aX aa38 zz38 rfl rfl rfl (v := (vI (aB num den))) rfl), fun _ _ => dW (cP cc188 rfl (da den (aB num den) k (by omega) zden s9)), fun _ _ => gh _ [.blk b1 (cI (ao num (aB num den))) 38] rfl rfl (gH zz38 rfl rfl rfl rfl rfl rfl rfl), fun _ _ => gh _ [.blk b2 (cI (ao den (aB num den))) 38] rfl rfl (gH zz38 rfl rfl rfl rfl rfl rfl rfl), trivial⟩ ?_
  clear h ac wo; intro ξ ac wo hφ h
  replace h : St w0 29 [(2, (ptr b1 0)), (3, (ptr b2 0)), (4, (ptr b3 0))] [.blk b5 (cI (aB num den)) 38, .blk b3 (cQ oQ) 40, .blk b2 (cI (ao den (aB num den))) 38, .blk b1 (cI (ao num (aB num den))) 38] ac wo := h.sub ⟨rfl, rfl, rfl, trivial⟩
  clear hφ ξ
  refine hK11 _ _ ?_
  refine dy fun K12 hK12 => ?_
  refine dy fun K13 hK13 => ?_
  have s12 := aA ((d6  (k + 1) (by omega) ) w0)
  refine cv mixed [dw _ [2], dv _, dv _] [⟨_, []⟩, ⟨_, []⟩, ⟨_, []⟩, ⟨_, []⟩] h rfl (by kernel_rfl) ⟨fun _ _ => cr _ rfl rfl (aX aa38 zz38 rfl rfl rfl (v := (vI (ao den (aB num den)))) rfl), fun _ _ => dW (cP cc164 rfl (d6  (k + 1) (by omega) )), fun _ _ => aC (fM pX rfl rfl), trivial⟩ ?_
  clear h ac wo; intro ξ ac wo hφ h
  replace h : St w0 29 [(2, (ptr b1 0)), (3, (ptr b2 0)), (4, (ptr b3 0)), (24, (.bool (decide ((ao den (aB num den)) = rational_one))))] [.blk b5 (cI (aB num den)) 38, .blk b3 (cQ oQ) 40, .blk b2 (cI (ao den (aB num den))) 38, .blk b1 (cI (ao num (aB num den))) 38] ac wo := h.sub ⟨rfl, rfl, rfl, rfl, trivial⟩
  clear hφ ξ
  refine hK13 _ _ ?_
  refine cO h rfl (fun hc3 => ?_) (fun hc3 => ?_)
  ·
   have hd3 := of_decide_eq_true hc3
   refine gz h <| gR <| g0 (bC nh rfl rfl (v := (vI (⟨false, 0⟩ : GI))) rfl) rfl <| gs 2 (cI (⟨false, 0⟩ : GI)) rfl zz38 rfl rfl rfl rfl rfl rfl rfl <| gn hK12 <| gr fun K14 hK14 => g1 3 rfl (aX aa38 zz38 rfl rfl rfl (v := (vI (ao num (aB num den)))) rfl) rfl <| g1 2 rfl (aX aa38 zz38 rfl rfl rfl (v := (vI (⟨false, 0⟩ : GI))) rfl) rfl <| g0 (bC lW rfl rfl (v := (vQ (⟨(ao num (aB num den)), (⟨false, 0⟩ : GI)⟩ : GQ))) rfl) rfl <| gs 1 (cQ (⟨(ao num (aB num den)), (⟨false, 0⟩ : GI)⟩ : GQ)) rfl zz40 rfl rfl rfl rfl rfl rfl rfl <| gn hK14 <| gT ?_; clear h ac wo; intro ac wo h
   have hd : aZ num den = (⟨(ao num (aB num den)), (⟨false, 0⟩ : GI)⟩ : GQ) := (Eq.trans (cF hc1) (cT hc3))
   exact ret h rfl (.cell (v := (vQ (⟨(ao num (aB num den)), (⟨false, 0⟩ : GI)⟩ : GQ))) rfl (i := 1) rfl aa40 zz40 rfl rfl rfl .nil) rfl (h.retP (by rw [hd] <;> rfl) (by rw [hd]; exact ⟨s10, (cc 0 (by decide) (by omega))⟩))
  ·
   have hd3 := of_decide_eq_false hc3
   refine gz h <| gS <| gx hK12 <| gr fun K15 hK15 => g1 3 rfl (aX aa38 zz38 rfl rfl rfl (v := (vI (ao num (aB num den)))) rfl) rfl <| g1 2 rfl (aX aa38 zz38 rfl rfl rfl (v := (vI (ao den (aB num den)))) rfl) rfl <| g0 (bC lW rfl rfl (v := (vQ (⟨(ao num (aB num den)), (ao den (aB num den))⟩ : GQ))) rfl) rfl <| gs 1 (cQ (⟨(ao num (aB num den)), (ao den (aB num den))⟩ : GQ)) rfl zz40 rfl rfl rfl rfl rfl rfl rfl <| gn hK15 <| gT ?_; clear h ac wo; intro ac wo h
   have hd : aZ num den = (⟨(ao num (aB num den)), (ao den (aB num den))⟩ : GQ) := (Eq.trans (cF hc1) (cF hc3))
   exact ret h rfl (.cell (v := (vQ (⟨(ao num (aB num den)), (ao den (aB num den))⟩ : GQ))) rfl (i := 1) rfl aa40 zz40 rfl rfl rfl .nil) rfl (h.retP (by rw [hd] <;> rfl) (by rw [hd]; exact ⟨s10, s11⟩))
def aJ (a : GQ) (b : GQ) : GI × GI × GI :=
 bif (decide (a.den = b.den)) then
  (a.num, b.num, (aG a))
 else
  ((bm a.num (aG b)), (bm b.num (aG a)), (bm (aG a) (aG b)))
theorem iE (a : GQ) (b : GQ) (k : Nat) (hk : (k + 1) ≤ 40) (za : SzQ (k + 1) a) (zb : SzQ (k + 1) b) (w0 : World) : Calls Tryz.prog 160 #[(vQ a), (vQ b)] w0 (ec w0 (.tuple #[(vI ((aJ a b).1)), (vI ((aJ a b).2.1)), (vI ((aJ a b).2.2))]) (SzI k ((aJ a b).1) ∧ SzI k ((aJ a b).2.1) ∧ SzI k ((aJ a b).2.2))) := by
 refine enter (N := 33) (args := [(vQ a), (vQ b)]) Tryz.func160 rfl rfl ?_; intro ac h
 refine dU fun K1 hK1 => ?_
 refine bx h (cQ a) rfl rfl rfl fun b1 => gb (cQ b) rfl rfl rfl fun b2 => ga (cI (⟨false, 0⟩ : GI)) vv38 rfl rfl fun b3 => ga (cI (⟨false, 0⟩ : GI)) vv38 rfl rfl fun b4 => ga (cI (⟨false, 0⟩ : GI)) vv38 rfl rfl fun b5 => gn hK1 <| gq fun K2 hK2 => gr fun K3 hK3 => g0 (fa uu40 rfl zz38 rfl rfl rfl (k' := 2)) rfl <| g1 4 rfl (aX aa38 zz38 rfl rfl rfl (v := (vI a.den)) rfl) rfl <| g0 (fa uu40 rfl zz38 rfl rfl rfl (k' := 2)) rfl <| g1 3 rfl (aX aa38 zz38 rfl rfl rfl (v := (vI b.den)) rfl) rfl <| g0 (fM pX rfl rfl) rfl <| gn hK3 ?_; clear h ac; intro ac wo h
 refine cO h rfl (fun hc1 => ?_) (fun hc1 => ?_)
 ·
  have hd1 := of_decide_eq_true hc1
  refine dy fun K4 hK4 => ?_
  have s1 := aA ((cq a (k + 1) (by omega) za) w0)
  refine cv mixed [dv _, dw _ [4], dv _, dw _ [3], dw _ [4], dv _, dw _ [2], dw _ [1], dw _ [0]] [⟨.blk b5 (cI (⟨false, 0⟩ : GI)) 38, [(8, .con _)]⟩, ⟨.blk b4 (cI (⟨false, 0⟩ : GI)) 38, [(7, .con _)]⟩, ⟨.blk b3 (cI (⟨false, 0⟩ : GI)) 38, [(6, .con _)]⟩, ⟨_, []⟩, ⟨_, []⟩] h rfl (by kernel_rfl) ⟨fun _ _ => aC (fa uu40 rfl zz38 rfl rfl rfl (k' := 0)), fun _ _ => cr _ rfl rfl (aX aa38 zz38 rfl rfl rfl (v := (vI a.num)) rfl), fun _ _ => aC (fa uu40 rfl zz38 rfl rfl rfl (k' := 0)), fun _ _ => cr _ rfl rfl (aX aa38 zz38 rfl rfl rfl (v := (vI b.num)) rfl), fun _ _ => cr _ rfl rfl (aX aa40 zz40 rfl rfl rfl (v := (vQ a)) rfl), fun _ _ => dW (cP cc159 rfl (cq a (k + 1) (by omega) za)), fun _ _ => gh _ [.blk b3 (cI a.num) 38] rfl rfl (gH zz38 rfl rfl rfl rfl rfl rfl rfl), fun _ _ => gh _ [.blk b4 (cI b.num) 38] rfl rfl (gH zz38 rfl rfl rfl rfl rfl rfl rfl), fun _ _ => gh _ [.blk b5 (cI (aG a)) 38] rfl rfl (gH zz38 rfl rfl rfl rfl rfl rfl rfl), trivial⟩ ?_
  clear h ac wo; intro ξ ac wo hφ h
  replace h : St w0 33 [(4, (ptr b3 0)), (5, (ptr b4 0)), (6, (ptr b5 0))] [.blk b5 (cI (aG a)) 38, .blk b4 (cI b.num) 38, .blk b3 (cI a.num) 38, .blk b2 (cQ b) 40, .blk b1 (cQ a) 40] ac wo := h.sub ⟨rfl, rfl, rfl, trivial⟩
  clear hφ ξ
  refine hK4 _ _ ?_
  refine fw ?_
  have hd : aJ a b = (a.num, b.num, (aG a)) := (cT hc1)
  exact ret h rfl (.cell (v := (vI a.num)) rfl (i := 2) rfl aa38 zz38 rfl rfl rfl (.cell (v := (vI b.num)) rfl (i := 1) rfl aa38 zz38 rfl rfl rfl (.cell (v := (vI (aG a))) rfl (i := 0) rfl aa38 zz38 rfl rfl rfl .nil))) rfl (h.retP (by rw [hd] <;> rfl) (by rw [hd]; exact ⟨(cZ za (by omega)).1, (cZ zb (by omega)).1, (ig s1 (by omega))⟩))
 ·
  have hd1 := of_decide_eq_false hc1
  refine dZ ?_
  refine hK2 _ _ ?_
  refine dy fun K5 hK5 => ?_
  have s2 := aA ((cq b (k + 1) (by omega) zb) w0)
  have s3 := aA ((dM a.num (aG b) k (by omega) za.1 s2) w0)
  have s4 := aA ((cq a (k + 1) (by omega) za) w0)
  have s5 := aA ((dM b.num (aG a) k (by omega) zb.1 s4) w0)
  have s6 := aA ((cq a (k + 1) (by omega) za) w0)
  have s7 := aA ((cq b (k + 1) (by omega) zb) w0)
  have s8 := aA ((dM (aG a) (aG b) k (by omega) s6 s7) w0)
  refine cv mixed [dv _, dw _ [4], dw _ [3], dv _, dv _, dv _, dw _ [3], dw _ [4], dv _, dv _, dw _ [4], dv _, dw _ [3], dv _, dv _, dw _ [2], dw _ [1], dw _ [0]] [⟨.blk b5 (cI (⟨false, 0⟩ : GI)) 38, [(17, .con _)]⟩, ⟨.blk b4 (cI (⟨false, 0⟩ : GI)) 38, [(16, .con _)]⟩, ⟨.blk b3 (cI (⟨false, 0⟩ : GI)) 38, [(15, .con _)]⟩, ⟨_, []⟩, ⟨_, []⟩] h rfl (by kernel_rfl) ⟨fun _ _ => aC (fa uu40 rfl zz38 rfl rfl rfl (k' := 0)), fun _ _ => cr _ rfl rfl (aX aa38 zz38 rfl rfl rfl (v := (vI a.num)) rfl), fun _ _ => cr _ rfl rfl (aX aa40 zz40 rfl rfl rfl (v := (vQ b)) rfl), fun _ _ => dW (cP cc159 rfl (cq b (k + 1) (by omega) zb)), fun _ _ => dW (cP cc158 rfl (dM a.num (aG b) k (by omega) za.1 s2)), fun _ _ => aC (fa uu40 rfl zz38 rfl rfl rfl (k' := 0)), fun _ _ => cr _ rfl rfl (aX aa38 zz38 rfl rfl rfl (v := (vI b.num)) rfl), fun _ _ => cr _ rfl rfl (aX aa40 zz40 rfl rfl rfl (v := (vQ a)) rfl), fun _ _ => dW (cP cc159 rfl (cq a (k + 1) (by omega) za)), fun _ _ => dW (cP cc158 rfl (dM b.num (aG a) k (by omega) zb.1 s4)), fun _ _ => cr _ rfl rfl (aX aa40 zz40 rfl rfl rfl (v := (vQ a)) rfl), fun _ _ => dW (cP cc159 rfl (cq a (k + 1) (by omega) za)), fun _ _ => cr _ rfl rfl (aX aa40 zz40 rfl rfl rfl (v := (vQ b)) rfl), fun _ _ => dW (cP cc159 rfl (cq b (k + 1) (by omega) zb)), fun _ _ => dW (cP cc158 rfl (dM (aG a) (aG b) k (by omega) s6 s7)), fun _ _ => gh _ [.blk b3 (cI (bm a.num (aG b))) 38] rfl rfl (gH zz38 rfl rfl rfl rfl rfl rfl rfl), fun _ _ => gh _ [.blk b4 (cI (bm b.num (aG a))) 38] rfl rfl (gH zz38 rfl rfl rfl rfl rfl rfl rfl), fun _ _ => gh _ [.blk b5 (cI (bm (aG a) (aG b))) 38] rfl rfl (gH zz38 rfl rfl rfl rfl rfl rfl rfl), trivial⟩ ?_
  clear h ac wo; intro ξ ac wo hφ h
  replace h : St w0 33 [(4, (ptr b3 0)), (5, (ptr b4 0)), (6, (ptr b5 0))] [.blk b5 (cI (bm (aG a) (aG b))) 38, .blk b4 (cI (bm b.num (aG a))) 38, .blk b3 (cI (bm a.num (aG b))) 38, .blk b2 (cQ b) 40, .blk b1 (cQ a) 40] ac wo := h.sub ⟨rfl, rfl, rfl, trivial⟩
  clear hφ ξ
  refine hK5 _ _ ?_
  refine fw ?_
  have hd : aJ a b = ((bm a.num (aG b)), (bm b.num (aG a)), (bm (aG a) (aG b))) := (cF hc1)
  exact ret h rfl (.cell (v := (vI (bm a.num (aG b)))) rfl (i := 2) rfl aa38 zz38 rfl rfl rfl (.cell (v := (vI (bm b.num (aG a)))) rfl (i := 1) rfl aa38 zz38 rfl rfl rfl (.cell (v := (vI (bm (aG a) (aG b)))) rfl (i := 0) rfl aa38 zz38 rfl rfl rfl .nil))) rfl (h.retP (by rw [hd] <;> rfl) (by rw [hd]; exact ⟨s3, s5, s8⟩))
def au (a : GQ) (b : GQ) : GQ :=
 (aZ (dC ((aJ a b).1) ((aJ a b).2.1)) ((aJ a b).2.2))
theorem bV (a : GQ) (b : GQ) (k : Nat) (hk : (k + 3) ≤ 40) (za : SzQ (k + 3) a) (zb : SzQ (k + 3) b) (w0 : World) : Calls Tryz.prog 102 #[(vQ a), (vQ b)] w0 (ec w0 (vQ (au a b)) (SzQ k (au a b))) := by
 refine enter (N := 20) (args := [(vQ a), (vQ b)]) Tryz.func102 rfl rfl ?_; intro ac h
 have c1 := iE a b (k + 2) (by omega) za zb
 have s1 := aA (c1 w0)
 have s2 := aA ((jL ((aJ a b).1) ((aJ a b).2.1) (k + 1) (by omega) s1.1 s1.2.1) w0)
 have s3 := aA ((dF (dC ((aJ a b).1) ((aJ a b).2.1)) ((aJ a b).2.2) k (by omega) s2 (ig s1.2.2 (by omega))) w0)
 refine dU fun K1 hK1 => ?_
 refine bx h (cQ a) rfl rfl rfl fun b1 => gb (cQ b) rfl rfl rfl fun b2 => ga (cQ oQ) vv40 rfl rfl fun b3 => gn hK1 <| gr fun K2 hK2 => g1 2 rfl (aX aa40 zz40 rfl rfl rfl (v := (vQ a)) rfl) rfl <| g1 1 rfl (aX aa40 zz40 rfl rfl rfl (v := (vQ b)) rfl) rfl <| gl Tryz.call160 rfl c1 rfl <| g0 (af rfl) rfl <| g0 (bg rfl rfl) rfl <| g0 (bg rfl rfl) rfl <| g0 (bg rfl rfl) rfl <| ga (cI (⟨false, 0⟩ : GI)) vv38 rfl rfl fun b4 => ga (cI (⟨false, 0⟩ : GI)) vv38 rfl rfl fun b5 => ga (cI (⟨false, 0⟩ : GI)) vv38 rfl rfl fun b6 => gs 2 (cI ((aJ a b).1)) rfl zz38 rfl rfl rfl rfl rfl rfl rfl <| gs 1 (cI ((aJ a b).2.1)) rfl zz38 rfl rfl rfl rfl rfl rfl rfl <| gs 0 (cI ((aJ a b).2.2)) rfl zz38 rfl rfl rfl rfl rfl rfl rfl <| gn hK2 <| gq fun K3 hK3 => ?_; clear h ac; intro ac wo h
 refine cv mixed [dw _ [2], dw _ [1], dv _, dw _ [0], dv _, dw _ [3]] [⟨_, []⟩, ⟨_, []⟩, ⟨_, []⟩, ⟨.blk b3 (cQ oQ) 40, [(5, .con _)]⟩, ⟨_, []⟩, ⟨_, []⟩] h rfl (by kernel_rfl) ⟨fun _ _ => cr _ rfl rfl (aX aa38 zz38 rfl rfl rfl (v := (vI ((aJ a b).1))) rfl), fun _ _ => cr _ rfl rfl (aX aa38 zz38 rfl rfl rfl (v := (vI ((aJ a b).2.1))) rfl), fun _ _ => dW (cP Tryz.call161 rfl (jL ((aJ a b).1) ((aJ a b).2.1) (k + 1) (by omega) s1.1 s1.2.1)), fun _ _ => cr _ rfl rfl (aX aa38 zz38 rfl rfl rfl (v := (vI ((aJ a b).2.2))) rfl), fun _ _ => dW (cP Tryz.call157 rfl (dF (dC ((aJ a b).1) ((aJ a b).2.1)) ((aJ a b).2.2) k (by omega) s2 (ig s1.2.2 (by omega)))), fun _ _ => gh _ [.blk b3 (cQ (aZ (dC ((aJ a b).1) ((aJ a b).2.1)) ((aJ a b).2.2))) 40] rfl rfl (gH zz40 rfl rfl rfl rfl rfl rfl rfl), trivial⟩ ?_
 clear h ac wo; intro ξ ac wo hφ h
 replace h : St w0 20 [(4, (ptr b3 0))] [.blk b6 (cI ((aJ a b).2.2)) 38, .blk b5 (cI ((aJ a b).2.1)) 38, .blk b4 (cI ((aJ a b).1)) 38, .blk b3 (cQ (aZ (dC ((aJ a b).1) ((aJ a b).2.1)) ((aJ a b).2.2))) 40, .blk b2 (cQ b) 40, .blk b1 (cQ a) 40] ac wo := h.sub ⟨rfl, trivial⟩
 clear hφ ξ
 refine hK3 _ _ ?_
 refine fw ?_
 exact ret h rfl (.cell (v := (vQ (aZ (dC ((aJ a b).1) ((aJ a b).2.1)) ((aJ a b).2.2)))) rfl (i := 3) rfl aa40 zz40 rfl rfl rfl .nil) rfl (h.retP (by unfold au; rfl) (by unfold au; exact s3))
def az (a : GQ) : GQ :=
 (⟨(aj a.num), a.den⟩ : GQ)
theorem d7 (a : GQ) (k : Nat) (hk : k ≤ 40) (za : SzQ k a) (w0 : World) : Calls Tryz.prog 52 #[(vQ a)] w0 (ec w0 (vQ (az a)) (SzQ k (az a))) := by
 refine enter (N := 9) (args := [(vQ a)]) Tryz.func52 rfl rfl ?_; intro ac h
 have s1 := aA ((eh a.num k (by omega) za.1) w0)
 refine dU fun K1 hK1 => ?_
 refine bx h (cQ a) rfl rfl rfl fun b1 => ga (cQ oQ) vv40 rfl rfl fun b2 => gn hK1 <| gq fun K2 hK2 => ?_; clear h ac; intro ac wo h
 refine cv mixed [dv _, dw _ [1], dv _, dv _, dw _ [1], dv _, dw _ [0]] [⟨.blk b2 (cQ oQ) 40, [(6, .con _)]⟩, ⟨_, []⟩] h rfl (by kernel_rfl) ⟨fun _ _ => aC (fa uu40 rfl zz38 rfl rfl rfl (k' := 0)), fun _ _ => cr _ rfl rfl (aX aa38 zz38 rfl rfl rfl (v := (vI a.num)) rfl), fun _ _ => dW (cP cc118 rfl (eh a.num k (by omega) za.1)), fun _ _ => aC (fa uu40 rfl zz38 rfl rfl rfl (k' := 2)), fun _ _ => cr _ rfl rfl (aX aa38 zz38 rfl rfl rfl (v := (vI a.den)) rfl), fun _ _ => aC (bC lW rfl rfl (v := (vQ (⟨(aj a.num), a.den⟩ : GQ))) rfl), fun _ _ => gh _ [.blk b2 (cQ (⟨(aj a.num), a.den⟩ : GQ)) 40] rfl rfl (gH zz40 rfl rfl rfl rfl rfl rfl rfl), trivial⟩ ?_
 clear h ac wo; intro ξ ac wo hφ h
 replace h : St w0 9 [(2, (ptr b2 0))] [.blk b2 (cQ (⟨(aj a.num), a.den⟩ : GQ)) 40, .blk b1 (cQ a) 40] ac wo := h.sub ⟨rfl, trivial⟩
 clear hφ ξ
 refine hK2 _ _ ?_
 refine fw ?_
 exact ret h rfl (.cell (v := (vQ (⟨(aj a.num), a.den⟩ : GQ))) rfl (i := 0) rfl aa40 zz40 rfl rfl rfl .nil) rfl (h.retP (by unfold az; rfl) (by unfold az; exact ⟨s1, za.2⟩))
def am (a : GQ) (b : GQ) : GQ :=
 (au a (az b))
theorem c8 (a : GQ) (b : GQ) (k : Nat) (hk : (k + 3) ≤ 40) (za : SzQ (k + 3) a) (zb : SzQ (k + 3) b) (w0 : World) : Calls Tryz.prog 100 #[(vQ a), (vQ b)] w0 (ec w0 (vQ (am a b)) (SzQ k (am a b))) := by
 refine enter (N := 9) (args := [(vQ a), (vQ b)]) Tryz.func100 rfl rfl ?_; intro ac h
 have s1 := aA ((d7 b (k + 3) (by omega) zb) w0)
 have s2 := aA ((bV a (az b) k (by omega) za s1) w0)
 refine dU fun K1 hK1 => ?_
 refine bx h (cQ a) rfl rfl rfl fun b1 => gb (cQ b) rfl rfl rfl fun b2 => ga (cQ oQ) vv40 rfl rfl fun b3 => gn hK1 <| gq fun K2 hK2 => ?_; clear h ac; intro ac wo h
 refine cv mixed [dw _ [2], dw _ [1], dv _, dv _, dw _ [0]] [⟨.blk b3 (cQ oQ) 40, [(4, .con _)]⟩, ⟨_, []⟩, ⟨_, []⟩] h rfl (by kernel_rfl) ⟨fun _ _ => cr _ rfl rfl (aX aa40 zz40 rfl rfl rfl (v := (vQ a)) rfl), fun _ _ => cr _ rfl rfl (aX aa40 zz40 rfl rfl rfl (v := (vQ b)) rfl), fun _ _ => dW (cP Tryz.call52 rfl (d7 b (k + 3) (by omega) zb)), fun _ _ => dW (cP cc102 rfl (bV a (az b) k (by omega) za s1)), fun _ _ => gh _ [.blk b3 (cQ (au a (az b))) 40] rfl rfl (gH zz40 rfl rfl rfl rfl rfl rfl rfl), trivial⟩ ?_
 clear h ac wo; intro ξ ac wo hφ h
 replace h : St w0 9 [(4, (ptr b3 0))] [.blk b3 (cQ (au a (az b))) 40, .blk b2 (cQ b) 40, .blk b1 (cQ a) 40] ac wo := h.sub ⟨rfl, trivial⟩
 clear hφ ξ
 refine hK2 _ _ ?_
 refine fw ?_
 exact ret h rfl (.cell (v := (vQ (au a (az b)))) rfl (i := 0) rfl aa40 zz40 rfl rfl rfl .nil) rfl (h.retP (by unfold am; rfl) (by unfold am; exact s2))
def an (a : GQ) (b : GQ) : GQ :=
 (aZ (bm a.num b.num) (bm (aG a) (aG b)))
theorem bq (a : GQ) (b : GQ) (k : Nat) (hk : (k + 2) ≤ 40) (za : SzQ (k + 2) a) (zb : SzQ (k + 2) b) (w0 : World) : Calls Tryz.prog 101 #[(vQ a), (vQ b)] w0 (ec w0 (vQ (an a b)) (SzQ k (an a b))) := by
 refine enter (N := 16) (args := [(vQ a), (vQ b)]) Tryz.func101 rfl rfl ?_; intro ac h
 have s1 := aA ((dM a.num b.num (k + 1) (by omega) za.1 zb.1) w0)
 have s2 := aA ((cq a (k + 2) (by omega) za) w0)
 have s3 := aA ((cq b (k + 2) (by omega) zb) w0)
 have s4 := aA ((dM (aG a) (aG b) (k + 1) (by omega) s2 s3) w0)
 have s5 := aA ((dF (bm a.num b.num) (bm (aG a) (aG b)) k (by omega) s1 s4) w0)
 refine dU fun K1 hK1 => ?_
 refine bx h (cQ a) rfl rfl rfl fun b1 => gb (cQ b) rfl rfl rfl fun b2 => ga (cQ oQ) vv40 rfl rfl fun b3 => gn hK1 <| gq fun K2 hK2 => ?_; clear h ac; intro ac wo h
 refine cv mixed [dv _, dw _ [2], dv _, dw _ [1], dv _, dw _ [2], dv _, dw _ [1], dv _, dv _, dv _, dw _ [0]] [⟨.blk b3 (cQ oQ) 40, [(11, .con _)]⟩, ⟨_, []⟩, ⟨_, []⟩] h rfl (by kernel_rfl) ⟨fun _ _ => aC (fa uu40 rfl zz38 rfl rfl rfl (k' := 0)), fun _ _ => cr _ rfl rfl (aX aa38 zz38 rfl rfl rfl (v := (vI a.num)) rfl), fun _ _ => aC (fa uu40 rfl zz38 rfl rfl rfl (k' := 0)), fun _ _ => cr _ rfl rfl (aX aa38 zz38 rfl rfl rfl (v := (vI b.num)) rfl), fun _ _ => dW (cP cc158 rfl (dM a.num b.num (k + 1) (by omega) za.1 zb.1)), fun _ _ => cr _ rfl rfl (aX aa40 zz40 rfl rfl rfl (v := (vQ a)) rfl), fun _ _ => dW (cP cc159 rfl (cq a (k + 2) (by omega) za)), fun _ _ => cr _ rfl rfl (aX aa40 zz40 rfl rfl rfl (v := (vQ b)) rfl), fun _ _ => dW (cP cc159 rfl (cq b (k + 2) (by omega) zb)), fun _ _ => dW (cP cc158 rfl (dM (aG a) (aG b) (k + 1) (by omega) s2 s3)), fun _ _ => dW (cP Tryz.call157 rfl (dF (bm a.num b.num) (bm (aG a) (aG b)) k (by omega) s1 s4)), fun _ _ => gh _ [.blk b3 (cQ (aZ (bm a.num b.num) (bm (aG a) (aG b)))) 40] rfl rfl (gH zz40 rfl rfl rfl rfl rfl rfl rfl), trivial⟩ ?_
 clear h ac wo; intro ξ ac wo hφ h
 replace h : St w0 16 [(4, (ptr b3 0))] [.blk b3 (cQ (aZ (bm a.num b.num) (bm (aG a) (aG b)))) 40, .blk b2 (cQ b) 40, .blk b1 (cQ a) 40] ac wo := h.sub ⟨rfl, trivial⟩
 clear hφ ξ
 refine hK2 _ _ ?_
 refine fw ?_
 exact ret h rfl (.cell (v := (vQ (aZ (bm a.num b.num) (bm (aG a) (aG b))))) rfl (i := 0) rfl aa40 zz40 rfl rfl rfl .nil) rfl (h.retP (by unfold an; rfl) (by unfold an; exact s5))
def aL (a : GQ) : Int :=
 (cj a.num)
theorem cM (a : GQ) (w0 : World) : Calls Tryz.prog 58 #[(vQ a)] w0 (ec w0 (.int .i64 (aL a)) ((-1 ≤ (aL a) ∧ (aL a) ≤ 1))) := by
 refine enter (N := 6) (args := [(vQ a)]) Tryz.func58 rfl rfl ?_; intro ac h
 have p2 := aA ((dx a.num) w0)
 refine dU fun K1 hK1 => ?_
 refine bx h (cQ a) rfl rfl rfl fun b1 => g0 (ae rfl) rfl <| gn hK1 <| gr fun K2 hK2 => g0 (fa uu40 rfl zz38 rfl rfl rfl (k' := 0)) rfl <| g1 0 rfl (aX aa38 zz38 rfl rfl rfl (v := (vI a.num)) rfl) rfl <| gl cc124 rfl (dx a.num) rfl <| g0 (ae rfl) rfl <| gn hK2 <| gT ?_; clear h ac; intro ac wo h
 exact ret h rfl (.tmp rfl .nil) rfl (h.retP (by unfold aL; rfl) (by unfold aL; exact by first | omega | exact es (by omega) (by omega)))
def dA (a : GQ) (b : GQ) : Int :=
 bif (decide (a = b)) then
  0
 else
  (aR ((aJ a b).1) ((aJ a b).2.1))
theorem g8 (a : GQ) (b : GQ) (k : Nat) (hk : (k + 1) ≤ 40) (za : SzQ (k + 1) a) (zb : SzQ (k + 1) b) (w0 : World) : Calls Tryz.prog 198 #[(vQ a), (vQ b)] w0 (ec w0 (.int .i64 (dA a b)) ((-1 ≤ (dA a b) ∧ (dA a b) ≤ 1))) := by
 refine enter (N := 21) (args := [(vQ a), (vQ b)]) Tryz.func198 rfl rfl ?_; intro ac h
 refine dU fun K1 hK1 => ?_
 refine bx h (cQ a) rfl rfl rfl fun b1 => gb (cQ b) rfl rfl rfl fun b2 => g0 (ae rfl) rfl <| gn hK1 <| gq fun K2 hK2 => gr fun K3 hK3 => g1 1 rfl (aX aa40 zz40 rfl rfl rfl (v := (vQ a)) rfl) rfl <| g1 0 rfl (aX aa40 zz40 rfl rfl rfl (v := (vQ b)) rfl) rfl <| g0 (fM eqp40 rfl rfl) rfl <| gn hK3 ?_; clear h ac; intro ac wo h
 refine cO h rfl (fun hc1 => ?_) (fun hc1 => ?_)
 ·
  have hd1 := of_decide_eq_true hc1
  refine gz h <| gr fun K4 hK4 => g0 (ae rfl) rfl <| gn hK4 <| gT ?_; clear h ac wo; intro ac wo h
  have hd : dA a b = 0 := (cT hc1)
  exact ret h rfl (.tmp rfl .nil) rfl (h.retP (by rw [hd] <;> rfl) (by rw [hd]; exact by first | omega | exact es (by omega) (by omega)))
 ·
  have hd1 := of_decide_eq_false hc1
  have c1 := iE a b k (by omega) za zb
  have s1 := aA (c1 w0)
  have p3 := aA ((e9 ((aJ a b).1) ((aJ a b).2.1) k (by omega) s1.1 s1.2.1) w0)
  refine gz h <| gS <| gx hK2 <| gr fun K5 hK5 => g1 1 rfl (aX aa40 zz40 rfl rfl rfl (v := (vQ a)) rfl) rfl <| g1 0 rfl (aX aa40 zz40 rfl rfl rfl (v := (vQ b)) rfl) rfl <| gl Tryz.call160 rfl c1 rfl <| g0 (af rfl) rfl <| g0 (bg rfl rfl) rfl <| g0 (bg rfl rfl) rfl <| g0 (bg rfl rfl) rfl <| ga (cI (⟨false, 0⟩ : GI)) vv38 rfl rfl fun b3 => ga (cI (⟨false, 0⟩ : GI)) vv38 rfl rfl fun b4 => ga (cI (⟨false, 0⟩ : GI)) vv38 rfl rfl fun b5 => gs 2 (cI ((aJ a b).1)) rfl zz38 rfl rfl rfl rfl rfl rfl rfl <| gs 1 (cI ((aJ a b).2.1)) rfl zz38 rfl rfl rfl rfl rfl rfl rfl <| gs 0 (cI ((aJ a b).2.2)) rfl zz38 rfl rfl rfl rfl rfl rfl rfl <| gn hK5 <| gr fun K6 hK6 => g1 2 rfl (aX aa38 zz38 rfl rfl rfl (v := (vI ((aJ a b).1))) rfl) rfl <| g1 1 rfl (aX aa38 zz38 rfl rfl rfl (v := (vI ((aJ a b).2.1))) rfl) rfl <| gl Tryz.call163 rfl (e9 ((aJ a b).1) ((aJ a b).2.1) k (by omega) s1.1 s1.2.1) rfl <| g0 (ae rfl) rfl <| gn hK6 <| gT ?_; clear h ac wo; intro ac wo h
  have hd : dA a b = (aR ((aJ a b).1) ((aJ a b).2.1)) := (cF hc1)
  exact ret h rfl (.tmp rfl .nil) rfl (h.retP (by rw [hd] <;> rfl) (by rw [hd]; exact by first | omega | exact es (by omega) (by omega)))
def aK (c0 : GQ) (c1 : GQ) : Qd :=
 (⟨c0, c1, (⟨(⟨false, 0⟩ : GI), (⟨false, 0⟩ : GI)⟩ : GQ)⟩ : Qd)
theorem eO (c0 : GQ) (c1 : GQ) (k : Nat) (hk : k ≤ 40) (zc0 : SzQ k c0) (zc1 : SzQ k c1) (w0 : World) : Calls Tryz.prog 31 #[(vQ c0), (vQ c1)] w0 (ec w0 (vD (aK c0 c1)) (SzD k (aK c0 c1))) := by
 refine enter (N := 8) (args := [(vQ c0), (vQ c1)]) Tryz.func31 rfl rfl ?_; intro ac h
 refine dU fun K1 hK1 => ?_
 refine bx h (cQ c0) rfl rfl rfl fun b1 => gb (cQ c1) rfl rfl rfl fun b2 => ga (cD oD) vv69 rfl rfl fun b3 => gn hK1 <| gr fun K2 hK2 => g1 2 rfl (aX aa40 zz40 rfl rfl rfl (v := (vQ c0)) rfl) rfl <| g1 1 rfl (aX aa40 zz40 rfl rfl rfl (v := (vQ c1)) rfl) rfl <| g0 (bC qg rfl rfl (v := (vD (⟨c0, c1, oQ⟩ : Qd))) rfl) rfl <| gs 0 (cD (⟨c0, c1, oQ⟩ : Qd)) rfl zz69 rfl rfl rfl rfl rfl rfl rfl <| gn hK2 <| gT ?_; clear h ac; intro ac wo h
 exact ret h rfl (.cell (v := (vD (⟨c0, c1, oQ⟩ : Qd))) rfl (i := 0) rfl aa69 zz69 rfl rfl rfl .nil) rfl (h.retP (by unfold aK; rfl) (by unfold aK; exact ⟨zc0, zc1, ⟨(cc 0 (by decide) (by omega)), (cc 0 (by decide) (by omega))⟩⟩))
def aF (c : GQ) : Qd :=
 (⟨c, (⟨(⟨false, 0⟩ : GI), (⟨false, 0⟩ : GI)⟩ : GQ), (⟨(⟨false, 0⟩ : GI), (⟨false, 0⟩ : GI)⟩ : GQ)⟩ : Qd)
theorem ff (c : GQ) (k : Nat) (hk : k ≤ 40) (zc : SzQ k c) (w0 : World) : Calls Tryz.prog 79 #[(vQ c)] w0 (ec w0 (vD (aF c)) (SzD k (aF c))) := by
 refine enter (N := 5) (args := [(vQ c)]) Tryz.func79 rfl rfl ?_; intro ac h
 refine dU fun K1 hK1 => ?_
 refine bx h (cQ c) rfl rfl rfl fun b1 => ga (cD oD) vv69 rfl rfl fun b2 => gn hK1 <| gr fun K2 hK2 => g1 1 rfl (aX aa40 zz40 rfl rfl rfl (v := (vQ c)) rfl) rfl <| g0 (bC qg rfl rfl (v := (vD (⟨c, oQ, oQ⟩ : Qd))) rfl) rfl <| gs 0 (cD (⟨c, oQ, oQ⟩ : Qd)) rfl zz69 rfl rfl rfl rfl rfl rfl rfl <| gn hK2 <| gT ?_; clear h ac; intro ac wo h
 exact ret h rfl (.cell (v := (vD (⟨c, oQ, oQ⟩ : Qd))) rfl (i := 0) rfl aa69 zz69 rfl rfl rfl .nil) rfl (h.retP (by unfold aF; rfl) (by unfold aF; exact ⟨zc, ⟨(cc 0 (by decide) (by omega)), (cc 0 (by decide) (by omega))⟩, ⟨(cc 0 (by decide) (by omega)), (cc 0 (by decide) (by omega))⟩⟩))
def de (p : Qd) (q : Qd) : Qd :=
 (⟨(am p.c0 q.c0), (am p.c1 q.c1), (am p.c2 q.c2)⟩ : Qd)
theorem iZ (p : Qd) (q : Qd) (k : Nat) (hk : (k + 3) ≤ 40) (zp : SzD (k + 3) p) (zq : SzD (k + 3) q) (w0 : World) : Calls Tryz.prog 96 #[(vD p), (vD q)] w0 (ec w0 (vD (de p q)) (SzD k (de p q))) := by
 refine enter (N := 21) (args := [(vD p), (vD q)]) Tryz.func96 rfl rfl ?_; intro ac h
 have s1 := aA ((c8 p.c0 q.c0 k (by omega) zp.1 zq.1) w0)
 have s2 := aA ((c8 p.c1 q.c1 k (by omega) zp.2.1 zq.2.1) w0)
 have s3 := aA ((c8 p.c2 q.c2 k (by omega) zp.2.2 zq.2.2) w0)
 refine dU fun K1 hK1 => ?_
 refine bx h (cD p) rfl rfl rfl fun b1 => gb (cD q) rfl rfl rfl fun b2 => ga (cD oD) vv69 rfl rfl fun b3 => gn hK1 <| gq fun K2 hK2 => ?_; clear h ac; intro ac wo h
 refine cv mixed [dv _, dw _ [2], dv _, dw _ [1], dv _, dv _, dw _ [2], dv _, dw _ [1], dv _, dv _, dw _ [2], dv _, dw _ [1], dv _, dv _, dw _ [0]] [⟨.blk b3 (cD oD) 69, [(16, .con _)]⟩, ⟨_, []⟩, ⟨_, []⟩] h rfl (by kernel_rfl) ⟨fun _ _ => aC (fa uu69 rfl zz40 rfl rfl rfl (k' := 0)), fun _ _ => cr _ rfl rfl (aX aa40 zz40 rfl rfl rfl (v := (vQ p.c0)) rfl), fun _ _ => aC (fa uu69 rfl zz40 rfl rfl rfl (k' := 0)), fun _ _ => cr _ rfl rfl (aX aa40 zz40 rfl rfl rfl (v := (vQ q.c0)) rfl), fun _ _ => dW (cP cc100 rfl (c8 p.c0 q.c0 k (by omega) zp.1 zq.1)), fun _ _ => aC (fa uu69 rfl zz40 rfl rfl rfl (k' := 4)), fun _ _ => cr _ rfl rfl (aX aa40 zz40 rfl rfl rfl (v := (vQ p.c1)) rfl), fun _ _ => aC (fa uu69 rfl zz40 rfl rfl rfl (k' := 4)), fun _ _ => cr _ rfl rfl (aX aa40 zz40 rfl rfl rfl (v := (vQ q.c1)) rfl), fun _ _ => dW (cP cc100 rfl (c8 p.c1 q.c1 k (by omega) zp.2.1 zq.2.1)), fun _ _ => aC (fa uu69 rfl zz40 rfl rfl rfl (k' := 8)), fun _ _ => cr _ rfl rfl (aX aa40 zz40 rfl rfl rfl (v := (vQ p.c2)) rfl), fun _ _ => aC (fa uu69 rfl zz40 rfl rfl rfl (k' := 8)), fun _ _ => cr _ rfl rfl (aX aa40 zz40 rfl rfl rfl (v := (vQ q.c2)) rfl), fun _ _ => dW (cP cc100 rfl (c8 p.c2 q.c2 k (by omega) zp.2.2 zq.2.2)), fun _ _ => aC (bC qg rfl rfl (v := (vD (⟨(am p.c0 q.c0), (am p.c1 q.c1), (am p.c2 q.c2)⟩ : Qd))) rfl), fun _ _ => gh _ [.blk b3 (cD (⟨(am p.c0 q.c0), (am p.c1 q.c1), (am p.c2 q.c2)⟩ : Qd)) 69] rfl rfl (gH zz69 rfl rfl rfl rfl rfl rfl rfl), trivial⟩ ?_
 clear h ac wo; intro ξ ac wo hφ h
 replace h : St w0 21 [(4, (ptr b3 0))] [.blk b3 (cD (⟨(am p.c0 q.c0), (am p.c1 q.c1), (am p.c2 q.c2)⟩ : Qd)) 69, .blk b2 (cD q) 69, .blk b1 (cD p) 69] ac wo := h.sub ⟨rfl, trivial⟩
 clear hφ ξ
 refine hK2 _ _ ?_
 refine fw ?_
 exact ret h rfl (.cell (v := (vD (⟨(am p.c0 q.c0), (am p.c1 q.c1), (am p.c2 q.c2)⟩ : Qd))) rfl (i := 0) rfl aa69 zz69 rfl rfl rfl .nil) rfl (h.retP (by unfold de; rfl) (by unfold de; exact ⟨s1, s2, s3⟩))
def bP (q : Qd) (t : GQ) : GQ :=
 (au q.c0 (an t (au q.c1 (an t q.c2))))
theorem iF (q : Qd) (t : GQ) (k : Nat) (hk : (k + 10) ≤ 40) (zq : SzD (k + 10) q) (zt : SzQ (k + 10) t) (w0 : World) : Calls Tryz.prog 99 #[(vD q), (vQ t)] w0 (ec w0 (vQ (bP q t)) (SzQ k (bP q t))) := by
 refine enter (N := 17) (args := [(vD q), (vQ t)]) Tryz.func99 rfl rfl ?_; intro ac h
 have s1 := aA ((bq t q.c2 (k + 8) (by omega) zt zq.2.2) w0)
 have s2 := aA ((bV q.c1 (an t q.c2) (k + 5) (by omega) (cA zq (by omega)).2.1 s1) w0)
 have s3 := aA ((bq t (au q.c1 (an t q.c2)) (k + 3) (by omega) (cZ zt (by omega)) s2) w0)
 have s4 := aA ((bV q.c0 (an t (au q.c1 (an t q.c2))) k (by omega) (cA zq (by omega)).1 s3) w0)
 refine dU fun K1 hK1 => ?_
 refine bx h (cD q) rfl rfl rfl fun b1 => gb (cQ t) rfl rfl rfl fun b2 => ga (cQ oQ) vv40 rfl rfl fun b3 => gn hK1 <| gq fun K2 hK2 => ?_; clear h ac; intro ac wo h
 refine cv mixed [dv _, dw _ [2], dw _ [1], dv _, dw _ [2], dw _ [1], dv _, dw _ [2], dv _, dv _, dv _, dv _, dw _ [0]] [⟨.blk b3 (cQ oQ) 40, [(12, .con _)]⟩, ⟨_, []⟩, ⟨_, []⟩] h rfl (by kernel_rfl) ⟨fun _ _ => aC (fa uu69 rfl zz40 rfl rfl rfl (k' := 0)), fun _ _ => cr _ rfl rfl (aX aa40 zz40 rfl rfl rfl (v := (vQ q.c0)) rfl), fun _ _ => cr _ rfl rfl (aX aa40 zz40 rfl rfl rfl (v := (vQ t)) rfl), fun _ _ => aC (fa uu69 rfl zz40 rfl rfl rfl (k' := 4)), fun _ _ => cr _ rfl rfl (aX aa40 zz40 rfl rfl rfl (v := (vQ q.c1)) rfl), fun _ _ => cr _ rfl rfl (aX aa40 zz40 rfl rfl rfl (v := (vQ t)) rfl), fun _ _ => aC (fa uu69 rfl zz40 rfl rfl rfl (k' := 8)), fun _ _ => cr _ rfl rfl (aX aa40 zz40 rfl rfl rfl (v := (vQ q.c2)) rfl), fun _ _ => dW (cP cc101 rfl (bq t q.c2 (k + 8) (by omega) zt zq.2.2)), fun _ _ => dW (cP cc102 rfl (bV q.c1 (an t q.c2) (k + 5) (by omega) (cA zq (by omega)).2.1 s1)), fun _ _ => dW (cP cc101 rfl (bq t (au q.c1 (an t q.c2)) (k + 3) (by omega) (cZ zt (by omega)) s2)), fun _ _ => dW (cP cc102 rfl (bV q.c0 (an t (au q.c1 (an t q.c2))) k (by omega) (cA zq (by omega)).1 s3)), fun _ _ => gh _ [.blk b3 (cQ (au q.c0 (an t (au q.c1 (an t q.c2))))) 40] rfl rfl (gH zz40 rfl rfl rfl rfl rfl rfl rfl), trivial⟩ ?_
 clear h ac wo; intro ξ ac wo hφ h
 replace h : St w0 17 [(4, (ptr b3 0))] [.blk b3 (cQ (au q.c0 (an t (au q.c1 (an t q.c2))))) 40, .blk b2 (cQ t) 40, .blk b1 (cD q) 69] ac wo := h.sub ⟨rfl, trivial⟩
 clear hφ ξ
 refine hK2 _ _ ?_
 refine fw ?_
 exact ret h rfl (.cell (v := (vQ (au q.c0 (an t (au q.c1 (an t q.c2)))))) rfl (i := 0) rfl aa40 zz40 rfl rfl rfl .nil) rfl (h.retP (by unfold bP; rfl) (by unfold bP; exact s4))
def cE (q : Qd) (t : GQ) : GQ :=
 (au q.c1 (an (au q.c2 q.c2) t))
theorem ir (q : Qd) (t : GQ) (k : Nat) (hk : (k + 8) ≤ 40) (zq : SzD (k + 8) q) (zt : SzQ (k + 8) t) (w0 : World) : Calls Tryz.prog 103 #[(vD q), (vQ t)] w0 (ec w0 (vQ (cE q t)) (SzQ k (cE q t))) := by
 refine enter (N := 15) (args := [(vD q), (vQ t)]) Tryz.func103 rfl rfl ?_; intro ac h
 have s1 := aA ((bV q.c2 q.c2 (k + 5) (by omega) zq.2.2 zq.2.2) w0)
 have s2 := aA ((bq (au q.c2 q.c2) t (k + 3) (by omega) s1 (cZ zt (by omega))) w0)
 have s3 := aA ((bV q.c1 (an (au q.c2 q.c2) t) k (by omega) (cA zq (by omega)).2.1 s2) w0)
 refine dU fun K1 hK1 => ?_
 refine bx h (cD q) rfl rfl rfl fun b1 => gb (cQ t) rfl rfl rfl fun b2 => ga (cQ oQ) vv40 rfl rfl fun b3 => gn hK1 <| gq fun K2 hK2 => ?_; clear h ac; intro ac wo h
 refine cv mixed [dv _, dw _ [2], dv _, dw _ [2], dv _, dw _ [2], dv _, dw _ [1], dv _, dv _, dw _ [0]] [⟨.blk b3 (cQ oQ) 40, [(10, .con _)]⟩, ⟨_, []⟩, ⟨_, []⟩] h rfl (by kernel_rfl) ⟨fun _ _ => aC (fa uu69 rfl zz40 rfl rfl rfl (k' := 4)), fun _ _ => cr _ rfl rfl (aX aa40 zz40 rfl rfl rfl (v := (vQ q.c1)) rfl), fun _ _ => aC (fa uu69 rfl zz40 rfl rfl rfl (k' := 8)), fun _ _ => cr _ rfl rfl (aX aa40 zz40 rfl rfl rfl (v := (vQ q.c2)) rfl), fun _ _ => aC (fa uu69 rfl zz40 rfl rfl rfl (k' := 8)), fun _ _ => cr _ rfl rfl (aX aa40 zz40 rfl rfl rfl (v := (vQ q.c2)) rfl), fun _ _ => dW (cP cc102 rfl (bV q.c2 q.c2 (k + 5) (by omega) zq.2.2 zq.2.2)), fun _ _ => cr _ rfl rfl (aX aa40 zz40 rfl rfl rfl (v := (vQ t)) rfl), fun _ _ => dW (cP cc101 rfl (bq (au q.c2 q.c2) t (k + 3) (by omega) s1 (cZ zt (by omega)))), fun _ _ => dW (cP cc102 rfl (bV q.c1 (an (au q.c2 q.c2) t) k (by omega) (cA zq (by omega)).2.1 s2)), fun _ _ => gh _ [.blk b3 (cQ (au q.c1 (an (au q.c2 q.c2) t))) 40] rfl rfl (gH zz40 rfl rfl rfl rfl rfl rfl rfl), trivial⟩ ?_
 clear h ac wo; intro ξ ac wo hφ h
 replace h : St w0 15 [(4, (ptr b3 0))] [.blk b3 (cQ (au q.c1 (an (au q.c2 q.c2) t))) 40, .blk b2 (cQ t) 40, .blk b1 (cD q) 69] ac wo := h.sub ⟨rfl, trivial⟩
 clear hφ ξ
 refine hK2 _ _ ?_
 refine fw ?_
 exact ret h rfl (.cell (v := (vQ (au q.c1 (an (au q.c2 q.c2) t)))) rfl (i := 0) rfl aa40 zz40 rfl rfl rfl .nil) rfl (h.retP (by unfold cE; rfl) (by unfold cE; exact s3))
def cB (x : GR) : GQ × Bool :=
 bif (!(decide (x.r = (⟨(⟨false, 0⟩ : GI), (⟨false, 0⟩ : GI)⟩ : GQ)))) then
  ((⟨(⟨false, 0⟩ : GI), (⟨false, 0⟩ : GI)⟩ : GQ), false)
 else
  (x.p, true)
theorem kW (x : GR) (k : Nat) (hk : k ≤ 40) (zx : SzR k x) (w0 : World) : Calls Tryz.prog 98 #[(vR x)] w0 (ec w0 (.tuple #[(vQ ((cB x).1)), (.bool ((cB x).2))]) (SzQ k ((cB x).1))) := by
 refine enter (N := 11) (args := [(vR x)]) Tryz.func98 rfl rfl ?_; intro ac h
 refine dU fun K1 hK1 => ?_
 refine bx h (cR x) rfl rfl rfl fun b1 => ga (cQ oQ) vv40 rfl rfl fun b2 => g0 (ae rfl) rfl <| gn hK1 <| gq fun K2 hK2 => gr fun K3 hK3 => g0 (fa uu53 rfl zz40 rfl rfl rfl (k' := 4)) rfl <| g1 1 rfl (aX aa40 zz40 rfl rfl rfl (v := (vQ x.r)) rfl) rfl <| g0 (bC lW rfl rfl (v := (vQ oQ)) rfl) rfl <| g0 (lC eqp40 rfl rfl) rfl <| gn hK3 ?_; clear h ac; intro ac wo h
 refine cO h rfl (fun hc1 => ?_) (fun hc1 => ?_)
 ·
  refine gz h <| gr fun K4 hK4 => g0 (bC lW rfl rfl (v := (vQ oQ)) rfl) rfl <| gs 0 (cQ oQ) rfl zz40 rfl rfl rfl rfl rfl rfl rfl <| g0 (ae rfl) rfl <| gn hK4 <| gT ?_; clear h ac wo; intro ac wo h
  have hd : cB x = (oQ, false) := (cT hc1)
  exact ret h rfl (.cell (v := (vQ oQ)) rfl (i := 0) rfl aa40 zz40 rfl rfl rfl (.tmp rfl .nil)) rfl (h.retP (by rw [hd] <;> rfl) (by rw [hd]; exact ⟨(cc 0 (by decide) (by omega)), (cc 0 (by decide) (by omega))⟩))
 ·
  refine gz h <| gS <| gx hK2 <| gr fun K5 hK5 => g0 (fa uu53 rfl zz40 rfl rfl rfl (k' := 0)) rfl <| g1 1 rfl (aX aa40 zz40 rfl rfl rfl (v := (vQ x.p)) rfl) rfl <| gs 0 (cQ x.p) rfl zz40 rfl rfl rfl rfl rfl rfl rfl <| g0 (ae rfl) rfl <| gn hK5 <| gT ?_; clear h ac wo; intro ac wo h
  have hd : cB x = (x.p, true) := (cF hc1)
  exact ret h rfl (.cell (v := (vQ x.p)) rfl (i := 0) rfl aa40 zz40 rfl rfl rfl (.tmp rfl .nil)) rfl (h.retP (by rw [hd] <;> rfl) (by rw [hd]; exact zx.1))
def aN (q : Qd) (t : GR) : Qd :=
 bif (cB t).2 then
  (aF (bP q ((cB t).1)))
 else
  (aK (au q.c0 (an q.c2 (am t.r (an t.p t.p)))) (cE q t.p))
theorem fF (q : Qd) (t : GR) (k : Nat) (hk : (k + 10) ≤ 40) (zq : SzD (k + 10) q) (zt : SzR (k + 10) t) (w0 : World) : Calls Tryz.prog 37 #[(vD q), (vR t)] w0 (ec w0 (vD (aN q t)) (SzD k (aN q t))) := by
 refine enter (N := 38) (args := [(vD q), (vR t)]) Tryz.func37 rfl rfl ?_; intro ac h
 have c1 := kW t (k + 10) (by omega) zt
 have s1 := aA (c1 w0)
 refine dU fun K1 hK1 => ?_
 refine bx h (cD q) rfl rfl rfl fun b1 => gb (cR t) rfl rfl rfl fun b2 => ga (cD oD) vv69 rfl rfl fun b3 => gn hK1 <| gq fun K2 hK2 => gr fun K3 hK3 => g1 1 rfl (aX aa53 zz53 rfl rfl rfl (v := (vR t)) rfl) rfl <| gl Tryz.call98 rfl c1 rfl <| g0 (af rfl) rfl <| g0 (bg rfl rfl) rfl <| g0 (bg rfl rfl) rfl <| ga (cQ oQ) vv40 rfl rfl fun b4 => gs 0 (cQ ((cB t).1)) rfl zz40 rfl rfl rfl rfl rfl rfl rfl <| g0 (ae rfl) rfl <| gn hK3 <| gr fun K4 hK4 => g0 (af rfl) rfl <| gn hK4 ?_; clear h ac; intro ac wo h
 refine cO h rfl (fun hc1 => ?_) (fun hc1 => ?_)
 ·
  have c2 := iF q ((cB t).1) k (by omega) zq s1
  have s2 := aA (c2 w0)
  have c3 := ff (bP q ((cB t).1)) k (by omega) s2
  have s3 := aA (c3 w0)
  refine gz h <| gr fun K5 hK5 => g1 3 rfl (aX aa69 zz69 rfl rfl rfl (v := (vD q)) rfl) rfl <| g1 0 rfl (aX aa40 zz40 rfl rfl rfl (v := (vQ ((cB t).1))) rfl) rfl <| gl Tryz.call99 rfl c2 rfl <| gl Tryz.call79 rfl c3 rfl <| gs 1 (cD (aF (bP q ((cB t).1)))) rfl zz69 rfl rfl rfl rfl rfl rfl rfl <| gn hK5 <| gT ?_; clear h ac wo; intro ac wo h
  have hd : aN q t = (aF (bP q ((cB t).1))) := (cT hc1)
  exact ret h rfl (.cell (v := (vD (aF (bP q ((cB t).1))))) rfl (i := 1) rfl aa69 zz69 rfl rfl rfl .nil) rfl (h.retP (by rw [hd] <;> rfl) (by rw [hd]; exact s3))
 ·
  refine dZ ?_
  refine hK2 _ _ ?_
  refine dy fun K6 hK6 => ?_
  have s4 := aA ((bq t.p t.p (k + 8) (by omega) zt.1 zt.1) w0)
  have s5 := aA ((c8 t.r (an t.p t.p) (k + 5) (by omega) (cz zt (by omega)).2 s4) w0)
  replace h := h.emps 1
  refine cv mixed [dv _, dw _ [2], dv _, dw _ [2], dv _, dw _ [2], dv _, dv _, ⟨.nd (.one 8 fun v => ∃ b, v = ptr b 0), [4]⟩, ⟨.det undef, [4]⟩] [⟨_, []⟩, ⟨_, []⟩, ⟨_, []⟩, ⟨_, []⟩, ⟨.emp, [(8, .one 8 fun v => .blk (fx v) (cQ oQ) 40), (9, .one 8 fun v => .blk (fx v) (cQ (am t.r (an t.p t.p))) 40)]⟩] h rfl (by kernel_rfl) ⟨fun _ _ => aC (fa uu53 rfl zz40 rfl rfl rfl (k' := 4)), fun _ _ => cr _ rfl rfl (aX aa40 zz40 rfl rfl rfl (v := (vQ t.r)) rfl), fun _ _ => aC (fa uu53 rfl zz40 rfl rfl rfl (k' := 0)), fun _ _ => cr _ rfl rfl (aX aa40 zz40 rfl rfl rfl (v := (vQ t.p)) rfl), fun _ _ => aC (fa uu53 rfl zz40 rfl rfl rfl (k' := 0)), fun _ _ => cr _ rfl rfl (aX aa40 zz40 rfl rfl rfl (v := (vQ t.p)) rfl), fun _ _ => dW (cP cc101 rfl (bq t.p t.p (k + 8) (by omega) zt.1 zt.1)), fun _ _ => dW (cP cc100 rfl (c8 t.r (an t.p t.p) (k + 5) (by omega) (cz zt (by omega)).2 s4)), fun _ _ => kR (ψ := fun v => ∃ b, v = ptr b 0) (B := fun v => [.blk (fx v) (cQ oQ) 40]) [.emp] rfl (fun v _ => by simp only [ej, bB] <;> rfl) (fun v hv => by simpa [DF.one, bB] using hv) (jN (kw vv40 rfl)), (fun ξ hφ => by obtain ⟨b5, hb8⟩ := hφ 8 rfl; exact gh [.blk b5 (cQ oQ) 40] [.blk b5 (cQ (am t.r (an t.p t.p))) 40] (congrArg (fun v => [Asn.blk (fx v) (cQ oQ) 40]) hb8) (congrArg (fun v => [Asn.blk (fx v) (cQ (am t.r (an t.p t.p))) 40]) hb8) (gH zz40 (Eq.trans rfl (congrArg some hb8)) rfl rfl rfl rfl rfl rfl)), trivial⟩ ?_
  clear h ac wo; intro ξ ac wo hφ h
  replace h : St w0 38 [(2, (ptr b1 0)), (3, (ptr b2 0)), (4, (ptr b3 0)), (7, ξ 8)] [.blk b4 (cQ ((cB t).1)) 40, .blk b3 (cD oD) 69, .blk b2 (cR t) 53, .blk b1 (cD q) 69, .blk (fx (ξ 8)) (cQ (am t.r (an t.p t.p))) 40] ac wo := h.sub ⟨rfl, rfl, rfl, rfl, trivial⟩
  revert h
  obtain ⟨b5, hb8⟩ : ∃ b, ξ 8 = ptr b 0 := hφ 8
  rw [hb8]; intro h
  clear hb8 hφ ξ
  refine hK6 _ _ ?_
  refine dy fun K7 hK7 => ?_
  have s6 := aA ((bq q.c2 (am t.r (an t.p t.p)) (k + 3) (by omega) (cA zq (by omega)).2.2 s5) w0)
  have s7 := aA ((bV q.c0 (an q.c2 (am t.r (an t.p t.p))) k (by omega) (cA zq (by omega)).1 s6) w0)
  have s8 := aA ((ir q t.p (k + 2) (by omega) zq zt.1) w0)
  have s9 := aA ((eO (au q.c0 (an q.c2 (am t.r (an t.p t.p)))) (cE q t.p) k (by omega) s7 (cZ s8 (by omega))) w0)
  refine cv mixed [dv _, dw _ [3], dv _, dw _ [3], dw _ [4], dv _, dv _, dw _ [3], dv _, dw _ [2], dv _, dv _, dw _ [1]] [⟨_, []⟩, ⟨.blk b3 (cD oD) 69, [(12, .con _)]⟩, ⟨_, []⟩, ⟨_, []⟩, ⟨_, []⟩] h rfl (by kernel_rfl) ⟨fun _ _ => aC (fa uu69 rfl zz40 rfl rfl rfl (k' := 0)), fun _ _ => cr _ rfl rfl (aX aa40 zz40 rfl rfl rfl (v := (vQ q.c0)) rfl), fun _ _ => aC (fa uu69 rfl zz40 rfl rfl rfl (k' := 8)), fun _ _ => cr _ rfl rfl (aX aa40 zz40 rfl rfl rfl (v := (vQ q.c2)) rfl), fun _ _ => cr _ rfl rfl (aX aa40 zz40 rfl rfl rfl (v := (vQ (am t.r (an t.p t.p)))) rfl), fun _ _ => dW (cP cc101 rfl (bq q.c2 (am t.r (an t.p t.p)) (k + 3) (by omega) (cA zq (by omega)).2.2 s5)), fun _ _ => dW (cP cc102 rfl (bV q.c0 (an q.c2 (am t.r (an t.p t.p))) k (by omega) (cA zq (by omega)).1 s6)), fun _ _ => cr _ rfl rfl (aX aa69 zz69 rfl rfl rfl (v := (vD q)) rfl), fun _ _ => aC (fa uu53 rfl zz40 rfl rfl rfl (k' := 0)), fun _ _ => cr _ rfl rfl (aX aa40 zz40 rfl rfl rfl (v := (vQ t.p)) rfl), fun _ _ => dW (cP Tryz.call103 rfl (ir q t.p (k + 2) (by omega) zq zt.1)), fun _ _ => dW (cP Tryz.call31 rfl (eO (au q.c0 (an q.c2 (am t.r (an t.p t.p)))) (cE q t.p) k (by omega) s7 (cZ s8 (by omega)))), fun _ _ => gh _ [.blk b3 (cD (aK (au q.c0 (an q.c2 (am t.r (an t.p t.p)))) (cE q t.p))) 69] rfl rfl (gH zz69 rfl rfl rfl rfl rfl rfl rfl), trivial⟩ ?_
  clear h ac wo; intro ξ ac wo hφ h
  replace h : St w0 38 [(4, (ptr b3 0))] [.blk b4 (cQ ((cB t).1)) 40, .blk b3 (cD (aK (au q.c0 (an q.c2 (am t.r (an t.p t.p)))) (cE q t.p))) 69, .blk b2 (cR t) 53, .blk b1 (cD q) 69, .blk b5 (cQ (am t.r (an t.p t.p))) 40] ac wo := h.sub ⟨rfl, trivial⟩
  clear hφ ξ
  refine hK7 _ _ ?_
  refine fw ?_
  have hd : aN q t = (aK (au q.c0 (an q.c2 (am t.r (an t.p t.p)))) (cE q t.p)) := (cF hc1)
  exact ret h rfl (.cell (v := (vD (aK (au q.c0 (an q.c2 (am t.r (an t.p t.p)))) (cE q t.p)))) rfl (i := 1) rfl aa69 zz69 rfl rfl rfl .nil) rfl (h.retP (by rw [hd] <;> rfl) (by rw [hd]; exact s9))
def bt (p : Qd) (q : Qd) (t : GR) : Bool :=
 (decide ((aN (de p q) t) = (⟨(⟨(⟨false, 0⟩ : GI), (⟨false, 0⟩ : GI)⟩ : GQ), (⟨(⟨false, 0⟩ : GI), (⟨false, 0⟩ : GI)⟩ : GQ), (⟨(⟨false, 0⟩ : GI), (⟨false, 0⟩ : GI)⟩ : GQ)⟩ : Qd)))
theorem kC (p : Qd) (q : Qd) (t : GR) (k : Nat) (hk : (k + 14) ≤ 40) (zp : SzD (k + 14) p) (zq : SzD (k + 14) q) (zt : SzR (k + 14) t) (w0 : World) : Calls Tryz.prog 30 #[(vD p), (vD q), (vR t)] w0 (ec w0 (.bool (bt p q t)) (True)) := by
 refine enter (N := 14) (args := [(vD p), (vD q), (vR t)]) Tryz.func30 rfl rfl ?_; intro ac h
 have s1 := aA ((iZ p q (k + 11) (by omega) zp zq) w0)
 have s2 := aA ((fF (de p q) t (k + 1) (by omega) s1 (cz zt (by omega))) w0)
 refine dU fun K1 hK1 => ?_
 refine bx h (cD p) rfl rfl rfl fun b1 => gb (cD q) rfl rfl rfl fun b2 => gb (cR t) rfl rfl rfl fun b3 => g0 (ae rfl) rfl <| gn hK1 <| gq fun K2 hK2 => ?_; clear h ac; intro ac wo h
 refine cv mixed [dw _ [2], dw _ [1], dv _, dw _ [0], dv _, dv _, dv _, dv _] [⟨_, []⟩, ⟨_, []⟩, ⟨_, []⟩] h rfl (by kernel_rfl) ⟨fun _ _ => cr _ rfl rfl (aX aa69 zz69 rfl rfl rfl (v := (vD p)) rfl), fun _ _ => cr _ rfl rfl (aX aa69 zz69 rfl rfl rfl (v := (vD q)) rfl), fun _ _ => dW (cP Tryz.call96 rfl (iZ p q (k + 11) (by omega) zp zq)), fun _ _ => cr _ rfl rfl (aX aa53 zz53 rfl rfl rfl (v := (vR t)) rfl), fun _ _ => dW (cP Tryz.call37 rfl (fF (de p q) t (k + 1) (by omega) s1 (cz zt (by omega)))), fun _ _ => aC (bC qg rfl rfl (v := (vD oD)) rfl), fun _ _ => aC (fM pW rfl rfl), fun _ _ => aC (ae rfl), trivial⟩ ?_
 clear h ac wo; intro ξ ac wo hφ h
 replace h : St w0 14 [(6, (.bool (decide ((aN (de p q) t) = oD))))] [.blk b3 (cR t) 53, .blk b2 (cD q) 69, .blk b1 (cD p) 69] ac wo := h.sub ⟨rfl, trivial⟩
 clear hφ ξ
 refine hK2 _ _ ?_
 refine fw ?_
 exact ret h rfl (.tmp rfl .nil) rfl (h.retP (by unfold bt; rfl) trivial)
def aU (x : GR) : GQ :=
 bif x.neg then
  (ah (-1))
 else
  (ah 1)
theorem gf (x : GR) (k : Nat) (hk : k ≤ 40) (zx : SzR k x) (w0 : World) : Calls Tryz.prog 174 #[(vR x)] w0 (ec w0 (vQ (aU x)) (SzQ k (aU x))) := by
 refine enter (N := 7) (args := [(vR x)]) Tryz.func174 rfl rfl ?_; intro ac h
 refine dU fun K1 hK1 => ?_
 refine bx h (cR x) rfl rfl rfl fun b1 => ga (cQ oQ) vv40 rfl rfl fun b2 => gn hK1 <| gq fun K2 hK2 => gr fun K3 hK3 => g0 (fa uu53 rfl zz4 rfl rfl rfl (k' := 8)) rfl <| g1 1 rfl (aX aa4 zz4 rfl rfl rfl (v := (.bool x.neg)) rfl) rfl <| gn hK3 ?_; clear h ac; intro ac wo h
 refine cO h rfl (fun hc1 => ?_) (fun hc1 => ?_)
 ·
  have c1 := bD (-1) k (by omega)  (by omega)
  have s1 := aA (c1 w0)
  refine gz h <| gr fun K4 hK4 => gl cc45 rfl c1 rfl <| gs 0 (cQ (ah (-1))) rfl zz40 rfl rfl rfl rfl rfl rfl rfl <| gn hK4 <| gT ?_; clear h ac wo; intro ac wo h
  have hd : aU x = (ah (-1)) := (cT hc1)
  exact ret h rfl (.cell (v := (vQ (ah (-1)))) rfl (i := 0) rfl aa40 zz40 rfl rfl rfl .nil) rfl (h.retP (by rw [hd] <;> rfl) (by rw [hd]; exact s1))
 ·
  have c2 := bD 1 k (by omega)  (by omega)
  have s2 := aA (c2 w0)
  refine gz h <| gS <| gx hK2 <| gr fun K5 hK5 => gl cc45 rfl c2 rfl <| gs 0 (cQ (ah 1)) rfl zz40 rfl rfl rfl rfl rfl rfl rfl <| gn hK5 <| gT ?_; clear h ac wo; intro ac wo h
  have hd : aU x = (ah 1) := (cF hc1)
  exact ret h rfl (.cell (v := (vQ (ah 1))) rfl (i := 0) rfl aa40 zz40 rfl rfl rfl .nil) rfl (h.retP (by rw [hd] <;> rfl) (by rw [hd]; exact s2))
def dD (a : GQ) (b : GQ) (r : GQ) : Int :=
 bif ((((aL b) * (aL r)) == 0) || ((aL a) == ((aL b) * (aL r)))) then
  (aL a)
 else
  bif ((aL a) == 0) then
   ((aL b) * (aL r))
  else
   ((aL a) * (dA (an a a) (an (an b b) r)))
theorem iq (a : GQ) (b : GQ) (r : GQ) (k : Nat) (hk : (k + 8) ≤ 40) (za : SzQ (k + 8) a) (zb : SzQ (k + 8) b) (zr : SzQ (k + 8) r) (w0 : World) : Calls Tryz.prog 175 #[(vQ a), (vQ b), (vQ r)] w0 (ec w0 (.int .i64 (dD a b r)) ((-1 ≤ (dD a b r) ∧ (dD a b r) ≤ 1))) := by
 refine enter (N := 40) (args := [(vQ a), (vQ b), (vQ r)]) Tryz.func175 rfl rfl ?_; intro ac h
 have p2 := aA ((cM a) w0)
 have p4 := aA ((cM b) w0)
 have p6 := aA ((cM r) w0)
 refine dU fun K1 hK1 => ?_
 refine bx h (cQ a) rfl rfl rfl fun b1 => gb (cQ b) rfl rfl rfl fun b2 => gb (cQ r) rfl rfl rfl fun b3 => g0 (ae rfl) rfl <| gn hK1 <| gq fun K2 hK2 => ?_; clear h ac; intro ac wo h
 refine cv mixed [dw _ [2], dv _, dw _ [1], dv _, dw _ [0], dv _, dv _, dv _, dv _] [⟨_, []⟩, ⟨_, []⟩, ⟨_, []⟩] h rfl (by kernel_rfl) ⟨fun _ _ => cr _ rfl rfl (aX aa40 zz40 rfl rfl rfl (v := (vQ a)) rfl), fun _ _ => dW (cP cc58 rfl (cM a)), fun _ _ => cr _ rfl rfl (aX aa40 zz40 rfl rfl rfl (v := (vQ b)) rfl), fun _ _ => dW (cP cc58 rfl (cM b)), fun _ _ => cr _ rfl rfl (aX aa40 zz40 rfl rfl rfl (v := (vQ r)) rfl), fun _ _ => dW (cP cc58 rfl (cM r)), fun _ _ => aC (kz rfl rfl (r := ((aL b) * (aL r))) (by first | (rw [IntKind.wrap_i64]; omega) | exact im (by omega) (by omega))), fun _ _ => aC (ae rfl), fun _ _ => aC (ae rfl), trivial⟩ ?_
 clear h ac wo; intro ξ ac wo hφ h
 replace h : St w0 40 [(3, (ptr b1 0)), (4, (ptr b2 0)), (5, (ptr b3 0)), (7, (.int .i64 (aL a))), (8, (.int .i64 ((aL b) * (aL r))))] [.blk b3 (cQ r) 40, .blk b2 (cQ b) 40, .blk b1 (cQ a) 40] ac wo := h.sub ⟨rfl, rfl, rfl, rfl, rfl, trivial⟩
 clear hφ ξ
 refine gz h <| gx hK2 <| gq fun K3 hK3 => gB <| gr fun K4 hK4 => g0 (af rfl) rfl <| g0 (fj rfl rfl) rfl <| g0 (af rfl) rfl <| ge2 rfl rfl (fun hg => (Rd.of_nil (af rfl)).step) rfl <| ge2 rfl rfl (fun hg => (Rd.of_nil (af rfl)).step) rfl <| ge2 rfl rfl (fun hg => (Rd.of_nil (fj (ap rfl hg) (ap rfl hg))).step) rfl <| g0 (np rfl (fun e => (ap rfl (nq e)))) rfl <| g0 (ae rfl) rfl <| gn hK4 ?_; clear h ac wo; intro ac wo h
 refine cO h rfl (fun hc1 => ?_) (fun hc1 => ?_)
 ·
  refine gz h <| gr fun K5 hK5 => g0 (af rfl) rfl <| g0 (ae rfl) rfl <| gn hK5 <| gT ?_; clear h ac wo; intro ac wo h
  have hd : dD a b r = (aL a) := (cT hc1)
  exact ret h rfl (.tmp rfl .nil) rfl (h.retP (by rw [hd] <;> rfl) (by rw [hd]; exact by first | omega | exact es (by omega) (by omega)))
 ·
  refine gz h <| gr fun K6 hK6 => g0 (af rfl) rfl <| g0 (fj rfl rfl) rfl <| g0 (ae rfl) rfl <| gn hK6 ?_; clear h ac wo; intro ac wo h
  refine cO h rfl (fun hc2 => ?_) (fun hc2 => ?_)
  ·
   have hd2 := eq_of_beq hc2
   refine gz h <| gr fun K7 hK7 => g0 (af rfl) rfl <| g0 (ae rfl) rfl <| gn hK7 <| gT ?_; clear h ac wo; intro ac wo h
   have hd : dD a b r = ((aL b) * (aL r)) := (Eq.trans (cF hc1) (cT hc2))
   exact ret h rfl (.tmp rfl .nil) rfl (h.retP (by rw [hd] <;> rfl) (by rw [hd]; exact by first | omega | exact es (by omega) (by omega)))
  ·
   have hd2 := ne_of_beq_false hc2
   refine dZ ?_
   refine nW ?_
   refine hK3 _ _ ?_
   refine dy fun K8 hK8 => ?_
   have s7 := aA ((bq a a (k + 6) (by omega) za za) w0)
   have s8 := aA ((bq b b (k + 6) (by omega) zb zb) w0)
   have s9 := aA ((bq (an b b) r (k + 4) (by omega) s8 (cZ zr (by omega))) w0)
   have p11 := aA ((g8 (an a a) (an (an b b) r) (k + 3) (by omega) (cZ s7 (by omega)) s9) w0)
   refine cv mixed [dv _, dw _ [2], dw _ [2], dv _, dw _ [1], dw _ [1], dv _, dw _ [0], dv _, dv _, dv _, dv _] [⟨_, []⟩, ⟨_, []⟩, ⟨_, []⟩] h rfl (by kernel_rfl) ⟨fun _ _ => om rfl, fun _ _ => cr _ rfl rfl (aX aa40 zz40 rfl rfl rfl (v := (vQ a)) rfl), fun _ _ => cr _ rfl rfl (aX aa40 zz40 rfl rfl rfl (v := (vQ a)) rfl), fun _ _ => dW (cP cc101 rfl (bq a a (k + 6) (by omega) za za)), fun _ _ => cr _ rfl rfl (aX aa40 zz40 rfl rfl rfl (v := (vQ b)) rfl), fun _ _ => cr _ rfl rfl (aX aa40 zz40 rfl rfl rfl (v := (vQ b)) rfl), fun _ _ => dW (cP cc101 rfl (bq b b (k + 6) (by omega) zb zb)), fun _ _ => cr _ rfl rfl (aX aa40 zz40 rfl rfl rfl (v := (vQ r)) rfl), fun _ _ => dW (cP cc101 rfl (bq (an b b) r (k + 4) (by omega) s8 (cZ zr (by omega)))), fun _ _ => dW (cP Tryz.call198 rfl (g8 (an a a) (an (an b b) r) (k + 3) (by omega) (cZ s7 (by omega)) s9)), fun _ _ => aC (kz rfl rfl (r := ((aL a) * (dA (an a a) (an (an b b) r)))) (by first | (rw [IntKind.wrap_i64]; omega) | exact im (by omega) (by omega))), fun _ _ => aC (ae rfl), trivial⟩ ?_
   clear h ac wo; intro ξ ac wo hφ h
   replace h : St w0 40 [(6, (.int .i64 ((aL a) * (dA (an a a) (an (an b b) r)))))] [.blk b3 (cQ r) 40, .blk b2 (cQ b) 40, .blk b1 (cQ a) 40] ac wo := h.sub ⟨rfl, trivial⟩
   clear hφ ξ
   refine hK8 _ _ ?_
   refine fw ?_
   have hd : dD a b r = ((aL a) * (dA (an a a) (an (an b b) r))) := (Eq.trans (cF hc1) (cF hc2))
   exact ret h rfl (.tmp rfl .nil) rfl (h.retP (by rw [hd] <;> rfl) (by rw [hd]; exact by first | omega | exact es (by omega) (by omega)))
def aD (x : GR) (y : GR) : Int :=
 bif ((((aL (az (aU y))) * (aL y.r)) == 0) || ((dD (am x.p y.p) (aU x) x.r) == ((aL (az (aU y))) * (aL y.r)))) then
  (dD (am x.p y.p) (aU x) x.r)
 else
  bif ((dD (am x.p y.p) (aU x) x.r) == 0) then
   ((aL (az (aU y))) * (aL y.r))
  else
   ((dD (am x.p y.p) (aU x) x.r) * (dD (am (au (an (am x.p y.p) (am x.p y.p)) x.r) y.r) (an (ah 2) (an (am x.p y.p) (aU x))) x.r))
theorem cC (x : GR) (y : GR) (k : Nat) (hk : (k + 20) ≤ 40) (zx : SzR (k + 20) x) (zy : SzR (k + 20) y) (w0 : World) : Calls Tryz.prog 115 #[(vR x), (vR y)] w0 (ec w0 (.int .i64 (aD x y)) ((-1 ≤ (aD x y) ∧ (aD x y) ≤ 1))) := by
 refine enter (N := 65) (args := [(vR x), (vR y)]) Tryz.func115 rfl rfl ?_; intro ac h
 have s1 := aA ((c8 x.p y.p (k + 17) (by omega) zx.1 zy.1) w0)
 have s2 := aA ((gf x (k + 20) (by omega) zx) w0)
 have s3 := aA ((gf y (k + 20) (by omega) zy) w0)
 have s4 := aA ((d7 (aU y) (k + 20) (by omega) s3) w0)
 refine dU fun K1 hK1 => ?_
 refine bx h (cR x) rfl rfl rfl fun b1 => gb (cR y) rfl rfl rfl fun b2 => g0 (ae rfl) rfl <| gn hK1 <| gq fun K2 hK2 => ?_; clear h ac; intro ac wo h
 replace h := h.emps 3
 refine cv mixed [dv _, dw _ [1], dv _, dw _ [0], dv _, dw _ [1], dv _, dw _ [0], dv _, dv _, ⟨.nd (.one 10 fun v => ∃ b, v = ptr b 0), [2]⟩, ⟨.nd (.one 11 fun v => ∃ b, v = ptr b 0), [3]⟩, ⟨.nd (.one 12 fun v => ∃ b, v = ptr b 0), [4]⟩, ⟨.det undef, [2]⟩, ⟨.det undef, [3]⟩, ⟨.det undef, [4]⟩] [⟨_, []⟩, ⟨_, []⟩, ⟨.emp, [(10, .one 10 fun v => .blk (fx v) (cQ oQ) 40), (13, .one 10 fun v => .blk (fx v) (cQ (am x.p y.p)) 40)]⟩, ⟨.emp, [(11, .one 11 fun v => .blk (fx v) (cQ oQ) 40), (14, .one 11 fun v => .blk (fx v) (cQ (aU x)) 40)]⟩, ⟨.emp, [(12, .one 12 fun v => .blk (fx v) (cQ oQ) 40), (15, .one 12 fun v => .blk (fx v) (cQ (az (aU y))) 40)]⟩] h rfl (by kernel_rfl) ⟨fun _ _ => aC (fa uu53 rfl zz40 rfl rfl rfl (k' := 0)), fun _ _ => cr _ rfl rfl (aX aa40 zz40 rfl rfl rfl (v := (vQ x.p)) rfl), fun _ _ => aC (fa uu53 rfl zz40 rfl rfl rfl (k' := 0)), fun _ _ => cr _ rfl rfl (aX aa40 zz40 rfl rfl rfl (v := (vQ y.p)) rfl), fun _ _ => dW (cP cc100 rfl (c8 x.p y.p (k + 17) (by omega) zx.1 zy.1)), fun _ _ => cr _ rfl rfl (aX aa53 zz53 rfl rfl rfl (v := (vR x)) rfl), fun _ _ => dW (cP Tryz.call174 rfl (gf x (k + 20) (by omega) zx)), fun _ _ => cr _ rfl rfl (aX aa53 zz53 rfl rfl rfl (v := (vR y)) rfl), fun _ _ => dW (cP Tryz.call174 rfl (gf y (k + 20) (by omega) zy)), fun _ _ => dW (cP Tryz.call52 rfl (d7 (aU y) (k + 20) (by omega) s3)), fun _ _ => kR (ψ := fun v => ∃ b, v = ptr b 0) (B := fun v => [.blk (fx v) (cQ oQ) 40]) [.emp] rfl (fun v _ => by simp only [ej, bB] <;> rfl) (fun v hv => by simpa [DF.one, bB] using hv) (jN (kw vv40 rfl)), fun _ _ => kR (ψ := fun v => ∃ b, v = ptr b 0) (B := fun v => [.blk (fx v) (cQ oQ) 40]) [.emp] rfl (fun v _ => by simp only [ej, bB] <;> rfl) (fun v hv => by simpa [DF.one, bB] using hv) (jN (kw vv40 rfl)), fun _ _ => kR (ψ := fun v => ∃ b, v = ptr b 0) (B := fun v => [.blk (fx v) (cQ oQ) 40]) [.emp] rfl (fun v _ => by simp only [ej, bB] <;> rfl) (fun v hv => by simpa [DF.one, bB] using hv) (jN (kw vv40 rfl)), (fun ξ hφ => by obtain ⟨b3, hb10⟩ := hφ 10 rfl; exact gh [.blk b3 (cQ oQ) 40] [.blk b3 (cQ (am x.p y.p)) 40] (congrArg (fun v => [Asn.blk (fx v) (cQ oQ) 40]) hb10) (congrArg (fun v => [Asn.blk (fx v) (cQ (am x.p y.p)) 40]) hb10) (gH zz40 (Eq.trans rfl (congrArg some hb10)) rfl rfl rfl rfl rfl rfl)), (fun ξ hφ => by obtain ⟨b4, hb11⟩ := hφ 11 rfl; exact gh [.blk b4 (cQ oQ) 40] [.blk b4 (cQ (aU x)) 40] (congrArg (fun v => [Asn.blk (fx v) (cQ oQ) 40]) hb11) (congrArg (fun v => [Asn.blk (fx v) (cQ (aU x)) 40]) hb11) (gH zz40 (Eq.trans rfl (congrArg some hb11)) rfl rfl rfl rfl rfl rfl)), (fun ξ hφ => by obtain ⟨b5, hb12⟩ := hφ 12 rfl; exact gh [.blk b5 (cQ oQ) 40] [.blk b5 (cQ (az (aU y))) 40] (congrArg (fun v => [Asn.blk (fx v) (cQ oQ) 40]) hb12) (congrArg (fun v => [Asn.blk (fx v) (cQ (az (aU y))) 40]) hb12) (gH zz40 (Eq.trans rfl (congrArg some hb12)) rfl rfl rfl rfl rfl rfl)), trivial⟩ ?_
 clear h ac wo; intro ξ ac wo hφ h
 replace h : St w0 65 [(2, (ptr b1 0)), (3, (ptr b2 0)), (5, ξ 10), (6, ξ 11), (7, ξ 12)] [.blk b2 (cR y) 53, .blk b1 (cR x) 53, .blk (fx (ξ 10)) (cQ (am x.p y.p)) 40, .blk (fx (ξ 11)) (cQ (aU x)) 40, .blk (fx (ξ 12)) (cQ (az (aU y))) 40] ac wo := h.sub ⟨rfl, rfl, rfl, rfl, rfl, trivial⟩
 revert h
 obtain ⟨b3, hb10⟩ : ∃ b, ξ 10 = ptr b 0 := hφ 10
 obtain ⟨b4, hb11⟩ : ∃ b, ξ 11 = ptr b 0 := hφ 11
 obtain ⟨b5, hb12⟩ : ∃ b, ξ 12 = ptr b 0 := hφ 12
 rw [hb10, hb11, hb12]; intro h
 clear hb10 hb11 hb12 hφ ξ
 refine hK2 _ _ ?_
 refine dy fun K3 hK3 => ?_
 have p6 := aA ((iq (am x.p y.p) (aU x) x.r (k + 9) (by omega) s1 (cZ s2 (by omega)) (cz zx (by omega)).2) w0)
 have p8 := aA ((cM (az (aU y))) w0)
 have p10 := aA ((cM y.r) w0)
 refine cv mixed [dw _ [2], dw _ [3], dv _, dw _ [1], dv _, dw _ [4], dv _, dv _, dw _ [0], dv _, dv _, dv _, dv _] [⟨_, []⟩, ⟨_, []⟩, ⟨_, []⟩, ⟨_, []⟩, ⟨_, []⟩] h rfl (by kernel_rfl) ⟨fun _ _ => cr _ rfl rfl (aX aa40 zz40 rfl rfl rfl (v := (vQ (am x.p y.p))) rfl), fun _ _ => cr _ rfl rfl (aX aa40 zz40 rfl rfl rfl (v := (vQ (aU x))) rfl), fun _ _ => aC (fa uu53 rfl zz40 rfl rfl rfl (k' := 4)), fun _ _ => cr _ rfl rfl (aX aa40 zz40 rfl rfl rfl (v := (vQ x.r)) rfl), fun _ _ => dW (cP Tryz.call175 rfl (iq (am x.p y.p) (aU x) x.r (k + 9) (by omega) s1 (cZ s2 (by omega)) (cz zx (by omega)).2)), fun _ _ => cr _ rfl rfl (aX aa40 zz40 rfl rfl rfl (v := (vQ (az (aU y)))) rfl), fun _ _ => dW (cP cc58 rfl (cM (az (aU y)))), fun _ _ => aC (fa uu53 rfl zz40 rfl rfl rfl (k' := 4)), fun _ _ => cr _ rfl rfl (aX aa40 zz40 rfl rfl rfl (v := (vQ y.r)) rfl), fun _ _ => dW (cP cc58 rfl (cM y.r)), fun _ _ => aC (kz rfl rfl (r := ((aL (az (aU y))) * (aL y.r))) (by first | (rw [IntKind.wrap_i64]; omega) | exact im (by omega) (by omega))), fun _ _ => aC (ae rfl), fun _ _ => aC (ae rfl), trivial⟩ ?_
 clear h ac wo; intro ξ ac wo hφ h
 replace h : St w0 65 [(2, (ptr b1 0)), (3, (ptr b2 0)), (5, (ptr b3 0)), (6, (ptr b4 0)), (8, (.int .i64 (dD (am x.p y.p) (aU x) x.r))), (9, (.int .i64 ((aL (az (aU y))) * (aL y.r))))] [.blk b2 (cR y) 53, .blk b1 (cR x) 53, .blk b3 (cQ (am x.p y.p)) 40, .blk b4 (cQ (aU x)) 40, .blk b5 (cQ (az (aU y))) 40] ac wo := h.sub ⟨rfl, rfl, rfl, rfl, rfl, rfl, trivial⟩
 clear hφ ξ
 refine gz h <| gx hK3 <| gq fun K4 hK4 => gB <| gr fun K5 hK5 => g0 (af rfl) rfl <| g0 (fj rfl rfl) rfl <| g0 (af rfl) rfl <| ge2 rfl rfl (fun hg => (Rd.of_nil (af rfl)).step) rfl <| ge2 rfl rfl (fun hg => (Rd.of_nil (af rfl)).step) rfl <| ge2 rfl rfl (fun hg => (Rd.of_nil (fj (ap rfl hg) (ap rfl hg))).step) rfl <| g0 (np rfl (fun e => (ap rfl (nq e)))) rfl <| g0 (ae rfl) rfl <| gn hK5 ?_; clear h ac wo; intro ac wo h
 refine cO h rfl (fun hc1 => ?_) (fun hc1 => ?_)
 ·
  refine gz h <| gr fun K6 hK6 => g0 (af rfl) rfl <| g0 (ae rfl) rfl <| gn hK6 <| gT ?_; clear h ac wo; intro ac wo h
  have hd : aD x y = (dD (am x.p y.p) (aU x) x.r) := (cT hc1)
  exact ret h rfl (.tmp rfl .nil) rfl (h.retP (by rw [hd] <;> rfl) (by rw [hd]; exact by first | omega | exact es (by omega) (by omega)))
 ·
  refine gz h <| gr fun K7 hK7 => g0 (af rfl) rfl <| g0 (fj rfl rfl) rfl <| g0 (ae rfl) rfl <| gn hK7 ?_; clear h ac wo; intro ac wo h
  refine cO h rfl (fun hc2 => ?_) (fun hc2 => ?_)
  ·
   have hd2 := eq_of_beq hc2
   refine gz h <| gr fun K8 hK8 => g0 (af rfl) rfl <| g0 (ae rfl) rfl <| gn hK8 <| gT ?_; clear h ac wo; intro ac wo h
   have hd : aD x y = ((aL (az (aU y))) * (aL y.r)) := (Eq.trans (cF hc1) (cT hc2))
   exact ret h rfl (.tmp rfl .nil) rfl (h.retP (by rw [hd] <;> rfl) (by rw [hd]; exact by first | omega | exact es (by omega) (by omega)))
  ·
   have hd2 := ne_of_beq_false hc2
   refine dZ ?_
   refine nW ?_
   refine hK4 _ _ ?_
   refine dy fun K9 hK9 => ?_
   have s11 := aA ((bq (am x.p y.p) (am x.p y.p) (k + 15) (by omega) s1 s1) w0)
   have s12 := aA ((bV (an (am x.p y.p) (am x.p y.p)) x.r (k + 12) (by omega) s11 (cz zx (by omega)).2) w0)
   have s13 := aA ((c8 (au (an (am x.p y.p) (am x.p y.p)) x.r) y.r (k + 9) (by omega) s12 (cz zy (by omega)).2) w0)
   replace h := h.emps 1
   refine cv mixed [dw _ [2], dw _ [2], dv _, dv _, dw _ [1], dv _, dv _, dw _ [0], dv _, ⟨.nd (.one 9 fun v => ∃ b, v = ptr b 0), [5]⟩, ⟨.det undef, [5]⟩] [⟨_, []⟩, ⟨_, []⟩, ⟨_, []⟩, ⟨_, []⟩, ⟨_, []⟩, ⟨.emp, [(9, .one 9 fun v => .blk (fx v) (cQ oQ) 40), (10, .one 9 fun v => .blk (fx v) (cQ (am (au (an (am x.p y.p) (am x.p y.p)) x.r) y.r)) 40)]⟩] h rfl (by kernel_rfl) ⟨fun _ _ => cr _ rfl rfl (aX aa40 zz40 rfl rfl rfl (v := (vQ (am x.p y.p))) rfl), fun _ _ => cr _ rfl rfl (aX aa40 zz40 rfl rfl rfl (v := (vQ (am x.p y.p))) rfl), fun _ _ => dW (cP cc101 rfl (bq (am x.p y.p) (am x.p y.p) (k + 15) (by omega) s1 s1)), fun _ _ => aC (fa uu53 rfl zz40 rfl rfl rfl (k' := 4)), fun _ _ => cr _ rfl rfl (aX aa40 zz40 rfl rfl rfl (v := (vQ x.r)) rfl), fun _ _ => dW (cP cc102 rfl (bV (an (am x.p y.p) (am x.p y.p)) x.r (k + 12) (by omega) s11 (cz zx (by omega)).2)), fun _ _ => aC (fa uu53 rfl zz40 rfl rfl rfl (k' := 4)), fun _ _ => cr _ rfl rfl (aX aa40 zz40 rfl rfl rfl (v := (vQ y.r)) rfl), fun _ _ => dW (cP cc100 rfl (c8 (au (an (am x.p y.p) (am x.p y.p)) x.r) y.r (k + 9) (by omega) s12 (cz zy (by omega)).2)), fun _ _ => kR (ψ := fun v => ∃ b, v = ptr b 0) (B := fun v => [.blk (fx v) (cQ oQ) 40]) [.emp] rfl (fun v _ => by simp only [ej, bB] <;> rfl) (fun v hv => by simpa [DF.one, bB] using hv) (jN (kw vv40 rfl)), (fun ξ hφ => by obtain ⟨b6, hb9⟩ := hφ 9 rfl; exact gh [.blk b6 (cQ oQ) 40] [.blk b6 (cQ (am (au (an (am x.p y.p) (am x.p y.p)) x.r) y.r)) 40] (congrArg (fun v => [Asn.blk (fx v) (cQ oQ) 40]) hb9) (congrArg (fun v => [Asn.blk (fx v) (cQ (am (au (an (am x.p y.p) (am x.p y.p)) x.r) y.r)) 40]) hb9) (gH zz40 (Eq.trans rfl (congrArg some hb9)) rfl rfl rfl rfl rfl rfl)), trivial⟩ ?_
   clear h ac wo; intro ξ ac wo hφ h
   replace h : St w0 65 [(2, (ptr b1 0)), (5, (ptr b3 0)), (6, (ptr b4 0)), (8, (.int .i64 (dD (am x.p y.p) (aU x) x.r))), (10, ξ 9)] [.blk b2 (cR y) 53, .blk b1 (cR x) 53, .blk b3 (cQ (am x.p y.p)) 40, .blk b4 (cQ (aU x)) 40, .blk b5 (cQ (az (aU y))) 40, .blk (fx (ξ 9)) (cQ (am (au (an (am x.p y.p) (am x.p y.p)) x.r) y.r)) 40] ac wo := h.sub ⟨rfl, rfl, rfl, rfl, rfl, trivial⟩
   revert h
   obtain ⟨b6, hb9⟩ : ∃ b, ξ 9 = ptr b 0 := hφ 9
   rw [hb9]; intro h
   clear hb9 hφ ξ
   refine hK9 _ _ ?_
   refine dy fun K10 hK10 => ?_
   have s14 := aA ((bD 2 (k + 20) (by omega)  (by omega)) w0)
   have s15 := aA ((bq (am x.p y.p) (aU x) (k + 15) (by omega) s1 (cZ s2 (by omega))) w0)
   have s16 := aA ((bq (ah 2) (an (am x.p y.p) (aU x)) (k + 13) (by omega) (cZ s14 (by omega)) s15) w0)
   have p18 := aA ((iq (am (au (an (am x.p y.p) (am x.p y.p)) x.r) y.r) (an (ah 2) (an (am x.p y.p) (aU x))) x.r (k + 1) (by omega) s13 (cZ s16 (by omega)) (cz zx (by omega)).2) w0)
   refine cv mixed [dv _, dw _ [5], dv _, dw _ [2], dw _ [3], dv _, dv _, dv _, dw _ [1], dv _, dv _, dv _] [⟨_, []⟩, ⟨_, []⟩, ⟨_, []⟩, ⟨_, []⟩, ⟨_, []⟩, ⟨_, []⟩] h rfl (by kernel_rfl) ⟨fun _ _ => om rfl, fun _ _ => cr _ rfl rfl (aX aa40 zz40 rfl rfl rfl (v := (vQ (am (au (an (am x.p y.p) (am x.p y.p)) x.r) y.r))) rfl), fun _ _ => dW (cP cc45 rfl (bD 2 (k + 20) (by omega)  (by omega))), fun _ _ => cr _ rfl rfl (aX aa40 zz40 rfl rfl rfl (v := (vQ (am x.p y.p))) rfl), fun _ _ => cr _ rfl rfl (aX aa40 zz40 rfl rfl rfl (v := (vQ (aU x))) rfl), fun _ _ => dW (cP cc101 rfl (bq (am x.p y.p) (aU x) (k + 15) (by omega) s1 (cZ s2 (by omega)))), fun _ _ => dW (cP cc101 rfl (bq (ah 2) (an (am x.p y.p) (aU x)) (k + 13) (by omega) (cZ s14 (by omega)) s15)), fun _ _ => aC (fa uu53 rfl zz40 rfl rfl rfl (k' := 4)), fun _ _ => cr _ rfl rfl (aX aa40 zz40 rfl rfl rfl (v := (vQ x.r)) rfl), fun _ _ => dW (cP Tryz.call175 rfl (iq (am (au (an (am x.p y.p) (am x.p y.p)) x.r) y.r) (an (ah 2) (an (am x.p y.p) (aU x))) x.r (k + 1) (by omega) s13 (cZ s16 (by omega)) (cz zx (by omega)).2)), fun _ _ => aC (kz rfl rfl (r := ((dD (am x.p y.p) (aU x) x.r) * (dD (am (au (an (am x.p y.p) (am x.p y.p)) x.r) y.r) (an (ah 2) (an (am x.p y.p) (aU x))) x.r))) (by first | (rw [IntKind.wrap_i64]; omega) | exact im (by omega) (by omega))), fun _ _ => aC (ae rfl), trivial⟩ ?_
   clear h ac wo; intro ξ ac wo hφ h
   replace h : St w0 65 [(4, (.int .i64 ((dD (am x.p y.p) (aU x) x.r) * (dD (am (au (an (am x.p y.p) (am x.p y.p)) x.r) y.r) (an (ah 2) (an (am x.p y.p) (aU x))) x.r))))] [.blk b2 (cR y) 53, .blk b1 (cR x) 53, .blk b3 (cQ (am x.p y.p)) 40, .blk b4 (cQ (aU x)) 40, .blk b5 (cQ (az (aU y))) 40, .blk b6 (cQ (am (au (an (am x.p y.p) (am x.p y.p)) x.r) y.r)) 40] ac wo := h.sub ⟨rfl, trivial⟩
   clear hφ ξ
   refine hK10 _ _ ?_
   refine fw ?_
   have hd : aD x y = ((dD (am x.p y.p) (aU x) x.r) * (dD (am (au (an (am x.p y.p) (am x.p y.p)) x.r) y.r) (an (ah 2) (an (am x.p y.p) (aU x))) x.r)) := (Eq.trans (cF hc1) (cF hc2))
   exact ret h rfl (.tmp rfl .nil) rfl (h.retP (by rw [hd] <;> rfl) (by rw [hd]; exact by first | omega | exact es (by omega) (by omega)))
def bN (n : Int) : GR :=
 (⟨(ah n), (⟨(⟨false, 0⟩ : GI), (⟨false, 0⟩ : GI)⟩ : GQ), false⟩ : GR)
theorem lz (n : Int) (k : Nat) (hk : k ≤ 40) (hn : -9223372036854775808 ≤ n ∧ n ≤ 9223372036854775807) (w0 : World) : Calls Tryz.prog 156 #[(.int .i64 n)] w0 (ec w0 (vR (bN n)) (SzR k (bN n))) := by
 refine enter (N := 6) (args := [(.int .i64 n)]) Tryz.func156 rfl rfl ?_; intro ac h
 have c1 := bD n k (by omega)  (by omega)
 have s1 := aA (c1 w0)
 refine dU fun K1 hK1 => ?_
 refine al h (cR (⟨oQ, oQ, false⟩ : GR)) Tryz.zeroValue53 rfl rfl fun b1 => gn hK1 <| gr fun K2 hK2 => g0 (af rfl) rfl <| gl cc45 rfl c1 rfl <| g0 (bC bld53 rfl rfl (v := (vR (⟨(ah n), oQ, false⟩ : GR))) rfl) rfl <| gs 0 (cR (⟨(ah n), oQ, false⟩ : GR)) rfl zz53 rfl rfl rfl rfl rfl rfl rfl <| gn hK2 <| gT ?_; clear h ac; intro ac wo h
 exact ret h rfl (.cell (v := (vR (⟨(ah n), oQ, false⟩ : GR))) rfl (i := 0) rfl aa53 zz53 rfl rfl rfl .nil) rfl (h.retP (by unfold bN; rfl) (by unfold bN; exact ⟨s1, ⟨(cc 0 (by decide) (by omega)), (cc 0 (by decide) (by omega))⟩⟩))
def ar (i : Iv) : Bool :=
 (decide (i.lo = i.hi))
theorem d3 (i : Iv) (w0 : World) : Calls Tryz.prog 83 #[(vV i)] w0 (ec w0 (.bool (ar i)) (True)) := by
 refine enter (N := 8) (args := [(vV i)]) Tryz.func83 rfl rfl ?_; intro ac h
 refine dU fun K1 hK1 => ?_
 refine bx h (cV i) rfl rfl rfl fun b1 => g0 (ae rfl) rfl <| gn hK1 <| gr fun K2 hK2 => g0 (fa uu55 rfl zz53 rfl rfl rfl (k' := 0)) rfl <| g1 0 rfl (aX aa53 zz53 rfl rfl rfl (v := (vR i.lo)) rfl) rfl <| g0 (fa uu55 rfl zz53 rfl rfl rfl (k' := 9)) rfl <| g1 0 rfl (aX aa53 zz53 rfl rfl rfl (v := (vR i.hi)) rfl) rfl <| g0 (fM m0 rfl rfl) rfl <| g0 (ae rfl) rfl <| gn hK2 <| gT ?_; clear h ac; intro ac wo h
 exact ret h rfl (.tmp rfl .nil) rfl (h.retP (by unfold ar; rfl) trivial)
def bj (a : Iv) (b : Iv) : Bool :=
 ((decide ((aD a.hi b.lo) < 0)) || (((aD a.hi b.lo) == 0) && (a.openHi || b.openLo)))
theorem jd (a : Iv) (b : Iv) (k : Nat) (hk : (k + 20) ≤ 40) (za : SzV (k + 20) a) (zb : SzV (k + 20) b) (w0 : World) : Calls Tryz.prog 81 #[(vV a), (vV b)] w0 (ec w0 (.bool (bj a b)) (True)) := by
 refine enter (N := 25) (args := [(vV a), (vV b)]) Tryz.func81 rfl rfl ?_; intro ac h
 have p2 := aA ((cC a.hi b.lo k (by omega) za.2 zb.1) w0)
 refine dU fun K1 hK1 => ?_
 refine bx h (cV a) rfl rfl rfl fun b1 => gb (cV b) rfl rfl rfl fun b2 => g0 (ae rfl) rfl <| gn hK1 <| gr fun K2 hK2 => g0 (fa uu55 rfl zz53 rfl rfl rfl (k' := 9)) rfl <| g1 1 rfl (aX aa53 zz53 rfl rfl rfl (v := (vR a.hi)) rfl) rfl <| g0 (fa uu55 rfl zz53 rfl rfl rfl (k' := 0)) rfl <| g1 0 rfl (aX aa53 zz53 rfl rfl rfl (v := (vR b.lo)) rfl) rfl <| gl Tryz.call115 rfl (cC a.hi b.lo k (by omega) za.2 zb.1) rfl <| g0 (ae rfl) rfl <| gn hK2 <| gr fun K3 hK3 => g0 (af rfl) rfl <| g0 (dY rfl rfl) rfl <| g0 (af rfl) rfl <| ge2 rfl rfl (fun hg => (Rd.of_nil (af rfl)).step) rfl <| ge2 rfl rfl (fun hg => (Rd.of_nil (fj (ap rfl hg) rfl)).step) rfl <| ge2 rfl rfl (fun hg => (Rd.of_nil (af (ap rfl hg))).step) rfl <| ge3 rfl rfl (fun hg => (Rd.of_nil (fa uu55 rfl zz4 rfl rfl rfl (k' := 19))).step) rfl <| ge3 rfl rfl (fun hg => (Rd.of_mem (i := 1) (aX aa4 zz4 (ap rfl hg) rfl rfl (v := (.bool a.openHi)) rfl) rfl).step) rfl <| ge3 rfl rfl (fun hg => (Rd.of_nil (af (ap rfl hg))).step) rfl <| ge4 rfl rfl (fun hg => (Rd.of_nil (fa uu55 rfl zz4 rfl rfl rfl (k' := 18))).step) rfl <| ge4 rfl rfl (fun hg => (Rd.of_mem (i := 0) (aX aa4 zz4 (ap rfl hg) rfl rfl (v := (.bool b.openLo)) rfl) rfl).step) rfl <| ge3 rfl rfl (fun hg => (Rd.of_nil (np (ap rfl hg) (fun e => (ap rfl (andI hg (nq e)))))).step) rfl <| ge2 rfl rfl (fun hg => (Rd.of_nil (ef (ap rfl hg) (fun e => (ap rfl (andI hg e))))).step) rfl <| g0 (np rfl (fun e => (ap rfl (nq e)))) rfl <| g0 (ae rfl) rfl <| gn hK3 <| gT ?_; clear h ac; intro ac wo h
 exact ret h rfl (.tmp rfl .nil) rfl (h.retP (by unfold bj; rfl) trivial)
end Go.Sx
