/- A part of the proof that the law PiecesOverlaps answers true at every input and leaves its arguments as they were. -/
import Derived.Test.YtnkaneggnjallaaGreatDoorProg
import Derived.Test.YtnkaneggnjallaaGreatDoorGdiv
set_option linter.unusedVariables false
set_option linter.unusedSimpArgs false
open Go.Proofs.Tryz renaming isAgg4 → aa4, underlying4 → nn4, isAgg9 → aa9, isAgg38 → aa38, sizeOf38 → zz38, isAgg40 → aa40, sizeOf40 → zz40, runUnderlying38 → uu38, sizeOf9 → zz9, sizeOf4 → zz4, zeroValue38 → vv38, call172 → cc172, call124 → cc124, call192 → cc192, zeroValue40 → vv40, runUnderlying40 → uu40, call164 → cc164, call118 → cc118, call188 → cc188, call159 → cc159, call158 → cc158, call102 → cc102, zeroValue69 → vv69, sizeOf69 → zz69, isAgg69 → aa69, runUnderlying69 → uu69, call100 → cc100, call101 → cc101, runUnderlying53 → uu53, isAgg53 → aa53, sizeOf53 → zz53, call45 → cc45, call58 → cc58, runUnderlying55 → uu55
namespace Go.Sx
open Go Go.RowKit Go.Proofs
set_option maxRecDepth 100000
theorem eqi38 : EqIn Tryz.prog 2 38 vI := eqS (c := cI) (fun _ => rfl) Tryz.underlying38 Tryz.stoodInHeld38 fun d x y w hd => by
 refine Eq.trans (eqF (by decide) (fu aa4 rfl w) (fu aa4 rfl w) (eqB nn4 d (by omega) _ _ w) (eqF (by decide) (fu aa9 rfl w) (fu aa9 rfl w) (eqBs Tryz.underlying9 d (by omega) _ _ w) eqF0)) ?_
 congr 1
 rw [decide_eq_decide]
 cases x; cases y; simp
theorem eqp38 : EqP Tryz.prog 38 vI := EqIn.p (k := 2) rfl (c := fun x => (cI x).toArray) (fun _ => rfl) Tryz.eqGuardType38 eqi38
theorem nN : EqIn Tryz.prog 3 40 vQ := eqS (c := cQ) (fun _ => rfl) Tryz.underlying40 Tryz.stoodInHeld40 fun d x y w hd => by
 refine Eq.trans (eqF (by decide) (d2 aa38 zz38 (v := vI (x.num)) rfl w) (d2 aa38 zz38 (v := vI (y.num)) rfl w) (eqi38 d _ _ w (by omega)) (eqF (by decide) (d2 aa38 zz38 (v := vI (x.den)) rfl w) (d2 aa38 zz38 (v := vI (y.den)) rfl w) (eqi38 d _ _ w (by omega)) eqF0)) ?_
 congr 1
 rw [decide_eq_decide]
 cases x; cases y; simp
theorem eqp40 : EqP Tryz.prog 40 vQ := EqIn.p (k := 3) rfl (c := fun x => (cQ x).toArray) (fun _ => rfl) Tryz.eqGuardType40 nN
theorem eqi53 : EqIn Tryz.prog 4 53 vR := eqS (c := cR) (fun _ => rfl) Tryz.underlying53 Tryz.stoodInHeld53 fun d x y w hd => by
 refine Eq.trans (eqF (by decide) (d2 aa40 zz40 (v := vQ (x.p)) rfl w) (d2 aa40 zz40 (v := vQ (y.p)) rfl w) (nN d _ _ w (by omega)) (eqF (by decide) (d2 aa40 zz40 (v := vQ (x.r)) rfl w) (d2 aa40 zz40 (v := vQ (y.r)) rfl w) (nN d _ _ w (by omega)) (eqF (by decide) (fu aa4 rfl w) (fu aa4 rfl w) (eqB nn4 d (by omega) _ _ w) eqF0))) ?_
 congr 1
 rw [decide_eq_decide]
 cases x; cases y; simp
theorem jz : EqP Tryz.prog 53 vR := EqIn.p (k := 4) rfl (c := fun x => (cR x).toArray) (fun _ => rfl) Tryz.eqGuardType53 eqi53
theorem eqi69 : EqIn Tryz.prog 4 69 vD := eqS (c := cD) (fun _ => rfl) Tryz.underlying69 Tryz.stoodInHeld69 fun d x y w hd => by
 refine Eq.trans (eqF (by decide) (d2 aa40 zz40 (v := vQ (x.c0)) rfl w) (d2 aa40 zz40 (v := vQ (y.c0)) rfl w) (nN d _ _ w (by omega)) (eqF (by decide) (d2 aa40 zz40 (v := vQ (x.c1)) rfl w) (d2 aa40 zz40 (v := vQ (y.c1)) rfl w) (nN d _ _ w (by omega)) (eqF (by decide) (d2 aa40 zz40 (v := vQ (x.c2)) rfl w) (d2 aa40 zz40 (v := vQ (y.c2)) rfl w) (nN d _ _ w (by omega)) eqF0))) ?_
 congr 1
 rw [decide_eq_decide]
 cases x; cases y; simp
theorem o3 : EqP Tryz.prog 69 vD := EqIn.p (k := 4) rfl (c := fun x => (cD x).toArray) (fun _ => rfl) Tryz.eqGuardType69 eqi69
def co (a : GI) : Int :=
 bif (decide (a.mag = 0)) then
  0
 else
  bif a.neg then
   (-1)
  else
   1
theorem dH (a : GI) (w0 : World) : Calls Tryz.prog 124 #[(vI a)] w0 (ec w0 (.int .i64 (co a)) ((-1 ≤ (co a) ∧ (co a) ≤ 1))) := by
 refine enter (N := 10) (args := [(vI a)]) Tryz.func124 rfl rfl ?_; intro ac h
 refine dQ fun K1 hK1 => ?_
 refine bx h (cI a) rfl rfl rfl fun b1 => g0 (ag rfl) rfl <| gn hK1 <| gq fun K2 hK2 => gB <| gr fun K3 hK3 => g0 (bH uu38 rfl zz9 (by decide) rfl rfl (k' := 1)) rfl <| g1 0 rfl (aT aa9 zz9 rfl rfl rfl (v := (.string (bs a.mag))) rfl) rfl <| g0 (ot rfl rfl (m := a.mag) (n := 0)) rfl <| g0 (ag rfl) rfl <| gn hK3 ?_; clear h ac; intro ac wo h
 refine cN h rfl (fun hc1 => ?_) (fun hc1 => ?_)
 ·
  have hd1 := of_decide_eq_true hc1
  refine gz h <| gr fun K4 hK4 => g0 (ag rfl) rfl <| gn hK4 <| gT ?_; clear h ac wo; intro ac wo h
  have hd : co a = 0 := (cT hc1)
  exact ret h rfl (.tmp rfl .nil) rfl (h.retP (by rw [hd] <;> rfl) (by rw [hd]; exact by first | omega | exact d3 (by omega) (by omega)))
 ·
  have hd1 := of_decide_eq_false hc1
  refine gz h <| gr fun K5 hK5 => g0 (bH uu38 rfl zz4 (by decide) rfl rfl (k' := 0)) rfl <| g1 0 rfl (aT aa4 zz4 rfl rfl rfl (v := (.bool a.neg)) rfl) rfl <| g0 (ag rfl) rfl <| gn hK5 ?_; clear h ac wo; intro ac wo h
  refine cN h rfl (fun hc2 => ?_) (fun hc2 => ?_)
  ·
   refine gz h <| gr fun K6 hK6 => g0 (ag rfl) rfl <| gn hK6 <| gT ?_; clear h ac wo; intro ac wo h
   have hd : co a = (-1) := (Eq.trans (cF hc1) (cT hc2))
   exact ret h rfl (.tmp rfl .nil) rfl (h.retP (by rw [hd] <;> rfl) (by rw [hd]; exact by first | omega | exact d3 (by omega) (by omega)))
  ·
   refine gz h <| gS <| gN <| gx hK2 <| gr fun K7 hK7 => g0 (ag rfl) rfl <| gn hK7 <| gT ?_; clear h ac wo; intro ac wo h
   have hd : co a = 1 := (Eq.trans (cF hc1) (cF hc2))
   exact ret h rfl (.tmp rfl .nil) rfl (h.retP (by rw [hd] <;> rfl) (by rw [hd]; exact by first | omega | exact d3 (by omega) (by omega)))
def ah (a : GI) : GI :=
 (aH (!a.neg) a.mag)
theorem dV (a : GI) (k : Nat) (hk : k ≤ 40) (za : SzI k a) (w0 : World) : Calls Tryz.prog 118 #[(vI a)] w0 (ec w0 (vI (ah a)) (SzI k (ah a))) := by
 refine enter (N := 9) (args := [(vI a)]) Tryz.func118 rfl rfl ?_; intro ac h
 have c1 := bQ (!a.neg) a.mag k (by omega) za
 have s1 := aA (c1 w0)
 refine dQ fun K1 hK1 => ?_
 refine bx h (cI a) rfl rfl rfl fun b1 => ga (cI (⟨false, 0⟩ : GI)) vv38 rfl rfl fun b2 => gn hK1 <| gr fun K2 hK2 => g0 (bH uu38 rfl zz4 (by decide) rfl rfl (k' := 0)) rfl <| g1 1 rfl (aT aa4 zz4 rfl rfl rfl (v := (.bool a.neg)) rfl) rfl <| g0 (eM rfl) rfl <| g0 (bH uu38 rfl zz9 (by decide) rfl rfl (k' := 1)) rfl <| g1 1 rfl (aT aa9 zz9 rfl rfl rfl (v := (.string (bs a.mag))) rfl) rfl <| gl cc172 rfl c1 rfl <| gs 0 (cI (aH (!a.neg) a.mag)) rfl zz38 rfl rfl rfl rfl rfl rfl rfl <| gn hK2 <| gT ?_; clear h ac; intro ac wo h
 exact ret h rfl (.cell (v := (vI (aH (!a.neg) a.mag))) rfl (i := 0) rfl aa38 zz38 rfl rfl rfl .nil) rfl (h.retP (by unfold ah; rfl) (by unfold ah; exact s1))
def dI (a : GI) (b : GI) : Int :=
 bif (a.neg != b.neg) then
  (cE (co a) (co b))
 else
  bif a.neg then
   -(bd a.mag b.mag)
  else
   (bd a.mag b.mag)
theorem gD (a : GI) (b : GI) (k : Nat) (hk : k ≤ 40) (za : SzI k a) (zb : SzI k b) (w0 : World) : Calls Tryz.prog 163 #[(vI a), (vI b)] w0 (ec w0 (.int .i64 (dI a b)) ((-1 ≤ (dI a b) ∧ (dI a b) ≤ 1))) := by
 refine enter (N := 26) (args := [(vI a), (vI b)]) Tryz.func163 rfl rfl ?_; intro ac h
 refine dQ fun K1 hK1 => ?_
 refine bx h (cI a) rfl rfl rfl fun b1 => gb (cI b) rfl rfl rfl fun b2 => g0 (ag rfl) rfl <| gn hK1 <| gq fun K2 hK2 => gr fun K3 hK3 => g0 (bH uu38 rfl zz4 (by decide) rfl rfl (k' := 0)) rfl <| g1 1 rfl (aT aa4 zz4 rfl rfl rfl (v := (.bool a.neg)) rfl) rfl <| g0 (bH uu38 rfl zz4 (by decide) rfl rfl (k' := 0)) rfl <| g1 0 rfl (aT aa4 zz4 rfl rfl rfl (v := (.bool b.neg)) rfl) rfl <| g0 (mU nn4 rfl rfl) rfl <| gn hK3 ?_; clear h ac; intro ac wo h
 refine cN h rfl (fun hc1 => ?_) (fun hc1 => ?_)
 ·
  refine cH fun K4 hK4 => ?_
  have p2 := aA ((dH a) w0)
  have p4 := aA ((dH b) w0)
  have p6 := aA ((fC (co a) (co b)) w0)
  refine cu mixed [dw _ [1], dv _, dw _ [0], dv _, dv _, dv _] [⟨_, []⟩, ⟨_, []⟩] h rfl (by kernel_rfl) ⟨fun _ _ => cM _ rfl rfl (aT aa38 zz38 rfl rfl rfl (v := (vI a)) rfl), fun _ _ => dU (cx cc124 rfl (dH a)), fun _ _ => cM _ rfl rfl (aT aa38 zz38 rfl rfl rfl (v := (vI b)) rfl), fun _ _ => dU (cx cc124 rfl (dH b)), fun _ _ => dU (cx Tryz.call149 rfl (fC (co a) (co b))), fun _ _ => aw (ag rfl), trivial⟩ ?_
  clear h ac wo; intro ξ ac wo hφ h
  replace h : St w0 26 [(4, (.int .i64 (cE (co a) (co b))))] [.blk b2 (cI b) 38, .blk b1 (cI a) 38] ac wo := h.sub ⟨rfl, trivial⟩
  clear hφ ξ
  refine hK4 _ _ ?_
  refine fh ?_
  have hd : dI a b = (cE (co a) (co b)) := (cT hc1)
  exact ret h rfl (.tmp rfl .nil) rfl (h.retP (by rw [hd] <;> rfl) (by rw [hd]; exact by first | omega | exact d3 (by omega) (by omega)))
 ·
  have p8 := aA ((dL a.mag b.mag) w0)
  refine gz h <| gS <| gx hK2 <| gr fun K5 hK5 => g0 (bH uu38 rfl zz9 (by decide) rfl rfl (k' := 1)) rfl <| g1 1 rfl (aT aa9 zz9 rfl rfl rfl (v := (.string (bs a.mag))) rfl) rfl <| g0 (bH uu38 rfl zz9 (by decide) rfl rfl (k' := 1)) rfl <| g1 0 rfl (aT aa9 zz9 rfl rfl rfl (v := (.string (bs b.mag))) rfl) rfl <| gl Tryz.call191 rfl (dL a.mag b.mag) rfl <| g0 (ag rfl) rfl <| gn hK5 <| gq fun K6 hK6 => gr fun K7 hK7 => g0 (bH uu38 rfl zz4 (by decide) rfl rfl (k' := 0)) rfl <| g1 1 rfl (aT aa4 zz4 rfl rfl rfl (v := (.bool a.neg)) rfl) rfl <| gn hK7 ?_; clear h ac wo; intro ac wo h
  refine cN h rfl (fun hc2 => ?_) (fun hc2 => ?_)
  ·
   refine gz h <| gr fun K8 hK8 => g0 (af rfl) rfl <| g0 (r_neg rfl (r := -(bd a.mag b.mag)) (by rw [IntKind.wrap_i64]; omega)) rfl <| g0 (ag rfl) rfl <| gn hK8 <| gT ?_; clear h ac wo; intro ac wo h
   have hd : dI a b = -(bd a.mag b.mag) := (Eq.trans (cF hc1) (cT hc2))
   exact ret h rfl (.tmp rfl .nil) rfl (h.retP (by rw [hd] <;> rfl) (by rw [hd]; exact by first | omega | exact d3 (by omega) (by omega)))
  ·
   refine gz h <| gS <| gx hK6 <| gr fun K9 hK9 => g0 (af rfl) rfl <| g0 (ag rfl) rfl <| gn hK9 <| gT ?_; clear h ac wo; intro ac wo h
   have hd : dI a b = (bd a.mag b.mag) := (Eq.trans (cF hc1) (cF hc2))
   exact ret h rfl (.tmp rfl .nil) rfl (h.retP (by rw [hd] <;> rfl) (by rw [hd]; exact by first | omega | exact d3 (by omega) (by omega)))
def dZ (a : GI) (b : GI) : GI :=
 bif (a.neg == b.neg) then
  (aH a.neg (cS a.mag b.mag))
 else
  bif (decide ((bd a.mag b.mag) ≥ 0)) then
   (aH a.neg (bX a.mag b.mag))
  else
   (aH b.neg (bX b.mag a.mag))
theorem iT (a : GI) (b : GI) (k : Nat) (hk : (k + 1) ≤ 40) (za : SzI (k + 1) a) (zb : SzI (k + 1) b) (w0 : World) : Calls Tryz.prog 161 #[(vI a), (vI b)] w0 (ec w0 (vI (dZ a b)) (SzI k (dZ a b))) := by
 refine enter (N := 42) (args := [(vI a), (vI b)]) Tryz.func161 rfl rfl ?_; intro ac h
 refine dQ fun K1 hK1 => ?_
 refine bx h (cI a) rfl rfl rfl fun b1 => gb (cI b) rfl rfl rfl fun b2 => ga (cI (⟨false, 0⟩ : GI)) vv38 rfl rfl fun b3 => gn hK1 <| gq fun K2 hK2 => gB <| gr fun K3 hK3 => g0 (bH uu38 rfl zz4 (by decide) rfl rfl (k' := 0)) rfl <| g1 2 rfl (aT aa4 zz4 rfl rfl rfl (v := (.bool a.neg)) rfl) rfl <| g0 (bH uu38 rfl zz4 (by decide) rfl rfl (k' := 0)) rfl <| g1 1 rfl (aT aa4 zz4 rfl rfl rfl (v := (.bool b.neg)) rfl) rfl <| g0 (r_eqlB nn4 rfl rfl) rfl <| g0 (ag rfl) rfl <| gn hK3 ?_; clear h ac; intro ac wo h
 refine cN h rfl (fun hc1 => ?_) (fun hc1 => ?_)
 ·
  have hd1 := eq_of_beq hc1
  refine cH fun K4 hK4 => ?_
  have s1 := aA ((fv a.mag b.mag k (by omega) za zb) w0)
  have s2 := aA ((bQ a.neg (cS a.mag b.mag) k (by omega) s1) w0)
  refine cu mixed [dv _, dw _ [2], dv _, dw _ [2], dv _, dw _ [1], dv _, dv _, dw _ [0]] [⟨.blk b3 (cI (⟨false, 0⟩ : GI)) 38, [(8, .con _)]⟩, ⟨_, []⟩, ⟨_, []⟩] h rfl (by kernel_rfl) ⟨fun _ _ => aw (bH uu38 rfl zz4 (by decide) rfl rfl (k' := 0)), fun _ _ => cM _ rfl rfl (aT aa4 zz4 rfl rfl rfl (v := (.bool a.neg)) rfl), fun _ _ => aw (bH uu38 rfl zz9 (by decide) rfl rfl (k' := 1)), fun _ _ => cM _ rfl rfl (aT aa9 zz9 rfl rfl rfl (v := (.string (bs a.mag))) rfl), fun _ _ => aw (bH uu38 rfl zz9 (by decide) rfl rfl (k' := 1)), fun _ _ => cM _ rfl rfl (aT aa9 zz9 rfl rfl rfl (v := (.string (bs b.mag))) rfl), fun _ _ => dU (cx Tryz.call190 rfl (fv a.mag b.mag k (by omega) za zb)), fun _ _ => dU (cx cc172 rfl (bQ a.neg (cS a.mag b.mag) k (by omega) s1)), fun _ _ => g5 _ [.blk b3 (cI (aH a.neg (cS a.mag b.mag))) 38] rfl rfl (iN zz38 rfl rfl rfl rfl rfl rfl rfl), trivial⟩ ?_
  clear h ac wo; intro ξ ac wo hφ h
  replace h : St w0 42 [(4, (ptr b3 0))] [.blk b3 (cI (aH a.neg (cS a.mag b.mag))) 38, .blk b2 (cI b) 38, .blk b1 (cI a) 38] ac wo := h.sub ⟨rfl, trivial⟩
  clear hφ ξ
  refine hK4 _ _ ?_
  refine fh ?_
  have hd : dZ a b = (aH a.neg (cS a.mag b.mag)) := (cT hc1)
  exact ret h rfl (.cell (v := (vI (aH a.neg (cS a.mag b.mag)))) rfl (i := 0) rfl aa38 zz38 rfl rfl rfl .nil) rfl (h.retP (by rw [hd] <;> rfl) (by rw [hd]; exact s2))
 ·
  have hd1 := ne_of_beq_false hc1
  have p4 := aA ((dL a.mag b.mag) w0)
  refine gz h <| gr fun K5 hK5 => g0 (bH uu38 rfl zz9 (by decide) rfl rfl (k' := 1)) rfl <| g1 2 rfl (aT aa9 zz9 rfl rfl rfl (v := (.string (bs a.mag))) rfl) rfl <| g0 (bH uu38 rfl zz9 (by decide) rfl rfl (k' := 1)) rfl <| g1 1 rfl (aT aa9 zz9 rfl rfl rfl (v := (.string (bs b.mag))) rfl) rfl <| gl Tryz.call191 rfl (dL a.mag b.mag) rfl <| g0 (my rfl rfl) rfl <| g0 (ag rfl) rfl <| gn hK5 ?_; clear h ac wo; intro ac wo h
  refine cN h rfl (fun hc2 => ?_) (fun hc2 => ?_)
  ·
   have hd2 := of_decide_eq_true hc2
   refine cH fun K6 hK6 => ?_
   have s5 := aA ((ey a.mag b.mag (k + 1) (by omega) za zb (by first | exact np ‹_› | exact nm ‹_›)) w0)
   have s6 := aA ((bQ a.neg (bX a.mag b.mag) (k + 1) (by omega) s5) w0)
   refine cu mixed [dv _, dw _ [2], dv _, dw _ [2], dv _, dw _ [1], dv _, dv _, dw _ [0]] [⟨.blk b3 (cI (⟨false, 0⟩ : GI)) 38, [(8, .con _)]⟩, ⟨_, []⟩, ⟨_, []⟩] h rfl (by kernel_rfl) ⟨fun _ _ => aw (bH uu38 rfl zz4 (by decide) rfl rfl (k' := 0)), fun _ _ => cM _ rfl rfl (aT aa4 zz4 rfl rfl rfl (v := (.bool a.neg)) rfl), fun _ _ => aw (bH uu38 rfl zz9 (by decide) rfl rfl (k' := 1)), fun _ _ => cM _ rfl rfl (aT aa9 zz9 rfl rfl rfl (v := (.string (bs a.mag))) rfl), fun _ _ => aw (bH uu38 rfl zz9 (by decide) rfl rfl (k' := 1)), fun _ _ => cM _ rfl rfl (aT aa9 zz9 rfl rfl rfl (v := (.string (bs b.mag))) rfl), fun _ _ => dU (cx cc192 rfl (ey a.mag b.mag (k + 1) (by omega) za zb (by first | exact np ‹_› | exact nm ‹_›))), fun _ _ => dU (cx cc172 rfl (bQ a.neg (bX a.mag b.mag) (k + 1) (by omega) s5)), fun _ _ => g5 _ [.blk b3 (cI (aH a.neg (bX a.mag b.mag))) 38] rfl rfl (iN zz38 rfl rfl rfl rfl rfl rfl rfl), trivial⟩ ?_
   clear h ac wo; intro ξ ac wo hφ h
   replace h : St w0 42 [(4, (ptr b3 0))] [.blk b3 (cI (aH a.neg (bX a.mag b.mag))) 38, .blk b2 (cI b) 38, .blk b1 (cI a) 38] ac wo := h.sub ⟨rfl, trivial⟩
   clear hφ ξ
   refine hK6 _ _ ?_
   refine fh ?_
   have hd : dZ a b = (aH a.neg (bX a.mag b.mag)) := (Eq.trans (cF hc1) (cT hc2))
   exact ret h rfl (.cell (v := (vI (aH a.neg (bX a.mag b.mag)))) rfl (i := 0) rfl aa38 zz38 rfl rfl rfl .nil) rfl (h.retP (by rw [hd] <;> rfl) (by rw [hd]; exact (iU s6 (by omega))))
  ·
   have hd2 := of_decide_eq_false hc2
   refine dM ?_
   refine ml ?_
   refine hK2 _ _ ?_
   refine cH fun K7 hK7 => ?_
   have s7 := aA ((ey b.mag a.mag (k + 1) (by omega) zb za (by first | exact np ‹_› | exact nm ‹_›)) w0)
   have s8 := aA ((bQ b.neg (bX b.mag a.mag) (k + 1) (by omega) s7) w0)
   refine cu mixed [dv _, dw _ [1], dv _, dw _ [1], dv _, dw _ [2], dv _, dv _, dw _ [0]] [⟨.blk b3 (cI (⟨false, 0⟩ : GI)) 38, [(8, .con _)]⟩, ⟨_, []⟩, ⟨_, []⟩] h rfl (by kernel_rfl) ⟨fun _ _ => aw (bH uu38 rfl zz4 (by decide) rfl rfl (k' := 0)), fun _ _ => cM _ rfl rfl (aT aa4 zz4 rfl rfl rfl (v := (.bool b.neg)) rfl), fun _ _ => aw (bH uu38 rfl zz9 (by decide) rfl rfl (k' := 1)), fun _ _ => cM _ rfl rfl (aT aa9 zz9 rfl rfl rfl (v := (.string (bs b.mag))) rfl), fun _ _ => aw (bH uu38 rfl zz9 (by decide) rfl rfl (k' := 1)), fun _ _ => cM _ rfl rfl (aT aa9 zz9 rfl rfl rfl (v := (.string (bs a.mag))) rfl), fun _ _ => dU (cx cc192 rfl (ey b.mag a.mag (k + 1) (by omega) zb za (by first | exact np ‹_› | exact nm ‹_›))), fun _ _ => dU (cx cc172 rfl (bQ b.neg (bX b.mag a.mag) (k + 1) (by omega) s7)), fun _ _ => g5 _ [.blk b3 (cI (aH b.neg (bX b.mag a.mag))) 38] rfl rfl (iN zz38 rfl rfl rfl rfl rfl rfl rfl), trivial⟩ ?_
   clear h ac wo; intro ξ ac wo hφ h
   replace h : St w0 42 [(4, (ptr b3 0))] [.blk b3 (cI (aH b.neg (bX b.mag a.mag))) 38, .blk b2 (cI b) 38, .blk b1 (cI a) 38] ac wo := h.sub ⟨rfl, trivial⟩
   clear hφ ξ
   refine hK7 _ _ ?_
   refine fh ?_
   have hd : dZ a b = (aH b.neg (bX b.mag a.mag)) := (Eq.trans (cF hc1) (cF hc2))
   exact ret h rfl (.cell (v := (vI (aH b.neg (bX b.mag a.mag)))) rfl (i := 0) rfl aa38 zz38 rfl rfl rfl .nil) rfl (h.retP (by rw [hd] <;> rfl) (by rw [hd]; exact (iU s8 (by omega))))
def bC (a : GI) (b : GI) : GI :=
 (aH (a.neg != b.neg) (d9 a.mag b.mag))
theorem dp (a : GI) (b : GI) (k : Nat) (hk : (k + 1) ≤ 40) (za : SzI (k + 1) a) (zb : SzI (k + 1) b) (w0 : World) : Calls Tryz.prog 158 #[(vI a), (vI b)] w0 (ec w0 (vI (bC a b)) (SzI k (bC a b))) := by
 refine enter (N := 16) (args := [(vI a), (vI b)]) Tryz.func158 rfl rfl ?_; intro ac h
 have s1 := aA ((iP a.mag b.mag k (by omega) za zb) w0)
 have s2 := aA ((bQ (a.neg != b.neg) (d9 a.mag b.mag) k (by omega) s1) w0)
 refine dQ fun K1 hK1 => ?_
 refine bx h (cI a) rfl rfl rfl fun b1 => gb (cI b) rfl rfl rfl fun b2 => ga (cI (⟨false, 0⟩ : GI)) vv38 rfl rfl fun b3 => gn hK1 <| gq fun K2 hK2 => ?_; clear h ac; intro ac wo h
 refine cu mixed [dv _, dw _ [2], dv _, dw _ [1], dv _, dv _, dw _ [2], dv _, dw _ [1], dv _, dv _, dw _ [0]] [⟨.blk b3 (cI (⟨false, 0⟩ : GI)) 38, [(11, .con _)]⟩, ⟨_, []⟩, ⟨_, []⟩] h rfl (by kernel_rfl) ⟨fun _ _ => aw (bH uu38 rfl zz4 (by decide) rfl rfl (k' := 0)), fun _ _ => cM _ rfl rfl (aT aa4 zz4 rfl rfl rfl (v := (.bool a.neg)) rfl), fun _ _ => aw (bH uu38 rfl zz4 (by decide) rfl rfl (k' := 0)), fun _ _ => cM _ rfl rfl (aT aa4 zz4 rfl rfl rfl (v := (.bool b.neg)) rfl), fun _ _ => aw (mU nn4 rfl rfl), fun _ _ => aw (bH uu38 rfl zz9 (by decide) rfl rfl (k' := 1)), fun _ _ => cM _ rfl rfl (aT aa9 zz9 rfl rfl rfl (v := (.string (bs a.mag))) rfl), fun _ _ => aw (bH uu38 rfl zz9 (by decide) rfl rfl (k' := 1)), fun _ _ => cM _ rfl rfl (aT aa9 zz9 rfl rfl rfl (v := (.string (bs b.mag))) rfl), fun _ _ => dU (cx Tryz.call189 rfl (iP a.mag b.mag k (by omega) za zb)), fun _ _ => dU (cx cc172 rfl (bQ (a.neg != b.neg) (d9 a.mag b.mag) k (by omega) s1)), fun _ _ => g5 _ [.blk b3 (cI (aH (a.neg != b.neg) (d9 a.mag b.mag))) 38] rfl rfl (iN zz38 rfl rfl rfl rfl rfl rfl rfl), trivial⟩ ?_
 clear h ac wo; intro ξ ac wo hφ h
 replace h : St w0 16 [(4, (ptr b3 0))] [.blk b3 (cI (aH (a.neg != b.neg) (d9 a.mag b.mag))) 38, .blk b2 (cI b) 38, .blk b1 (cI a) 38] ac wo := h.sub ⟨rfl, trivial⟩
 clear hφ ξ
 refine hK2 _ _ ?_
 refine fh ?_
 exact ret h rfl (.cell (v := (vI (aH (a.neg != b.neg) (d9 a.mag b.mag)))) rfl (i := 0) rfl aa38 zz38 rfl rfl rfl .nil) rfl (h.retP (by unfold bC; rfl) (by unfold bC; exact s2))
def aB (a b : GI) : GI := aH false (Nat.gcd a.mag b.mag)
theorem nb (x y : Nat) : Nat.gcd y (x % y) = Nat.gcd x y := by rw [Nat.gcd_comm x y, Nat.gcd_rec y x, Nat.gcd_comm]
theorem iS (a : GI) (b : GI) (k : Nat) (hk : k ≤ 40) (za : SzI k a) (zb : SzI k b) (w0 : World) : Calls Tryz.prog 165 #[(vI a), (vI b)] w0 (ec w0 (vI (aB a b)) (SzI k (aB a b))) := by
 refine enter (N := 45) (args := [(vI a), (vI b)]) Tryz.func165 rfl rfl ?_; intro ac h
 refine dQ fun K1 hK1 => ?_
 refine bx h (cI a) rfl rfl rfl fun b1 => gb (cI b) rfl rfl rfl fun b2 => ga (cI (⟨false, 0⟩ : GI)) vv38 rfl rfl fun b3 => gn hK1 <| gq fun K2 hK2 => ?_; clear h ac; intro ac wo h
 refine cu mixed [dv _, dw _ [2], dv _, dw _ [1], dv _, dv _] [⟨_, []⟩, ⟨_, []⟩, ⟨_, []⟩] h rfl (by kernel_rfl) ⟨fun _ _ => aw (bH uu38 rfl zz9 (by decide) rfl rfl (k' := 1)), fun _ _ => cM _ rfl rfl (aT aa9 zz9 rfl rfl rfl (v := (.string (bs a.mag))) rfl), fun _ _ => aw (bH uu38 rfl zz9 (by decide) rfl rfl (k' := 1)), fun _ _ => cM _ rfl rfl (aT aa9 zz9 rfl rfl rfl (v := (.string (bs b.mag))) rfl), fun _ _ => aw (ag rfl), fun _ _ => aw (ag rfl), trivial⟩ ?_
 clear h ac wo; intro ξ ac wo hφ h
 replace h : St w0 45 [(4, (ptr b3 0)), (5, (.string (bs a.mag))), (6, (.string (bs b.mag)))] [.blk b3 (cI (⟨false, 0⟩ : GI)) 38, .blk b2 (cI b) 38, .blk b1 (cI a) 38] ac wo := h.sub ⟨rfl, rfl, rfl, trivial⟩
 clear hφ ξ
 refine hK2 _ _ ?_
 refine cH fun K3 hK3 => ?_
 refine eI ?_
 refine wp_loop_ghost (fun n_ a_ w_ => ∃ (x : Nat) (y : Nat), n_ = 1 * y ∧ (Nat.gcd x y = Nat.gcd a.mag b.mag) ∧ (SzB k x) ∧ (SzB k y) ∧ St w0 45 [(4, (ptr b3 0)), (5, (.string (bs x))), (6, (.string (bs y)))] [.blk b3 (cI (⟨false, 0⟩ : GI)) 38, .blk b2 (cI b) 38, .blk b1 (cI a) 38] a_ w_) _ ⟨a.mag, b.mag, rfl, rfl, za, zb, (h.pick [0, 1, 2] (by decide)).sub ⟨rfl, rfl, rfl, trivial⟩⟩ ?_
 clear h ac wo; rintro _ ac wo ⟨x, y, rfl, hg, zx, zy, h⟩
 refine gz h <| gq fun K4 hK4 => gr fun K5 hK5 => g0 (af rfl) rfl <| g0 (mw rfl rfl (m := y) (n := 0)) rfl <| gn hK5 ?_; clear h ac wo; intro ac wo h
 refine cN h rfl (fun hc1 => ?_) (fun hc1 => ?_)
 ·
  have hy : y ≠ 0 := by simpa using hc1
  refine gz h <| gS <| gx hK4 <| gB <| gq fun K6 hK6 => gr fun K7 hK7 => g0 (af rfl) rfl <| g0 (af rfl) rfl <| gl Tryz.call193 rfl (et x y) rfl <| g0 (af rfl) rfl <| g0 (bA rfl rfl) rfl <| g0 (bA rfl rfl) rfl <| g0 (bA rfl rfl) rfl <| g0 (ag rfl) rfl <| g0 (ag rfl) rfl <| g0 (ag rfl) rfl <| gn hK7 <| gr fun K8 hK8 => g0 (af rfl) rfl <| gn hK8 ?_; clear h ac wo; intro ac wo h
  refine cN h rfl (fun hc2 => ?_) (fun hc2 => ?_)
  ·
   obtain ⟨ha6, hb6, hw⟩ := ij hc2
   simp only [hw] at h
   refine cH fun K9 hK9 => ?_
   refine eI ?_
   refine wp_loop_ghost (fun n_ a_ w_ => ∃ (u : Nat) (v : Nat), n_ = 1 * v ∧ (Nat.gcd u v = Nat.gcd a.mag b.mag) ∧ (SzB k u) ∧ (SzB k v) ∧ (u < 18446744073709551616 ∧ v < 18446744073709551616) ∧ St w0 45 [(4, (ptr b3 0)), (7, (.int .u64 ((u : Nat) : Int))), (8, (.int .u64 ((v : Nat) : Int)))] [.blk b3 (cI (⟨false, 0⟩ : GI)) 38, .blk b2 (cI b) 38, .blk b1 (cI a) 38] a_ w_) _ ⟨x, y, rfl, hg, zx, zy, ⟨ha6, hb6⟩, (h.pick [0, 1, 2] (by decide)).sub ⟨rfl, rfl, rfl, trivial⟩⟩ ?_
   clear h ac wo; rintro _ ac wo ⟨u, v, rfl, hgu, zu, zv, hul, h⟩
   refine gz h <| gq fun K10 hK10 => gr fun K11 hK11 => g0 (af rfl) rfl <| g0 (oo rfl rfl) rfl <| gn hK11 ?_; clear h ac wo; intro ac wo h
   refine cN h rfl (fun hc3 => ?_) (fun hc3 => ?_)
   ·
    have hv : v ≠ 0 := by have := hc3; simp at this; omega
    refine dM ?_
    refine hK10 _ _ ?_
    refine eI ?_
    refine cu mixed [dv _, dv _, dv _, dv _, dv _, dv _] [⟨_, []⟩, ⟨_, []⟩, ⟨_, []⟩] h rfl (by kernel_rfl) ⟨fun _ _ => om rfl, fun _ _ => om rfl, fun _ _ => om rfl, fun _ _ => aw (kw rfl rfl (r := ((u % v : Nat) : Int)) (by omega) (by rw [Int.tmod_eq_emod_of_nonneg (by omega)]; rfl)), fun _ _ => aw (ag rfl), fun _ _ => aw (ag rfl), trivial⟩ ?_
    clear h ac wo; intro ξ ac wo hφ h
    replace h : St w0 45 [(4, (ptr b3 0)), (7, (.int .u64 ((v : Nat) : Int))), (8, (.int .u64 ((u % v : Nat) : Int)))] [.blk b3 (cI (⟨false, 0⟩ : GI)) 38, .blk b2 (cI b) 38, .blk b1 (cI a) 38] ac wo := h.sub ⟨rfl, rfl, rfl, trivial⟩
    clear hφ ξ
    refine ml ?_
    exact aD ⟨_, (by have := Nat.mod_lt u (show v > 0 by omega); omega), v, (u % v), rfl, (by rw [nb]; exact hgu), zv, (eQ zu (Nat.mod_le _ _)), ⟨hul.2, by have := Nat.mod_lt u (show v > 0 by omega); omega⟩, (h.pick [0, 1, 2] (by decide)).sub ⟨rfl, rfl, rfl, trivial⟩⟩
   ·
    have hv : v = 0 := by have := hc3; simp at this; omega
    subst hv
    have c1 := bQ false (a6 u) k (by omega) zu
    have s1 := aA (c1 w0)
    refine gz h <| gE <| gx hK9 <| gr fun K12 hK12 => g0 (af rfl) rfl <| gl Tryz.call173 rfl (cr u hul.1) rfl <| gl cc172 rfl c1 rfl <| gs 0 (cI (aH false (a6 u))) rfl zz38 rfl rfl rfl rfl rfl rfl rfl <| gn hK12 <| gT ?_; clear h ac wo; intro ac wo h
    have hd : aB a b = (aH false (a6 u)) := (by rw [Nat.gcd_zero_right] at hgu; unfold aB; rw [← hgu]; rfl)
    exact ret h rfl (.cell (v := (vI (aH false (a6 u)))) rfl (i := 0) rfl aa38 zz38 rfl rfl rfl .nil) rfl (h.retP (by rw [hd] <;> rfl) (by rw [hd]; exact s1))
  ·
   have c2 := iQ x y k (by omega) zx zy (by omega)
   have s2 := aA (c2 w0)
   refine gz h <| gS <| gx hK6 <| gr fun K13 hK13 => g0 (af rfl) rfl <| g0 (af rfl) rfl <| gl Tryz.call194 rfl c2 rfl <| g0 (af rfl) rfl <| g0 (bA rfl rfl) rfl <| g0 (bA rfl rfl) rfl <| g0 (ag rfl) rfl <| g0 (ag rfl) rfl <| gn hK13 <| gR <| g0 (af rfl) rfl <| g0 (af rfl) rfl <| g0 (ag rfl) rfl <| g0 (ag rfl) rfl <| gx (fun _ _ => bn) <| gN ?_; clear h ac wo; intro ac wo h
   exact aD ⟨_, (by have := Nat.mod_lt x (show y > 0 by omega); omega), y, (x % y), rfl, (by rw [nb]; exact hg), zy, (eQ zx (Nat.mod_le _ _)), (h.pick [0, 1, 2] (by decide)).sub ⟨rfl, rfl, rfl, trivial⟩⟩
 ·
  have hy : y = 0 := by simpa using hc1
  subst hy
  have c3 := bQ false x k (by omega) zx
  have s3 := aA (c3 w0)
  refine gz h <| gE <| gx hK3 <| gr fun K14 hK14 => g0 (af rfl) rfl <| gl cc172 rfl c3 rfl <| gs 0 (cI (aH false x)) rfl zz38 rfl rfl rfl rfl rfl rfl rfl <| gn hK14 <| gT ?_; clear h ac wo; intro ac wo h
  have hd : aB a b = (aH false x) := (by rw [Nat.gcd_zero_right] at hg; unfold aB; rw [← hg])
  exact ret h rfl (.cell (v := (vI (aH false x))) rfl (i := 0) rfl aa38 zz38 rfl rfl rfl .nil) rfl (h.retP (by rw [hd] <;> rfl) (by rw [hd]; exact s3))
def cw (a : GI) (b : GI) : GI × GI × Int :=
 bif (decide (b.mag = 0)) then
  ((⟨false, 0⟩ : GI), (⟨false, 0⟩ : GI), 6)
 else
  bif (a.neg && (!(decide (((bc a.mag b.mag).2) = 0)))) then
   ((aH (a.neg != b.neg) (cS ((bc a.mag b.mag).1) 1)), (aH false (bX b.mag ((bc a.mag b.mag).2))), 0)
  else
   ((aH (a.neg != b.neg) ((bc a.mag b.mag).1)), (aH false ((bc a.mag b.mag).2)), 0)
theorem ju (a : GI) (b : GI) (k : Nat) (hk : (k + 1) ≤ 40) (za : SzI (k + 1) a) (zb : SzI (k + 1) b) (w0 : World) : Calls Tryz.prog 212 #[(vI a), (vI b)] w0 (ec w0 (.tuple #[(vI ((cw a b).1)), (vI ((cw a b).2.1)), (.int .i64 ((cw a b).2.2))]) (SzI k ((cw a b).1) ∧ SzI k ((cw a b).2.1))) := by
 refine enter (N := 43) (args := [(vI a), (vI b)]) Tryz.func212 rfl rfl ?_; intro ac h
 refine dQ fun K1 hK1 => ?_
 refine bx h (cI a) rfl rfl rfl fun b1 => gb (cI b) rfl rfl rfl fun b2 => ga (cI (⟨false, 0⟩ : GI)) vv38 rfl rfl fun b3 => ga (cI (⟨false, 0⟩ : GI)) vv38 rfl rfl fun b4 => g0 (ag rfl) rfl <| gn hK1 <| gq fun K2 hK2 => gr fun K3 hK3 => g0 (bH uu38 rfl zz9 (by decide) rfl rfl (k' := 1)) rfl <| g1 2 rfl (aT aa9 zz9 rfl rfl rfl (v := (.string (bs b.mag))) rfl) rfl <| g0 (ot rfl rfl (m := b.mag) (n := 0)) rfl <| gn hK3 ?_; clear h ac; intro ac wo h
 refine cN h rfl (fun hc1 => ?_) (fun hc1 => ?_)
 ·
  have hd1 := of_decide_eq_true hc1
  refine gz h <| gr fun K4 hK4 => g0 (bK nV rfl rfl (v := (vI (⟨false, 0⟩ : GI))) rfl) rfl <| g0 (bK nV rfl rfl (v := (vI (⟨false, 0⟩ : GI))) rfl) rfl <| gs 1 (cI (⟨false, 0⟩ : GI)) rfl zz38 rfl rfl rfl rfl rfl rfl rfl <| gs 0 (cI (⟨false, 0⟩ : GI)) rfl zz38 rfl rfl rfl rfl rfl rfl rfl <| g0 (ag rfl) rfl <| gn hK4 <| gT ?_; clear h ac wo; intro ac wo h
  have hd : cw a b = ((⟨false, 0⟩ : GI), (⟨false, 0⟩ : GI), 6) := (cT hc1)
  exact ret h rfl (.cell (v := (vI (⟨false, 0⟩ : GI))) rfl (i := 1) rfl aa38 zz38 rfl rfl rfl (.cell (v := (vI (⟨false, 0⟩ : GI))) rfl (i := 0) rfl aa38 zz38 rfl rfl rfl (.tmp rfl .nil))) rfl (h.retP (by rw [hd] <;> rfl) (by rw [hd]; exact ⟨(es 0 (by decide) (by omega)), (es 0 (by decide) (by omega))⟩))
 ·
  have hd1 := of_decide_eq_false hc1
  have c1 := iQ a.mag b.mag (k + 1) (by omega) za zb (by omega)
  have s1 := aA (c1 w0)
  refine gz h <| gS <| gx hK2 <| gr fun K5 hK5 => g0 (bH uu38 rfl zz9 (by decide) rfl rfl (k' := 1)) rfl <| g1 3 rfl (aT aa9 zz9 rfl rfl rfl (v := (.string (bs a.mag))) rfl) rfl <| g0 (bH uu38 rfl zz9 (by decide) rfl rfl (k' := 1)) rfl <| g1 2 rfl (aT aa9 zz9 rfl rfl rfl (v := (.string (bs b.mag))) rfl) rfl <| gl Tryz.call194 rfl c1 rfl <| g0 (af rfl) rfl <| g0 (bA rfl rfl) rfl <| g0 (bA rfl rfl) rfl <| g0 (ag rfl) rfl <| g0 (ag rfl) rfl <| gn hK5 <| gq fun K6 hK6 => gr fun K7 hK7 => g0 (bH uu38 rfl zz4 (by decide) rfl rfl (k' := 0)) rfl <| g1 3 rfl (aT aa4 zz4 rfl rfl rfl (v := (.bool a.neg)) rfl) rfl <| g0 (af rfl) rfl <| ge1 rfl rfl (fun hg => (Rd.of_nil (af rfl)).step) rfl <| ge1 rfl rfl (fun hg => (Rd.of_nil (mw (aj rfl hg) rfl (m := ((bc a.mag b.mag).2)) (n := 0))).step) rfl <| g0 (df rfl (fun e => (aj rfl e))) rfl <| gn hK7 ?_; clear h ac wo; intro ac wo h
  refine cN h rfl (fun hc2 => ?_) (fun hc2 => ?_)
  ·
   have s2 := aA ((fv ((bc a.mag b.mag).1) 1 k (by omega) s1.1 (es 1 (by decide) (by omega))) w0)
   have s3 := aA ((ey b.mag ((bc a.mag b.mag).2) (k + 1) (by omega) zb s1.2 (Nat.le_of_lt (Nat.mod_lt _ (by omega)))) w0)
   refine cu mixed [dv _, dv _, dv _, dw _ [2], dv _, dv _, dv _, dv _] [⟨_, []⟩, ⟨_, []⟩, ⟨_, []⟩, ⟨_, []⟩] h rfl (by kernel_rfl) ⟨fun _ _ => om rfl, fun _ _ => dU (cx Tryz.call190 rfl (fv ((bc a.mag b.mag).1) 1 k (by omega) s1.1 (es 1 (by decide) (by omega)))), fun _ _ => aw (bH uu38 rfl zz9 (by decide) rfl rfl (k' := 1)), fun _ _ => cM _ rfl rfl (aT aa9 zz9 rfl rfl rfl (v := (.string (bs b.mag))) rfl), fun _ _ => om rfl, fun _ _ => dU (cx cc192 rfl (ey b.mag ((bc a.mag b.mag).2) (k + 1) (by omega) zb s1.2 (Nat.le_of_lt (Nat.mod_lt _ (by omega))))), fun _ _ => aw (ag rfl), fun _ _ => aw (ag rfl), trivial⟩ ?_
   clear h ac wo; intro ξ ac wo hφ h
   replace h : St w0 43 [(2, (ptr b1 0)), (3, (ptr b2 0)), (4, (ptr b3 0)), (5, (ptr b4 0)), (7, (.string (bs (cS ((bc a.mag b.mag).1) 1)))), (8, (.string (bs (bX b.mag ((bc a.mag b.mag).2)))))] [.blk b4 (cI (⟨false, 0⟩ : GI)) 38, .blk b3 (cI (⟨false, 0⟩ : GI)) 38, .blk b2 (cI b) 38, .blk b1 (cI a) 38] ac wo := h.sub ⟨rfl, rfl, rfl, rfl, rfl, rfl, trivial⟩
   clear hφ ξ
   have c4 := bQ (a.neg != b.neg) (cS ((bc a.mag b.mag).1) 1) k (by omega) s2
   have s4 := aA (c4 w0)
   have c5 := bQ false (bX b.mag ((bc a.mag b.mag).2)) (k + 1) (by omega) s3
   have s5 := aA (c5 w0)
   refine gz h <| gx hK6 <| gr fun K8 hK8 => g0 (bH uu38 rfl zz4 (by decide) rfl rfl (k' := 0)) rfl <| g1 3 rfl (aT aa4 zz4 rfl rfl rfl (v := (.bool a.neg)) rfl) rfl <| g0 (bH uu38 rfl zz4 (by decide) rfl rfl (k' := 0)) rfl <| g1 2 rfl (aT aa4 zz4 rfl rfl rfl (v := (.bool b.neg)) rfl) rfl <| g0 (mU nn4 rfl rfl) rfl <| g0 (af rfl) rfl <| gl cc172 rfl c4 rfl <| g0 (af rfl) rfl <| gl cc172 rfl c5 rfl <| gs 1 (cI (aH (a.neg != b.neg) (cS ((bc a.mag b.mag).1) 1))) rfl zz38 rfl rfl rfl rfl rfl rfl rfl <| gs 0 (cI (aH false (bX b.mag ((bc a.mag b.mag).2)))) rfl zz38 rfl rfl rfl rfl rfl rfl rfl <| g0 (ag rfl) rfl <| gn hK8 <| gT ?_; clear h ac wo; intro ac wo h
   have hd : cw a b = ((aH (a.neg != b.neg) (cS ((bc a.mag b.mag).1) 1)), (aH false (bX b.mag ((bc a.mag b.mag).2))), 0) := (Eq.trans (cF hc1) (cT hc2))
   exact ret h rfl (.cell (v := (vI (aH (a.neg != b.neg) (cS ((bc a.mag b.mag).1) 1)))) rfl (i := 1) rfl aa38 zz38 rfl rfl rfl (.cell (v := (vI (aH false (bX b.mag ((bc a.mag b.mag).2))))) rfl (i := 0) rfl aa38 zz38 rfl rfl rfl (.tmp rfl .nil))) rfl (h.retP (by rw [hd] <;> rfl) (by rw [hd]; exact ⟨s4, (iU s5 (by omega))⟩))
  ·
   have c6 := bQ (a.neg != b.neg) ((bc a.mag b.mag).1) (k + 1) (by omega) s1.1
   have s6 := aA (c6 w0)
   have c7 := bQ false ((bc a.mag b.mag).2) (k + 1) (by omega) s1.2
   have s7 := aA (c7 w0)
   refine gz h <| gS <| gx hK6 <| gr fun K9 hK9 => g0 (bH uu38 rfl zz4 (by decide) rfl rfl (k' := 0)) rfl <| g1 3 rfl (aT aa4 zz4 rfl rfl rfl (v := (.bool a.neg)) rfl) rfl <| g0 (bH uu38 rfl zz4 (by decide) rfl rfl (k' := 0)) rfl <| g1 2 rfl (aT aa4 zz4 rfl rfl rfl (v := (.bool b.neg)) rfl) rfl <| g0 (mU nn4 rfl rfl) rfl <| g0 (af rfl) rfl <| gl cc172 rfl c6 rfl <| g0 (af rfl) rfl <| gl cc172 rfl c7 rfl <| gs 1 (cI (aH (a.neg != b.neg) ((bc a.mag b.mag).1))) rfl zz38 rfl rfl rfl rfl rfl rfl rfl <| gs 0 (cI (aH false ((bc a.mag b.mag).2))) rfl zz38 rfl rfl rfl rfl rfl rfl rfl <| g0 (ag rfl) rfl <| gn hK9 <| gT ?_; clear h ac wo; intro ac wo h
   have hd : cw a b = ((aH (a.neg != b.neg) ((bc a.mag b.mag).1)), (aH false ((bc a.mag b.mag).2)), 0) := (Eq.trans (cF hc1) (cF hc2))
   exact ret h rfl (.cell (v := (vI (aH (a.neg != b.neg) ((bc a.mag b.mag).1)))) rfl (i := 1) rfl aa38 zz38 rfl rfl rfl (.cell (v := (vI (aH false ((bc a.mag b.mag).2)))) rfl (i := 0) rfl aa38 zz38 rfl rfl rfl (.tmp rfl .nil))) rfl (h.retP (by rw [hd] <;> rfl) (by rw [hd]; exact ⟨(iU s6 (by omega)), (iU s7 (by omega))⟩))
def dB  : GI :=
 (cv 1)
theorem eE (k : Nat) (hk : k ≤ 40) (w0 : World) : Calls Tryz.prog 164 #[] w0 (ec w0 (vI dB) (SzI k dB)) := by
 refine enter (N := 2) (args := []) Tryz.func164 rfl rfl ?_; intro ac h
 have c1 := gC 1 k (by omega)  (by omega)
 have s1 := aA (c1 w0)
 refine dQ fun K1 hK1 => ?_
 refine al h (cI (⟨false, 0⟩ : GI)) vv38 rfl rfl fun b1 => gn hK1 <| gr fun K2 hK2 => gl Tryz.call113 rfl c1 rfl <| gs 0 (cI (cv 1)) rfl zz38 rfl rfl rfl rfl rfl rfl rfl <| gn hK2 <| gT ?_; clear h ac; intro ac wo h
 exact ret h rfl (.cell (v := (vI (cv 1))) rfl (i := 0) rfl aa38 zz38 rfl rfl rfl .nil) rfl (h.retP (by unfold dB; rfl) (by unfold dB; exact s1))
def aq (n : Int) : GQ :=
 (⟨(cv n), (⟨false, 0⟩ : GI)⟩ : GQ)
theorem cm (n : Int) (k : Nat) (hk : k ≤ 40) (hn : -9223372036854775808 ≤ n ∧ n ≤ 9223372036854775807) (w0 : World) : Calls Tryz.prog 45 #[(.int .i64 n)] w0 (ec w0 (vQ (aq n)) (SzQ k (aq n))) := by
 refine enter (N := 6) (args := [(.int .i64 n)]) Tryz.func45 rfl rfl ?_; intro ac h
 have c1 := gC n k (by omega)  (by omega)
 have s1 := aA (c1 w0)
 refine dQ fun K1 hK1 => ?_
 refine al h (cQ oQ) vv40 rfl rfl fun b1 => gn hK1 <| gr fun K2 hK2 => g0 (af rfl) rfl <| gl Tryz.call113 rfl c1 rfl <| g0 (bK lJ rfl rfl (v := (vQ (⟨(cv n), (⟨false, 0⟩ : GI)⟩ : GQ))) rfl) rfl <| gs 0 (cQ (⟨(cv n), (⟨false, 0⟩ : GI)⟩ : GQ)) rfl zz40 rfl rfl rfl rfl rfl rfl rfl <| gn hK2 <| gT ?_; clear h ac; intro ac wo h
 exact ret h rfl (.cell (v := (vQ (⟨(cv n), (⟨false, 0⟩ : GI)⟩ : GQ))) rfl (i := 0) rfl aa40 zz40 rfl rfl rfl .nil) rfl (h.retP (by unfold aq; rfl) (by unfold aq; exact ⟨s1, (es 0 (by decide) (by omega))⟩))
def aN (a : GQ) : GI :=
 bif (decide (a.den = (⟨false, 0⟩ : GI))) then
  dB
 else
  a.den
theorem cj (a : GQ) (k : Nat) (hk : k ≤ 40) (za : SzQ k a) (w0 : World) : Calls Tryz.prog 159 #[(vQ a)] w0 (ec w0 (vI (aN a)) (SzI k (aN a))) := by
 refine enter (N := 10) (args := [(vQ a)]) Tryz.func159 rfl rfl ?_; intro ac h
 refine dQ fun K1 hK1 => ?_
 refine bx h (cQ a) rfl rfl rfl fun b1 => ga (cI (⟨false, 0⟩ : GI)) vv38 rfl rfl fun b2 => gn hK1 <| gq fun K2 hK2 => gr fun K3 hK3 => g0 (bH uu40 rfl zz38 (by decide) rfl rfl (k' := 2)) rfl <| g1 1 rfl (aT aa38 zz38 rfl rfl rfl (v := (vI a.den)) rfl) rfl <| g0 (bK nV rfl rfl (v := (vI (⟨false, 0⟩ : GI))) rfl) rfl <| g0 (eF eqp38 rfl rfl) rfl <| gn hK3 ?_; clear h ac; intro ac wo h
 refine cN h rfl (fun hc1 => ?_) (fun hc1 => ?_)
 ·
  have hd1 := of_decide_eq_true hc1
  have c1 := eE  k (by omega) 
  have s1 := aA (c1 w0)
  refine gz h <| gr fun K4 hK4 => gl cc164 rfl c1 rfl <| gs 0 (cI dB) rfl zz38 rfl rfl rfl rfl rfl rfl rfl <| gn hK4 <| gT ?_; clear h ac wo; intro ac wo h
  have hd : aN a = dB := (cT hc1)
  exact ret h rfl (.cell (v := (vI dB)) rfl (i := 0) rfl aa38 zz38 rfl rfl rfl .nil) rfl (h.retP (by rw [hd] <;> rfl) (by rw [hd]; exact s1))
 ·
  have hd1 := of_decide_eq_false hc1
  refine gz h <| gS <| gx hK2 <| gr fun K5 hK5 => g0 (bH uu40 rfl zz38 (by decide) rfl rfl (k' := 2)) rfl <| g1 1 rfl (aT aa38 zz38 rfl rfl rfl (v := (vI a.den)) rfl) rfl <| gs 0 (cI a.den) rfl zz38 rfl rfl rfl rfl rfl rfl rfl <| gn hK5 <| gT ?_; clear h ac wo; intro ac wo h
  have hd : aN a = a.den := (cF hc1)
  exact ret h rfl (.cell (v := (vI a.den)) rfl (i := 0) rfl aa38 zz38 rfl rfl rfl .nil) rfl (h.retP (by rw [hd] <;> rfl) (by rw [hd]; exact za.2))
def au (a : GI) (b : GI) : GI :=
 (cw a b).1
theorem cJ (a : GI) (b : GI) (k : Nat) (hk : (k + 1) ≤ 40) (za : SzI (k + 1) a) (zb : SzI (k + 1) b) (w0 : World) : Calls Tryz.prog 188 #[(vI a), (vI b)] w0 (ec w0 (vI (au a b)) (SzI k (au a b))) := by
 refine enter (N := 16) (args := [(vI a), (vI b)]) Tryz.func188 rfl rfl ?_; intro ac h
 have c1 := ju a b k (by omega) za zb
 have s1 := aA (c1 w0)
 refine dQ fun K1 hK1 => ?_
 refine bx h (cI a) rfl rfl rfl fun b1 => gb (cI b) rfl rfl rfl fun b2 => ga (cI (⟨false, 0⟩ : GI)) vv38 rfl rfl fun b3 => gn hK1 <| gr fun K2 hK2 => g1 2 rfl (aT aa38 zz38 rfl rfl rfl (v := (vI a)) rfl) rfl <| g1 1 rfl (aT aa38 zz38 rfl rfl rfl (v := (vI b)) rfl) rfl <| gl Tryz.call212 rfl c1 rfl <| g0 (af rfl) rfl <| g0 (bA rfl rfl) rfl <| g0 (bA rfl rfl) rfl <| g0 (bA rfl rfl) rfl <| ga (cI (⟨false, 0⟩ : GI)) vv38 rfl rfl fun b4 => ga (cI (⟨false, 0⟩ : GI)) vv38 rfl rfl fun b5 => gs 1 (cI ((cw a b).1)) rfl zz38 rfl rfl rfl rfl rfl rfl rfl <| gs 0 (cI ((cw a b).2.1)) rfl zz38 rfl rfl rfl rfl rfl rfl rfl <| g0 (ag rfl) rfl <| gn hK2 <| gr fun K3 hK3 => g1 1 rfl (aT aa38 zz38 rfl rfl rfl (v := (vI ((cw a b).1))) rfl) rfl <| gs 2 (cI ((cw a b).1)) rfl zz38 rfl rfl rfl rfl rfl rfl rfl <| gn hK3 <| gT ?_; clear h ac; intro ac wo h
 exact ret h rfl (.cell (v := (vI ((cw a b).1))) rfl (i := 2) rfl aa38 zz38 rfl rfl rfl .nil) rfl (h.retP (by unfold au; rfl) (by unfold au; exact s1.1))
def bN (num : GI) (den : GI) : GQ :=
 bif (decide ((co den) < 0)) then
  bif (decide ((au (ah den) (aB (ah num) (ah den))) = dB)) then
   (⟨(au (ah num) (aB (ah num) (ah den))), (⟨false, 0⟩ : GI)⟩ : GQ)
  else
   (⟨(au (ah num) (aB (ah num) (ah den))), (au (ah den) (aB (ah num) (ah den)))⟩ : GQ)
 else
  bif (decide ((au den (aB num den)) = dB)) then
   (⟨(au num (aB num den)), (⟨false, 0⟩ : GI)⟩ : GQ)
  else
   (⟨(au num (aB num den)), (au den (aB num den))⟩ : GQ)
theorem d6 (num : GI) (den : GI) (k : Nat) (hk : (k + 1) ≤ 40) (znum : SzI (k + 1) num) (zden : SzI (k + 1) den) (w0 : World) : Calls Tryz.prog 157 #[(vI num), (vI den)] w0 (ec w0 (vQ (bN num den)) (SzQ k (bN num den))) := by
 refine enter (N := 29) (args := [(vI num), (vI den)]) Tryz.func157 rfl rfl ?_; intro ac h
 have p2 := aA ((dH den) w0)
 refine dQ fun K1 hK1 => ?_
 refine bx h (cI num) rfl rfl rfl fun b1 => gb (cI den) rfl rfl rfl fun b2 => ga (cQ oQ) vv40 rfl rfl fun b3 => gn hK1 <| gq fun K2 hK2 => gr fun K3 hK3 => g1 1 rfl (aT aa38 zz38 rfl rfl rfl (v := (vI den)) rfl) rfl <| gl cc124 rfl (dH den) rfl <| g0 (dx rfl rfl) rfl <| gn hK3 ?_; clear h ac; intro ac wo h
 refine cN h rfl (fun hc1 => ?_) (fun hc1 => ?_)
 ·
  have hd1 := of_decide_eq_true hc1
  have s3 := aA ((dV num (k + 1) (by omega) znum) w0)
  have s4 := aA ((dV den (k + 1) (by omega) zden) w0)
  refine cu mixed [dw _ [2], dv _, dw _ [1], dv _, dw _ [2], dw _ [1]] [⟨_, []⟩, ⟨.blk b2 (cI den) 38, [(5, .con _)]⟩, ⟨.blk b1 (cI num) 38, [(4, .con _)]⟩] h rfl (by kernel_rfl) ⟨fun _ _ => cM _ rfl rfl (aT aa38 zz38 rfl rfl rfl (v := (vI num)) rfl), fun _ _ => dU (cx cc118 rfl (dV num (k + 1) (by omega) znum)), fun _ _ => cM _ rfl rfl (aT aa38 zz38 rfl rfl rfl (v := (vI den)) rfl), fun _ _ => dU (cx cc118 rfl (dV den (k + 1) (by omega) zden)), fun _ _ => g5 _ [.blk b1 (cI (ah num)) 38] rfl rfl (iN zz38 rfl rfl rfl rfl rfl rfl rfl), fun _ _ => g5 _ [.blk b2 (cI (ah den)) 38] rfl rfl (iN zz38 rfl rfl rfl rfl rfl rfl rfl), trivial⟩ ?_
  clear h ac wo; intro ξ ac wo hφ h
  replace h : St w0 29 [(2, (ptr b1 0)), (3, (ptr b2 0)), (4, (ptr b3 0))] [.blk b3 (cQ oQ) 40, .blk b2 (cI (ah den)) 38, .blk b1 (cI (ah num)) 38] ac wo := h.sub ⟨rfl, rfl, rfl, trivial⟩
  clear hφ ξ
  have c5 := iS (ah num) (ah den) (k + 1) (by omega) s3 s4
  have s5 := aA (c5 w0)
  have s6 := aA ((cJ (ah num) (aB (ah num) (ah den)) k (by omega) s3 s5) w0)
  have s7 := aA ((cJ (ah den) (aB (ah num) (ah den)) k (by omega) s4 s5) w0)
  refine gz h <| gx hK2 <| gr fun K4 hK4 => g1 2 rfl (aT aa38 zz38 rfl rfl rfl (v := (vI (ah num))) rfl) rfl <| g1 1 rfl (aT aa38 zz38 rfl rfl rfl (v := (vI (ah den))) rfl) rfl <| gl Tryz.call165 rfl c5 rfl <| ga (cI (⟨false, 0⟩ : GI)) vv38 rfl rfl fun b4 => gs 0 (cI (aB (ah num) (ah den))) rfl zz38 rfl rfl rfl rfl rfl rfl rfl <| gn hK4 <| gq fun K5 hK5 => ?_; clear h ac wo; intro ac wo h
  refine cu mixed [dw _ [3], dw _ [0], dv _, dw _ [2], dw _ [0], dv _, dw _ [3], dw _ [2]] [⟨_, []⟩, ⟨_, []⟩, ⟨.blk b2 (cI (ah den)) 38, [(7, .con _)]⟩, ⟨.blk b1 (cI (ah num)) 38, [(6, .con _)]⟩] h rfl (by kernel_rfl) ⟨fun _ _ => cM _ rfl rfl (aT aa38 zz38 rfl rfl rfl (v := (vI (ah num))) rfl), fun _ _ => cM _ rfl rfl (aT aa38 zz38 rfl rfl rfl (v := (vI (aB (ah num) (ah den)))) rfl), fun _ _ => dU (cx cc188 rfl (cJ (ah num) (aB (ah num) (ah den)) k (by omega) s3 s5)), fun _ _ => cM _ rfl rfl (aT aa38 zz38 rfl rfl rfl (v := (vI (ah den))) rfl), fun _ _ => cM _ rfl rfl (aT aa38 zz38 rfl rfl rfl (v := (vI (aB (ah num) (ah den)))) rfl), fun _ _ => dU (cx cc188 rfl (cJ (ah den) (aB (ah num) (ah den)) k (by omega) s4 s5)), fun _ _ => g5 _ [.blk b1 (cI (au (ah num) (aB (ah num) (ah den)))) 38] rfl rfl (iN zz38 rfl rfl rfl rfl rfl rfl rfl), fun _ _ => g5 _ [.blk b2 (cI (au (ah den) (aB (ah num) (ah den)))) 38] rfl rfl (iN zz38 rfl rfl rfl rfl rfl rfl rfl), trivial⟩ ?_
  clear h ac wo; intro ξ ac wo hφ h
  replace h : St w0 29 [(2, (ptr b1 0)), (3, (ptr b2 0)), (4, (ptr b3 0))] [.blk b4 (cI (aB (ah num) (ah den))) 38, .blk b3 (cQ oQ) 40, .blk b2 (cI (au (ah den) (aB (ah num) (ah den)))) 38, .blk b1 (cI (au (ah num) (aB (ah num) (ah den)))) 38] ac wo := h.sub ⟨rfl, rfl, rfl, trivial⟩
  clear hφ ξ
  refine hK5 _ _ ?_
  refine cH fun K6 hK6 => ?_
  refine cH fun K7 hK7 => ?_
  have s8 := aA ((eE  (k + 1) (by omega) ) w0)
  refine cu mixed [dw _ [2], dv _, dv _] [⟨_, []⟩, ⟨_, []⟩, ⟨_, []⟩, ⟨_, []⟩] h rfl (by kernel_rfl) ⟨fun _ _ => cM _ rfl rfl (aT aa38 zz38 rfl rfl rfl (v := (vI (au (ah den) (aB (ah num) (ah den))))) rfl), fun _ _ => dU (cx cc164 rfl (eE  (k + 1) (by omega) )), fun _ _ => aw (eF eqp38 rfl rfl), trivial⟩ ?_
  clear h ac wo; intro ξ ac wo hφ h
  replace h : St w0 29 [(2, (ptr b1 0)), (3, (ptr b2 0)), (4, (ptr b3 0)), (24, (.bool (decide ((au (ah den) (aB (ah num) (ah den))) = dB))))] [.blk b4 (cI (aB (ah num) (ah den))) 38, .blk b3 (cQ oQ) 40, .blk b2 (cI (au (ah den) (aB (ah num) (ah den)))) 38, .blk b1 (cI (au (ah num) (aB (ah num) (ah den)))) 38] ac wo := h.sub ⟨rfl, rfl, rfl, rfl, trivial⟩
  clear hφ ξ
  refine hK7 _ _ ?_
  refine cN h rfl (fun hc2 => ?_) (fun hc2 => ?_)
  ·
   have hd2 := of_decide_eq_true hc2
   refine gz h <| gR <| g0 (bK nV rfl rfl (v := (vI (⟨false, 0⟩ : GI))) rfl) rfl <| gs 2 (cI (⟨false, 0⟩ : GI)) rfl zz38 rfl rfl rfl rfl rfl rfl rfl <| gn hK6 <| gr fun K8 hK8 => g1 3 rfl (aT aa38 zz38 rfl rfl rfl (v := (vI (au (ah num) (aB (ah num) (ah den))))) rfl) rfl <| g1 2 rfl (aT aa38 zz38 rfl rfl rfl (v := (vI (⟨false, 0⟩ : GI))) rfl) rfl <| g0 (bK lJ rfl rfl (v := (vQ (⟨(au (ah num) (aB (ah num) (ah den))), (⟨false, 0⟩ : GI)⟩ : GQ))) rfl) rfl <| gs 1 (cQ (⟨(au (ah num) (aB (ah num) (ah den))), (⟨false, 0⟩ : GI)⟩ : GQ)) rfl zz40 rfl rfl rfl rfl rfl rfl rfl <| gn hK8 <| gT ?_; clear h ac wo; intro ac wo h
   have hd : bN num den = (⟨(au (ah num) (aB (ah num) (ah den))), (⟨false, 0⟩ : GI)⟩ : GQ) := (Eq.trans (cT hc1) (cT hc2))
   exact ret h rfl (.cell (v := (vQ (⟨(au (ah num) (aB (ah num) (ah den))), (⟨false, 0⟩ : GI)⟩ : GQ))) rfl (i := 1) rfl aa40 zz40 rfl rfl rfl .nil) rfl (h.retP (by rw [hd] <;> rfl) (by rw [hd]; exact ⟨s6, (es 0 (by decide) (by omega))⟩))
  ·
   have hd2 := of_decide_eq_false hc2
   refine gz h <| gS <| gx hK6 <| gr fun K9 hK9 => g1 3 rfl (aT aa38 zz38 rfl rfl rfl (v := (vI (au (ah num) (aB (ah num) (ah den))))) rfl) rfl <| g1 2 rfl (aT aa38 zz38 rfl rfl rfl (v := (vI (au (ah den) (aB (ah num) (ah den))))) rfl) rfl <| g0 (bK lJ rfl rfl (v := (vQ (⟨(au (ah num) (aB (ah num) (ah den))), (au (ah den) (aB (ah num) (ah den)))⟩ : GQ))) rfl) rfl <| gs 1 (cQ (⟨(au (ah num) (aB (ah num) (ah den))), (au (ah den) (aB (ah num) (ah den)))⟩ : GQ)) rfl zz40 rfl rfl rfl rfl rfl rfl rfl <| gn hK9 <| gT ?_; clear h ac wo; intro ac wo h
   have hd : bN num den = (⟨(au (ah num) (aB (ah num) (ah den))), (au (ah den) (aB (ah num) (ah den)))⟩ : GQ) := (Eq.trans (cT hc1) (cF hc2))
   exact ret h rfl (.cell (v := (vQ (⟨(au (ah num) (aB (ah num) (ah den))), (au (ah den) (aB (ah num) (ah den)))⟩ : GQ))) rfl (i := 1) rfl aa40 zz40 rfl rfl rfl .nil) rfl (h.retP (by rw [hd] <;> rfl) (by rw [hd]; exact ⟨s6, s7⟩))
 ·
  have hd1 := of_decide_eq_false hc1
  have c9 := iS num den (k + 1) (by omega) znum zden
  have s9 := aA (c9 w0)
  have s10 := aA ((cJ num (aB num den) k (by omega) znum s9) w0)
  have s11 := aA ((cJ den (aB num den) k (by omega) zden s9) w0)
  refine gz h <| gS <| gx hK2 <| gr fun K10 hK10 => g1 2 rfl (aT aa38 zz38 rfl rfl rfl (v := (vI num)) rfl) rfl <| g1 1 rfl (aT aa38 zz38 rfl rfl rfl (v := (vI den)) rfl) rfl <| gl Tryz.call165 rfl c9 rfl <| ga (cI (⟨false, 0⟩ : GI)) vv38 rfl rfl fun b5 => gs 0 (cI (aB num den)) rfl zz38 rfl rfl rfl rfl rfl rfl rfl <| gn hK10 <| gq fun K11 hK11 => ?_; clear h ac wo; intro ac wo h
  refine cu mixed [dw _ [3], dw _ [0], dv _, dw _ [2], dw _ [0], dv _, dw _ [3], dw _ [2]] [⟨_, []⟩, ⟨_, []⟩, ⟨.blk b2 (cI den) 38, [(7, .con _)]⟩, ⟨.blk b1 (cI num) 38, [(6, .con _)]⟩] h rfl (by kernel_rfl) ⟨fun _ _ => cM _ rfl rfl (aT aa38 zz38 rfl rfl rfl (v := (vI num)) rfl), fun _ _ => cM _ rfl rfl (aT aa38 zz38 rfl rfl rfl (v := (vI (aB num den))) rfl), fun _ _ => dU (cx cc188 rfl (cJ num (aB num den) k (by omega) znum s9)), fun _ _ => cM _ rfl rfl (aT aa38 zz38 rfl rfl rfl (v := (vI den)) rfl), fun _ _ => cM _ rfl rfl (aT aa38 zz38 rfl rfl rfl (v := (vI (aB num den))) rfl), fun _ _ => dU (cx cc188 rfl (cJ den (aB num den) k (by omega) zden s9)), fun _ _ => g5 _ [.blk b1 (cI (au num (aB num den))) 38] rfl rfl (iN zz38 rfl rfl rfl rfl rfl rfl rfl), fun _ _ => g5 _ [.blk b2 (cI (au den (aB num den))) 38] rfl rfl (iN zz38 rfl rfl rfl rfl rfl rfl rfl), trivial⟩ ?_
  clear h ac wo; intro ξ ac wo hφ h
  replace h : St w0 29 [(2, (ptr b1 0)), (3, (ptr b2 0)), (4, (ptr b3 0))] [.blk b5 (cI (aB num den)) 38, .blk b3 (cQ oQ) 40, .blk b2 (cI (au den (aB num den))) 38, .blk b1 (cI (au num (aB num den))) 38] ac wo := h.sub ⟨rfl, rfl, rfl, trivial⟩
  clear hφ ξ
  refine hK11 _ _ ?_
  refine cH fun K12 hK12 => ?_
  refine cH fun K13 hK13 => ?_
  have s12 := aA ((eE  (k + 1) (by omega) ) w0)
  refine cu mixed [dw _ [2], dv _, dv _] [⟨_, []⟩, ⟨_, []⟩, ⟨_, []⟩, ⟨_, []⟩] h rfl (by kernel_rfl) ⟨fun _ _ => cM _ rfl rfl (aT aa38 zz38 rfl rfl rfl (v := (vI (au den (aB num den)))) rfl), fun _ _ => dU (cx cc164 rfl (eE  (k + 1) (by omega) )), fun _ _ => aw (eF eqp38 rfl rfl), trivial⟩ ?_
  clear h ac wo; intro ξ ac wo hφ h
  replace h : St w0 29 [(2, (ptr b1 0)), (3, (ptr b2 0)), (4, (ptr b3 0)), (24, (.bool (decide ((au den (aB num den)) = dB))))] [.blk b5 (cI (aB num den)) 38, .blk b3 (cQ oQ) 40, .blk b2 (cI (au den (aB num den))) 38, .blk b1 (cI (au num (aB num den))) 38] ac wo := h.sub ⟨rfl, rfl, rfl, rfl, trivial⟩
  clear hφ ξ
  refine hK13 _ _ ?_
  refine cN h rfl (fun hc3 => ?_) (fun hc3 => ?_)
  ·
   have hd3 := of_decide_eq_true hc3
   refine gz h <| gR <| g0 (bK nV rfl rfl (v := (vI (⟨false, 0⟩ : GI))) rfl) rfl <| gs 2 (cI (⟨false, 0⟩ : GI)) rfl zz38 rfl rfl rfl rfl rfl rfl rfl <| gn hK12 <| gr fun K14 hK14 => g1 3 rfl (aT aa38 zz38 rfl rfl rfl (v := (vI (au num (aB num den)))) rfl) rfl <| g1 2 rfl (aT aa38 zz38 rfl rfl rfl (v := (vI (⟨false, 0⟩ : GI))) rfl) rfl <| g0 (bK lJ rfl rfl (v := (vQ (⟨(au num (aB num den)), (⟨false, 0⟩ : GI)⟩ : GQ))) rfl) rfl <| gs 1 (cQ (⟨(au num (aB num den)), (⟨false, 0⟩ : GI)⟩ : GQ)) rfl zz40 rfl rfl rfl rfl rfl rfl rfl <| gn hK14 <| gT ?_; clear h ac wo; intro ac wo h
   have hd : bN num den = (⟨(au num (aB num den)), (⟨false, 0⟩ : GI)⟩ : GQ) := (Eq.trans (cF hc1) (cT hc3))
   exact ret h rfl (.cell (v := (vQ (⟨(au num (aB num den)), (⟨false, 0⟩ : GI)⟩ : GQ))) rfl (i := 1) rfl aa40 zz40 rfl rfl rfl .nil) rfl (h.retP (by rw [hd] <;> rfl) (by rw [hd]; exact ⟨s10, (es 0 (by decide) (by omega))⟩))
  ·
   have hd3 := of_decide_eq_false hc3
   refine gz h <| gS <| gx hK12 <| gr fun K15 hK15 => g1 3 rfl (aT aa38 zz38 rfl rfl rfl (v := (vI (au num (aB num den)))) rfl) rfl <| g1 2 rfl (aT aa38 zz38 rfl rfl rfl (v := (vI (au den (aB num den)))) rfl) rfl <| g0 (bK lJ rfl rfl (v := (vQ (⟨(au num (aB num den)), (au den (aB num den))⟩ : GQ))) rfl) rfl <| gs 1 (cQ (⟨(au num (aB num den)), (au den (aB num den))⟩ : GQ)) rfl zz40 rfl rfl rfl rfl rfl rfl rfl <| gn hK15 <| gT ?_; clear h ac wo; intro ac wo h
   have hd : bN num den = (⟨(au num (aB num den)), (au den (aB num den))⟩ : GQ) := (Eq.trans (cF hc1) (cF hc3))
   exact ret h rfl (.cell (v := (vQ (⟨(au num (aB num den)), (au den (aB num den))⟩ : GQ))) rfl (i := 1) rfl aa40 zz40 rfl rfl rfl .nil) rfl (h.retP (by rw [hd] <;> rfl) (by rw [hd]; exact ⟨s10, s11⟩))
def aE (a : GQ) (b : GQ) : GI × GI × GI :=
 bif (decide (a.den = b.den)) then
  (a.num, b.num, (aN a))
 else
  ((bC a.num (aN b)), (bC b.num (aN a)), (bC (aN a) (aN b)))
theorem gJ (a : GQ) (b : GQ) (k : Nat) (hk : (k + 1) ≤ 40) (za : SzQ (k + 1) a) (zb : SzQ (k + 1) b) (w0 : World) : Calls Tryz.prog 160 #[(vQ a), (vQ b)] w0 (ec w0 (.tuple #[(vI ((aE a b).1)), (vI ((aE a b).2.1)), (vI ((aE a b).2.2))]) (SzI k ((aE a b).1) ∧ SzI k ((aE a b).2.1) ∧ SzI k ((aE a b).2.2))) := by
 refine enter (N := 33) (args := [(vQ a), (vQ b)]) Tryz.func160 rfl rfl ?_; intro ac h
 refine dQ fun K1 hK1 => ?_
 refine bx h (cQ a) rfl rfl rfl fun b1 => gb (cQ b) rfl rfl rfl fun b2 => ga (cI (⟨false, 0⟩ : GI)) vv38 rfl rfl fun b3 => ga (cI (⟨false, 0⟩ : GI)) vv38 rfl rfl fun b4 => ga (cI (⟨false, 0⟩ : GI)) vv38 rfl rfl fun b5 => gn hK1 <| gq fun K2 hK2 => gr fun K3 hK3 => g0 (bH uu40 rfl zz38 (by decide) rfl rfl (k' := 2)) rfl <| g1 4 rfl (aT aa38 zz38 rfl rfl rfl (v := (vI a.den)) rfl) rfl <| g0 (bH uu40 rfl zz38 (by decide) rfl rfl (k' := 2)) rfl <| g1 3 rfl (aT aa38 zz38 rfl rfl rfl (v := (vI b.den)) rfl) rfl <| g0 (eF eqp38 rfl rfl) rfl <| gn hK3 ?_; clear h ac; intro ac wo h
 refine cN h rfl (fun hc1 => ?_) (fun hc1 => ?_)
 ·
  have hd1 := of_decide_eq_true hc1
  refine cH fun K4 hK4 => ?_
  have s1 := aA ((cj a (k + 1) (by omega) za) w0)
  refine cu mixed [dv _, dw _ [4], dv _, dw _ [3], dw _ [4], dv _, dw _ [2], dw _ [1], dw _ [0]] [⟨.blk b5 (cI (⟨false, 0⟩ : GI)) 38, [(8, .con _)]⟩, ⟨.blk b4 (cI (⟨false, 0⟩ : GI)) 38, [(7, .con _)]⟩, ⟨.blk b3 (cI (⟨false, 0⟩ : GI)) 38, [(6, .con _)]⟩, ⟨_, []⟩, ⟨_, []⟩] h rfl (by kernel_rfl) ⟨fun _ _ => aw (bH uu40 rfl zz38 (by decide) rfl rfl (k' := 0)), fun _ _ => cM _ rfl rfl (aT aa38 zz38 rfl rfl rfl (v := (vI a.num)) rfl), fun _ _ => aw (bH uu40 rfl zz38 (by decide) rfl rfl (k' := 0)), fun _ _ => cM _ rfl rfl (aT aa38 zz38 rfl rfl rfl (v := (vI b.num)) rfl), fun _ _ => cM _ rfl rfl (aT aa40 zz40 rfl rfl rfl (v := (vQ a)) rfl), fun _ _ => dU (cx cc159 rfl (cj a (k + 1) (by omega) za)), fun _ _ => g5 _ [.blk b3 (cI a.num) 38] rfl rfl (iN zz38 rfl rfl rfl rfl rfl rfl rfl), fun _ _ => g5 _ [.blk b4 (cI b.num) 38] rfl rfl (iN zz38 rfl rfl rfl rfl rfl rfl rfl), fun _ _ => g5 _ [.blk b5 (cI (aN a)) 38] rfl rfl (iN zz38 rfl rfl rfl rfl rfl rfl rfl), trivial⟩ ?_
  clear h ac wo; intro ξ ac wo hφ h
  replace h : St w0 33 [(4, (ptr b3 0)), (5, (ptr b4 0)), (6, (ptr b5 0))] [.blk b5 (cI (aN a)) 38, .blk b4 (cI b.num) 38, .blk b3 (cI a.num) 38, .blk b2 (cQ b) 40, .blk b1 (cQ a) 40] ac wo := h.sub ⟨rfl, rfl, rfl, trivial⟩
  clear hφ ξ
  refine hK4 _ _ ?_
  refine fh ?_
  have hd : aE a b = (a.num, b.num, (aN a)) := (cT hc1)
  exact ret h rfl (.cell (v := (vI a.num)) rfl (i := 2) rfl aa38 zz38 rfl rfl rfl (.cell (v := (vI b.num)) rfl (i := 1) rfl aa38 zz38 rfl rfl rfl (.cell (v := (vI (aN a))) rfl (i := 0) rfl aa38 zz38 rfl rfl rfl .nil))) rfl (h.retP (by rw [hd] <;> rfl) (by rw [hd]; exact ⟨(ex za (by omega)).1, (ex zb (by omega)).1, (iU s1 (by omega))⟩))
 ·
  have hd1 := of_decide_eq_false hc1
  refine dM ?_
  refine hK2 _ _ ?_
  refine cH fun K5 hK5 => ?_
  have s2 := aA ((cj b (k + 1) (by omega) zb) w0)
  have s3 := aA ((dp a.num (aN b) k (by omega) za.1 s2) w0)
  have s4 := aA ((cj a (k + 1) (by omega) za) w0)
  have s5 := aA ((dp b.num (aN a) k (by omega) zb.1 s4) w0)
  have s6 := aA ((cj a (k + 1) (by omega) za) w0)
  have s7 := aA ((cj b (k + 1) (by omega) zb) w0)
  have s8 := aA ((dp (aN a) (aN b) k (by omega) s6 s7) w0)
  refine cu mixed [dv _, dw _ [4], dw _ [3], dv _, dv _, dv _, dw _ [3], dw _ [4], dv _, dv _, dw _ [4], dv _, dw _ [3], dv _, dv _, dw _ [2], dw _ [1], dw _ [0]] [⟨.blk b5 (cI (⟨false, 0⟩ : GI)) 38, [(17, .con _)]⟩, ⟨.blk b4 (cI (⟨false, 0⟩ : GI)) 38, [(16, .con _)]⟩, ⟨.blk b3 (cI (⟨false, 0⟩ : GI)) 38, [(15, .con _)]⟩, ⟨_, []⟩, ⟨_, []⟩] h rfl (by kernel_rfl) ⟨fun _ _ => aw (bH uu40 rfl zz38 (by decide) rfl rfl (k' := 0)), fun _ _ => cM _ rfl rfl (aT aa38 zz38 rfl rfl rfl (v := (vI a.num)) rfl), fun _ _ => cM _ rfl rfl (aT aa40 zz40 rfl rfl rfl (v := (vQ b)) rfl), fun _ _ => dU (cx cc159 rfl (cj b (k + 1) (by omega) zb)), fun _ _ => dU (cx cc158 rfl (dp a.num (aN b) k (by omega) za.1 s2)), fun _ _ => aw (bH uu40 rfl zz38 (by decide) rfl rfl (k' := 0)), fun _ _ => cM _ rfl rfl (aT aa38 zz38 rfl rfl rfl (v := (vI b.num)) rfl), fun _ _ => cM _ rfl rfl (aT aa40 zz40 rfl rfl rfl (v := (vQ a)) rfl), fun _ _ => dU (cx cc159 rfl (cj a (k + 1) (by omega) za)), fun _ _ => dU (cx cc158 rfl (dp b.num (aN a) k (by omega) zb.1 s4)), fun _ _ => cM _ rfl rfl (aT aa40 zz40 rfl rfl rfl (v := (vQ a)) rfl), fun _ _ => dU (cx cc159 rfl (cj a (k + 1) (by omega) za)), fun _ _ => cM _ rfl rfl (aT aa40 zz40 rfl rfl rfl (v := (vQ b)) rfl), fun _ _ => dU (cx cc159 rfl (cj b (k + 1) (by omega) zb)), fun _ _ => dU (cx cc158 rfl (dp (aN a) (aN b) k (by omega) s6 s7)), fun _ _ => g5 _ [.blk b3 (cI (bC a.num (aN b))) 38] rfl rfl (iN zz38 rfl rfl rfl rfl rfl rfl rfl), fun _ _ => g5 _ [.blk b4 (cI (bC b.num (aN a))) 38] rfl rfl (iN zz38 rfl rfl rfl rfl rfl rfl rfl), fun _ _ => g5 _ [.blk b5 (cI (bC (aN a) (aN b))) 38] rfl rfl (iN zz38 rfl rfl rfl rfl rfl rfl rfl), trivial⟩ ?_
  clear h ac wo; intro ξ ac wo hφ h
  replace h : St w0 33 [(4, (ptr b3 0)), (5, (ptr b4 0)), (6, (ptr b5 0))] [.blk b5 (cI (bC (aN a) (aN b))) 38, .blk b4 (cI (bC b.num (aN a))) 38, .blk b3 (cI (bC a.num (aN b))) 38, .blk b2 (cQ b) 40, .blk b1 (cQ a) 40] ac wo := h.sub ⟨rfl, rfl, rfl, trivial⟩
  clear hφ ξ
  refine hK5 _ _ ?_
  refine fh ?_
  have hd : aE a b = ((bC a.num (aN b)), (bC b.num (aN a)), (bC (aN a) (aN b))) := (cF hc1)
  exact ret h rfl (.cell (v := (vI (bC a.num (aN b)))) rfl (i := 2) rfl aa38 zz38 rfl rfl rfl (.cell (v := (vI (bC b.num (aN a)))) rfl (i := 1) rfl aa38 zz38 rfl rfl rfl (.cell (v := (vI (bC (aN a) (aN b)))) rfl (i := 0) rfl aa38 zz38 rfl rfl rfl .nil))) rfl (h.retP (by rw [hd] <;> rfl) (by rw [hd]; exact ⟨s3, s5, s8⟩))
def aO (a : GQ) (b : GQ) : GQ :=
 (bN (dZ ((aE a b).1) ((aE a b).2.1)) ((aE a b).2.2))
theorem ck (a : GQ) (b : GQ) (k : Nat) (hk : (k + 3) ≤ 40) (za : SzQ (k + 3) a) (zb : SzQ (k + 3) b) (w0 : World) : Calls Tryz.prog 102 #[(vQ a), (vQ b)] w0 (ec w0 (vQ (aO a b)) (SzQ k (aO a b))) := by
 refine enter (N := 20) (args := [(vQ a), (vQ b)]) Tryz.func102 rfl rfl ?_; intro ac h
 have c1 := gJ a b (k + 2) (by omega) za zb
 have s1 := aA (c1 w0)
 have s2 := aA ((iT ((aE a b).1) ((aE a b).2.1) (k + 1) (by omega) s1.1 s1.2.1) w0)
 have s3 := aA ((d6 (dZ ((aE a b).1) ((aE a b).2.1)) ((aE a b).2.2) k (by omega) s2 (iU s1.2.2 (by omega))) w0)
 refine dQ fun K1 hK1 => ?_
 refine bx h (cQ a) rfl rfl rfl fun b1 => gb (cQ b) rfl rfl rfl fun b2 => ga (cQ oQ) vv40 rfl rfl fun b3 => gn hK1 <| gr fun K2 hK2 => g1 2 rfl (aT aa40 zz40 rfl rfl rfl (v := (vQ a)) rfl) rfl <| g1 1 rfl (aT aa40 zz40 rfl rfl rfl (v := (vQ b)) rfl) rfl <| gl Tryz.call160 rfl c1 rfl <| g0 (af rfl) rfl <| g0 (bA rfl rfl) rfl <| g0 (bA rfl rfl) rfl <| g0 (bA rfl rfl) rfl <| ga (cI (⟨false, 0⟩ : GI)) vv38 rfl rfl fun b4 => ga (cI (⟨false, 0⟩ : GI)) vv38 rfl rfl fun b5 => ga (cI (⟨false, 0⟩ : GI)) vv38 rfl rfl fun b6 => gs 2 (cI ((aE a b).1)) rfl zz38 rfl rfl rfl rfl rfl rfl rfl <| gs 1 (cI ((aE a b).2.1)) rfl zz38 rfl rfl rfl rfl rfl rfl rfl <| gs 0 (cI ((aE a b).2.2)) rfl zz38 rfl rfl rfl rfl rfl rfl rfl <| gn hK2 <| gq fun K3 hK3 => ?_; clear h ac; intro ac wo h
 refine cu mixed [dw _ [2], dw _ [1], dv _, dw _ [0], dv _, dw _ [3]] [⟨_, []⟩, ⟨_, []⟩, ⟨_, []⟩, ⟨.blk b3 (cQ oQ) 40, [(5, .con _)]⟩, ⟨_, []⟩, ⟨_, []⟩] h rfl (by kernel_rfl) ⟨fun _ _ => cM _ rfl rfl (aT aa38 zz38 rfl rfl rfl (v := (vI ((aE a b).1))) rfl), fun _ _ => cM _ rfl rfl (aT aa38 zz38 rfl rfl rfl (v := (vI ((aE a b).2.1))) rfl), fun _ _ => dU (cx Tryz.call161 rfl (iT ((aE a b).1) ((aE a b).2.1) (k + 1) (by omega) s1.1 s1.2.1)), fun _ _ => cM _ rfl rfl (aT aa38 zz38 rfl rfl rfl (v := (vI ((aE a b).2.2))) rfl), fun _ _ => dU (cx Tryz.call157 rfl (d6 (dZ ((aE a b).1) ((aE a b).2.1)) ((aE a b).2.2) k (by omega) s2 (iU s1.2.2 (by omega)))), fun _ _ => g5 _ [.blk b3 (cQ (bN (dZ ((aE a b).1) ((aE a b).2.1)) ((aE a b).2.2))) 40] rfl rfl (iN zz40 rfl rfl rfl rfl rfl rfl rfl), trivial⟩ ?_
 clear h ac wo; intro ξ ac wo hφ h
 replace h : St w0 20 [(4, (ptr b3 0))] [.blk b6 (cI ((aE a b).2.2)) 38, .blk b5 (cI ((aE a b).2.1)) 38, .blk b4 (cI ((aE a b).1)) 38, .blk b3 (cQ (bN (dZ ((aE a b).1) ((aE a b).2.1)) ((aE a b).2.2))) 40, .blk b2 (cQ b) 40, .blk b1 (cQ a) 40] ac wo := h.sub ⟨rfl, trivial⟩
 clear hφ ξ
 refine hK3 _ _ ?_
 refine fh ?_
 exact ret h rfl (.cell (v := (vQ (bN (dZ ((aE a b).1) ((aE a b).2.1)) ((aE a b).2.2)))) rfl (i := 3) rfl aa40 zz40 rfl rfl rfl .nil) rfl (h.retP (by unfold aO; rfl) (by unfold aO; exact s3))
def bE (a : GQ) : GQ :=
 (⟨(ah a.num), a.den⟩ : GQ)
theorem ff (a : GQ) (k : Nat) (hk : k ≤ 40) (za : SzQ k a) (w0 : World) : Calls Tryz.prog 52 #[(vQ a)] w0 (ec w0 (vQ (bE a)) (SzQ k (bE a))) := by
 refine enter (N := 9) (args := [(vQ a)]) Tryz.func52 rfl rfl ?_; intro ac h
 have s1 := aA ((dV a.num k (by omega) za.1) w0)
 refine dQ fun K1 hK1 => ?_
 refine bx h (cQ a) rfl rfl rfl fun b1 => ga (cQ oQ) vv40 rfl rfl fun b2 => gn hK1 <| gq fun K2 hK2 => ?_; clear h ac; intro ac wo h
 refine cu mixed [dv _, dw _ [1], dv _, dv _, dw _ [1], dv _, dw _ [0]] [⟨.blk b2 (cQ oQ) 40, [(6, .con _)]⟩, ⟨_, []⟩] h rfl (by kernel_rfl) ⟨fun _ _ => aw (bH uu40 rfl zz38 (by decide) rfl rfl (k' := 0)), fun _ _ => cM _ rfl rfl (aT aa38 zz38 rfl rfl rfl (v := (vI a.num)) rfl), fun _ _ => dU (cx cc118 rfl (dV a.num k (by omega) za.1)), fun _ _ => aw (bH uu40 rfl zz38 (by decide) rfl rfl (k' := 2)), fun _ _ => cM _ rfl rfl (aT aa38 zz38 rfl rfl rfl (v := (vI a.den)) rfl), fun _ _ => aw (bK lJ rfl rfl (v := (vQ (⟨(ah a.num), a.den⟩ : GQ))) rfl), fun _ _ => g5 _ [.blk b2 (cQ (⟨(ah a.num), a.den⟩ : GQ)) 40] rfl rfl (iN zz40 rfl rfl rfl rfl rfl rfl rfl), trivial⟩ ?_
 clear h ac wo; intro ξ ac wo hφ h
 replace h : St w0 9 [(2, (ptr b2 0))] [.blk b2 (cQ (⟨(ah a.num), a.den⟩ : GQ)) 40, .blk b1 (cQ a) 40] ac wo := h.sub ⟨rfl, trivial⟩
 clear hφ ξ
 refine hK2 _ _ ?_
 refine fh ?_
 exact ret h rfl (.cell (v := (vQ (⟨(ah a.num), a.den⟩ : GQ))) rfl (i := 0) rfl aa40 zz40 rfl rfl rfl .nil) rfl (h.retP (by unfold bE; rfl) (by unfold bE; exact ⟨s1, za.2⟩))
def an (a : GQ) (b : GQ) : GQ :=
 (aO a (bE b))
theorem cC (a : GQ) (b : GQ) (k : Nat) (hk : (k + 3) ≤ 40) (za : SzQ (k + 3) a) (zb : SzQ (k + 3) b) (w0 : World) : Calls Tryz.prog 100 #[(vQ a), (vQ b)] w0 (ec w0 (vQ (an a b)) (SzQ k (an a b))) := by
 refine enter (N := 9) (args := [(vQ a), (vQ b)]) Tryz.func100 rfl rfl ?_; intro ac h
 have s1 := aA ((ff b (k + 3) (by omega) zb) w0)
 have s2 := aA ((ck a (bE b) k (by omega) za s1) w0)
 refine dQ fun K1 hK1 => ?_
 refine bx h (cQ a) rfl rfl rfl fun b1 => gb (cQ b) rfl rfl rfl fun b2 => ga (cQ oQ) vv40 rfl rfl fun b3 => gn hK1 <| gq fun K2 hK2 => ?_; clear h ac; intro ac wo h
 refine cu mixed [dw _ [2], dw _ [1], dv _, dv _, dw _ [0]] [⟨.blk b3 (cQ oQ) 40, [(4, .con _)]⟩, ⟨_, []⟩, ⟨_, []⟩] h rfl (by kernel_rfl) ⟨fun _ _ => cM _ rfl rfl (aT aa40 zz40 rfl rfl rfl (v := (vQ a)) rfl), fun _ _ => cM _ rfl rfl (aT aa40 zz40 rfl rfl rfl (v := (vQ b)) rfl), fun _ _ => dU (cx Tryz.call52 rfl (ff b (k + 3) (by omega) zb)), fun _ _ => dU (cx cc102 rfl (ck a (bE b) k (by omega) za s1)), fun _ _ => g5 _ [.blk b3 (cQ (aO a (bE b))) 40] rfl rfl (iN zz40 rfl rfl rfl rfl rfl rfl rfl), trivial⟩ ?_
 clear h ac wo; intro ξ ac wo hφ h
 replace h : St w0 9 [(4, (ptr b3 0))] [.blk b3 (cQ (aO a (bE b))) 40, .blk b2 (cQ b) 40, .blk b1 (cQ a) 40] ac wo := h.sub ⟨rfl, trivial⟩
 clear hφ ξ
 refine hK2 _ _ ?_
 refine fh ?_
 exact ret h rfl (.cell (v := (vQ (aO a (bE b)))) rfl (i := 0) rfl aa40 zz40 rfl rfl rfl .nil) rfl (h.retP (by unfold an; rfl) (by unfold an; exact s2))
def ar (a : GQ) (b : GQ) : GQ :=
 (bN (bC a.num b.num) (bC (aN a) (aN b)))
theorem bm (a : GQ) (b : GQ) (k : Nat) (hk : (k + 2) ≤ 40) (za : SzQ (k + 2) a) (zb : SzQ (k + 2) b) (w0 : World) : Calls Tryz.prog 101 #[(vQ a), (vQ b)] w0 (ec w0 (vQ (ar a b)) (SzQ k (ar a b))) := by
 refine enter (N := 16) (args := [(vQ a), (vQ b)]) Tryz.func101 rfl rfl ?_; intro ac h
 have s1 := aA ((dp a.num b.num (k + 1) (by omega) za.1 zb.1) w0)
 have s2 := aA ((cj a (k + 2) (by omega) za) w0)
 have s3 := aA ((cj b (k + 2) (by omega) zb) w0)
 have s4 := aA ((dp (aN a) (aN b) (k + 1) (by omega) s2 s3) w0)
 have s5 := aA ((d6 (bC a.num b.num) (bC (aN a) (aN b)) k (by omega) s1 s4) w0)
 refine dQ fun K1 hK1 => ?_
 refine bx h (cQ a) rfl rfl rfl fun b1 => gb (cQ b) rfl rfl rfl fun b2 => ga (cQ oQ) vv40 rfl rfl fun b3 => gn hK1 <| gq fun K2 hK2 => ?_; clear h ac; intro ac wo h
 refine cu mixed [dv _, dw _ [2], dv _, dw _ [1], dv _, dw _ [2], dv _, dw _ [1], dv _, dv _, dv _, dw _ [0]] [⟨.blk b3 (cQ oQ) 40, [(11, .con _)]⟩, ⟨_, []⟩, ⟨_, []⟩] h rfl (by kernel_rfl) ⟨fun _ _ => aw (bH uu40 rfl zz38 (by decide) rfl rfl (k' := 0)), fun _ _ => cM _ rfl rfl (aT aa38 zz38 rfl rfl rfl (v := (vI a.num)) rfl), fun _ _ => aw (bH uu40 rfl zz38 (by decide) rfl rfl (k' := 0)), fun _ _ => cM _ rfl rfl (aT aa38 zz38 rfl rfl rfl (v := (vI b.num)) rfl), fun _ _ => dU (cx cc158 rfl (dp a.num b.num (k + 1) (by omega) za.1 zb.1)), fun _ _ => cM _ rfl rfl (aT aa40 zz40 rfl rfl rfl (v := (vQ a)) rfl), fun _ _ => dU (cx cc159 rfl (cj a (k + 2) (by omega) za)), fun _ _ => cM _ rfl rfl (aT aa40 zz40 rfl rfl rfl (v := (vQ b)) rfl), fun _ _ => dU (cx cc159 rfl (cj b (k + 2) (by omega) zb)), fun _ _ => dU (cx cc158 rfl (dp (aN a) (aN b) (k + 1) (by omega) s2 s3)), fun _ _ => dU (cx Tryz.call157 rfl (d6 (bC a.num b.num) (bC (aN a) (aN b)) k (by omega) s1 s4)), fun _ _ => g5 _ [.blk b3 (cQ (bN (bC a.num b.num) (bC (aN a) (aN b)))) 40] rfl rfl (iN zz40 rfl rfl rfl rfl rfl rfl rfl), trivial⟩ ?_
 clear h ac wo; intro ξ ac wo hφ h
 replace h : St w0 16 [(4, (ptr b3 0))] [.blk b3 (cQ (bN (bC a.num b.num) (bC (aN a) (aN b)))) 40, .blk b2 (cQ b) 40, .blk b1 (cQ a) 40] ac wo := h.sub ⟨rfl, trivial⟩
 clear hφ ξ
 refine hK2 _ _ ?_
 refine fh ?_
 exact ret h rfl (.cell (v := (vQ (bN (bC a.num b.num) (bC (aN a) (aN b))))) rfl (i := 0) rfl aa40 zz40 rfl rfl rfl .nil) rfl (h.retP (by unfold ar; rfl) (by unfold ar; exact s5))
def aL (a : GQ) : Int :=
 (co a.num)
theorem cW (a : GQ) (w0 : World) : Calls Tryz.prog 58 #[(vQ a)] w0 (ec w0 (.int .i64 (aL a)) ((-1 ≤ (aL a) ∧ (aL a) ≤ 1))) := by
 refine enter (N := 6) (args := [(vQ a)]) Tryz.func58 rfl rfl ?_; intro ac h
 have p2 := aA ((dH a.num) w0)
 refine dQ fun K1 hK1 => ?_
 refine bx h (cQ a) rfl rfl rfl fun b1 => g0 (ag rfl) rfl <| gn hK1 <| gr fun K2 hK2 => g0 (bH uu40 rfl zz38 (by decide) rfl rfl (k' := 0)) rfl <| g1 0 rfl (aT aa38 zz38 rfl rfl rfl (v := (vI a.num)) rfl) rfl <| gl cc124 rfl (dH a.num) rfl <| g0 (ag rfl) rfl <| gn hK2 <| gT ?_; clear h ac; intro ac wo h
 exact ret h rfl (.tmp rfl .nil) rfl (h.retP (by unfold aL; rfl) (by unfold aL; exact by first | omega | exact d3 (by omega) (by omega)))
def dc (a : GQ) (b : GQ) : Int :=
 bif (decide (a = b)) then
  0
 else
  (dI ((aE a b).1) ((aE a b).2.1))
theorem fX (a : GQ) (b : GQ) (k : Nat) (hk : (k + 1) ≤ 40) (za : SzQ (k + 1) a) (zb : SzQ (k + 1) b) (w0 : World) : Calls Tryz.prog 198 #[(vQ a), (vQ b)] w0 (ec w0 (.int .i64 (dc a b)) ((-1 ≤ (dc a b) ∧ (dc a b) ≤ 1))) := by
 refine enter (N := 21) (args := [(vQ a), (vQ b)]) Tryz.func198 rfl rfl ?_; intro ac h
 refine dQ fun K1 hK1 => ?_
 refine bx h (cQ a) rfl rfl rfl fun b1 => gb (cQ b) rfl rfl rfl fun b2 => g0 (ag rfl) rfl <| gn hK1 <| gq fun K2 hK2 => gr fun K3 hK3 => g1 1 rfl (aT aa40 zz40 rfl rfl rfl (v := (vQ a)) rfl) rfl <| g1 0 rfl (aT aa40 zz40 rfl rfl rfl (v := (vQ b)) rfl) rfl <| g0 (eF eqp40 rfl rfl) rfl <| gn hK3 ?_; clear h ac; intro ac wo h
 refine cN h rfl (fun hc1 => ?_) (fun hc1 => ?_)
 ·
  have hd1 := of_decide_eq_true hc1
  refine gz h <| gr fun K4 hK4 => g0 (ag rfl) rfl <| gn hK4 <| gT ?_; clear h ac wo; intro ac wo h
  have hd : dc a b = 0 := (cT hc1)
  exact ret h rfl (.tmp rfl .nil) rfl (h.retP (by rw [hd] <;> rfl) (by rw [hd]; exact by first | omega | exact d3 (by omega) (by omega)))
 ·
  have hd1 := of_decide_eq_false hc1
  have c1 := gJ a b k (by omega) za zb
  have s1 := aA (c1 w0)
  have p3 := aA ((gD ((aE a b).1) ((aE a b).2.1) k (by omega) s1.1 s1.2.1) w0)
  refine gz h <| gS <| gx hK2 <| gr fun K5 hK5 => g1 1 rfl (aT aa40 zz40 rfl rfl rfl (v := (vQ a)) rfl) rfl <| g1 0 rfl (aT aa40 zz40 rfl rfl rfl (v := (vQ b)) rfl) rfl <| gl Tryz.call160 rfl c1 rfl <| g0 (af rfl) rfl <| g0 (bA rfl rfl) rfl <| g0 (bA rfl rfl) rfl <| g0 (bA rfl rfl) rfl <| ga (cI (⟨false, 0⟩ : GI)) vv38 rfl rfl fun b3 => ga (cI (⟨false, 0⟩ : GI)) vv38 rfl rfl fun b4 => ga (cI (⟨false, 0⟩ : GI)) vv38 rfl rfl fun b5 => gs 2 (cI ((aE a b).1)) rfl zz38 rfl rfl rfl rfl rfl rfl rfl <| gs 1 (cI ((aE a b).2.1)) rfl zz38 rfl rfl rfl rfl rfl rfl rfl <| gs 0 (cI ((aE a b).2.2)) rfl zz38 rfl rfl rfl rfl rfl rfl rfl <| gn hK5 <| gr fun K6 hK6 => g1 2 rfl (aT aa38 zz38 rfl rfl rfl (v := (vI ((aE a b).1))) rfl) rfl <| g1 1 rfl (aT aa38 zz38 rfl rfl rfl (v := (vI ((aE a b).2.1))) rfl) rfl <| gl Tryz.call163 rfl (gD ((aE a b).1) ((aE a b).2.1) k (by omega) s1.1 s1.2.1) rfl <| g0 (ag rfl) rfl <| gn hK6 <| gT ?_; clear h ac wo; intro ac wo h
  have hd : dc a b = (dI ((aE a b).1) ((aE a b).2.1)) := (cF hc1)
  exact ret h rfl (.tmp rfl .nil) rfl (h.retP (by rw [hd] <;> rfl) (by rw [hd]; exact by first | omega | exact d3 (by omega) (by omega)))
def aI (c0 : GQ) (c1 : GQ) : Qd :=
 (⟨c0, c1, (⟨(⟨false, 0⟩ : GI), (⟨false, 0⟩ : GI)⟩ : GQ)⟩ : Qd)
theorem ep (c0 : GQ) (c1 : GQ) (k : Nat) (hk : k ≤ 40) (zc0 : SzQ k c0) (zc1 : SzQ k c1) (w0 : World) : Calls Tryz.prog 31 #[(vQ c0), (vQ c1)] w0 (ec w0 (vD (aI c0 c1)) (SzD k (aI c0 c1))) := by
 refine enter (N := 8) (args := [(vQ c0), (vQ c1)]) Tryz.func31 rfl rfl ?_; intro ac h
 refine dQ fun K1 hK1 => ?_
 refine bx h (cQ c0) rfl rfl rfl fun b1 => gb (cQ c1) rfl rfl rfl fun b2 => ga (cD oD) vv69 rfl rfl fun b3 => gn hK1 <| gr fun K2 hK2 => g1 2 rfl (aT aa40 zz40 rfl rfl rfl (v := (vQ c0)) rfl) rfl <| g1 1 rfl (aT aa40 zz40 rfl rfl rfl (v := (vQ c1)) rfl) rfl <| g0 (bK bld69 rfl rfl (v := (vD (⟨c0, c1, oQ⟩ : Qd))) rfl) rfl <| gs 0 (cD (⟨c0, c1, oQ⟩ : Qd)) rfl zz69 rfl rfl rfl rfl rfl rfl rfl <| gn hK2 <| gT ?_; clear h ac; intro ac wo h
 exact ret h rfl (.cell (v := (vD (⟨c0, c1, oQ⟩ : Qd))) rfl (i := 0) rfl aa69 zz69 rfl rfl rfl .nil) rfl (h.retP (by unfold aI; rfl) (by unfold aI; exact ⟨zc0, zc1, ⟨(es 0 (by decide) (by omega)), (es 0 (by decide) (by omega))⟩⟩))
def bb (c : GQ) : Qd :=
 (⟨c, (⟨(⟨false, 0⟩ : GI), (⟨false, 0⟩ : GI)⟩ : GQ), (⟨(⟨false, 0⟩ : GI), (⟨false, 0⟩ : GI)⟩ : GQ)⟩ : Qd)
theorem il (c : GQ) (k : Nat) (hk : k ≤ 40) (zc : SzQ k c) (w0 : World) : Calls Tryz.prog 79 #[(vQ c)] w0 (ec w0 (vD (bb c)) (SzD k (bb c))) := by
 refine enter (N := 5) (args := [(vQ c)]) Tryz.func79 rfl rfl ?_; intro ac h
 refine dQ fun K1 hK1 => ?_
 refine bx h (cQ c) rfl rfl rfl fun b1 => ga (cD oD) vv69 rfl rfl fun b2 => gn hK1 <| gr fun K2 hK2 => g1 1 rfl (aT aa40 zz40 rfl rfl rfl (v := (vQ c)) rfl) rfl <| g0 (bK bld69 rfl rfl (v := (vD (⟨c, oQ, oQ⟩ : Qd))) rfl) rfl <| gs 0 (cD (⟨c, oQ, oQ⟩ : Qd)) rfl zz69 rfl rfl rfl rfl rfl rfl rfl <| gn hK2 <| gT ?_; clear h ac; intro ac wo h
 exact ret h rfl (.cell (v := (vD (⟨c, oQ, oQ⟩ : Qd))) rfl (i := 0) rfl aa69 zz69 rfl rfl rfl .nil) rfl (h.retP (by unfold bb; rfl) (by unfold bb; exact ⟨zc, ⟨(es 0 (by decide) (by omega)), (es 0 (by decide) (by omega))⟩, ⟨(es 0 (by decide) (by omega)), (es 0 (by decide) (by omega))⟩⟩))
def d7 (p : Qd) (q : Qd) : Qd :=
 (⟨(an p.c0 q.c0), (an p.c1 q.c1), (an p.c2 q.c2)⟩ : Qd)
theorem ia (p : Qd) (q : Qd) (k : Nat) (hk : (k + 3) ≤ 40) (zp : SzD (k + 3) p) (zq : SzD (k + 3) q) (w0 : World) : Calls Tryz.prog 96 #[(vD p), (vD q)] w0 (ec w0 (vD (d7 p q)) (SzD k (d7 p q))) := by
 refine enter (N := 21) (args := [(vD p), (vD q)]) Tryz.func96 rfl rfl ?_; intro ac h
 have s1 := aA ((cC p.c0 q.c0 k (by omega) zp.1 zq.1) w0)
 have s2 := aA ((cC p.c1 q.c1 k (by omega) zp.2.1 zq.2.1) w0)
 have s3 := aA ((cC p.c2 q.c2 k (by omega) zp.2.2 zq.2.2) w0)
 refine dQ fun K1 hK1 => ?_
 refine bx h (cD p) rfl rfl rfl fun b1 => gb (cD q) rfl rfl rfl fun b2 => ga (cD oD) vv69 rfl rfl fun b3 => gn hK1 <| gq fun K2 hK2 => ?_; clear h ac; intro ac wo h
 refine cu mixed [dv _, dw _ [2], dv _, dw _ [1], dv _, dv _, dw _ [2], dv _, dw _ [1], dv _, dv _, dw _ [2], dv _, dw _ [1], dv _, dv _, dw _ [0]] [⟨.blk b3 (cD oD) 69, [(16, .con _)]⟩, ⟨_, []⟩, ⟨_, []⟩] h rfl (by kernel_rfl) ⟨fun _ _ => aw (bH uu69 rfl zz40 (by decide) rfl rfl (k' := 0)), fun _ _ => cM _ rfl rfl (aT aa40 zz40 rfl rfl rfl (v := (vQ p.c0)) rfl), fun _ _ => aw (bH uu69 rfl zz40 (by decide) rfl rfl (k' := 0)), fun _ _ => cM _ rfl rfl (aT aa40 zz40 rfl rfl rfl (v := (vQ q.c0)) rfl), fun _ _ => dU (cx cc100 rfl (cC p.c0 q.c0 k (by omega) zp.1 zq.1)), fun _ _ => aw (bH uu69 rfl zz40 (by decide) rfl rfl (k' := 4)), fun _ _ => cM _ rfl rfl (aT aa40 zz40 rfl rfl rfl (v := (vQ p.c1)) rfl), fun _ _ => aw (bH uu69 rfl zz40 (by decide) rfl rfl (k' := 4)), fun _ _ => cM _ rfl rfl (aT aa40 zz40 rfl rfl rfl (v := (vQ q.c1)) rfl), fun _ _ => dU (cx cc100 rfl (cC p.c1 q.c1 k (by omega) zp.2.1 zq.2.1)), fun _ _ => aw (bH uu69 rfl zz40 (by decide) rfl rfl (k' := 8)), fun _ _ => cM _ rfl rfl (aT aa40 zz40 rfl rfl rfl (v := (vQ p.c2)) rfl), fun _ _ => aw (bH uu69 rfl zz40 (by decide) rfl rfl (k' := 8)), fun _ _ => cM _ rfl rfl (aT aa40 zz40 rfl rfl rfl (v := (vQ q.c2)) rfl), fun _ _ => dU (cx cc100 rfl (cC p.c2 q.c2 k (by omega) zp.2.2 zq.2.2)), fun _ _ => aw (bK bld69 rfl rfl (v := (vD (⟨(an p.c0 q.c0), (an p.c1 q.c1), (an p.c2 q.c2)⟩ : Qd))) rfl), fun _ _ => g5 _ [.blk b3 (cD (⟨(an p.c0 q.c0), (an p.c1 q.c1), (an p.c2 q.c2)⟩ : Qd)) 69] rfl rfl (iN zz69 rfl rfl rfl rfl rfl rfl rfl), trivial⟩ ?_
 clear h ac wo; intro ξ ac wo hφ h
 replace h : St w0 21 [(4, (ptr b3 0))] [.blk b3 (cD (⟨(an p.c0 q.c0), (an p.c1 q.c1), (an p.c2 q.c2)⟩ : Qd)) 69, .blk b2 (cD q) 69, .blk b1 (cD p) 69] ac wo := h.sub ⟨rfl, trivial⟩
 clear hφ ξ
 refine hK2 _ _ ?_
 refine fh ?_
 exact ret h rfl (.cell (v := (vD (⟨(an p.c0 q.c0), (an p.c1 q.c1), (an p.c2 q.c2)⟩ : Qd))) rfl (i := 0) rfl aa69 zz69 rfl rfl rfl .nil) rfl (h.retP (by unfold d7; rfl) (by unfold d7; exact ⟨s1, s2, s3⟩))
def dE (q : Qd) (t : GQ) : GQ :=
 (aO q.c0 (ar t (aO q.c1 (ar t q.c2))))
theorem js (q : Qd) (t : GQ) (k : Nat) (hk : (k + 10) ≤ 40) (zq : SzD (k + 10) q) (zt : SzQ (k + 10) t) (w0 : World) : Calls Tryz.prog 99 #[(vD q), (vQ t)] w0 (ec w0 (vQ (dE q t)) (SzQ k (dE q t))) := by
 refine enter (N := 17) (args := [(vD q), (vQ t)]) Tryz.func99 rfl rfl ?_; intro ac h
 have s1 := aA ((bm t q.c2 (k + 8) (by omega) zt zq.2.2) w0)
 have s2 := aA ((ck q.c1 (ar t q.c2) (k + 5) (by omega) (eJ zq (by omega)).2.1 s1) w0)
 have s3 := aA ((bm t (aO q.c1 (ar t q.c2)) (k + 3) (by omega) (ex zt (by omega)) s2) w0)
 have s4 := aA ((ck q.c0 (ar t (aO q.c1 (ar t q.c2))) k (by omega) (eJ zq (by omega)).1 s3) w0)
 refine dQ fun K1 hK1 => ?_
 refine bx h (cD q) rfl rfl rfl fun b1 => gb (cQ t) rfl rfl rfl fun b2 => ga (cQ oQ) vv40 rfl rfl fun b3 => gn hK1 <| gq fun K2 hK2 => ?_; clear h ac; intro ac wo h
 refine cu mixed [dv _, dw _ [2], dw _ [1], dv _, dw _ [2], dw _ [1], dv _, dw _ [2], dv _, dv _, dv _, dv _, dw _ [0]] [⟨.blk b3 (cQ oQ) 40, [(12, .con _)]⟩, ⟨_, []⟩, ⟨_, []⟩] h rfl (by kernel_rfl) ⟨fun _ _ => aw (bH uu69 rfl zz40 (by decide) rfl rfl (k' := 0)), fun _ _ => cM _ rfl rfl (aT aa40 zz40 rfl rfl rfl (v := (vQ q.c0)) rfl), fun _ _ => cM _ rfl rfl (aT aa40 zz40 rfl rfl rfl (v := (vQ t)) rfl), fun _ _ => aw (bH uu69 rfl zz40 (by decide) rfl rfl (k' := 4)), fun _ _ => cM _ rfl rfl (aT aa40 zz40 rfl rfl rfl (v := (vQ q.c1)) rfl), fun _ _ => cM _ rfl rfl (aT aa40 zz40 rfl rfl rfl (v := (vQ t)) rfl), fun _ _ => aw (bH uu69 rfl zz40 (by decide) rfl rfl (k' := 8)), fun _ _ => cM _ rfl rfl (aT aa40 zz40 rfl rfl rfl (v := (vQ q.c2)) rfl), fun _ _ => dU (cx cc101 rfl (bm t q.c2 (k + 8) (by omega) zt zq.2.2)), fun _ _ => dU (cx cc102 rfl (ck q.c1 (ar t q.c2) (k + 5) (by omega) (eJ zq (by omega)).2.1 s1)), fun _ _ => dU (cx cc101 rfl (bm t (aO q.c1 (ar t q.c2)) (k + 3) (by omega) (ex zt (by omega)) s2)), fun _ _ => dU (cx cc102 rfl (ck q.c0 (ar t (aO q.c1 (ar t q.c2))) k (by omega) (eJ zq (by omega)).1 s3)), fun _ _ => g5 _ [.blk b3 (cQ (aO q.c0 (ar t (aO q.c1 (ar t q.c2))))) 40] rfl rfl (iN zz40 rfl rfl rfl rfl rfl rfl rfl), trivial⟩ ?_
 clear h ac wo; intro ξ ac wo hφ h
 replace h : St w0 17 [(4, (ptr b3 0))] [.blk b3 (cQ (aO q.c0 (ar t (aO q.c1 (ar t q.c2))))) 40, .blk b2 (cQ t) 40, .blk b1 (cD q) 69] ac wo := h.sub ⟨rfl, trivial⟩
 clear hφ ξ
 refine hK2 _ _ ?_
 refine fh ?_
 exact ret h rfl (.cell (v := (vQ (aO q.c0 (ar t (aO q.c1 (ar t q.c2)))))) rfl (i := 0) rfl aa40 zz40 rfl rfl rfl .nil) rfl (h.retP (by unfold dE; rfl) (by unfold dE; exact s4))
def cO (q : Qd) (t : GQ) : GQ :=
 (aO q.c1 (ar (aO q.c2 q.c2) t))
theorem gu (q : Qd) (t : GQ) (k : Nat) (hk : (k + 8) ≤ 40) (zq : SzD (k + 8) q) (zt : SzQ (k + 8) t) (w0 : World) : Calls Tryz.prog 103 #[(vD q), (vQ t)] w0 (ec w0 (vQ (cO q t)) (SzQ k (cO q t))) := by
 refine enter (N := 15) (args := [(vD q), (vQ t)]) Tryz.func103 rfl rfl ?_; intro ac h
 have s1 := aA ((ck q.c2 q.c2 (k + 5) (by omega) zq.2.2 zq.2.2) w0)
 have s2 := aA ((bm (aO q.c2 q.c2) t (k + 3) (by omega) s1 (ex zt (by omega))) w0)
 have s3 := aA ((ck q.c1 (ar (aO q.c2 q.c2) t) k (by omega) (eJ zq (by omega)).2.1 s2) w0)
 refine dQ fun K1 hK1 => ?_
 refine bx h (cD q) rfl rfl rfl fun b1 => gb (cQ t) rfl rfl rfl fun b2 => ga (cQ oQ) vv40 rfl rfl fun b3 => gn hK1 <| gq fun K2 hK2 => ?_; clear h ac; intro ac wo h
 refine cu mixed [dv _, dw _ [2], dv _, dw _ [2], dv _, dw _ [2], dv _, dw _ [1], dv _, dv _, dw _ [0]] [⟨.blk b3 (cQ oQ) 40, [(10, .con _)]⟩, ⟨_, []⟩, ⟨_, []⟩] h rfl (by kernel_rfl) ⟨fun _ _ => aw (bH uu69 rfl zz40 (by decide) rfl rfl (k' := 4)), fun _ _ => cM _ rfl rfl (aT aa40 zz40 rfl rfl rfl (v := (vQ q.c1)) rfl), fun _ _ => aw (bH uu69 rfl zz40 (by decide) rfl rfl (k' := 8)), fun _ _ => cM _ rfl rfl (aT aa40 zz40 rfl rfl rfl (v := (vQ q.c2)) rfl), fun _ _ => aw (bH uu69 rfl zz40 (by decide) rfl rfl (k' := 8)), fun _ _ => cM _ rfl rfl (aT aa40 zz40 rfl rfl rfl (v := (vQ q.c2)) rfl), fun _ _ => dU (cx cc102 rfl (ck q.c2 q.c2 (k + 5) (by omega) zq.2.2 zq.2.2)), fun _ _ => cM _ rfl rfl (aT aa40 zz40 rfl rfl rfl (v := (vQ t)) rfl), fun _ _ => dU (cx cc101 rfl (bm (aO q.c2 q.c2) t (k + 3) (by omega) s1 (ex zt (by omega)))), fun _ _ => dU (cx cc102 rfl (ck q.c1 (ar (aO q.c2 q.c2) t) k (by omega) (eJ zq (by omega)).2.1 s2)), fun _ _ => g5 _ [.blk b3 (cQ (aO q.c1 (ar (aO q.c2 q.c2) t))) 40] rfl rfl (iN zz40 rfl rfl rfl rfl rfl rfl rfl), trivial⟩ ?_
 clear h ac wo; intro ξ ac wo hφ h
 replace h : St w0 15 [(4, (ptr b3 0))] [.blk b3 (cQ (aO q.c1 (ar (aO q.c2 q.c2) t))) 40, .blk b2 (cQ t) 40, .blk b1 (cD q) 69] ac wo := h.sub ⟨rfl, trivial⟩
 clear hφ ξ
 refine hK2 _ _ ?_
 refine fh ?_
 exact ret h rfl (.cell (v := (vQ (aO q.c1 (ar (aO q.c2 q.c2) t)))) rfl (i := 0) rfl aa40 zz40 rfl rfl rfl .nil) rfl (h.retP (by unfold cO; rfl) (by unfold cO; exact s3))
def cp (x : GR) : GQ × Bool :=
 bif (!(decide (x.r = (⟨(⟨false, 0⟩ : GI), (⟨false, 0⟩ : GI)⟩ : GQ)))) then
  ((⟨(⟨false, 0⟩ : GI), (⟨false, 0⟩ : GI)⟩ : GQ), false)
 else
  (x.p, true)
theorem jH (x : GR) (k : Nat) (hk : k ≤ 40) (zx : SzR k x) (w0 : World) : Calls Tryz.prog 98 #[(vR x)] w0 (ec w0 (.tuple #[(vQ ((cp x).1)), (.bool ((cp x).2))]) (SzQ k ((cp x).1))) := by
 refine enter (N := 11) (args := [(vR x)]) Tryz.func98 rfl rfl ?_; intro ac h
 refine dQ fun K1 hK1 => ?_
 refine bx h (cR x) rfl rfl rfl fun b1 => ga (cQ oQ) vv40 rfl rfl fun b2 => g0 (ag rfl) rfl <| gn hK1 <| gq fun K2 hK2 => gr fun K3 hK3 => g0 (bH uu53 rfl zz40 (by decide) rfl rfl (k' := 4)) rfl <| g1 1 rfl (aT aa40 zz40 rfl rfl rfl (v := (vQ x.r)) rfl) rfl <| g0 (bK lJ rfl rfl (v := (vQ oQ)) rfl) rfl <| g0 (oi eqp40 rfl rfl) rfl <| gn hK3 ?_; clear h ac; intro ac wo h
 refine cN h rfl (fun hc1 => ?_) (fun hc1 => ?_)
 ·
  refine gz h <| gr fun K4 hK4 => g0 (bK lJ rfl rfl (v := (vQ oQ)) rfl) rfl <| gs 0 (cQ oQ) rfl zz40 rfl rfl rfl rfl rfl rfl rfl <| g0 (ag rfl) rfl <| gn hK4 <| gT ?_; clear h ac wo; intro ac wo h
  have hd : cp x = (oQ, false) := (cT hc1)
  exact ret h rfl (.cell (v := (vQ oQ)) rfl (i := 0) rfl aa40 zz40 rfl rfl rfl (.tmp rfl .nil)) rfl (h.retP (by rw [hd] <;> rfl) (by rw [hd]; exact ⟨(es 0 (by decide) (by omega)), (es 0 (by decide) (by omega))⟩))
 ·
  refine gz h <| gS <| gx hK2 <| gr fun K5 hK5 => g0 (bH uu53 rfl zz40 (by decide) rfl rfl (k' := 0)) rfl <| g1 1 rfl (aT aa40 zz40 rfl rfl rfl (v := (vQ x.p)) rfl) rfl <| gs 0 (cQ x.p) rfl zz40 rfl rfl rfl rfl rfl rfl rfl <| g0 (ag rfl) rfl <| gn hK5 <| gT ?_; clear h ac wo; intro ac wo h
  have hd : cp x = (x.p, true) := (cF hc1)
  exact ret h rfl (.cell (v := (vQ x.p)) rfl (i := 0) rfl aa40 zz40 rfl rfl rfl (.tmp rfl .nil)) rfl (h.retP (by rw [hd] <;> rfl) (by rw [hd]; exact zx.1))
def bj (q : Qd) (t : GR) : Qd :=
 bif (cp t).2 then
  (bb (dE q ((cp t).1)))
 else
  (aI (aO q.c0 (ar q.c2 (an t.r (ar t.p t.p)))) (cO q t.p))
theorem eU (q : Qd) (t : GR) (k : Nat) (hk : (k + 10) ≤ 40) (zq : SzD (k + 10) q) (zt : SzR (k + 10) t) (w0 : World) : Calls Tryz.prog 37 #[(vD q), (vR t)] w0 (ec w0 (vD (bj q t)) (SzD k (bj q t))) := by
 refine enter (N := 38) (args := [(vD q), (vR t)]) Tryz.func37 rfl rfl ?_; intro ac h
 have c1 := jH t (k + 10) (by omega) zt
 have s1 := aA (c1 w0)
 refine dQ fun K1 hK1 => ?_
 refine bx h (cD q) rfl rfl rfl fun b1 => gb (cR t) rfl rfl rfl fun b2 => ga (cD oD) vv69 rfl rfl fun b3 => gn hK1 <| gq fun K2 hK2 => gr fun K3 hK3 => g1 1 rfl (aT aa53 zz53 rfl rfl rfl (v := (vR t)) rfl) rfl <| gl Tryz.call98 rfl c1 rfl <| g0 (af rfl) rfl <| g0 (bA rfl rfl) rfl <| g0 (bA rfl rfl) rfl <| ga (cQ oQ) vv40 rfl rfl fun b4 => gs 0 (cQ ((cp t).1)) rfl zz40 rfl rfl rfl rfl rfl rfl rfl <| g0 (ag rfl) rfl <| gn hK3 <| gr fun K4 hK4 => g0 (af rfl) rfl <| gn hK4 ?_; clear h ac; intro ac wo h
 refine cN h rfl (fun hc1 => ?_) (fun hc1 => ?_)
 ·
  have c2 := js q ((cp t).1) k (by omega) zq s1
  have s2 := aA (c2 w0)
  have c3 := il (dE q ((cp t).1)) k (by omega) s2
  have s3 := aA (c3 w0)
  refine gz h <| gr fun K5 hK5 => g1 3 rfl (aT aa69 zz69 rfl rfl rfl (v := (vD q)) rfl) rfl <| g1 0 rfl (aT aa40 zz40 rfl rfl rfl (v := (vQ ((cp t).1))) rfl) rfl <| gl Tryz.call99 rfl c2 rfl <| gl Tryz.call79 rfl c3 rfl <| gs 1 (cD (bb (dE q ((cp t).1)))) rfl zz69 rfl rfl rfl rfl rfl rfl rfl <| gn hK5 <| gT ?_; clear h ac wo; intro ac wo h
  have hd : bj q t = (bb (dE q ((cp t).1))) := (cT hc1)
  exact ret h rfl (.cell (v := (vD (bb (dE q ((cp t).1))))) rfl (i := 1) rfl aa69 zz69 rfl rfl rfl .nil) rfl (h.retP (by rw [hd] <;> rfl) (by rw [hd]; exact s3))
 ·
  refine dM ?_
  refine hK2 _ _ ?_
  refine cH fun K6 hK6 => ?_
  have s4 := aA ((bm t.p t.p (k + 8) (by omega) zt.1 zt.1) w0)
  have s5 := aA ((cC t.r (ar t.p t.p) (k + 5) (by omega) (ed zt (by omega)).2 s4) w0)
  replace h := h.emps 1
  refine cu mixed [dv _, dw _ [2], dv _, dw _ [2], dv _, dw _ [2], dv _, dv _, ⟨.nd (.one 8 fun v => ∃ b, v = ptr b 0), [4]⟩, ⟨.det undef, [4]⟩] [⟨_, []⟩, ⟨_, []⟩, ⟨_, []⟩, ⟨_, []⟩, ⟨.emp, [(8, .one 8 fun v => .blk (eu v) (cQ oQ) 40), (9, .one 8 fun v => .blk (eu v) (cQ (an t.r (ar t.p t.p))) 40)]⟩] h rfl (by kernel_rfl) ⟨fun _ _ => aw (bH uu53 rfl zz40 (by decide) rfl rfl (k' := 4)), fun _ _ => cM _ rfl rfl (aT aa40 zz40 rfl rfl rfl (v := (vQ t.r)) rfl), fun _ _ => aw (bH uu53 rfl zz40 (by decide) rfl rfl (k' := 0)), fun _ _ => cM _ rfl rfl (aT aa40 zz40 rfl rfl rfl (v := (vQ t.p)) rfl), fun _ _ => aw (bH uu53 rfl zz40 (by decide) rfl rfl (k' := 0)), fun _ _ => cM _ rfl rfl (aT aa40 zz40 rfl rfl rfl (v := (vQ t.p)) rfl), fun _ _ => dU (cx cc101 rfl (bm t.p t.p (k + 8) (by omega) zt.1 zt.1)), fun _ _ => dU (cx cc100 rfl (cC t.r (ar t.p t.p) (k + 5) (by omega) (ed zt (by omega)).2 s4)), fun _ _ => kx (ψ := fun v => ∃ b, v = ptr b 0) (B := fun v => [.blk (eu v) (cQ oQ) 40]) [.emp] rfl (fun v _ => by simp only [ef, bJ] <;> rfl) (fun v hv => by simpa [DF.one, bJ] using hv) (jo (iV vv40 rfl)), (fun ξ hφ => by obtain ⟨b5, hb8⟩ := hφ 8 rfl; exact g5 [.blk b5 (cQ oQ) 40] [.blk b5 (cQ (an t.r (ar t.p t.p))) 40] (congrArg (fun v => [Asn.blk (eu v) (cQ oQ) 40]) hb8) (congrArg (fun v => [Asn.blk (eu v) (cQ (an t.r (ar t.p t.p))) 40]) hb8) (iN zz40 (Eq.trans rfl (congrArg some hb8)) rfl rfl rfl rfl rfl rfl)), trivial⟩ ?_
  clear h ac wo; intro ξ ac wo hφ h
  replace h : St w0 38 [(2, (ptr b1 0)), (3, (ptr b2 0)), (4, (ptr b3 0)), (7, ξ 8)] [.blk b4 (cQ ((cp t).1)) 40, .blk b3 (cD oD) 69, .blk b2 (cR t) 53, .blk b1 (cD q) 69, .blk (eu (ξ 8)) (cQ (an t.r (ar t.p t.p))) 40] ac wo := h.sub ⟨rfl, rfl, rfl, rfl, trivial⟩
  revert h
  obtain ⟨b5, hb8⟩ : ∃ b, ξ 8 = ptr b 0 := hφ 8
  rw [hb8]; intro h
  clear hb8 hφ ξ
  refine hK6 _ _ ?_
  refine cH fun K7 hK7 => ?_
  have s6 := aA ((bm q.c2 (an t.r (ar t.p t.p)) (k + 3) (by omega) (eJ zq (by omega)).2.2 s5) w0)
  have s7 := aA ((ck q.c0 (ar q.c2 (an t.r (ar t.p t.p))) k (by omega) (eJ zq (by omega)).1 s6) w0)
  have s8 := aA ((gu q t.p (k + 2) (by omega) zq zt.1) w0)
  have s9 := aA ((ep (aO q.c0 (ar q.c2 (an t.r (ar t.p t.p)))) (cO q t.p) k (by omega) s7 (ex s8 (by omega))) w0)
  refine cu mixed [dv _, dw _ [3], dv _, dw _ [3], dw _ [4], dv _, dv _, dw _ [3], dv _, dw _ [2], dv _, dv _, dw _ [1]] [⟨_, []⟩, ⟨.blk b3 (cD oD) 69, [(12, .con _)]⟩, ⟨_, []⟩, ⟨_, []⟩, ⟨_, []⟩] h rfl (by kernel_rfl) ⟨fun _ _ => aw (bH uu69 rfl zz40 (by decide) rfl rfl (k' := 0)), fun _ _ => cM _ rfl rfl (aT aa40 zz40 rfl rfl rfl (v := (vQ q.c0)) rfl), fun _ _ => aw (bH uu69 rfl zz40 (by decide) rfl rfl (k' := 8)), fun _ _ => cM _ rfl rfl (aT aa40 zz40 rfl rfl rfl (v := (vQ q.c2)) rfl), fun _ _ => cM _ rfl rfl (aT aa40 zz40 rfl rfl rfl (v := (vQ (an t.r (ar t.p t.p)))) rfl), fun _ _ => dU (cx cc101 rfl (bm q.c2 (an t.r (ar t.p t.p)) (k + 3) (by omega) (eJ zq (by omega)).2.2 s5)), fun _ _ => dU (cx cc102 rfl (ck q.c0 (ar q.c2 (an t.r (ar t.p t.p))) k (by omega) (eJ zq (by omega)).1 s6)), fun _ _ => cM _ rfl rfl (aT aa69 zz69 rfl rfl rfl (v := (vD q)) rfl), fun _ _ => aw (bH uu53 rfl zz40 (by decide) rfl rfl (k' := 0)), fun _ _ => cM _ rfl rfl (aT aa40 zz40 rfl rfl rfl (v := (vQ t.p)) rfl), fun _ _ => dU (cx Tryz.call103 rfl (gu q t.p (k + 2) (by omega) zq zt.1)), fun _ _ => dU (cx Tryz.call31 rfl (ep (aO q.c0 (ar q.c2 (an t.r (ar t.p t.p)))) (cO q t.p) k (by omega) s7 (ex s8 (by omega)))), fun _ _ => g5 _ [.blk b3 (cD (aI (aO q.c0 (ar q.c2 (an t.r (ar t.p t.p)))) (cO q t.p))) 69] rfl rfl (iN zz69 rfl rfl rfl rfl rfl rfl rfl), trivial⟩ ?_
  clear h ac wo; intro ξ ac wo hφ h
  replace h : St w0 38 [(4, (ptr b3 0))] [.blk b4 (cQ ((cp t).1)) 40, .blk b3 (cD (aI (aO q.c0 (ar q.c2 (an t.r (ar t.p t.p)))) (cO q t.p))) 69, .blk b2 (cR t) 53, .blk b1 (cD q) 69, .blk b5 (cQ (an t.r (ar t.p t.p))) 40] ac wo := h.sub ⟨rfl, trivial⟩
  clear hφ ξ
  refine hK7 _ _ ?_
  refine fh ?_
  have hd : bj q t = (aI (aO q.c0 (ar q.c2 (an t.r (ar t.p t.p)))) (cO q t.p)) := (cF hc1)
  exact ret h rfl (.cell (v := (vD (aI (aO q.c0 (ar q.c2 (an t.r (ar t.p t.p)))) (cO q t.p)))) rfl (i := 1) rfl aa69 zz69 rfl rfl rfl .nil) rfl (h.retP (by rw [hd] <;> rfl) (by rw [hd]; exact s9))
def cn (p : Qd) (q : Qd) (t : GR) : Bool :=
 (decide ((bj (d7 p q) t) = (⟨(⟨(⟨false, 0⟩ : GI), (⟨false, 0⟩ : GI)⟩ : GQ), (⟨(⟨false, 0⟩ : GI), (⟨false, 0⟩ : GI)⟩ : GQ), (⟨(⟨false, 0⟩ : GI), (⟨false, 0⟩ : GI)⟩ : GQ)⟩ : Qd)))
theorem jr (p : Qd) (q : Qd) (t : GR) (k : Nat) (hk : (k + 14) ≤ 40) (zp : SzD (k + 14) p) (zq : SzD (k + 14) q) (zt : SzR (k + 14) t) (w0 : World) : Calls Tryz.prog 30 #[(vD p), (vD q), (vR t)] w0 (ec w0 (.bool (cn p q t)) (True)) := by
 refine enter (N := 14) (args := [(vD p), (vD q), (vR t)]) Tryz.func30 rfl rfl ?_; intro ac h
 have s1 := aA ((ia p q (k + 11) (by omega) zp zq) w0)
 have s2 := aA ((eU (d7 p q) t (k + 1) (by omega) s1 (ed zt (by omega))) w0)
 refine dQ fun K1 hK1 => ?_
 refine bx h (cD p) rfl rfl rfl fun b1 => gb (cD q) rfl rfl rfl fun b2 => gb (cR t) rfl rfl rfl fun b3 => g0 (ag rfl) rfl <| gn hK1 <| gq fun K2 hK2 => ?_; clear h ac; intro ac wo h
 refine cu mixed [dw _ [2], dw _ [1], dv _, dw _ [0], dv _, dv _, dv _, dv _] [⟨_, []⟩, ⟨_, []⟩, ⟨_, []⟩] h rfl (by kernel_rfl) ⟨fun _ _ => cM _ rfl rfl (aT aa69 zz69 rfl rfl rfl (v := (vD p)) rfl), fun _ _ => cM _ rfl rfl (aT aa69 zz69 rfl rfl rfl (v := (vD q)) rfl), fun _ _ => dU (cx Tryz.call96 rfl (ia p q (k + 11) (by omega) zp zq)), fun _ _ => cM _ rfl rfl (aT aa53 zz53 rfl rfl rfl (v := (vR t)) rfl), fun _ _ => dU (cx Tryz.call37 rfl (eU (d7 p q) t (k + 1) (by omega) s1 (ed zt (by omega)))), fun _ _ => aw (bK bld69 rfl rfl (v := (vD oD)) rfl), fun _ _ => aw (eF o3 rfl rfl), fun _ _ => aw (ag rfl), trivial⟩ ?_
 clear h ac wo; intro ξ ac wo hφ h
 replace h : St w0 14 [(6, (.bool (decide ((bj (d7 p q) t) = oD))))] [.blk b3 (cR t) 53, .blk b2 (cD q) 69, .blk b1 (cD p) 69] ac wo := h.sub ⟨rfl, trivial⟩
 clear hφ ξ
 refine hK2 _ _ ?_
 refine fh ?_
 exact ret h rfl (.tmp rfl .nil) rfl (h.retP (by unfold cn; rfl) trivial)
def aQ (x : GR) : GQ :=
 bif x.neg then
  (aq (-1))
 else
  (aq 1)
theorem ft (x : GR) (k : Nat) (hk : k ≤ 40) (zx : SzR k x) (w0 : World) : Calls Tryz.prog 174 #[(vR x)] w0 (ec w0 (vQ (aQ x)) (SzQ k (aQ x))) := by
 refine enter (N := 7) (args := [(vR x)]) Tryz.func174 rfl rfl ?_; intro ac h
 refine dQ fun K1 hK1 => ?_
 refine bx h (cR x) rfl rfl rfl fun b1 => ga (cQ oQ) vv40 rfl rfl fun b2 => gn hK1 <| gq fun K2 hK2 => gr fun K3 hK3 => g0 (bH uu53 rfl zz4 (by decide) rfl rfl (k' := 8)) rfl <| g1 1 rfl (aT aa4 zz4 rfl rfl rfl (v := (.bool x.neg)) rfl) rfl <| gn hK3 ?_; clear h ac; intro ac wo h
 refine cN h rfl (fun hc1 => ?_) (fun hc1 => ?_)
 ·
  have c1 := cm (-1) k (by omega)  (by omega)
  have s1 := aA (c1 w0)
  refine gz h <| gr fun K4 hK4 => gl cc45 rfl c1 rfl <| gs 0 (cQ (aq (-1))) rfl zz40 rfl rfl rfl rfl rfl rfl rfl <| gn hK4 <| gT ?_; clear h ac wo; intro ac wo h
  have hd : aQ x = (aq (-1)) := (cT hc1)
  exact ret h rfl (.cell (v := (vQ (aq (-1)))) rfl (i := 0) rfl aa40 zz40 rfl rfl rfl .nil) rfl (h.retP (by rw [hd] <;> rfl) (by rw [hd]; exact s1))
 ·
  have c2 := cm 1 k (by omega)  (by omega)
  have s2 := aA (c2 w0)
  refine gz h <| gS <| gx hK2 <| gr fun K5 hK5 => gl cc45 rfl c2 rfl <| gs 0 (cQ (aq 1)) rfl zz40 rfl rfl rfl rfl rfl rfl rfl <| gn hK5 <| gT ?_; clear h ac wo; intro ac wo h
  have hd : aQ x = (aq 1) := (cF hc1)
  exact ret h rfl (.cell (v := (vQ (aq 1))) rfl (i := 0) rfl aa40 zz40 rfl rfl rfl .nil) rfl (h.retP (by rw [hd] <;> rfl) (by rw [hd]; exact s2))
def dg (a : GQ) (b : GQ) (r : GQ) : Int :=
 bif ((((aL b) * (aL r)) == 0) || ((aL a) == ((aL b) * (aL r)))) then
  (aL a)
 else
  bif ((aL a) == 0) then
   ((aL b) * (aL r))
  else
   ((aL a) * (dc (ar a a) (ar (ar b b) r)))
theorem gm (a : GQ) (b : GQ) (r : GQ) (k : Nat) (hk : (k + 8) ≤ 40) (za : SzQ (k + 8) a) (zb : SzQ (k + 8) b) (zr : SzQ (k + 8) r) (w0 : World) : Calls Tryz.prog 175 #[(vQ a), (vQ b), (vQ r)] w0 (ec w0 (.int .i64 (dg a b r)) ((-1 ≤ (dg a b r) ∧ (dg a b r) ≤ 1))) := by
 refine enter (N := 40) (args := [(vQ a), (vQ b), (vQ r)]) Tryz.func175 rfl rfl ?_; intro ac h
 have p2 := aA ((cW a) w0)
 have p4 := aA ((cW b) w0)
 have p6 := aA ((cW r) w0)
 refine dQ fun K1 hK1 => ?_
 refine bx h (cQ a) rfl rfl rfl fun b1 => gb (cQ b) rfl rfl rfl fun b2 => gb (cQ r) rfl rfl rfl fun b3 => g0 (ag rfl) rfl <| gn hK1 <| gq fun K2 hK2 => ?_; clear h ac; intro ac wo h
 refine cu mixed [dw _ [2], dv _, dw _ [1], dv _, dw _ [0], dv _, dv _, dv _, dv _] [⟨_, []⟩, ⟨_, []⟩, ⟨_, []⟩] h rfl (by kernel_rfl) ⟨fun _ _ => cM _ rfl rfl (aT aa40 zz40 rfl rfl rfl (v := (vQ a)) rfl), fun _ _ => dU (cx cc58 rfl (cW a)), fun _ _ => cM _ rfl rfl (aT aa40 zz40 rfl rfl rfl (v := (vQ b)) rfl), fun _ _ => dU (cx cc58 rfl (cW b)), fun _ _ => cM _ rfl rfl (aT aa40 zz40 rfl rfl rfl (v := (vQ r)) rfl), fun _ _ => dU (cx cc58 rfl (cW r)), fun _ _ => aw (jI rfl rfl (r := ((aL b) * (aL r))) (by first | (rw [IntKind.wrap_i64]; omega) | exact gi (by omega) (by omega))), fun _ _ => aw (ag rfl), fun _ _ => aw (ag rfl), trivial⟩ ?_
 clear h ac wo; intro ξ ac wo hφ h
 replace h : St w0 40 [(3, (ptr b1 0)), (4, (ptr b2 0)), (5, (ptr b3 0)), (7, (.int .i64 (aL a))), (8, (.int .i64 ((aL b) * (aL r))))] [.blk b3 (cQ r) 40, .blk b2 (cQ b) 40, .blk b1 (cQ a) 40] ac wo := h.sub ⟨rfl, rfl, rfl, rfl, rfl, trivial⟩
 clear hφ ξ
 refine gz h <| gx hK2 <| gq fun K3 hK3 => gB <| gr fun K4 hK4 => g0 (af rfl) rfl <| g0 (fF rfl rfl) rfl <| g0 (af rfl) rfl <| ge2 rfl rfl (fun hg => (Rd.of_nil (af rfl)).step) rfl <| ge2 rfl rfl (fun hg => (Rd.of_nil (af rfl)).step) rfl <| ge2 rfl rfl (fun hg => (Rd.of_nil (fF (aj rfl hg) (aj rfl hg))).step) rfl <| g0 (r_or rfl (fun e => (aj rfl (notI e)))) rfl <| g0 (ag rfl) rfl <| gn hK4 ?_; clear h ac wo; intro ac wo h
 refine cN h rfl (fun hc1 => ?_) (fun hc1 => ?_)
 ·
  refine gz h <| gr fun K5 hK5 => g0 (af rfl) rfl <| g0 (ag rfl) rfl <| gn hK5 <| gT ?_; clear h ac wo; intro ac wo h
  have hd : dg a b r = (aL a) := (cT hc1)
  exact ret h rfl (.tmp rfl .nil) rfl (h.retP (by rw [hd] <;> rfl) (by rw [hd]; exact by first | omega | exact d3 (by omega) (by omega)))
 ·
  refine gz h <| gr fun K6 hK6 => g0 (af rfl) rfl <| g0 (fF rfl rfl) rfl <| g0 (ag rfl) rfl <| gn hK6 ?_; clear h ac wo; intro ac wo h
  refine cN h rfl (fun hc2 => ?_) (fun hc2 => ?_)
  ·
   have hd2 := eq_of_beq hc2
   refine gz h <| gr fun K7 hK7 => g0 (af rfl) rfl <| g0 (ag rfl) rfl <| gn hK7 <| gT ?_; clear h ac wo; intro ac wo h
   have hd : dg a b r = ((aL b) * (aL r)) := (Eq.trans (cF hc1) (cT hc2))
   exact ret h rfl (.tmp rfl .nil) rfl (h.retP (by rw [hd] <;> rfl) (by rw [hd]; exact by first | omega | exact d3 (by omega) (by omega)))
  ·
   have hd2 := ne_of_beq_false hc2
   refine dM ?_
   refine ml ?_
   refine hK3 _ _ ?_
   refine cH fun K8 hK8 => ?_
   have s7 := aA ((bm a a (k + 6) (by omega) za za) w0)
   have s8 := aA ((bm b b (k + 6) (by omega) zb zb) w0)
   have s9 := aA ((bm (ar b b) r (k + 4) (by omega) s8 (ex zr (by omega))) w0)
   have p11 := aA ((fX (ar a a) (ar (ar b b) r) (k + 3) (by omega) (ex s7 (by omega)) s9) w0)
   refine cu mixed [dv _, dw _ [2], dw _ [2], dv _, dw _ [1], dw _ [1], dv _, dw _ [0], dv _, dv _, dv _, dv _] [⟨_, []⟩, ⟨_, []⟩, ⟨_, []⟩] h rfl (by kernel_rfl) ⟨fun _ _ => om rfl, fun _ _ => cM _ rfl rfl (aT aa40 zz40 rfl rfl rfl (v := (vQ a)) rfl), fun _ _ => cM _ rfl rfl (aT aa40 zz40 rfl rfl rfl (v := (vQ a)) rfl), fun _ _ => dU (cx cc101 rfl (bm a a (k + 6) (by omega) za za)), fun _ _ => cM _ rfl rfl (aT aa40 zz40 rfl rfl rfl (v := (vQ b)) rfl), fun _ _ => cM _ rfl rfl (aT aa40 zz40 rfl rfl rfl (v := (vQ b)) rfl), fun _ _ => dU (cx cc101 rfl (bm b b (k + 6) (by omega) zb zb)), fun _ _ => cM _ rfl rfl (aT aa40 zz40 rfl rfl rfl (v := (vQ r)) rfl), fun _ _ => dU (cx cc101 rfl (bm (ar b b) r (k + 4) (by omega) s8 (ex zr (by omega)))), fun _ _ => dU (cx Tryz.call198 rfl (fX (ar a a) (ar (ar b b) r) (k + 3) (by omega) (ex s7 (by omega)) s9)), fun _ _ => aw (jI rfl rfl (r := ((aL a) * (dc (ar a a) (ar (ar b b) r)))) (by first | (rw [IntKind.wrap_i64]; omega) | exact gi (by omega) (by omega))), fun _ _ => aw (ag rfl), trivial⟩ ?_
   clear h ac wo; intro ξ ac wo hφ h
   replace h : St w0 40 [(6, (.int .i64 ((aL a) * (dc (ar a a) (ar (ar b b) r)))))] [.blk b3 (cQ r) 40, .blk b2 (cQ b) 40, .blk b1 (cQ a) 40] ac wo := h.sub ⟨rfl, trivial⟩
   clear hφ ξ
   refine hK8 _ _ ?_
   refine fh ?_
   have hd : dg a b r = ((aL a) * (dc (ar a a) (ar (ar b b) r))) := (Eq.trans (cF hc1) (cF hc2))
   exact ret h rfl (.tmp rfl .nil) rfl (h.retP (by rw [hd] <;> rfl) (by rw [hd]; exact by first | omega | exact d3 (by omega) (by omega)))
def ax (x : GR) (y : GR) : Int :=
 bif ((((aL (bE (aQ y))) * (aL y.r)) == 0) || ((dg (an x.p y.p) (aQ x) x.r) == ((aL (bE (aQ y))) * (aL y.r)))) then
  (dg (an x.p y.p) (aQ x) x.r)
 else
  bif ((dg (an x.p y.p) (aQ x) x.r) == 0) then
   ((aL (bE (aQ y))) * (aL y.r))
  else
   ((dg (an x.p y.p) (aQ x) x.r) * (dg (an (aO (ar (an x.p y.p) (an x.p y.p)) x.r) y.r) (ar (aq 2) (ar (an x.p y.p) (aQ x))) x.r))
theorem bU (x : GR) (y : GR) (k : Nat) (hk : (k + 20) ≤ 40) (zx : SzR (k + 20) x) (zy : SzR (k + 20) y) (w0 : World) : Calls Tryz.prog 115 #[(vR x), (vR y)] w0 (ec w0 (.int .i64 (ax x y)) ((-1 ≤ (ax x y) ∧ (ax x y) ≤ 1))) := by
 refine enter (N := 65) (args := [(vR x), (vR y)]) Tryz.func115 rfl rfl ?_; intro ac h
 have s1 := aA ((cC x.p y.p (k + 17) (by omega) zx.1 zy.1) w0)
 have s2 := aA ((ft x (k + 20) (by omega) zx) w0)
 have s3 := aA ((ft y (k + 20) (by omega) zy) w0)
 have s4 := aA ((ff (aQ y) (k + 20) (by omega) s3) w0)
 refine dQ fun K1 hK1 => ?_
 refine bx h (cR x) rfl rfl rfl fun b1 => gb (cR y) rfl rfl rfl fun b2 => g0 (ag rfl) rfl <| gn hK1 <| gq fun K2 hK2 => ?_; clear h ac; intro ac wo h
 replace h := h.emps 3
 refine cu mixed [dv _, dw _ [1], dv _, dw _ [0], dv _, dw _ [1], dv _, dw _ [0], dv _, dv _, ⟨.nd (.one 10 fun v => ∃ b, v = ptr b 0), [2]⟩, ⟨.nd (.one 11 fun v => ∃ b, v = ptr b 0), [3]⟩, ⟨.nd (.one 12 fun v => ∃ b, v = ptr b 0), [4]⟩, ⟨.det undef, [2]⟩, ⟨.det undef, [3]⟩, ⟨.det undef, [4]⟩] [⟨_, []⟩, ⟨_, []⟩, ⟨.emp, [(10, .one 10 fun v => .blk (eu v) (cQ oQ) 40), (13, .one 10 fun v => .blk (eu v) (cQ (an x.p y.p)) 40)]⟩, ⟨.emp, [(11, .one 11 fun v => .blk (eu v) (cQ oQ) 40), (14, .one 11 fun v => .blk (eu v) (cQ (aQ x)) 40)]⟩, ⟨.emp, [(12, .one 12 fun v => .blk (eu v) (cQ oQ) 40), (15, .one 12 fun v => .blk (eu v) (cQ (bE (aQ y))) 40)]⟩] h rfl (by kernel_rfl) ⟨fun _ _ => aw (bH uu53 rfl zz40 (by decide) rfl rfl (k' := 0)), fun _ _ => cM _ rfl rfl (aT aa40 zz40 rfl rfl rfl (v := (vQ x.p)) rfl), fun _ _ => aw (bH uu53 rfl zz40 (by decide) rfl rfl (k' := 0)), fun _ _ => cM _ rfl rfl (aT aa40 zz40 rfl rfl rfl (v := (vQ y.p)) rfl), fun _ _ => dU (cx cc100 rfl (cC x.p y.p (k + 17) (by omega) zx.1 zy.1)), fun _ _ => cM _ rfl rfl (aT aa53 zz53 rfl rfl rfl (v := (vR x)) rfl), fun _ _ => dU (cx Tryz.call174 rfl (ft x (k + 20) (by omega) zx)), fun _ _ => cM _ rfl rfl (aT aa53 zz53 rfl rfl rfl (v := (vR y)) rfl), fun _ _ => dU (cx Tryz.call174 rfl (ft y (k + 20) (by omega) zy)), fun _ _ => dU (cx Tryz.call52 rfl (ff (aQ y) (k + 20) (by omega) s3)), fun _ _ => kx (ψ := fun v => ∃ b, v = ptr b 0) (B := fun v => [.blk (eu v) (cQ oQ) 40]) [.emp] rfl (fun v _ => by simp only [ef, bJ] <;> rfl) (fun v hv => by simpa [DF.one, bJ] using hv) (jo (iV vv40 rfl)), fun _ _ => kx (ψ := fun v => ∃ b, v = ptr b 0) (B := fun v => [.blk (eu v) (cQ oQ) 40]) [.emp] rfl (fun v _ => by simp only [ef, bJ] <;> rfl) (fun v hv => by simpa [DF.one, bJ] using hv) (jo (iV vv40 rfl)), fun _ _ => kx (ψ := fun v => ∃ b, v = ptr b 0) (B := fun v => [.blk (eu v) (cQ oQ) 40]) [.emp] rfl (fun v _ => by simp only [ef, bJ] <;> rfl) (fun v hv => by simpa [DF.one, bJ] using hv) (jo (iV vv40 rfl)), (fun ξ hφ => by obtain ⟨b3, hb10⟩ := hφ 10 rfl; exact g5 [.blk b3 (cQ oQ) 40] [.blk b3 (cQ (an x.p y.p)) 40] (congrArg (fun v => [Asn.blk (eu v) (cQ oQ) 40]) hb10) (congrArg (fun v => [Asn.blk (eu v) (cQ (an x.p y.p)) 40]) hb10) (iN zz40 (Eq.trans rfl (congrArg some hb10)) rfl rfl rfl rfl rfl rfl)), (fun ξ hφ => by obtain ⟨b4, hb11⟩ := hφ 11 rfl; exact g5 [.blk b4 (cQ oQ) 40] [.blk b4 (cQ (aQ x)) 40] (congrArg (fun v => [Asn.blk (eu v) (cQ oQ) 40]) hb11) (congrArg (fun v => [Asn.blk (eu v) (cQ (aQ x)) 40]) hb11) (iN zz40 (Eq.trans rfl (congrArg some hb11)) rfl rfl rfl rfl rfl rfl)), (fun ξ hφ => by obtain ⟨b5, hb12⟩ := hφ 12 rfl; exact g5 [.blk b5 (cQ oQ) 40] [.blk b5 (cQ (bE (aQ y))) 40] (congrArg (fun v => [Asn.blk (eu v) (cQ oQ) 40]) hb12) (congrArg (fun v => [Asn.blk (eu v) (cQ (bE (aQ y))) 40]) hb12) (iN zz40 (Eq.trans rfl (congrArg some hb12)) rfl rfl rfl rfl rfl rfl)), trivial⟩ ?_
 clear h ac wo; intro ξ ac wo hφ h
 replace h : St w0 65 [(2, (ptr b1 0)), (3, (ptr b2 0)), (5, ξ 10), (6, ξ 11), (7, ξ 12)] [.blk b2 (cR y) 53, .blk b1 (cR x) 53, .blk (eu (ξ 10)) (cQ (an x.p y.p)) 40, .blk (eu (ξ 11)) (cQ (aQ x)) 40, .blk (eu (ξ 12)) (cQ (bE (aQ y))) 40] ac wo := h.sub ⟨rfl, rfl, rfl, rfl, rfl, trivial⟩
 revert h
 obtain ⟨b3, hb10⟩ : ∃ b, ξ 10 = ptr b 0 := hφ 10
 obtain ⟨b4, hb11⟩ : ∃ b, ξ 11 = ptr b 0 := hφ 11
 obtain ⟨b5, hb12⟩ : ∃ b, ξ 12 = ptr b 0 := hφ 12
 rw [hb10, hb11, hb12]; intro h
 clear hb10 hb11 hb12 hφ ξ
 refine hK2 _ _ ?_
 refine cH fun K3 hK3 => ?_
 have p6 := aA ((gm (an x.p y.p) (aQ x) x.r (k + 9) (by omega) s1 (ex s2 (by omega)) (ed zx (by omega)).2) w0)
 have p8 := aA ((cW (bE (aQ y))) w0)
 have p10 := aA ((cW y.r) w0)
 refine cu mixed [dw _ [2], dw _ [3], dv _, dw _ [1], dv _, dw _ [4], dv _, dv _, dw _ [0], dv _, dv _, dv _, dv _] [⟨_, []⟩, ⟨_, []⟩, ⟨_, []⟩, ⟨_, []⟩, ⟨_, []⟩] h rfl (by kernel_rfl) ⟨fun _ _ => cM _ rfl rfl (aT aa40 zz40 rfl rfl rfl (v := (vQ (an x.p y.p))) rfl), fun _ _ => cM _ rfl rfl (aT aa40 zz40 rfl rfl rfl (v := (vQ (aQ x))) rfl), fun _ _ => aw (bH uu53 rfl zz40 (by decide) rfl rfl (k' := 4)), fun _ _ => cM _ rfl rfl (aT aa40 zz40 rfl rfl rfl (v := (vQ x.r)) rfl), fun _ _ => dU (cx Tryz.call175 rfl (gm (an x.p y.p) (aQ x) x.r (k + 9) (by omega) s1 (ex s2 (by omega)) (ed zx (by omega)).2)), fun _ _ => cM _ rfl rfl (aT aa40 zz40 rfl rfl rfl (v := (vQ (bE (aQ y)))) rfl), fun _ _ => dU (cx cc58 rfl (cW (bE (aQ y)))), fun _ _ => aw (bH uu53 rfl zz40 (by decide) rfl rfl (k' := 4)), fun _ _ => cM _ rfl rfl (aT aa40 zz40 rfl rfl rfl (v := (vQ y.r)) rfl), fun _ _ => dU (cx cc58 rfl (cW y.r)), fun _ _ => aw (jI rfl rfl (r := ((aL (bE (aQ y))) * (aL y.r))) (by first | (rw [IntKind.wrap_i64]; omega) | exact gi (by omega) (by omega))), fun _ _ => aw (ag rfl), fun _ _ => aw (ag rfl), trivial⟩ ?_
 clear h ac wo; intro ξ ac wo hφ h
 replace h : St w0 65 [(2, (ptr b1 0)), (3, (ptr b2 0)), (5, (ptr b3 0)), (6, (ptr b4 0)), (8, (.int .i64 (dg (an x.p y.p) (aQ x) x.r))), (9, (.int .i64 ((aL (bE (aQ y))) * (aL y.r))))] [.blk b2 (cR y) 53, .blk b1 (cR x) 53, .blk b3 (cQ (an x.p y.p)) 40, .blk b4 (cQ (aQ x)) 40, .blk b5 (cQ (bE (aQ y))) 40] ac wo := h.sub ⟨rfl, rfl, rfl, rfl, rfl, rfl, trivial⟩
 clear hφ ξ
 refine gz h <| gx hK3 <| gq fun K4 hK4 => gB <| gr fun K5 hK5 => g0 (af rfl) rfl <| g0 (fF rfl rfl) rfl <| g0 (af rfl) rfl <| ge2 rfl rfl (fun hg => (Rd.of_nil (af rfl)).step) rfl <| ge2 rfl rfl (fun hg => (Rd.of_nil (af rfl)).step) rfl <| ge2 rfl rfl (fun hg => (Rd.of_nil (fF (aj rfl hg) (aj rfl hg))).step) rfl <| g0 (r_or rfl (fun e => (aj rfl (notI e)))) rfl <| g0 (ag rfl) rfl <| gn hK5 ?_; clear h ac wo; intro ac wo h
 refine cN h rfl (fun hc1 => ?_) (fun hc1 => ?_)
 ·
  refine gz h <| gr fun K6 hK6 => g0 (af rfl) rfl <| g0 (ag rfl) rfl <| gn hK6 <| gT ?_; clear h ac wo; intro ac wo h
  have hd : ax x y = (dg (an x.p y.p) (aQ x) x.r) := (cT hc1)
  exact ret h rfl (.tmp rfl .nil) rfl (h.retP (by rw [hd] <;> rfl) (by rw [hd]; exact by first | omega | exact d3 (by omega) (by omega)))
 ·
  refine gz h <| gr fun K7 hK7 => g0 (af rfl) rfl <| g0 (fF rfl rfl) rfl <| g0 (ag rfl) rfl <| gn hK7 ?_; clear h ac wo; intro ac wo h
  refine cN h rfl (fun hc2 => ?_) (fun hc2 => ?_)
  ·
   have hd2 := eq_of_beq hc2
   refine gz h <| gr fun K8 hK8 => g0 (af rfl) rfl <| g0 (ag rfl) rfl <| gn hK8 <| gT ?_; clear h ac wo; intro ac wo h
   have hd : ax x y = ((aL (bE (aQ y))) * (aL y.r)) := (Eq.trans (cF hc1) (cT hc2))
   exact ret h rfl (.tmp rfl .nil) rfl (h.retP (by rw [hd] <;> rfl) (by rw [hd]; exact by first | omega | exact d3 (by omega) (by omega)))
  ·
   have hd2 := ne_of_beq_false hc2
   refine dM ?_
   refine ml ?_
   refine hK4 _ _ ?_
   refine cH fun K9 hK9 => ?_
   have s11 := aA ((bm (an x.p y.p) (an x.p y.p) (k + 15) (by omega) s1 s1) w0)
   have s12 := aA ((ck (ar (an x.p y.p) (an x.p y.p)) x.r (k + 12) (by omega) s11 (ed zx (by omega)).2) w0)
   have s13 := aA ((cC (aO (ar (an x.p y.p) (an x.p y.p)) x.r) y.r (k + 9) (by omega) s12 (ed zy (by omega)).2) w0)
   replace h := h.emps 1
   refine cu mixed [dw _ [2], dw _ [2], dv _, dv _, dw _ [1], dv _, dv _, dw _ [0], dv _, ⟨.nd (.one 9 fun v => ∃ b, v = ptr b 0), [5]⟩, ⟨.det undef, [5]⟩] [⟨_, []⟩, ⟨_, []⟩, ⟨_, []⟩, ⟨_, []⟩, ⟨_, []⟩, ⟨.emp, [(9, .one 9 fun v => .blk (eu v) (cQ oQ) 40), (10, .one 9 fun v => .blk (eu v) (cQ (an (aO (ar (an x.p y.p) (an x.p y.p)) x.r) y.r)) 40)]⟩] h rfl (by kernel_rfl) ⟨fun _ _ => cM _ rfl rfl (aT aa40 zz40 rfl rfl rfl (v := (vQ (an x.p y.p))) rfl), fun _ _ => cM _ rfl rfl (aT aa40 zz40 rfl rfl rfl (v := (vQ (an x.p y.p))) rfl), fun _ _ => dU (cx cc101 rfl (bm (an x.p y.p) (an x.p y.p) (k + 15) (by omega) s1 s1)), fun _ _ => aw (bH uu53 rfl zz40 (by decide) rfl rfl (k' := 4)), fun _ _ => cM _ rfl rfl (aT aa40 zz40 rfl rfl rfl (v := (vQ x.r)) rfl), fun _ _ => dU (cx cc102 rfl (ck (ar (an x.p y.p) (an x.p y.p)) x.r (k + 12) (by omega) s11 (ed zx (by omega)).2)), fun _ _ => aw (bH uu53 rfl zz40 (by decide) rfl rfl (k' := 4)), fun _ _ => cM _ rfl rfl (aT aa40 zz40 rfl rfl rfl (v := (vQ y.r)) rfl), fun _ _ => dU (cx cc100 rfl (cC (aO (ar (an x.p y.p) (an x.p y.p)) x.r) y.r (k + 9) (by omega) s12 (ed zy (by omega)).2)), fun _ _ => kx (ψ := fun v => ∃ b, v = ptr b 0) (B := fun v => [.blk (eu v) (cQ oQ) 40]) [.emp] rfl (fun v _ => by simp only [ef, bJ] <;> rfl) (fun v hv => by simpa [DF.one, bJ] using hv) (jo (iV vv40 rfl)), (fun ξ hφ => by obtain ⟨b6, hb9⟩ := hφ 9 rfl; exact g5 [.blk b6 (cQ oQ) 40] [.blk b6 (cQ (an (aO (ar (an x.p y.p) (an x.p y.p)) x.r) y.r)) 40] (congrArg (fun v => [Asn.blk (eu v) (cQ oQ) 40]) hb9) (congrArg (fun v => [Asn.blk (eu v) (cQ (an (aO (ar (an x.p y.p) (an x.p y.p)) x.r) y.r)) 40]) hb9) (iN zz40 (Eq.trans rfl (congrArg some hb9)) rfl rfl rfl rfl rfl rfl)), trivial⟩ ?_
   clear h ac wo; intro ξ ac wo hφ h
   replace h : St w0 65 [(2, (ptr b1 0)), (5, (ptr b3 0)), (6, (ptr b4 0)), (8, (.int .i64 (dg (an x.p y.p) (aQ x) x.r))), (10, ξ 9)] [.blk b2 (cR y) 53, .blk b1 (cR x) 53, .blk b3 (cQ (an x.p y.p)) 40, .blk b4 (cQ (aQ x)) 40, .blk b5 (cQ (bE (aQ y))) 40, .blk (eu (ξ 9)) (cQ (an (aO (ar (an x.p y.p) (an x.p y.p)) x.r) y.r)) 40] ac wo := h.sub ⟨rfl, rfl, rfl, rfl, rfl, trivial⟩
   revert h
   obtain ⟨b6, hb9⟩ : ∃ b, ξ 9 = ptr b 0 := hφ 9
   rw [hb9]; intro h
   clear hb9 hφ ξ
   refine hK9 _ _ ?_
   refine cH fun K10 hK10 => ?_
   have s14 := aA ((cm 2 (k + 20) (by omega)  (by omega)) w0)
   have s15 := aA ((bm (an x.p y.p) (aQ x) (k + 15) (by omega) s1 (ex s2 (by omega))) w0)
   have s16 := aA ((bm (aq 2) (ar (an x.p y.p) (aQ x)) (k + 13) (by omega) (ex s14 (by omega)) s15) w0)
   have p18 := aA ((gm (an (aO (ar (an x.p y.p) (an x.p y.p)) x.r) y.r) (ar (aq 2) (ar (an x.p y.p) (aQ x))) x.r (k + 1) (by omega) s13 (ex s16 (by omega)) (ed zx (by omega)).2) w0)
   refine cu mixed [dv _, dw _ [5], dv _, dw _ [2], dw _ [3], dv _, dv _, dv _, dw _ [1], dv _, dv _, dv _] [⟨_, []⟩, ⟨_, []⟩, ⟨_, []⟩, ⟨_, []⟩, ⟨_, []⟩, ⟨_, []⟩] h rfl (by kernel_rfl) ⟨fun _ _ => om rfl, fun _ _ => cM _ rfl rfl (aT aa40 zz40 rfl rfl rfl (v := (vQ (an (aO (ar (an x.p y.p) (an x.p y.p)) x.r) y.r))) rfl), fun _ _ => dU (cx cc45 rfl (cm 2 (k + 20) (by omega)  (by omega))), fun _ _ => cM _ rfl rfl (aT aa40 zz40 rfl rfl rfl (v := (vQ (an x.p y.p))) rfl), fun _ _ => cM _ rfl rfl (aT aa40 zz40 rfl rfl rfl (v := (vQ (aQ x))) rfl), fun _ _ => dU (cx cc101 rfl (bm (an x.p y.p) (aQ x) (k + 15) (by omega) s1 (ex s2 (by omega)))), fun _ _ => dU (cx cc101 rfl (bm (aq 2) (ar (an x.p y.p) (aQ x)) (k + 13) (by omega) (ex s14 (by omega)) s15)), fun _ _ => aw (bH uu53 rfl zz40 (by decide) rfl rfl (k' := 4)), fun _ _ => cM _ rfl rfl (aT aa40 zz40 rfl rfl rfl (v := (vQ x.r)) rfl), fun _ _ => dU (cx Tryz.call175 rfl (gm (an (aO (ar (an x.p y.p) (an x.p y.p)) x.r) y.r) (ar (aq 2) (ar (an x.p y.p) (aQ x))) x.r (k + 1) (by omega) s13 (ex s16 (by omega)) (ed zx (by omega)).2)), fun _ _ => aw (jI rfl rfl (r := ((dg (an x.p y.p) (aQ x) x.r) * (dg (an (aO (ar (an x.p y.p) (an x.p y.p)) x.r) y.r) (ar (aq 2) (ar (an x.p y.p) (aQ x))) x.r))) (by first | (rw [IntKind.wrap_i64]; omega) | exact gi (by omega) (by omega))), fun _ _ => aw (ag rfl), trivial⟩ ?_
   clear h ac wo; intro ξ ac wo hφ h
   replace h : St w0 65 [(4, (.int .i64 ((dg (an x.p y.p) (aQ x) x.r) * (dg (an (aO (ar (an x.p y.p) (an x.p y.p)) x.r) y.r) (ar (aq 2) (ar (an x.p y.p) (aQ x))) x.r))))] [.blk b2 (cR y) 53, .blk b1 (cR x) 53, .blk b3 (cQ (an x.p y.p)) 40, .blk b4 (cQ (aQ x)) 40, .blk b5 (cQ (bE (aQ y))) 40, .blk b6 (cQ (an (aO (ar (an x.p y.p) (an x.p y.p)) x.r) y.r)) 40] ac wo := h.sub ⟨rfl, trivial⟩
   clear hφ ξ
   refine hK10 _ _ ?_
   refine fh ?_
   have hd : ax x y = ((dg (an x.p y.p) (aQ x) x.r) * (dg (an (aO (ar (an x.p y.p) (an x.p y.p)) x.r) y.r) (ar (aq 2) (ar (an x.p y.p) (aQ x))) x.r)) := (Eq.trans (cF hc1) (cF hc2))
   exact ret h rfl (.tmp rfl .nil) rfl (h.retP (by rw [hd] <;> rfl) (by rw [hd]; exact by first | omega | exact d3 (by omega) (by omega)))
def ch (n : Int) : GR :=
 (⟨(aq n), (⟨(⟨false, 0⟩ : GI), (⟨false, 0⟩ : GI)⟩ : GQ), false⟩ : GR)
theorem j0 (n : Int) (k : Nat) (hk : k ≤ 40) (hn : -9223372036854775808 ≤ n ∧ n ≤ 9223372036854775807) (w0 : World) : Calls Tryz.prog 156 #[(.int .i64 n)] w0 (ec w0 (vR (ch n)) (SzR k (ch n))) := by
 refine enter (N := 6) (args := [(.int .i64 n)]) Tryz.func156 rfl rfl ?_; intro ac h
 have c1 := cm n k (by omega)  (by omega)
 have s1 := aA (c1 w0)
 refine dQ fun K1 hK1 => ?_
 refine al h (cR (⟨oQ, oQ, false⟩ : GR)) Tryz.zeroValue53 rfl rfl fun b1 => gn hK1 <| gr fun K2 hK2 => g0 (af rfl) rfl <| gl cc45 rfl c1 rfl <| g0 (bK bld53 rfl rfl (v := (vR (⟨(aq n), oQ, false⟩ : GR))) rfl) rfl <| gs 0 (cR (⟨(aq n), oQ, false⟩ : GR)) rfl zz53 rfl rfl rfl rfl rfl rfl rfl <| gn hK2 <| gT ?_; clear h ac; intro ac wo h
 exact ret h rfl (.cell (v := (vR (⟨(aq n), oQ, false⟩ : GR))) rfl (i := 0) rfl aa53 zz53 rfl rfl rfl .nil) rfl (h.retP (by unfold ch; rfl) (by unfold ch; exact ⟨s1, ⟨(es 0 (by decide) (by omega)), (es 0 (by decide) (by omega))⟩⟩))
def aC (i : Iv) : Bool :=
 (decide (i.lo = i.hi))
theorem bS (i : Iv) (w0 : World) : Calls Tryz.prog 83 #[(vV i)] w0 (ec w0 (.bool (aC i)) (True)) := by
 refine enter (N := 8) (args := [(vV i)]) Tryz.func83 rfl rfl ?_; intro ac h
 refine dQ fun K1 hK1 => ?_
 refine bx h (cV i) rfl rfl rfl fun b1 => g0 (ag rfl) rfl <| gn hK1 <| gr fun K2 hK2 => g0 (bH uu55 rfl zz53 (by decide) rfl rfl (k' := 0)) rfl <| g1 0 rfl (aT aa53 zz53 rfl rfl rfl (v := (vR i.lo)) rfl) rfl <| g0 (bH uu55 rfl zz53 (by decide) rfl rfl (k' := 9)) rfl <| g1 0 rfl (aT aa53 zz53 rfl rfl rfl (v := (vR i.hi)) rfl) rfl <| g0 (eF jz rfl rfl) rfl <| g0 (ag rfl) rfl <| gn hK2 <| gT ?_; clear h ac; intro ac wo h
 exact ret h rfl (.tmp rfl .nil) rfl (h.retP (by unfold aC; rfl) trivial)
def bu (a : Iv) (b : Iv) : Bool :=
 ((decide ((ax a.hi b.lo) < 0)) || (((ax a.hi b.lo) == 0) && (a.openHi || b.openLo)))
theorem im (a : Iv) (b : Iv) (k : Nat) (hk : (k + 20) ≤ 40) (za : SzV (k + 20) a) (zb : SzV (k + 20) b) (w0 : World) : Calls Tryz.prog 81 #[(vV a), (vV b)] w0 (ec w0 (.bool (bu a b)) (True)) := by
 refine enter (N := 25) (args := [(vV a), (vV b)]) Tryz.func81 rfl rfl ?_; intro ac h
 have p2 := aA ((bU a.hi b.lo k (by omega) za.2 zb.1) w0)
 refine dQ fun K1 hK1 => ?_
 refine bx h (cV a) rfl rfl rfl fun b1 => gb (cV b) rfl rfl rfl fun b2 => g0 (ag rfl) rfl <| gn hK1 <| gr fun K2 hK2 => g0 (bH uu55 rfl zz53 (by decide) rfl rfl (k' := 9)) rfl <| g1 1 rfl (aT aa53 zz53 rfl rfl rfl (v := (vR a.hi)) rfl) rfl <| g0 (bH uu55 rfl zz53 (by decide) rfl rfl (k' := 0)) rfl <| g1 0 rfl (aT aa53 zz53 rfl rfl rfl (v := (vR b.lo)) rfl) rfl <| gl Tryz.call115 rfl (bU a.hi b.lo k (by omega) za.2 zb.1) rfl <| g0 (ag rfl) rfl <| gn hK2 <| gr fun K3 hK3 => g0 (af rfl) rfl <| g0 (dx rfl rfl) rfl <| g0 (af rfl) rfl <| ge2 rfl rfl (fun hg => (Rd.of_nil (af rfl)).step) rfl <| ge2 rfl rfl (fun hg => (Rd.of_nil (fF (aj rfl hg) rfl)).step) rfl <| ge2 rfl rfl (fun hg => (Rd.of_nil (af (aj rfl hg))).step) rfl <| ge3 rfl rfl (fun hg => (Rd.of_nil (bH uu55 rfl zz4 (by decide) rfl rfl (k' := 19))).step) rfl <| ge3 rfl rfl (fun hg => (Rd.of_mem (i := 1) (aT aa4 zz4 (aj rfl hg) rfl rfl (v := (.bool a.openHi)) rfl) rfl).step) rfl <| ge3 rfl rfl (fun hg => (Rd.of_nil (af (aj rfl hg))).step) rfl <| ge4 rfl rfl (fun hg => (Rd.of_nil (bH uu55 rfl zz4 (by decide) rfl rfl (k' := 18))).step) rfl <| ge4 rfl rfl (fun hg => (Rd.of_mem (i := 0) (aT aa4 zz4 (aj rfl hg) rfl rfl (v := (.bool b.openLo)) rfl) rfl).step) rfl <| ge3 rfl rfl (fun hg => (Rd.of_nil (r_or (aj rfl hg) (fun e => (aj rfl (andI hg (notI e)))))).step) rfl <| ge2 rfl rfl (fun hg => (Rd.of_nil (df (aj rfl hg) (fun e => (aj rfl (andI hg e))))).step) rfl <| g0 (r_or rfl (fun e => (aj rfl (notI e)))) rfl <| g0 (ag rfl) rfl <| gn hK3 <| gT ?_; clear h ac; intro ac wo h
 exact ret h rfl (.tmp rfl .nil) rfl (h.retP (by unfold bu; rfl) trivial)
end Go.Sx
