/- A part of the proof that the law PiecesKinds answers true at every input and leaves its arguments as they were. -/
import Derived.Test.YtnkaneggnjallaaGreatDoorProg
import Derived.Test.YtnkaneggnjallaaGreatDoorGdiv
set_option linter.unusedVariables false
set_option linter.unusedSimpArgs false
open Go.Proofs.Tryz renaming isAgg4 → aa4, underlying4 → nn4, isAgg9 → aa9, isAgg38 → aa38, sizeOf38 → zz38, isAgg40 → aa40, sizeOf40 → zz40, runUnderlying38 → uu38, sizeOf9 → zz9, sizeOf4 → zz4, zeroValue38 → vv38, call172 → cc172, call124 → cc124, call192 → cc192, zeroValue40 → vv40, runUnderlying40 → uu40, call164 → cc164, call118 → cc118, call188 → cc188, call159 → cc159, call158 → cc158, call102 → cc102, zeroValue69 → vv69, sizeOf69 → zz69, isAgg69 → aa69, runUnderlying69 → uu69, call100 → cc100, call101 → cc101, runUnderlying53 → uu53, isAgg53 → aa53, sizeOf53 → zz53, call31 → cc31, call45 → cc45, call58 → cc58, runUnderlying55 → uu55, runUnderlying42 → uu42
namespace Go.Sx
open Go Go.RowKit Go.Proofs
set_option maxRecDepth 100000
theorem eqi38 : EqIn Tryz.prog 2 38 vI := eqS (c := cI) (fun _ => rfl) Tryz.underlying38 Tryz.stoodInHeld38 fun d x y w hd => by
 refine Eq.trans (eqF (by decide) (ig aa4 rfl w) (ig aa4 rfl w) (eqB nn4 d (by omega) _ _ w) (eqF (by decide) (ig aa9 rfl w) (ig aa9 rfl w) (eqBs Tryz.underlying9 d (by omega) _ _ w) eqF0)) ?_
 congr 1
 rw [decide_eq_decide]
 cases x; cases y; simp
theorem eqp38 : EqP Tryz.prog 38 vI := EqIn.p (k := 2) rfl (c := fun x => (cI x).toArray) (fun _ => rfl) Tryz.eqGuardType38 eqi38
theorem mK : EqIn Tryz.prog 3 40 vQ := eqS (c := cQ) (fun _ => rfl) Tryz.underlying40 Tryz.stoodInHeld40 fun d x y w hd => by
 refine Eq.trans (eqF (by decide) (ec aa38 zz38 (v := vI (x.num)) rfl w) (ec aa38 zz38 (v := vI (y.num)) rfl w) (eqi38 d _ _ w (by omega)) (eqF (by decide) (ec aa38 zz38 (v := vI (x.den)) rfl w) (ec aa38 zz38 (v := vI (y.den)) rfl w) (eqi38 d _ _ w (by omega)) eqF0)) ?_
 congr 1
 rw [decide_eq_decide]
 cases x; cases y; simp
theorem eqp40 : EqP Tryz.prog 40 vQ := EqIn.p (k := 3) rfl (c := fun x => (cQ x).toArray) (fun _ => rfl) Tryz.eqGuardType40 mK
theorem eqi53 : EqIn Tryz.prog 4 53 vR := eqS (c := cR) (fun _ => rfl) Tryz.underlying53 Tryz.stoodInHeld53 fun d x y w hd => by
 refine Eq.trans (eqF (by decide) (ec aa40 zz40 (v := vQ (x.p)) rfl w) (ec aa40 zz40 (v := vQ (y.p)) rfl w) (mK d _ _ w (by omega)) (eqF (by decide) (ec aa40 zz40 (v := vQ (x.r)) rfl w) (ec aa40 zz40 (v := vQ (y.r)) rfl w) (mK d _ _ w (by omega)) (eqF (by decide) (ig aa4 rfl w) (ig aa4 rfl w) (eqB nn4 d (by omega) _ _ w) eqF0))) ?_
 congr 1
 rw [decide_eq_decide]
 cases x; cases y; simp
theorem jT : EqP Tryz.prog 53 vR := EqIn.p (k := 4) rfl (c := fun x => (cR x).toArray) (fun _ => rfl) Tryz.eqGuardType53 eqi53
theorem eqi69 : EqIn Tryz.prog 4 69 vD := eqS (c := cD) (fun _ => rfl) Tryz.underlying69 Tryz.stoodInHeld69 fun d x y w hd => by
 refine Eq.trans (eqF (by decide) (ec aa40 zz40 (v := vQ (x.c0)) rfl w) (ec aa40 zz40 (v := vQ (y.c0)) rfl w) (mK d _ _ w (by omega)) (eqF (by decide) (ec aa40 zz40 (v := vQ (x.c1)) rfl w) (ec aa40 zz40 (v := vQ (y.c1)) rfl w) (mK d _ _ w (by omega)) (eqF (by decide) (ec aa40 zz40 (v := vQ (x.c2)) rfl w) (ec aa40 zz40 (v := vQ (y.c2)) rfl w) (mK d _ _ w (by omega)) eqF0))) ?_
 congr 1
 rw [decide_eq_decide]
 cases x; cases y; simp
theorem ra : EqP Tryz.prog 69 vD := EqIn.p (k := 4) rfl (c := fun x => (cD x).toArray) (fun _ => rfl) Tryz.eqGuardType69 eqi69
def dE (a : GI) : Int :=
 bif (decide (a.mag = 0)) then
  0
 else
  bif a.neg then
   (-1)
  else
   1
theorem eI (a : GI) (w0 : World) : Calls Tryz.prog 124 #[(vI a)] w0 (eX w0 (.int .i64 (dE a)) ((-1 ≤ (dE a) ∧ (dE a) ≤ 1))) := by
 refine enter (N := 10) (args := [(vI a)]) Tryz.func124 rfl rfl ?_; intro ac h
 refine eq fun K1 hK1 => ?_
 refine bx h (cI a) rfl rfl rfl fun b1 => g0 (ak rfl) rfl <| gn hK1 <| gq fun K2 hK2 => gB <| gr fun K3 hK3 => g0 (fa uu38 rfl zz9 rfl rfl rfl (k' := 1)) rfl <| g1 0 rfl (aV aa9 zz9 rfl rfl rfl (v := (.string (bs a.mag))) rfl) rfl <| g0 (qC rfl rfl (m := a.mag) (n := 0)) rfl <| g0 (ak rfl) rfl <| gn hK3 ?_; clear h ac; intro ac wo h
 refine db h rfl (fun hc1 => ?_) (fun hc1 => ?_)
 ·
  have hd1 := of_decide_eq_true hc1
  refine gz h <| gr fun K4 hK4 => g0 (ak rfl) rfl <| gn hK4 <| gT ?_; clear h ac wo; intro ac wo h
  have hd : dE a = 0 := (cT hc1)
  exact ret h rfl (.tmp rfl .nil) rfl (h.retP (by rw [hd] <;> rfl) (by rw [hd]; exact by first | omega | exact eZ (by omega) (by omega)))
 ·
  have hd1 := of_decide_eq_false hc1
  refine gz h <| gr fun K5 hK5 => g0 (fa uu38 rfl zz4 rfl rfl rfl (k' := 0)) rfl <| g1 0 rfl (aV aa4 zz4 rfl rfl rfl (v := (.bool a.neg)) rfl) rfl <| g0 (ak rfl) rfl <| gn hK5 ?_; clear h ac wo; intro ac wo h
  refine db h rfl (fun hc2 => ?_) (fun hc2 => ?_)
  ·
   refine gz h <| gr fun K6 hK6 => g0 (ak rfl) rfl <| gn hK6 <| gT ?_; clear h ac wo; intro ac wo h
   have hd : dE a = (-1) := (Eq.trans (cF hc1) (cT hc2))
   exact ret h rfl (.tmp rfl .nil) rfl (h.retP (by rw [hd] <;> rfl) (by rw [hd]; exact by first | omega | exact eZ (by omega) (by omega)))
  ·
   refine gz h <| gS <| gN <| gx hK2 <| gr fun K7 hK7 => g0 (ak rfl) rfl <| gn hK7 <| gT ?_; clear h ac wo; intro ac wo h
   have hd : dE a = 1 := (Eq.trans (cF hc1) (cF hc2))
   exact ret h rfl (.tmp rfl .nil) rfl (h.retP (by rw [hd] <;> rfl) (by rw [hd]; exact by first | omega | exact eZ (by omega) (by omega)))
def aw (a : GI) : GI :=
 (aZ (!a.neg) a.mag)
theorem eS (a : GI) (k : Nat) (hk : k ≤ 40) (za : SzI k a) (w0 : World) : Calls Tryz.prog 118 #[(vI a)] w0 (eX w0 (vI (aw a)) (SzI k (aw a))) := by
 refine enter (N := 9) (args := [(vI a)]) Tryz.func118 rfl rfl ?_; intro ac h
 have c1 := cE (!a.neg) a.mag k (by omega) za
 have s1 := aJ (c1 w0)
 refine eq fun K1 hK1 => ?_
 refine bx h (cI a) rfl rfl rfl fun b1 => ga (cI (⟨false, 0⟩ : GI)) vv38 rfl rfl fun b2 => gn hK1 <| gr fun K2 hK2 => g0 (fa uu38 rfl zz4 rfl rfl rfl (k' := 0)) rfl <| g1 1 rfl (aV aa4 zz4 rfl rfl rfl (v := (.bool a.neg)) rfl) rfl <| g0 (er rfl) rfl <| g0 (fa uu38 rfl zz9 rfl rfl rfl (k' := 1)) rfl <| g1 1 rfl (aV aa9 zz9 rfl rfl rfl (v := (.string (bs a.mag))) rfl) rfl <| gl cc172 rfl c1 rfl <| gs 0 (cI (aZ (!a.neg) a.mag)) rfl zz38 rfl rfl rfl rfl rfl rfl rfl <| gn hK2 <| gT ?_; clear h ac; intro ac wo h
 exact ret h rfl (.cell (v := (vI (aZ (!a.neg) a.mag))) rfl (i := 0) rfl aa38 zz38 rfl rfl rfl .nil) rfl (h.retP (by unfold aw; rfl) (by unfold aw; exact s1))
def eJ (a : GI) (b : GI) : Int :=
 bif (a.neg != b.neg) then
  (du (dE a) (dE b))
 else
  bif a.neg then
   -(bL a.mag b.mag)
  else
   (bL a.mag b.mag)
theorem jm (a : GI) (b : GI) (k : Nat) (hk : k ≤ 40) (za : SzI k a) (zb : SzI k b) (w0 : World) : Calls Tryz.prog 163 #[(vI a), (vI b)] w0 (eX w0 (.int .i64 (eJ a b)) ((-1 ≤ (eJ a b) ∧ (eJ a b) ≤ 1))) := by
 refine enter (N := 26) (args := [(vI a), (vI b)]) Tryz.func163 rfl rfl ?_; intro ac h
 refine eq fun K1 hK1 => ?_
 refine bx h (cI a) rfl rfl rfl fun b1 => gb (cI b) rfl rfl rfl fun b2 => g0 (ak rfl) rfl <| gn hK1 <| gq fun K2 hK2 => gr fun K3 hK3 => g0 (fa uu38 rfl zz4 rfl rfl rfl (k' := 0)) rfl <| g1 1 rfl (aV aa4 zz4 rfl rfl rfl (v := (.bool a.neg)) rfl) rfl <| g0 (fa uu38 rfl zz4 rfl rfl rfl (k' := 0)) rfl <| g1 0 rfl (aV aa4 zz4 rfl rfl rfl (v := (.bool b.neg)) rfl) rfl <| g0 (o8 nn4 rfl rfl) rfl <| gn hK3 ?_; clear h ac; intro ac wo h
 refine db h rfl (fun hc1 => ?_) (fun hc1 => ?_)
 ·
  refine cG fun K4 hK4 => ?_
  have p2 := aJ ((eI a) w0)
  have p4 := aJ ((eI b) w0)
  have p6 := aJ ((gi (dE a) (dE b)) w0)
  refine cj mixed [dw _ [1], dv _, dw _ [0], dv _, dv _, dv _] [⟨_, []⟩, ⟨_, []⟩] h rfl (by kernel_rfl) ⟨fun _ _ => cK _ rfl rfl (aV aa38 zz38 rfl rfl rfl (v := (vI a)) rfl), fun _ _ => eC (dK cc124 rfl (eI a)), fun _ _ => cK _ rfl rfl (aV aa38 zz38 rfl rfl rfl (v := (vI b)) rfl), fun _ _ => eC (dK cc124 rfl (eI b)), fun _ _ => eC (dK Tryz.call149 rfl (gi (dE a) (dE b))), fun _ _ => az (ak rfl), trivial⟩ ?_
  clear h ac wo; intro ξ ac wo hφ h
  replace h : St w0 26 [(4, (.int .i64 (du (dE a) (dE b))))] [.blk b2 (cI b) 38, .blk b1 (cI a) 38] ac wo := h.sub ⟨rfl, trivial⟩
  clear hφ ξ
  refine hK4 _ _ ?_
  refine fU ?_
  have hd : eJ a b = (du (dE a) (dE b)) := (cT hc1)
  exact ret h rfl (.tmp rfl .nil) rfl (h.retP (by rw [hd] <;> rfl) (by rw [hd]; exact by first | omega | exact eZ (by omega) (by omega)))
 ·
  have p8 := aJ ((eL a.mag b.mag) w0)
  refine gz h <| gS <| gx hK2 <| gr fun K5 hK5 => g0 (fa uu38 rfl zz9 rfl rfl rfl (k' := 1)) rfl <| g1 1 rfl (aV aa9 zz9 rfl rfl rfl (v := (.string (bs a.mag))) rfl) rfl <| g0 (fa uu38 rfl zz9 rfl rfl rfl (k' := 1)) rfl <| g1 0 rfl (aV aa9 zz9 rfl rfl rfl (v := (.string (bs b.mag))) rfl) rfl <| gl Tryz.call191 rfl (eL a.mag b.mag) rfl <| g0 (ak rfl) rfl <| gn hK5 <| gq fun K6 hK6 => gr fun K7 hK7 => g0 (fa uu38 rfl zz4 rfl rfl rfl (k' := 0)) rfl <| g1 1 rfl (aV aa4 zz4 rfl rfl rfl (v := (.bool a.neg)) rfl) rfl <| gn hK7 ?_; clear h ac wo; intro ac wo h
  refine db h rfl (fun hc2 => ?_) (fun hc2 => ?_)
  ·
   refine gz h <| gr fun K8 hK8 => g0 (aj rfl) rfl <| g0 (r_neg rfl (r := -(bL a.mag b.mag)) (by rw [IntKind.wrap_i64]; omega)) rfl <| g0 (ak rfl) rfl <| gn hK8 <| gT ?_; clear h ac wo; intro ac wo h
   have hd : eJ a b = -(bL a.mag b.mag) := (Eq.trans (cF hc1) (cT hc2))
   exact ret h rfl (.tmp rfl .nil) rfl (h.retP (by rw [hd] <;> rfl) (by rw [hd]; exact by first | omega | exact eZ (by omega) (by omega)))
  ·
   refine gz h <| gS <| gx hK6 <| gr fun K9 hK9 => g0 (aj rfl) rfl <| g0 (ak rfl) rfl <| gn hK9 <| gT ?_; clear h ac wo; intro ac wo h
   have hd : eJ a b = (bL a.mag b.mag) := (Eq.trans (cF hc1) (cF hc2))
   exact ret h rfl (.tmp rfl .nil) rfl (h.retP (by rw [hd] <;> rfl) (by rw [hd]; exact by first | omega | exact eZ (by omega) (by omega)))
def eU (a : GI) (b : GI) : GI :=
 bif (a.neg == b.neg) then
  (aZ a.neg (d3 a.mag b.mag))
 else
  bif (decide ((bL a.mag b.mag) ≥ 0)) then
   (aZ a.neg (cM a.mag b.mag))
  else
   (aZ b.neg (cM b.mag a.mag))
theorem kK (a : GI) (b : GI) (k : Nat) (hk : (k + 1) ≤ 40) (za : SzI (k + 1) a) (zb : SzI (k + 1) b) (w0 : World) : Calls Tryz.prog 161 #[(vI a), (vI b)] w0 (eX w0 (vI (eU a b)) (SzI k (eU a b))) := by
 refine enter (N := 42) (args := [(vI a), (vI b)]) Tryz.func161 rfl rfl ?_; intro ac h
 refine eq fun K1 hK1 => ?_
 refine bx h (cI a) rfl rfl rfl fun b1 => gb (cI b) rfl rfl rfl fun b2 => ga (cI (⟨false, 0⟩ : GI)) vv38 rfl rfl fun b3 => gn hK1 <| gq fun K2 hK2 => gB <| gr fun K3 hK3 => g0 (fa uu38 rfl zz4 rfl rfl rfl (k' := 0)) rfl <| g1 2 rfl (aV aa4 zz4 rfl rfl rfl (v := (.bool a.neg)) rfl) rfl <| g0 (fa uu38 rfl zz4 rfl rfl rfl (k' := 0)) rfl <| g1 1 rfl (aV aa4 zz4 rfl rfl rfl (v := (.bool b.neg)) rfl) rfl <| g0 (r_eqlB nn4 rfl rfl) rfl <| g0 (ak rfl) rfl <| gn hK3 ?_; clear h ac; intro ac wo h
 refine db h rfl (fun hc1 => ?_) (fun hc1 => ?_)
 ·
  have hd1 := eq_of_beq hc1
  refine cG fun K4 hK4 => ?_
  have s1 := aJ ((ii a.mag b.mag k (by omega) za zb) w0)
  have s2 := aJ ((cE a.neg (d3 a.mag b.mag) k (by omega) s1) w0)
  refine cj mixed [dv _, dw _ [2], dv _, dw _ [2], dv _, dw _ [1], dv _, dv _, dw _ [0]] [⟨.blk b3 (cI (⟨false, 0⟩ : GI)) 38, [(8, .con _)]⟩, ⟨_, []⟩, ⟨_, []⟩] h rfl (by kernel_rfl) ⟨fun _ _ => az (fa uu38 rfl zz4 rfl rfl rfl (k' := 0)), fun _ _ => cK _ rfl rfl (aV aa4 zz4 rfl rfl rfl (v := (.bool a.neg)) rfl), fun _ _ => az (fa uu38 rfl zz9 rfl rfl rfl (k' := 1)), fun _ _ => cK _ rfl rfl (aV aa9 zz9 rfl rfl rfl (v := (.string (bs a.mag))) rfl), fun _ _ => az (fa uu38 rfl zz9 rfl rfl rfl (k' := 1)), fun _ _ => cK _ rfl rfl (aV aa9 zz9 rfl rfl rfl (v := (.string (bs b.mag))) rfl), fun _ _ => eC (dK Tryz.call190 rfl (ii a.mag b.mag k (by omega) za zb)), fun _ _ => eC (dK cc172 rfl (cE a.neg (d3 a.mag b.mag) k (by omega) s1)), fun _ _ => gY _ [.blk b3 (cI (aZ a.neg (d3 a.mag b.mag))) 38] rfl rfl (iM zz38 rfl rfl rfl rfl rfl rfl rfl), trivial⟩ ?_
  clear h ac wo; intro ξ ac wo hφ h
  replace h : St w0 42 [(4, (ptr b3 0))] [.blk b3 (cI (aZ a.neg (d3 a.mag b.mag))) 38, .blk b2 (cI b) 38, .blk b1 (cI a) 38] ac wo := h.sub ⟨rfl, trivial⟩
  clear hφ ξ
  refine hK4 _ _ ?_
  refine fU ?_
  have hd : eU a b = (aZ a.neg (d3 a.mag b.mag)) := (cT hc1)
  exact ret h rfl (.cell (v := (vI (aZ a.neg (d3 a.mag b.mag)))) rfl (i := 0) rfl aa38 zz38 rfl rfl rfl .nil) rfl (h.retP (by rw [hd] <;> rfl) (by rw [hd]; exact s2))
 ·
  have hd1 := ne_of_beq_false hc1
  have p4 := aJ ((eL a.mag b.mag) w0)
  refine gz h <| gr fun K5 hK5 => g0 (fa uu38 rfl zz9 rfl rfl rfl (k' := 1)) rfl <| g1 2 rfl (aV aa9 zz9 rfl rfl rfl (v := (.string (bs a.mag))) rfl) rfl <| g0 (fa uu38 rfl zz9 rfl rfl rfl (k' := 1)) rfl <| g1 1 rfl (aV aa9 zz9 rfl rfl rfl (v := (.string (bs b.mag))) rfl) rfl <| gl Tryz.call191 rfl (eL a.mag b.mag) rfl <| g0 (m6 rfl rfl) rfl <| g0 (ak rfl) rfl <| gn hK5 ?_; clear h ac wo; intro ac wo h
  refine db h rfl (fun hc2 => ?_) (fun hc2 => ?_)
  ·
   have hd2 := of_decide_eq_true hc2
   refine cG fun K6 hK6 => ?_
   have s5 := aJ ((fD a.mag b.mag (k + 1) (by omega) za zb (by first | exact pz ‹_› | exact py ‹_›)) w0)
   have s6 := aJ ((cE a.neg (cM a.mag b.mag) (k + 1) (by omega) s5) w0)
   refine cj mixed [dv _, dw _ [2], dv _, dw _ [2], dv _, dw _ [1], dv _, dv _, dw _ [0]] [⟨.blk b3 (cI (⟨false, 0⟩ : GI)) 38, [(8, .con _)]⟩, ⟨_, []⟩, ⟨_, []⟩] h rfl (by kernel_rfl) ⟨fun _ _ => az (fa uu38 rfl zz4 rfl rfl rfl (k' := 0)), fun _ _ => cK _ rfl rfl (aV aa4 zz4 rfl rfl rfl (v := (.bool a.neg)) rfl), fun _ _ => az (fa uu38 rfl zz9 rfl rfl rfl (k' := 1)), fun _ _ => cK _ rfl rfl (aV aa9 zz9 rfl rfl rfl (v := (.string (bs a.mag))) rfl), fun _ _ => az (fa uu38 rfl zz9 rfl rfl rfl (k' := 1)), fun _ _ => cK _ rfl rfl (aV aa9 zz9 rfl rfl rfl (v := (.string (bs b.mag))) rfl), fun _ _ => eC (dK cc192 rfl (fD a.mag b.mag (k + 1) (by omega) za zb (by first | exact pz ‹_› | exact py ‹_›))), fun _ _ => eC (dK cc172 rfl (cE a.neg (cM a.mag b.mag) (k + 1) (by omega) s5)), fun _ _ => gY _ [.blk b3 (cI (aZ a.neg (cM a.mag b.mag))) 38] rfl rfl (iM zz38 rfl rfl rfl rfl rfl rfl rfl), trivial⟩ ?_
   clear h ac wo; intro ξ ac wo hφ h
   replace h : St w0 42 [(4, (ptr b3 0))] [.blk b3 (cI (aZ a.neg (cM a.mag b.mag))) 38, .blk b2 (cI b) 38, .blk b1 (cI a) 38] ac wo := h.sub ⟨rfl, trivial⟩
   clear hφ ξ
   refine hK6 _ _ ?_
   refine fU ?_
   have hd : eU a b = (aZ a.neg (cM a.mag b.mag)) := (Eq.trans (cF hc1) (cT hc2))
   exact ret h rfl (.cell (v := (vI (aZ a.neg (cM a.mag b.mag)))) rfl (i := 0) rfl aa38 zz38 rfl rfl rfl .nil) rfl (h.retP (by rw [hd] <;> rfl) (by rw [hd]; exact (kL s6 (by omega))))
  ·
   have hd2 := of_decide_eq_false hc2
   refine dR ?_
   refine oB ?_
   refine hK2 _ _ ?_
   refine cG fun K7 hK7 => ?_
   have s7 := aJ ((fD b.mag a.mag (k + 1) (by omega) zb za (by first | exact pz ‹_› | exact py ‹_›)) w0)
   have s8 := aJ ((cE b.neg (cM b.mag a.mag) (k + 1) (by omega) s7) w0)
   refine cj mixed [dv _, dw _ [1], dv _, dw _ [1], dv _, dw _ [2], dv _, dv _, dw _ [0]] [⟨.blk b3 (cI (⟨false, 0⟩ : GI)) 38, [(8, .con _)]⟩, ⟨_, []⟩, ⟨_, []⟩] h rfl (by kernel_rfl) ⟨fun _ _ => az (fa uu38 rfl zz4 rfl rfl rfl (k' := 0)), fun _ _ => cK _ rfl rfl (aV aa4 zz4 rfl rfl rfl (v := (.bool b.neg)) rfl), fun _ _ => az (fa uu38 rfl zz9 rfl rfl rfl (k' := 1)), fun _ _ => cK _ rfl rfl (aV aa9 zz9 rfl rfl rfl (v := (.string (bs b.mag))) rfl), fun _ _ => az (fa uu38 rfl zz9 rfl rfl rfl (k' := 1)), fun _ _ => cK _ rfl rfl (aV aa9 zz9 rfl rfl rfl (v := (.string (bs a.mag))) rfl), fun _ _ => eC (dK cc192 rfl (fD b.mag a.mag (k + 1) (by omega) zb za (by first | exact pz ‹_› | exact py ‹_›))), fun _ _ => eC (dK cc172 rfl (cE b.neg (cM b.mag a.mag) (k + 1) (by omega) s7)), fun _ _ => gY _ [.blk b3 (cI (aZ b.neg (cM b.mag a.mag))) 38] rfl rfl (iM zz38 rfl rfl rfl rfl rfl rfl rfl), trivial⟩ ?_
   clear h ac wo; intro ξ ac wo hφ h
   replace h : St w0 42 [(4, (ptr b3 0))] [.blk b3 (cI (aZ b.neg (cM b.mag a.mag))) 38, .blk b2 (cI b) 38, .blk b1 (cI a) 38] ac wo := h.sub ⟨rfl, trivial⟩
   clear hφ ξ
   refine hK7 _ _ ?_
   refine fU ?_
   have hd : eU a b = (aZ b.neg (cM b.mag a.mag)) := (Eq.trans (cF hc1) (cF hc2))
   exact ret h rfl (.cell (v := (vI (aZ b.neg (cM b.mag a.mag)))) rfl (i := 0) rfl aa38 zz38 rfl rfl rfl .nil) rfl (h.retP (by rw [hd] <;> rfl) (by rw [hd]; exact (kL s8 (by omega))))
def cd (a : GI) (b : GI) : GI :=
 (aZ (a.neg != b.neg) (fo a.mag b.mag))
theorem es (a : GI) (b : GI) (k : Nat) (hk : (k + 1) ≤ 40) (za : SzI (k + 1) a) (zb : SzI (k + 1) b) (w0 : World) : Calls Tryz.prog 158 #[(vI a), (vI b)] w0 (eX w0 (vI (cd a b)) (SzI k (cd a b))) := by
 refine enter (N := 16) (args := [(vI a), (vI b)]) Tryz.func158 rfl rfl ?_; intro ac h
 have s1 := aJ ((kG a.mag b.mag k (by omega) za zb) w0)
 have s2 := aJ ((cE (a.neg != b.neg) (fo a.mag b.mag) k (by omega) s1) w0)
 refine eq fun K1 hK1 => ?_
 refine bx h (cI a) rfl rfl rfl fun b1 => gb (cI b) rfl rfl rfl fun b2 => ga (cI (⟨false, 0⟩ : GI)) vv38 rfl rfl fun b3 => gn hK1 <| gq fun K2 hK2 => ?_; clear h ac; intro ac wo h
 refine cj mixed [dv _, dw _ [2], dv _, dw _ [1], dv _, dv _, dw _ [2], dv _, dw _ [1], dv _, dv _, dw _ [0]] [⟨.blk b3 (cI (⟨false, 0⟩ : GI)) 38, [(11, .con _)]⟩, ⟨_, []⟩, ⟨_, []⟩] h rfl (by kernel_rfl) ⟨fun _ _ => az (fa uu38 rfl zz4 rfl rfl rfl (k' := 0)), fun _ _ => cK _ rfl rfl (aV aa4 zz4 rfl rfl rfl (v := (.bool a.neg)) rfl), fun _ _ => az (fa uu38 rfl zz4 rfl rfl rfl (k' := 0)), fun _ _ => cK _ rfl rfl (aV aa4 zz4 rfl rfl rfl (v := (.bool b.neg)) rfl), fun _ _ => az (o8 nn4 rfl rfl), fun _ _ => az (fa uu38 rfl zz9 rfl rfl rfl (k' := 1)), fun _ _ => cK _ rfl rfl (aV aa9 zz9 rfl rfl rfl (v := (.string (bs a.mag))) rfl), fun _ _ => az (fa uu38 rfl zz9 rfl rfl rfl (k' := 1)), fun _ _ => cK _ rfl rfl (aV aa9 zz9 rfl rfl rfl (v := (.string (bs b.mag))) rfl), fun _ _ => eC (dK Tryz.call189 rfl (kG a.mag b.mag k (by omega) za zb)), fun _ _ => eC (dK cc172 rfl (cE (a.neg != b.neg) (fo a.mag b.mag) k (by omega) s1)), fun _ _ => gY _ [.blk b3 (cI (aZ (a.neg != b.neg) (fo a.mag b.mag))) 38] rfl rfl (iM zz38 rfl rfl rfl rfl rfl rfl rfl), trivial⟩ ?_
 clear h ac wo; intro ξ ac wo hφ h
 replace h : St w0 16 [(4, (ptr b3 0))] [.blk b3 (cI (aZ (a.neg != b.neg) (fo a.mag b.mag))) 38, .blk b2 (cI b) 38, .blk b1 (cI a) 38] ac wo := h.sub ⟨rfl, trivial⟩
 clear hφ ξ
 refine hK2 _ _ ?_
 refine fU ?_
 exact ret h rfl (.cell (v := (vI (aZ (a.neg != b.neg) (fo a.mag b.mag)))) rfl (i := 0) rfl aa38 zz38 rfl rfl rfl .nil) rfl (h.retP (by unfold cd; rfl) (by unfold cd; exact s2))
def aN (a b : GI) : GI := aZ false (Nat.gcd a.mag b.mag)
theorem pp (x y : Nat) : Nat.gcd y (x % y) = Nat.gcd x y := by rw [Nat.gcd_comm x y, Nat.gcd_rec y x, Nat.gcd_comm]
theorem kJ (a : GI) (b : GI) (k : Nat) (hk : k ≤ 40) (za : SzI k a) (zb : SzI k b) (w0 : World) : Calls Tryz.prog 165 #[(vI a), (vI b)] w0 (eX w0 (vI (aN a b)) (SzI k (aN a b))) := by
 refine enter (N := 45) (args := [(vI a), (vI b)]) Tryz.func165 rfl rfl ?_; intro ac h
 refine eq fun K1 hK1 => ?_
 refine bx h (cI a) rfl rfl rfl fun b1 => gb (cI b) rfl rfl rfl fun b2 => ga (cI (⟨false, 0⟩ : GI)) vv38 rfl rfl fun b3 => gn hK1 <| gq fun K2 hK2 => ?_; clear h ac; intro ac wo h
 refine cj mixed [dv _, dw _ [2], dv _, dw _ [1], dv _, dv _] [⟨_, []⟩, ⟨_, []⟩, ⟨_, []⟩] h rfl (by kernel_rfl) ⟨fun _ _ => az (fa uu38 rfl zz9 rfl rfl rfl (k' := 1)), fun _ _ => cK _ rfl rfl (aV aa9 zz9 rfl rfl rfl (v := (.string (bs a.mag))) rfl), fun _ _ => az (fa uu38 rfl zz9 rfl rfl rfl (k' := 1)), fun _ _ => cK _ rfl rfl (aV aa9 zz9 rfl rfl rfl (v := (.string (bs b.mag))) rfl), fun _ _ => az (ak rfl), fun _ _ => az (ak rfl), trivial⟩ ?_
 clear h ac wo; intro ξ ac wo hφ h
 replace h : St w0 45 [(4, (ptr b3 0)), (5, (.string (bs a.mag))), (6, (.string (bs b.mag)))] [.blk b3 (cI (⟨false, 0⟩ : GI)) 38, .blk b2 (cI b) 38, .blk b1 (cI a) 38] ac wo := h.sub ⟨rfl, rfl, rfl, trivial⟩
 clear hφ ξ
 refine hK2 _ _ ?_
 refine cG fun K3 hK3 => ?_
 refine eR ?_
 refine wp_loop_ghost (fun n_ a_ w_ => ∃ (x : Nat) (y : Nat), n_ = 1 * y ∧ (Nat.gcd x y = Nat.gcd a.mag b.mag) ∧ (SzB k x) ∧ (SzB k y) ∧ St w0 45 [(4, (ptr b3 0)), (5, (.string (bs x))), (6, (.string (bs y)))] [.blk b3 (cI (⟨false, 0⟩ : GI)) 38, .blk b2 (cI b) 38, .blk b1 (cI a) 38] a_ w_) _ ⟨a.mag, b.mag, rfl, rfl, za, zb, (h.pick [0, 1, 2] (by decide)).sub ⟨rfl, rfl, rfl, trivial⟩⟩ ?_
 clear h ac wo; rintro _ ac wo ⟨x, y, rfl, hg, zx, zy, h⟩
 refine gz h <| gq fun K4 hK4 => gr fun K5 hK5 => g0 (aj rfl) rfl <| g0 (oL rfl rfl (m := y) (n := 0)) rfl <| gn hK5 ?_; clear h ac wo; intro ac wo h
 refine db h rfl (fun hc1 => ?_) (fun hc1 => ?_)
 ·
  have hy : y ≠ 0 := by simpa using hc1
  refine gz h <| gS <| gx hK4 <| gB <| gq fun K6 hK6 => gr fun K7 hK7 => g0 (aj rfl) rfl <| g0 (aj rfl) rfl <| gl Tryz.call193 rfl (fC x y) rfl <| g0 (aj rfl) rfl <| g0 (bO rfl rfl) rfl <| g0 (bO rfl rfl) rfl <| g0 (bO rfl rfl) rfl <| g0 (ak rfl) rfl <| g0 (ak rfl) rfl <| g0 (ak rfl) rfl <| gn hK7 <| gr fun K8 hK8 => g0 (aj rfl) rfl <| gn hK8 ?_; clear h ac wo; intro ac wo h
  refine db h rfl (fun hc2 => ?_) (fun hc2 => ?_)
  ·
   obtain ⟨ha6, hb6, hw⟩ := ka hc2
   simp only [hw] at h
   refine cG fun K9 hK9 => ?_
   refine eR ?_
   refine wp_loop_ghost (fun n_ a_ w_ => ∃ (u : Nat) (v : Nat), n_ = 1 * v ∧ (Nat.gcd u v = Nat.gcd a.mag b.mag) ∧ (SzB k u) ∧ (SzB k v) ∧ (u < 18446744073709551616 ∧ v < 18446744073709551616) ∧ St w0 45 [(4, (ptr b3 0)), (7, (.int .u64 ((u : Nat) : Int))), (8, (.int .u64 ((v : Nat) : Int)))] [.blk b3 (cI (⟨false, 0⟩ : GI)) 38, .blk b2 (cI b) 38, .blk b1 (cI a) 38] a_ w_) _ ⟨x, y, rfl, hg, zx, zy, ⟨ha6, hb6⟩, (h.pick [0, 1, 2] (by decide)).sub ⟨rfl, rfl, rfl, trivial⟩⟩ ?_
   clear h ac wo; rintro _ ac wo ⟨u, v, rfl, hgu, zu, zv, hul, h⟩
   refine gz h <| gq fun K10 hK10 => gr fun K11 hK11 => g0 (aj rfl) rfl <| g0 (lQ rfl rfl) rfl <| gn hK11 ?_; clear h ac wo; intro ac wo h
   refine db h rfl (fun hc3 => ?_) (fun hc3 => ?_)
   ·
    have hv : v ≠ 0 := by have := hc3; simp at this; omega
    refine dR ?_
    refine hK10 _ _ ?_
    refine eR ?_
    refine cj mixed [dv _, dv _, dv _, dv _, dv _, dv _] [⟨_, []⟩, ⟨_, []⟩, ⟨_, []⟩] h rfl (by kernel_rfl) ⟨fun _ _ => om rfl, fun _ _ => om rfl, fun _ _ => om rfl, fun _ _ => az (im rfl rfl (r := ((u % v : Nat) : Int)) (by omega) (by rw [Int.tmod_eq_emod_of_nonneg (by omega)]; rfl)), fun _ _ => az (ak rfl), fun _ _ => az (ak rfl), trivial⟩ ?_
    clear h ac wo; intro ξ ac wo hφ h
    replace h : St w0 45 [(4, (ptr b3 0)), (7, (.int .u64 ((v : Nat) : Int))), (8, (.int .u64 ((u % v : Nat) : Int)))] [.blk b3 (cI (⟨false, 0⟩ : GI)) 38, .blk b2 (cI b) 38, .blk b1 (cI a) 38] ac wo := h.sub ⟨rfl, rfl, rfl, trivial⟩
    clear hφ ξ
    refine oB ?_
    exact aE ⟨_, (by have := Nat.mod_lt u (show v > 0 by omega); omega), v, (u % v), rfl, (by rw [pp]; exact hgu), zv, (gp zu (Nat.mod_le _ _)), ⟨hul.2, by have := Nat.mod_lt u (show v > 0 by omega); omega⟩, (h.pick [0, 1, 2] (by decide)).sub ⟨rfl, rfl, rfl, trivial⟩⟩
   ·
    have hv : v = 0 := by have := hc3; simp at this; omega
    subst hv
    have c1 := cE false (bG u) k (by omega) zu
    have s1 := aJ (c1 w0)
    refine gz h <| gE <| gx hK9 <| gr fun K12 hK12 => g0 (aj rfl) rfl <| gl Tryz.call173 rfl (dG u hul.1) rfl <| gl cc172 rfl c1 rfl <| gs 0 (cI (aZ false (bG u))) rfl zz38 rfl rfl rfl rfl rfl rfl rfl <| gn hK12 <| gT ?_; clear h ac wo; intro ac wo h
    have hd : aN a b = (aZ false (bG u)) := (by rw [Nat.gcd_zero_right] at hgu; unfold aN; rw [← hgu]; rfl)
    exact ret h rfl (.cell (v := (vI (aZ false (bG u)))) rfl (i := 0) rfl aa38 zz38 rfl rfl rfl .nil) rfl (h.retP (by rw [hd] <;> rfl) (by rw [hd]; exact s1))
  ·
   have c2 := kH x y k (by omega) zx zy (by omega)
   have s2 := aJ (c2 w0)
   refine gz h <| gS <| gx hK6 <| gr fun K13 hK13 => g0 (aj rfl) rfl <| g0 (aj rfl) rfl <| gl Tryz.call194 rfl c2 rfl <| g0 (aj rfl) rfl <| g0 (bO rfl rfl) rfl <| g0 (bO rfl rfl) rfl <| g0 (ak rfl) rfl <| g0 (ak rfl) rfl <| gn hK13 <| gR <| g0 (aj rfl) rfl <| g0 (aj rfl) rfl <| g0 (ak rfl) rfl <| g0 (ak rfl) rfl <| gx (fun _ _ => bg) <| gN ?_; clear h ac wo; intro ac wo h
   exact aE ⟨_, (by have := Nat.mod_lt x (show y > 0 by omega); omega), y, (x % y), rfl, (by rw [pp]; exact hg), zy, (gp zx (Nat.mod_le _ _)), (h.pick [0, 1, 2] (by decide)).sub ⟨rfl, rfl, rfl, trivial⟩⟩
 ·
  have hy : y = 0 := by simpa using hc1
  subst hy
  have c3 := cE false x k (by omega) zx
  have s3 := aJ (c3 w0)
  refine gz h <| gE <| gx hK3 <| gr fun K14 hK14 => g0 (aj rfl) rfl <| gl cc172 rfl c3 rfl <| gs 0 (cI (aZ false x)) rfl zz38 rfl rfl rfl rfl rfl rfl rfl <| gn hK14 <| gT ?_; clear h ac wo; intro ac wo h
  have hd : aN a b = (aZ false x) := (by rw [Nat.gcd_zero_right] at hg; unfold aN; rw [← hg])
  exact ret h rfl (.cell (v := (vI (aZ false x))) rfl (i := 0) rfl aa38 zz38 rfl rfl rfl .nil) rfl (h.retP (by rw [hd] <;> rfl) (by rw [hd]; exact s3))
def dL (a : GI) (b : GI) : GI × GI × Int :=
 bif (decide (b.mag = 0)) then
  ((⟨false, 0⟩ : GI), (⟨false, 0⟩ : GI), 6)
 else
  bif (a.neg && (!(decide (((bK a.mag b.mag).2) = 0)))) then
   ((aZ (a.neg != b.neg) (d3 ((bK a.mag b.mag).1) 1)), (aZ false (cM b.mag ((bK a.mag b.mag).2))), 0)
  else
   ((aZ (a.neg != b.neg) ((bK a.mag b.mag).1)), (aZ false ((bK a.mag b.mag).2)), 0)
theorem lA (a : GI) (b : GI) (k : Nat) (hk : (k + 1) ≤ 40) (za : SzI (k + 1) a) (zb : SzI (k + 1) b) (w0 : World) : Calls Tryz.prog 212 #[(vI a), (vI b)] w0 (eX w0 (.tuple #[(vI ((dL a b).1)), (vI ((dL a b).2.1)), (.int .i64 ((dL a b).2.2))]) (SzI k ((dL a b).1) ∧ SzI k ((dL a b).2.1))) := by
 refine enter (N := 43) (args := [(vI a), (vI b)]) Tryz.func212 rfl rfl ?_; intro ac h
 refine eq fun K1 hK1 => ?_
 refine bx h (cI a) rfl rfl rfl fun b1 => gb (cI b) rfl rfl rfl fun b2 => ga (cI (⟨false, 0⟩ : GI)) vv38 rfl rfl fun b3 => ga (cI (⟨false, 0⟩ : GI)) vv38 rfl rfl fun b4 => g0 (ak rfl) rfl <| gn hK1 <| gq fun K2 hK2 => gr fun K3 hK3 => g0 (fa uu38 rfl zz9 rfl rfl rfl (k' := 1)) rfl <| g1 2 rfl (aV aa9 zz9 rfl rfl rfl (v := (.string (bs b.mag))) rfl) rfl <| g0 (qC rfl rfl (m := b.mag) (n := 0)) rfl <| gn hK3 ?_; clear h ac; intro ac wo h
 refine db h rfl (fun hc1 => ?_) (fun hc1 => ?_)
 ·
  have hd1 := of_decide_eq_true hc1
  refine gz h <| gr fun K4 hK4 => g0 (bq qh rfl rfl (v := (vI (⟨false, 0⟩ : GI))) rfl) rfl <| g0 (bq qh rfl rfl (v := (vI (⟨false, 0⟩ : GI))) rfl) rfl <| gs 1 (cI (⟨false, 0⟩ : GI)) rfl zz38 rfl rfl rfl rfl rfl rfl rfl <| gs 0 (cI (⟨false, 0⟩ : GI)) rfl zz38 rfl rfl rfl rfl rfl rfl rfl <| g0 (ak rfl) rfl <| gn hK4 <| gT ?_; clear h ac wo; intro ac wo h
  have hd : dL a b = ((⟨false, 0⟩ : GI), (⟨false, 0⟩ : GI), 6) := (cT hc1)
  exact ret h rfl (.cell (v := (vI (⟨false, 0⟩ : GI))) rfl (i := 1) rfl aa38 zz38 rfl rfl rfl (.cell (v := (vI (⟨false, 0⟩ : GI))) rfl (i := 0) rfl aa38 zz38 rfl rfl rfl (.tmp rfl .nil))) rfl (h.retP (by rw [hd] <;> rfl) (by rw [hd]; exact ⟨(cO 0 (by decide) (by omega)), (cO 0 (by decide) (by omega))⟩))
 ·
  have hd1 := of_decide_eq_false hc1
  have c1 := kH a.mag b.mag (k + 1) (by omega) za zb (by omega)
  have s1 := aJ (c1 w0)
  refine gz h <| gS <| gx hK2 <| gr fun K5 hK5 => g0 (fa uu38 rfl zz9 rfl rfl rfl (k' := 1)) rfl <| g1 3 rfl (aV aa9 zz9 rfl rfl rfl (v := (.string (bs a.mag))) rfl) rfl <| g0 (fa uu38 rfl zz9 rfl rfl rfl (k' := 1)) rfl <| g1 2 rfl (aV aa9 zz9 rfl rfl rfl (v := (.string (bs b.mag))) rfl) rfl <| gl Tryz.call194 rfl c1 rfl <| g0 (aj rfl) rfl <| g0 (bO rfl rfl) rfl <| g0 (bO rfl rfl) rfl <| g0 (ak rfl) rfl <| g0 (ak rfl) rfl <| gn hK5 <| gq fun K6 hK6 => gr fun K7 hK7 => g0 (fa uu38 rfl zz4 rfl rfl rfl (k' := 0)) rfl <| g1 3 rfl (aV aa4 zz4 rfl rfl rfl (v := (.bool a.neg)) rfl) rfl <| g0 (aj rfl) rfl <| ge1 rfl rfl (fun hg => (Rd.of_nil (aj rfl)).step) rfl <| ge1 rfl rfl (fun hg => (Rd.of_nil (oL (ao rfl hg) rfl (m := ((bK a.mag b.mag).2)) (n := 0))).step) rfl <| g0 (da rfl (fun e => (ao rfl e))) rfl <| gn hK7 ?_; clear h ac wo; intro ac wo h
  refine db h rfl (fun hc2 => ?_) (fun hc2 => ?_)
  ·
   have s2 := aJ ((ii ((bK a.mag b.mag).1) 1 k (by omega) s1.1 (cO 1 (by decide) (by omega))) w0)
   have s3 := aJ ((fD b.mag ((bK a.mag b.mag).2) (k + 1) (by omega) zb s1.2 (Nat.le_of_lt (Nat.mod_lt _ (by omega)))) w0)
   refine cj mixed [dv _, dv _, dv _, dw _ [2], dv _, dv _, dv _, dv _] [⟨_, []⟩, ⟨_, []⟩, ⟨_, []⟩, ⟨_, []⟩] h rfl (by kernel_rfl) ⟨fun _ _ => om rfl, fun _ _ => eC (dK Tryz.call190 rfl (ii ((bK a.mag b.mag).1) 1 k (by omega) s1.1 (cO 1 (by decide) (by omega)))), fun _ _ => az (fa uu38 rfl zz9 rfl rfl rfl (k' := 1)), fun _ _ => cK _ rfl rfl (aV aa9 zz9 rfl rfl rfl (v := (.string (bs b.mag))) rfl), fun _ _ => om rfl, fun _ _ => eC (dK cc192 rfl (fD b.mag ((bK a.mag b.mag).2) (k + 1) (by omega) zb s1.2 (Nat.le_of_lt (Nat.mod_lt _ (by omega))))), fun _ _ => az (ak rfl), fun _ _ => az (ak rfl), trivial⟩ ?_
   clear h ac wo; intro ξ ac wo hφ h
   replace h : St w0 43 [(2, (ptr b1 0)), (3, (ptr b2 0)), (4, (ptr b3 0)), (5, (ptr b4 0)), (7, (.string (bs (d3 ((bK a.mag b.mag).1) 1)))), (8, (.string (bs (cM b.mag ((bK a.mag b.mag).2)))))] [.blk b4 (cI (⟨false, 0⟩ : GI)) 38, .blk b3 (cI (⟨false, 0⟩ : GI)) 38, .blk b2 (cI b) 38, .blk b1 (cI a) 38] ac wo := h.sub ⟨rfl, rfl, rfl, rfl, rfl, rfl, trivial⟩
   clear hφ ξ
   have c4 := cE (a.neg != b.neg) (d3 ((bK a.mag b.mag).1) 1) k (by omega) s2
   have s4 := aJ (c4 w0)
   have c5 := cE false (cM b.mag ((bK a.mag b.mag).2)) (k + 1) (by omega) s3
   have s5 := aJ (c5 w0)
   refine gz h <| gx hK6 <| gr fun K8 hK8 => g0 (fa uu38 rfl zz4 rfl rfl rfl (k' := 0)) rfl <| g1 3 rfl (aV aa4 zz4 rfl rfl rfl (v := (.bool a.neg)) rfl) rfl <| g0 (fa uu38 rfl zz4 rfl rfl rfl (k' := 0)) rfl <| g1 2 rfl (aV aa4 zz4 rfl rfl rfl (v := (.bool b.neg)) rfl) rfl <| g0 (o8 nn4 rfl rfl) rfl <| g0 (aj rfl) rfl <| gl cc172 rfl c4 rfl <| g0 (aj rfl) rfl <| gl cc172 rfl c5 rfl <| gs 1 (cI (aZ (a.neg != b.neg) (d3 ((bK a.mag b.mag).1) 1))) rfl zz38 rfl rfl rfl rfl rfl rfl rfl <| gs 0 (cI (aZ false (cM b.mag ((bK a.mag b.mag).2)))) rfl zz38 rfl rfl rfl rfl rfl rfl rfl <| g0 (ak rfl) rfl <| gn hK8 <| gT ?_; clear h ac wo; intro ac wo h
   have hd : dL a b = ((aZ (a.neg != b.neg) (d3 ((bK a.mag b.mag).1) 1)), (aZ false (cM b.mag ((bK a.mag b.mag).2))), 0) := (Eq.trans (cF hc1) (cT hc2))
   exact ret h rfl (.cell (v := (vI (aZ (a.neg != b.neg) (d3 ((bK a.mag b.mag).1) 1)))) rfl (i := 1) rfl aa38 zz38 rfl rfl rfl (.cell (v := (vI (aZ false (cM b.mag ((bK a.mag b.mag).2))))) rfl (i := 0) rfl aa38 zz38 rfl rfl rfl (.tmp rfl .nil))) rfl (h.retP (by rw [hd] <;> rfl) (by rw [hd]; exact ⟨s4, (kL s5 (by omega))⟩))
  ·
   have c6 := cE (a.neg != b.neg) ((bK a.mag b.mag).1) (k + 1) (by omega) s1.1
   have s6 := aJ (c6 w0)
   have c7 := cE false ((bK a.mag b.mag).2) (k + 1) (by omega) s1.2
   have s7 := aJ (c7 w0)
   refine gz h <| gS <| gx hK6 <| gr fun K9 hK9 => g0 (fa uu38 rfl zz4 rfl rfl rfl (k' := 0)) rfl <| g1 3 rfl (aV aa4 zz4 rfl rfl rfl (v := (.bool a.neg)) rfl) rfl <| g0 (fa uu38 rfl zz4 rfl rfl rfl (k' := 0)) rfl <| g1 2 rfl (aV aa4 zz4 rfl rfl rfl (v := (.bool b.neg)) rfl) rfl <| g0 (o8 nn4 rfl rfl) rfl <| g0 (aj rfl) rfl <| gl cc172 rfl c6 rfl <| g0 (aj rfl) rfl <| gl cc172 rfl c7 rfl <| gs 1 (cI (aZ (a.neg != b.neg) ((bK a.mag b.mag).1))) rfl zz38 rfl rfl rfl rfl rfl rfl rfl <| gs 0 (cI (aZ false ((bK a.mag b.mag).2))) rfl zz38 rfl rfl rfl rfl rfl rfl rfl <| g0 (ak rfl) rfl <| gn hK9 <| gT ?_; clear h ac wo; intro ac wo h
   have hd : dL a b = ((aZ (a.neg != b.neg) ((bK a.mag b.mag).1)), (aZ false ((bK a.mag b.mag).2)), 0) := (Eq.trans (cF hc1) (cF hc2))
   exact ret h rfl (.cell (v := (vI (aZ (a.neg != b.neg) ((bK a.mag b.mag).1)))) rfl (i := 1) rfl aa38 zz38 rfl rfl rfl (.cell (v := (vI (aZ false ((bK a.mag b.mag).2)))) rfl (i := 0) rfl aa38 zz38 rfl rfl rfl (.tmp rfl .nil))) rfl (h.retP (by rw [hd] <;> rfl) (by rw [hd]; exact ⟨(kL s6 (by omega)), (kL s7 (by omega))⟩))
def ez  : GI :=
 (dJ 1)
theorem fI (k : Nat) (hk : k ≤ 40) (w0 : World) : Calls Tryz.prog 164 #[] w0 (eX w0 (vI ez) (SzI k ez)) := by
 refine enter (N := 2) (args := []) Tryz.func164 rfl rfl ?_; intro ac h
 have c1 := jl 1 k (by omega)  (by omega)
 have s1 := aJ (c1 w0)
 refine eq fun K1 hK1 => ?_
 refine al h (cI (⟨false, 0⟩ : GI)) vv38 rfl rfl fun b1 => gn hK1 <| gr fun K2 hK2 => gl Tryz.call113 rfl c1 rfl <| gs 0 (cI (dJ 1)) rfl zz38 rfl rfl rfl rfl rfl rfl rfl <| gn hK2 <| gT ?_; clear h ac; intro ac wo h
 exact ret h rfl (.cell (v := (vI (dJ 1))) rfl (i := 0) rfl aa38 zz38 rfl rfl rfl .nil) rfl (h.retP (by unfold ez; rfl) (by unfold ez; exact s1))
def ar (n : Int) : GQ :=
 (⟨(dJ n), (⟨false, 0⟩ : GI)⟩ : GQ)
theorem bX (n : Int) (k : Nat) (hk : k ≤ 40) (hn : -9223372036854775808 ≤ n ∧ n ≤ 9223372036854775807) (w0 : World) : Calls Tryz.prog 45 #[(.int .i64 n)] w0 (eX w0 (vQ (ar n)) (SzQ k (ar n))) := by
 refine enter (N := 6) (args := [(.int .i64 n)]) Tryz.func45 rfl rfl ?_; intro ac h
 have c1 := jl n k (by omega)  (by omega)
 have s1 := aJ (c1 w0)
 refine eq fun K1 hK1 => ?_
 refine al h (cQ oQ) vv40 rfl rfl fun b1 => gn hK1 <| gr fun K2 hK2 => g0 (aj rfl) rfl <| gl Tryz.call113 rfl c1 rfl <| g0 (bq nG rfl rfl (v := (vQ (⟨(dJ n), (⟨false, 0⟩ : GI)⟩ : GQ))) rfl) rfl <| gs 0 (cQ (⟨(dJ n), (⟨false, 0⟩ : GI)⟩ : GQ)) rfl zz40 rfl rfl rfl rfl rfl rfl rfl <| gn hK2 <| gT ?_; clear h ac; intro ac wo h
 exact ret h rfl (.cell (v := (vQ (⟨(dJ n), (⟨false, 0⟩ : GI)⟩ : GQ))) rfl (i := 0) rfl aa40 zz40 rfl rfl rfl .nil) rfl (h.retP (by unfold ar; rfl) (by unfold ar; exact ⟨s1, (cO 0 (by decide) (by omega))⟩))
def bb (a : GQ) : GI :=
 bif (decide (a.den = (⟨false, 0⟩ : GI))) then
  ez
 else
  a.den
theorem dB (a : GQ) (k : Nat) (hk : k ≤ 40) (za : SzQ k a) (w0 : World) : Calls Tryz.prog 159 #[(vQ a)] w0 (eX w0 (vI (bb a)) (SzI k (bb a))) := by
 refine enter (N := 10) (args := [(vQ a)]) Tryz.func159 rfl rfl ?_; intro ac h
 refine eq fun K1 hK1 => ?_
 refine bx h (cQ a) rfl rfl rfl fun b1 => ga (cI (⟨false, 0⟩ : GI)) vv38 rfl rfl fun b2 => gn hK1 <| gq fun K2 hK2 => gr fun K3 hK3 => g0 (fa uu40 rfl zz38 rfl rfl rfl (k' := 2)) rfl <| g1 1 rfl (aV aa38 zz38 rfl rfl rfl (v := (vI a.den)) rfl) rfl <| g0 (bq qh rfl rfl (v := (vI (⟨false, 0⟩ : GI))) rfl) rfl <| g0 (eY eqp38 rfl rfl) rfl <| gn hK3 ?_; clear h ac; intro ac wo h
 refine db h rfl (fun hc1 => ?_) (fun hc1 => ?_)
 ·
  have hd1 := of_decide_eq_true hc1
  have c1 := fI  k (by omega) 
  have s1 := aJ (c1 w0)
  refine gz h <| gr fun K4 hK4 => gl cc164 rfl c1 rfl <| gs 0 (cI ez) rfl zz38 rfl rfl rfl rfl rfl rfl rfl <| gn hK4 <| gT ?_; clear h ac wo; intro ac wo h
  have hd : bb a = ez := (cT hc1)
  exact ret h rfl (.cell (v := (vI ez)) rfl (i := 0) rfl aa38 zz38 rfl rfl rfl .nil) rfl (h.retP (by rw [hd] <;> rfl) (by rw [hd]; exact s1))
 ·
  have hd1 := of_decide_eq_false hc1
  refine gz h <| gS <| gx hK2 <| gr fun K5 hK5 => g0 (fa uu40 rfl zz38 rfl rfl rfl (k' := 2)) rfl <| g1 1 rfl (aV aa38 zz38 rfl rfl rfl (v := (vI a.den)) rfl) rfl <| gs 0 (cI a.den) rfl zz38 rfl rfl rfl rfl rfl rfl rfl <| gn hK5 <| gT ?_; clear h ac wo; intro ac wo h
  have hd : bb a = a.den := (cF hc1)
  exact ret h rfl (.cell (v := (vI a.den)) rfl (i := 0) rfl aa38 zz38 rfl rfl rfl .nil) rfl (h.retP (by rw [hd] <;> rfl) (by rw [hd]; exact za.2))
def aH (a : GI) (b : GI) : GI :=
 (dL a b).1
theorem dT (a : GI) (b : GI) (k : Nat) (hk : (k + 1) ≤ 40) (za : SzI (k + 1) a) (zb : SzI (k + 1) b) (w0 : World) : Calls Tryz.prog 188 #[(vI a), (vI b)] w0 (eX w0 (vI (aH a b)) (SzI k (aH a b))) := by
 refine enter (N := 16) (args := [(vI a), (vI b)]) Tryz.func188 rfl rfl ?_; intro ac h
 have c1 := lA a b k (by omega) za zb
 have s1 := aJ (c1 w0)
 refine eq fun K1 hK1 => ?_
 refine bx h (cI a) rfl rfl rfl fun b1 => gb (cI b) rfl rfl rfl fun b2 => ga (cI (⟨false, 0⟩ : GI)) vv38 rfl rfl fun b3 => gn hK1 <| gr fun K2 hK2 => g1 2 rfl (aV aa38 zz38 rfl rfl rfl (v := (vI a)) rfl) rfl <| g1 1 rfl (aV aa38 zz38 rfl rfl rfl (v := (vI b)) rfl) rfl <| gl Tryz.call212 rfl c1 rfl <| g0 (aj rfl) rfl <| g0 (bO rfl rfl) rfl <| g0 (bO rfl rfl) rfl <| g0 (bO rfl rfl) rfl <| ga (cI (⟨false, 0⟩ : GI)) vv38 rfl rfl fun b4 => ga (cI (⟨false, 0⟩ : GI)) vv38 rfl rfl fun b5 => gs 1 (cI ((dL a b).1)) rfl zz38 rfl rfl rfl rfl rfl rfl rfl <| gs 0 (cI ((dL a b).2.1)) rfl zz38 rfl rfl rfl rfl rfl rfl rfl <| g0 (ak rfl) rfl <| gn hK2 <| gr fun K3 hK3 => g1 1 rfl (aV aa38 zz38 rfl rfl rfl (v := (vI ((dL a b).1))) rfl) rfl <| gs 2 (cI ((dL a b).1)) rfl zz38 rfl rfl rfl rfl rfl rfl rfl <| gn hK3 <| gT ?_; clear h ac; intro ac wo h
 exact ret h rfl (.cell (v := (vI ((dL a b).1))) rfl (i := 2) rfl aa38 zz38 rfl rfl rfl .nil) rfl (h.retP (by unfold aH; rfl) (by unfold aH; exact s1.1))
def cw (num : GI) (den : GI) : GQ :=
 bif (decide ((dE den) < 0)) then
  bif (decide ((aH (aw den) (aN (aw num) (aw den))) = ez)) then
   (⟨(aH (aw num) (aN (aw num) (aw den))), (⟨false, 0⟩ : GI)⟩ : GQ)
  else
   (⟨(aH (aw num) (aN (aw num) (aw den))), (aH (aw den) (aN (aw num) (aw den)))⟩ : GQ)
 else
  bif (decide ((aH den (aN num den)) = ez)) then
   (⟨(aH num (aN num den)), (⟨false, 0⟩ : GI)⟩ : GQ)
  else
   (⟨(aH num (aN num den)), (aH den (aN num den))⟩ : GQ)
theorem fg (num : GI) (den : GI) (k : Nat) (hk : (k + 1) ≤ 40) (znum : SzI (k + 1) num) (zden : SzI (k + 1) den) (w0 : World) : Calls Tryz.prog 157 #[(vI num), (vI den)] w0 (eX w0 (vQ (cw num den)) (SzQ k (cw num den))) := by
 refine enter (N := 29) (args := [(vI num), (vI den)]) Tryz.func157 rfl rfl ?_; intro ac h
 have p2 := aJ ((eI den) w0)
 refine eq fun K1 hK1 => ?_
 refine bx h (cI num) rfl rfl rfl fun b1 => gb (cI den) rfl rfl rfl fun b2 => ga (cQ oQ) vv40 rfl rfl fun b3 => gn hK1 <| gq fun K2 hK2 => gr fun K3 hK3 => g1 1 rfl (aV aa38 zz38 rfl rfl rfl (v := (vI den)) rfl) rfl <| gl cc124 rfl (eI den) rfl <| g0 (dP rfl rfl) rfl <| gn hK3 ?_; clear h ac; intro ac wo h
 refine db h rfl (fun hc1 => ?_) (fun hc1 => ?_)
 ·
  have hd1 := of_decide_eq_true hc1
  have s3 := aJ ((eS num (k + 1) (by omega) znum) w0)
  have s4 := aJ ((eS den (k + 1) (by omega) zden) w0)
  refine cj mixed [dw _ [2], dv _, dw _ [1], dv _, dw _ [2], dw _ [1]] [⟨_, []⟩, ⟨.blk b2 (cI den) 38, [(5, .con _)]⟩, ⟨.blk b1 (cI num) 38, [(4, .con _)]⟩] h rfl (by kernel_rfl) ⟨fun _ _ => cK _ rfl rfl (aV aa38 zz38 rfl rfl rfl (v := (vI num)) rfl), fun _ _ => eC (dK cc118 rfl (eS num (k + 1) (by omega) znum)), fun _ _ => cK _ rfl rfl (aV aa38 zz38 rfl rfl rfl (v := (vI den)) rfl), fun _ _ => eC (dK cc118 rfl (eS den (k + 1) (by omega) zden)), fun _ _ => gY _ [.blk b1 (cI (aw num)) 38] rfl rfl (iM zz38 rfl rfl rfl rfl rfl rfl rfl), fun _ _ => gY _ [.blk b2 (cI (aw den)) 38] rfl rfl (iM zz38 rfl rfl rfl rfl rfl rfl rfl), trivial⟩ ?_
  clear h ac wo; intro ξ ac wo hφ h
  replace h : St w0 29 [(2, (ptr b1 0)), (3, (ptr b2 0)), (4, (ptr b3 0))] [.blk b3 (cQ oQ) 40, .blk b2 (cI (aw den)) 38, .blk b1 (cI (aw num)) 38] ac wo := h.sub ⟨rfl, rfl, rfl, trivial⟩
  clear hφ ξ
  have c5 := kJ (aw num) (aw den) (k + 1) (by omega) s3 s4
  have s5 := aJ (c5 w0)
  have s6 := aJ ((dT (aw num) (aN (aw num) (aw den)) k (by omega) s3 s5) w0)
  have s7 := aJ ((dT (aw den) (aN (aw num) (aw den)) k (by omega) s4 s5) w0)
  refine gz h <| gx hK2 <| gr fun K4 hK4 => g1 2 rfl (aV aa38 zz38 rfl rfl rfl (v := (vI (aw num))) rfl) rfl <| g1 1 rfl (aV aa38 zz38 rfl rfl rfl (v := (vI (aw den))) rfl) rfl <| gl Tryz.call165 rfl c5 rfl <| ga (cI (⟨false, 0⟩ : GI)) vv38 rfl rfl fun b4 => gs 0 (cI (aN (aw num) (aw den))) rfl zz38 rfl rfl rfl rfl rfl rfl rfl <| gn hK4 <| gq fun K5 hK5 => ?_; clear h ac wo; intro ac wo h
  refine cj mixed [dw _ [3], dw _ [0], dv _, dw _ [2], dw _ [0], dv _, dw _ [3], dw _ [2]] [⟨_, []⟩, ⟨_, []⟩, ⟨.blk b2 (cI (aw den)) 38, [(7, .con _)]⟩, ⟨.blk b1 (cI (aw num)) 38, [(6, .con _)]⟩] h rfl (by kernel_rfl) ⟨fun _ _ => cK _ rfl rfl (aV aa38 zz38 rfl rfl rfl (v := (vI (aw num))) rfl), fun _ _ => cK _ rfl rfl (aV aa38 zz38 rfl rfl rfl (v := (vI (aN (aw num) (aw den)))) rfl), fun _ _ => eC (dK cc188 rfl (dT (aw num) (aN (aw num) (aw den)) k (by omega) s3 s5)), fun _ _ => cK _ rfl rfl (aV aa38 zz38 rfl rfl rfl (v := (vI (aw den))) rfl), fun _ _ => cK _ rfl rfl (aV aa38 zz38 rfl rfl rfl (v := (vI (aN (aw num) (aw den)))) rfl), fun _ _ => eC (dK cc188 rfl (dT (aw den) (aN (aw num) (aw den)) k (by omega) s4 s5)), fun _ _ => gY _ [.blk b1 (cI (aH (aw num) (aN (aw num) (aw den)))) 38] rfl rfl (iM zz38 rfl rfl rfl rfl rfl rfl rfl), fun _ _ => gY _ [.blk b2 (cI (aH (aw den) (aN (aw num) (aw den)))) 38] rfl rfl (iM zz38 rfl rfl rfl rfl rfl rfl rfl), trivial⟩ ?_
  clear h ac wo; intro ξ ac wo hφ h
  replace h : St w0 29 [(2, (ptr b1 0)), (3, (ptr b2 0)), (4, (ptr b3 0))] [.blk b4 (cI (aN (aw num) (aw den))) 38, .blk b3 (cQ oQ) 40, .blk b2 (cI (aH (aw den) (aN (aw num) (aw den)))) 38, .blk b1 (cI (aH (aw num) (aN (aw num) (aw den)))) 38] ac wo := h.sub ⟨rfl, rfl, rfl, trivial⟩
  clear hφ ξ
  refine hK5 _ _ ?_
  refine cG fun K6 hK6 => ?_
  refine cG fun K7 hK7 => ?_
  have s8 := aJ ((fI  (k + 1) (by omega) ) w0)
  refine cj mixed [dw _ [2], dv _, dv _] [⟨_, []⟩, ⟨_, []⟩, ⟨_, []⟩, ⟨_, []⟩] h rfl (by kernel_rfl) ⟨fun _ _ => cK _ rfl rfl (aV aa38 zz38 rfl rfl rfl (v := (vI (aH (aw den) (aN (aw num) (aw den))))) rfl), fun _ _ => eC (dK cc164 rfl (fI  (k + 1) (by omega) )), fun _ _ => az (eY eqp38 rfl rfl), trivial⟩ ?_
  clear h ac wo; intro ξ ac wo hφ h
  replace h : St w0 29 [(2, (ptr b1 0)), (3, (ptr b2 0)), (4, (ptr b3 0)), (24, (.bool (decide ((aH (aw den) (aN (aw num) (aw den))) = ez))))] [.blk b4 (cI (aN (aw num) (aw den))) 38, .blk b3 (cQ oQ) 40, .blk b2 (cI (aH (aw den) (aN (aw num) (aw den)))) 38, .blk b1 (cI (aH (aw num) (aN (aw num) (aw den)))) 38] ac wo := h.sub ⟨rfl, rfl, rfl, rfl, trivial⟩
  clear hφ ξ
  refine hK7 _ _ ?_
  refine db h rfl (fun hc2 => ?_) (fun hc2 => ?_)
  ·
   have hd2 := of_decide_eq_true hc2
   refine gz h <| gR <| g0 (bq qh rfl rfl (v := (vI (⟨false, 0⟩ : GI))) rfl) rfl <| gs 2 (cI (⟨false, 0⟩ : GI)) rfl zz38 rfl rfl rfl rfl rfl rfl rfl <| gn hK6 <| gr fun K8 hK8 => g1 3 rfl (aV aa38 zz38 rfl rfl rfl (v := (vI (aH (aw num) (aN (aw num) (aw den))))) rfl) rfl <| g1 2 rfl (aV aa38 zz38 rfl rfl rfl (v := (vI (⟨false, 0⟩ : GI))) rfl) rfl <| g0 (bq nG rfl rfl (v := (vQ (⟨(aH (aw num) (aN (aw num) (aw den))), (⟨false, 0⟩ : GI)⟩ : GQ))) rfl) rfl <| gs 1 (cQ (⟨(aH (aw num) (aN (aw num) (aw den))), (⟨false, 0⟩ : GI)⟩ : GQ)) rfl zz40 rfl rfl rfl rfl rfl rfl rfl <| gn hK8 <| gT ?_; clear h ac wo; intro ac wo h
   have hd : cw num den = (⟨(aH (aw num) (aN (aw num) (aw den))), (⟨false, 0⟩ : GI)⟩ : GQ) := (Eq.trans (cT hc1) (cT hc2))
   exact ret h rfl (.cell (v := (vQ (⟨(aH (aw num) (aN (aw num) (aw den))), (⟨false, 0⟩ : GI)⟩ : GQ))) rfl (i := 1) rfl aa40 zz40 rfl rfl rfl .nil) rfl (h.retP (by rw [hd] <;> rfl) (by rw [hd]; exact ⟨s6, (cO 0 (by decide) (by omega))⟩))
  ·
   have hd2 := of_decide_eq_false hc2
   refine gz h <| gS <| gx hK6 <| gr fun K9 hK9 => g1 3 rfl (aV aa38 zz38 rfl rfl rfl (v := (vI (aH (aw num) (aN (aw num) (aw den))))) rfl) rfl <| g1 2 rfl (aV aa38 zz38 rfl rfl rfl (v := (vI (aH (aw den) (aN (aw num) (aw den))))) rfl) rfl <| g0 (bq nG rfl rfl (v := (vQ (⟨(aH (aw num) (aN (aw num) (aw den))), (aH (aw den) (aN (aw num) (aw den)))⟩ : GQ))) rfl) rfl <| gs 1 (cQ (⟨(aH (aw num) (aN (aw num) (aw den))), (aH (aw den) (aN (aw num) (aw den)))⟩ : GQ)) rfl zz40 rfl rfl rfl rfl rfl rfl rfl <| gn hK9 <| gT ?_; clear h ac wo; intro ac wo h
   have hd : cw num den = (⟨(aH (aw num) (aN (aw num) (aw den))), (aH (aw den) (aN (aw num) (aw den)))⟩ : GQ) := (Eq.trans (cT hc1) (cF hc2))
   exact ret h rfl (.cell (v := (vQ (⟨(aH (aw num) (aN (aw num) (aw den))), (aH (aw den) (aN (aw num) (aw den)))⟩ : GQ))) rfl (i := 1) rfl aa40 zz40 rfl rfl rfl .nil) rfl (h.retP (by rw [hd] <;> rfl) (by rw [hd]; exact ⟨s6, s7⟩))
 ·
  have hd1 := of_decide_eq_false hc1
  have c9 := kJ num den (k + 1) (by omega) znum zden
  have s9 := aJ (c9 w0)
  have s10 := aJ ((dT num (aN num den) k (by omega) znum s9) w0)
  have s11 := aJ ((dT den (aN num den) k (by omega) zden s9) w0)
  refine gz h <| gS <| gx hK2 <| gr fun K10 hK10 => g1 2 rfl (aV aa38 zz38 rfl rfl rfl (v := (vI num)) rfl) rfl <| g1 1 rfl (aV aa38 zz38 rfl rfl rfl (v := (vI den)) rfl) rfl <| gl Tryz.call165 rfl c9 rfl <| ga (cI (⟨false, 0⟩ : GI)) vv38 rfl rfl fun b5 => gs 0 (cI (aN num den)) rfl zz38 rfl rfl rfl rfl rfl rfl rfl <| gn hK10 <| gq fun K11 hK11 => ?_; clear h ac wo; intro ac wo h
  refine cj mixed [dw _ [3], dw _ [0], dv _, dw _ [2], dw _ [0], dv _, dw _ [3], dw _ [2]] [⟨_, []⟩, ⟨_, []⟩, ⟨.blk b2 (cI den) 38, [(7, .con _)]⟩, ⟨.blk b1 (cI num) 38, [(6, .con _)]⟩] h rfl (by kernel_rfl) ⟨fun _ _ => cK _ rfl rfl (aV aa38 zz38 rfl rfl rfl (v := (vI num)) rfl), fun _ _ => cK _ rfl rfl (aV aa38 zz38 rfl rfl rfl (v := (vI (aN num den))) rfl), fun _ _ => eC (dK cc188 rfl (dT num (aN num den) k (by omega) znum s9)), fun _ _ => cK _ rfl rfl (aV aa38 zz38 rfl rfl rfl (v := (vI den)) rfl), fun _ _ => cK _ rfl rfl (aV aa38 zz38 rfl rfl rfl (v := (vI (aN num den))) rfl), fun _ _ => eC (dK cc188 rfl (dT den (aN num den) k (by omega) zden s9)), fun _ _ => gY _ [.blk b1 (cI (aH num (aN num den))) 38] rfl rfl (iM zz38 rfl rfl rfl rfl rfl rfl rfl), fun _ _ => gY _ [.blk b2 (cI (aH den (aN num den))) 38] rfl rfl (iM zz38 rfl rfl rfl rfl rfl rfl rfl), trivial⟩ ?_
  clear h ac wo; intro ξ ac wo hφ h
  replace h : St w0 29 [(2, (ptr b1 0)), (3, (ptr b2 0)), (4, (ptr b3 0))] [.blk b5 (cI (aN num den)) 38, .blk b3 (cQ oQ) 40, .blk b2 (cI (aH den (aN num den))) 38, .blk b1 (cI (aH num (aN num den))) 38] ac wo := h.sub ⟨rfl, rfl, rfl, trivial⟩
  clear hφ ξ
  refine hK11 _ _ ?_
  refine cG fun K12 hK12 => ?_
  refine cG fun K13 hK13 => ?_
  have s12 := aJ ((fI  (k + 1) (by omega) ) w0)
  refine cj mixed [dw _ [2], dv _, dv _] [⟨_, []⟩, ⟨_, []⟩, ⟨_, []⟩, ⟨_, []⟩] h rfl (by kernel_rfl) ⟨fun _ _ => cK _ rfl rfl (aV aa38 zz38 rfl rfl rfl (v := (vI (aH den (aN num den)))) rfl), fun _ _ => eC (dK cc164 rfl (fI  (k + 1) (by omega) )), fun _ _ => az (eY eqp38 rfl rfl), trivial⟩ ?_
  clear h ac wo; intro ξ ac wo hφ h
  replace h : St w0 29 [(2, (ptr b1 0)), (3, (ptr b2 0)), (4, (ptr b3 0)), (24, (.bool (decide ((aH den (aN num den)) = ez))))] [.blk b5 (cI (aN num den)) 38, .blk b3 (cQ oQ) 40, .blk b2 (cI (aH den (aN num den))) 38, .blk b1 (cI (aH num (aN num den))) 38] ac wo := h.sub ⟨rfl, rfl, rfl, rfl, trivial⟩
  clear hφ ξ
  refine hK13 _ _ ?_
  refine db h rfl (fun hc3 => ?_) (fun hc3 => ?_)
  ·
   have hd3 := of_decide_eq_true hc3
   refine gz h <| gR <| g0 (bq qh rfl rfl (v := (vI (⟨false, 0⟩ : GI))) rfl) rfl <| gs 2 (cI (⟨false, 0⟩ : GI)) rfl zz38 rfl rfl rfl rfl rfl rfl rfl <| gn hK12 <| gr fun K14 hK14 => g1 3 rfl (aV aa38 zz38 rfl rfl rfl (v := (vI (aH num (aN num den)))) rfl) rfl <| g1 2 rfl (aV aa38 zz38 rfl rfl rfl (v := (vI (⟨false, 0⟩ : GI))) rfl) rfl <| g0 (bq nG rfl rfl (v := (vQ (⟨(aH num (aN num den)), (⟨false, 0⟩ : GI)⟩ : GQ))) rfl) rfl <| gs 1 (cQ (⟨(aH num (aN num den)), (⟨false, 0⟩ : GI)⟩ : GQ)) rfl zz40 rfl rfl rfl rfl rfl rfl rfl <| gn hK14 <| gT ?_; clear h ac wo; intro ac wo h
   have hd : cw num den = (⟨(aH num (aN num den)), (⟨false, 0⟩ : GI)⟩ : GQ) := (Eq.trans (cF hc1) (cT hc3))
   exact ret h rfl (.cell (v := (vQ (⟨(aH num (aN num den)), (⟨false, 0⟩ : GI)⟩ : GQ))) rfl (i := 1) rfl aa40 zz40 rfl rfl rfl .nil) rfl (h.retP (by rw [hd] <;> rfl) (by rw [hd]; exact ⟨s10, (cO 0 (by decide) (by omega))⟩))
  ·
   have hd3 := of_decide_eq_false hc3
   refine gz h <| gS <| gx hK12 <| gr fun K15 hK15 => g1 3 rfl (aV aa38 zz38 rfl rfl rfl (v := (vI (aH num (aN num den)))) rfl) rfl <| g1 2 rfl (aV aa38 zz38 rfl rfl rfl (v := (vI (aH den (aN num den)))) rfl) rfl <| g0 (bq nG rfl rfl (v := (vQ (⟨(aH num (aN num den)), (aH den (aN num den))⟩ : GQ))) rfl) rfl <| gs 1 (cQ (⟨(aH num (aN num den)), (aH den (aN num den))⟩ : GQ)) rfl zz40 rfl rfl rfl rfl rfl rfl rfl <| gn hK15 <| gT ?_; clear h ac wo; intro ac wo h
   have hd : cw num den = (⟨(aH num (aN num den)), (aH den (aN num den))⟩ : GQ) := (Eq.trans (cF hc1) (cF hc3))
   exact ret h rfl (.cell (v := (vQ (⟨(aH num (aN num den)), (aH den (aN num den))⟩ : GQ))) rfl (i := 1) rfl aa40 zz40 rfl rfl rfl .nil) rfl (h.retP (by rw [hd] <;> rfl) (by rw [hd]; exact ⟨s10, s11⟩))
def aQ (a : GQ) (b : GQ) : GI × GI × GI :=
 bif (decide (a.den = b.den)) then
  (a.num, b.num, (bb a))
 else
  ((cd a.num (bb b)), (cd b.num (bb a)), (cd (bb a) (bb b)))
theorem jx (a : GQ) (b : GQ) (k : Nat) (hk : (k + 1) ≤ 40) (za : SzQ (k + 1) a) (zb : SzQ (k + 1) b) (w0 : World) : Calls Tryz.prog 160 #[(vQ a), (vQ b)] w0 (eX w0 (.tuple #[(vI ((aQ a b).1)), (vI ((aQ a b).2.1)), (vI ((aQ a b).2.2))]) (SzI k ((aQ a b).1) ∧ SzI k ((aQ a b).2.1) ∧ SzI k ((aQ a b).2.2))) := by
 refine enter (N := 33) (args := [(vQ a), (vQ b)]) Tryz.func160 rfl rfl ?_; intro ac h
 refine eq fun K1 hK1 => ?_
 refine bx h (cQ a) rfl rfl rfl fun b1 => gb (cQ b) rfl rfl rfl fun b2 => ga (cI (⟨false, 0⟩ : GI)) vv38 rfl rfl fun b3 => ga (cI (⟨false, 0⟩ : GI)) vv38 rfl rfl fun b4 => ga (cI (⟨false, 0⟩ : GI)) vv38 rfl rfl fun b5 => gn hK1 <| gq fun K2 hK2 => gr fun K3 hK3 => g0 (fa uu40 rfl zz38 rfl rfl rfl (k' := 2)) rfl <| g1 4 rfl (aV aa38 zz38 rfl rfl rfl (v := (vI a.den)) rfl) rfl <| g0 (fa uu40 rfl zz38 rfl rfl rfl (k' := 2)) rfl <| g1 3 rfl (aV aa38 zz38 rfl rfl rfl (v := (vI b.den)) rfl) rfl <| g0 (eY eqp38 rfl rfl) rfl <| gn hK3 ?_; clear h ac; intro ac wo h
 refine db h rfl (fun hc1 => ?_) (fun hc1 => ?_)
 ·
  have hd1 := of_decide_eq_true hc1
  refine cG fun K4 hK4 => ?_
  have s1 := aJ ((dB a (k + 1) (by omega) za) w0)
  refine cj mixed [dv _, dw _ [4], dv _, dw _ [3], dw _ [4], dv _, dw _ [2], dw _ [1], dw _ [0]] [⟨.blk b5 (cI (⟨false, 0⟩ : GI)) 38, [(8, .con _)]⟩, ⟨.blk b4 (cI (⟨false, 0⟩ : GI)) 38, [(7, .con _)]⟩, ⟨.blk b3 (cI (⟨false, 0⟩ : GI)) 38, [(6, .con _)]⟩, ⟨_, []⟩, ⟨_, []⟩] h rfl (by kernel_rfl) ⟨fun _ _ => az (fa uu40 rfl zz38 rfl rfl rfl (k' := 0)), fun _ _ => cK _ rfl rfl (aV aa38 zz38 rfl rfl rfl (v := (vI a.num)) rfl), fun _ _ => az (fa uu40 rfl zz38 rfl rfl rfl (k' := 0)), fun _ _ => cK _ rfl rfl (aV aa38 zz38 rfl rfl rfl (v := (vI b.num)) rfl), fun _ _ => cK _ rfl rfl (aV aa40 zz40 rfl rfl rfl (v := (vQ a)) rfl), fun _ _ => eC (dK cc159 rfl (dB a (k + 1) (by omega) za)), fun _ _ => gY _ [.blk b3 (cI a.num) 38] rfl rfl (iM zz38 rfl rfl rfl rfl rfl rfl rfl), fun _ _ => gY _ [.blk b4 (cI b.num) 38] rfl rfl (iM zz38 rfl rfl rfl rfl rfl rfl rfl), fun _ _ => gY _ [.blk b5 (cI (bb a)) 38] rfl rfl (iM zz38 rfl rfl rfl rfl rfl rfl rfl), trivial⟩ ?_
  clear h ac wo; intro ξ ac wo hφ h
  replace h : St w0 33 [(4, (ptr b3 0)), (5, (ptr b4 0)), (6, (ptr b5 0))] [.blk b5 (cI (bb a)) 38, .blk b4 (cI b.num) 38, .blk b3 (cI a.num) 38, .blk b2 (cQ b) 40, .blk b1 (cQ a) 40] ac wo := h.sub ⟨rfl, rfl, rfl, trivial⟩
  clear hφ ξ
  refine hK4 _ _ ?_
  refine fU ?_
  have hd : aQ a b = (a.num, b.num, (bb a)) := (cT hc1)
  exact ret h rfl (.cell (v := (vI a.num)) rfl (i := 2) rfl aa38 zz38 rfl rfl rfl (.cell (v := (vI b.num)) rfl (i := 1) rfl aa38 zz38 rfl rfl rfl (.cell (v := (vI (bb a))) rfl (i := 0) rfl aa38 zz38 rfl rfl rfl .nil))) rfl (h.retP (by rw [hd] <;> rfl) (by rw [hd]; exact ⟨(fk za (by omega)).1, (fk zb (by omega)).1, (kL s1 (by omega))⟩))
 ·
  have hd1 := of_decide_eq_false hc1
  refine dR ?_
  refine hK2 _ _ ?_
  refine cG fun K5 hK5 => ?_
  have s2 := aJ ((dB b (k + 1) (by omega) zb) w0)
  have s3 := aJ ((es a.num (bb b) k (by omega) za.1 s2) w0)
  have s4 := aJ ((dB a (k + 1) (by omega) za) w0)
  have s5 := aJ ((es b.num (bb a) k (by omega) zb.1 s4) w0)
  have s6 := aJ ((dB a (k + 1) (by omega) za) w0)
  have s7 := aJ ((dB b (k + 1) (by omega) zb) w0)
  have s8 := aJ ((es (bb a) (bb b) k (by omega) s6 s7) w0)
  refine cj mixed [dv _, dw _ [4], dw _ [3], dv _, dv _, dv _, dw _ [3], dw _ [4], dv _, dv _, dw _ [4], dv _, dw _ [3], dv _, dv _, dw _ [2], dw _ [1], dw _ [0]] [⟨.blk b5 (cI (⟨false, 0⟩ : GI)) 38, [(17, .con _)]⟩, ⟨.blk b4 (cI (⟨false, 0⟩ : GI)) 38, [(16, .con _)]⟩, ⟨.blk b3 (cI (⟨false, 0⟩ : GI)) 38, [(15, .con _)]⟩, ⟨_, []⟩, ⟨_, []⟩] h rfl (by kernel_rfl) ⟨fun _ _ => az (fa uu40 rfl zz38 rfl rfl rfl (k' := 0)), fun _ _ => cK _ rfl rfl (aV aa38 zz38 rfl rfl rfl (v := (vI a.num)) rfl), fun _ _ => cK _ rfl rfl (aV aa40 zz40 rfl rfl rfl (v := (vQ b)) rfl), fun _ _ => eC (dK cc159 rfl (dB b (k + 1) (by omega) zb)), fun _ _ => eC (dK cc158 rfl (es a.num (bb b) k (by omega) za.1 s2)), fun _ _ => az (fa uu40 rfl zz38 rfl rfl rfl (k' := 0)), fun _ _ => cK _ rfl rfl (aV aa38 zz38 rfl rfl rfl (v := (vI b.num)) rfl), fun _ _ => cK _ rfl rfl (aV aa40 zz40 rfl rfl rfl (v := (vQ a)) rfl), fun _ _ => eC (dK cc159 rfl (dB a (k + 1) (by omega) za)), fun _ _ => eC (dK cc158 rfl (es b.num (bb a) k (by omega) zb.1 s4)), fun _ _ => cK _ rfl rfl (aV aa40 zz40 rfl rfl rfl (v := (vQ a)) rfl), fun _ _ => eC (dK cc159 rfl (dB a (k + 1) (by omega) za)), fun _ _ => cK _ rfl rfl (aV aa40 zz40 rfl rfl rfl (v := (vQ b)) rfl), fun _ _ => eC (dK cc159 rfl (dB b (k + 1) (by omega) zb)), fun _ _ => eC (dK cc158 rfl (es (bb a) (bb b) k (by omega) s6 s7)), fun _ _ => gY _ [.blk b3 (cI (cd a.num (bb b))) 38] rfl rfl (iM zz38 rfl rfl rfl rfl rfl rfl rfl), fun _ _ => gY _ [.blk b4 (cI (cd b.num (bb a))) 38] rfl rfl (iM zz38 rfl rfl rfl rfl rfl rfl rfl), fun _ _ => gY _ [.blk b5 (cI (cd (bb a) (bb b))) 38] rfl rfl (iM zz38 rfl rfl rfl rfl rfl rfl rfl), trivial⟩ ?_
  clear h ac wo; intro ξ ac wo hφ h
  replace h : St w0 33 [(4, (ptr b3 0)), (5, (ptr b4 0)), (6, (ptr b5 0))] [.blk b5 (cI (cd (bb a) (bb b))) 38, .blk b4 (cI (cd b.num (bb a))) 38, .blk b3 (cI (cd a.num (bb b))) 38, .blk b2 (cQ b) 40, .blk b1 (cQ a) 40] ac wo := h.sub ⟨rfl, rfl, rfl, trivial⟩
  clear hφ ξ
  refine hK5 _ _ ?_
  refine fU ?_
  have hd : aQ a b = ((cd a.num (bb b)), (cd b.num (bb a)), (cd (bb a) (bb b))) := (cF hc1)
  exact ret h rfl (.cell (v := (vI (cd a.num (bb b)))) rfl (i := 2) rfl aa38 zz38 rfl rfl rfl (.cell (v := (vI (cd b.num (bb a)))) rfl (i := 1) rfl aa38 zz38 rfl rfl rfl (.cell (v := (vI (cd (bb a) (bb b)))) rfl (i := 0) rfl aa38 zz38 rfl rfl rfl .nil))) rfl (h.retP (by rw [hd] <;> rfl) (by rw [hd]; exact ⟨s3, s5, s8⟩))
def bc (a : GQ) (b : GQ) : GQ :=
 (cw (eU ((aQ a b).1) ((aQ a b).2.1)) ((aQ a b).2.2))
theorem dC (a : GQ) (b : GQ) (k : Nat) (hk : (k + 3) ≤ 40) (za : SzQ (k + 3) a) (zb : SzQ (k + 3) b) (w0 : World) : Calls Tryz.prog 102 #[(vQ a), (vQ b)] w0 (eX w0 (vQ (bc a b)) (SzQ k (bc a b))) := by
 refine enter (N := 20) (args := [(vQ a), (vQ b)]) Tryz.func102 rfl rfl ?_; intro ac h
 have c1 := jx a b (k + 2) (by omega) za zb
 have s1 := aJ (c1 w0)
 have s2 := aJ ((kK ((aQ a b).1) ((aQ a b).2.1) (k + 1) (by omega) s1.1 s1.2.1) w0)
 have s3 := aJ ((fg (eU ((aQ a b).1) ((aQ a b).2.1)) ((aQ a b).2.2) k (by omega) s2 (kL s1.2.2 (by omega))) w0)
 refine eq fun K1 hK1 => ?_
 refine bx h (cQ a) rfl rfl rfl fun b1 => gb (cQ b) rfl rfl rfl fun b2 => ga (cQ oQ) vv40 rfl rfl fun b3 => gn hK1 <| gr fun K2 hK2 => g1 2 rfl (aV aa40 zz40 rfl rfl rfl (v := (vQ a)) rfl) rfl <| g1 1 rfl (aV aa40 zz40 rfl rfl rfl (v := (vQ b)) rfl) rfl <| gl Tryz.call160 rfl c1 rfl <| g0 (aj rfl) rfl <| g0 (bO rfl rfl) rfl <| g0 (bO rfl rfl) rfl <| g0 (bO rfl rfl) rfl <| ga (cI (⟨false, 0⟩ : GI)) vv38 rfl rfl fun b4 => ga (cI (⟨false, 0⟩ : GI)) vv38 rfl rfl fun b5 => ga (cI (⟨false, 0⟩ : GI)) vv38 rfl rfl fun b6 => gs 2 (cI ((aQ a b).1)) rfl zz38 rfl rfl rfl rfl rfl rfl rfl <| gs 1 (cI ((aQ a b).2.1)) rfl zz38 rfl rfl rfl rfl rfl rfl rfl <| gs 0 (cI ((aQ a b).2.2)) rfl zz38 rfl rfl rfl rfl rfl rfl rfl <| gn hK2 <| gq fun K3 hK3 => ?_; clear h ac; intro ac wo h
 refine cj mixed [dw _ [2], dw _ [1], dv _, dw _ [0], dv _, dw _ [3]] [⟨_, []⟩, ⟨_, []⟩, ⟨_, []⟩, ⟨.blk b3 (cQ oQ) 40, [(5, .con _)]⟩, ⟨_, []⟩, ⟨_, []⟩] h rfl (by kernel_rfl) ⟨fun _ _ => cK _ rfl rfl (aV aa38 zz38 rfl rfl rfl (v := (vI ((aQ a b).1))) rfl), fun _ _ => cK _ rfl rfl (aV aa38 zz38 rfl rfl rfl (v := (vI ((aQ a b).2.1))) rfl), fun _ _ => eC (dK Tryz.call161 rfl (kK ((aQ a b).1) ((aQ a b).2.1) (k + 1) (by omega) s1.1 s1.2.1)), fun _ _ => cK _ rfl rfl (aV aa38 zz38 rfl rfl rfl (v := (vI ((aQ a b).2.2))) rfl), fun _ _ => eC (dK Tryz.call157 rfl (fg (eU ((aQ a b).1) ((aQ a b).2.1)) ((aQ a b).2.2) k (by omega) s2 (kL s1.2.2 (by omega)))), fun _ _ => gY _ [.blk b3 (cQ (cw (eU ((aQ a b).1) ((aQ a b).2.1)) ((aQ a b).2.2))) 40] rfl rfl (iM zz40 rfl rfl rfl rfl rfl rfl rfl), trivial⟩ ?_
 clear h ac wo; intro ξ ac wo hφ h
 replace h : St w0 20 [(4, (ptr b3 0))] [.blk b6 (cI ((aQ a b).2.2)) 38, .blk b5 (cI ((aQ a b).2.1)) 38, .blk b4 (cI ((aQ a b).1)) 38, .blk b3 (cQ (cw (eU ((aQ a b).1) ((aQ a b).2.1)) ((aQ a b).2.2))) 40, .blk b2 (cQ b) 40, .blk b1 (cQ a) 40] ac wo := h.sub ⟨rfl, trivial⟩
 clear hφ ξ
 refine hK3 _ _ ?_
 refine fU ?_
 exact ret h rfl (.cell (v := (vQ (cw (eU ((aQ a b).1) ((aQ a b).2.1)) ((aQ a b).2.2)))) rfl (i := 3) rfl aa40 zz40 rfl rfl rfl .nil) rfl (h.retP (by unfold bc; rfl) (by unfold bc; exact s3))
def cm (a : GQ) : GQ :=
 (⟨(aw a.num), a.den⟩ : GQ)
theorem gU (a : GQ) (k : Nat) (hk : k ≤ 40) (za : SzQ k a) (w0 : World) : Calls Tryz.prog 52 #[(vQ a)] w0 (eX w0 (vQ (cm a)) (SzQ k (cm a))) := by
 refine enter (N := 9) (args := [(vQ a)]) Tryz.func52 rfl rfl ?_; intro ac h
 have s1 := aJ ((eS a.num k (by omega) za.1) w0)
 refine eq fun K1 hK1 => ?_
 refine bx h (cQ a) rfl rfl rfl fun b1 => ga (cQ oQ) vv40 rfl rfl fun b2 => gn hK1 <| gq fun K2 hK2 => ?_; clear h ac; intro ac wo h
 refine cj mixed [dv _, dw _ [1], dv _, dv _, dw _ [1], dv _, dw _ [0]] [⟨.blk b2 (cQ oQ) 40, [(6, .con _)]⟩, ⟨_, []⟩] h rfl (by kernel_rfl) ⟨fun _ _ => az (fa uu40 rfl zz38 rfl rfl rfl (k' := 0)), fun _ _ => cK _ rfl rfl (aV aa38 zz38 rfl rfl rfl (v := (vI a.num)) rfl), fun _ _ => eC (dK cc118 rfl (eS a.num k (by omega) za.1)), fun _ _ => az (fa uu40 rfl zz38 rfl rfl rfl (k' := 2)), fun _ _ => cK _ rfl rfl (aV aa38 zz38 rfl rfl rfl (v := (vI a.den)) rfl), fun _ _ => az (bq nG rfl rfl (v := (vQ (⟨(aw a.num), a.den⟩ : GQ))) rfl), fun _ _ => gY _ [.blk b2 (cQ (⟨(aw a.num), a.den⟩ : GQ)) 40] rfl rfl (iM zz40 rfl rfl rfl rfl rfl rfl rfl), trivial⟩ ?_
 clear h ac wo; intro ξ ac wo hφ h
 replace h : St w0 9 [(2, (ptr b2 0))] [.blk b2 (cQ (⟨(aw a.num), a.den⟩ : GQ)) 40, .blk b1 (cQ a) 40] ac wo := h.sub ⟨rfl, trivial⟩
 clear hφ ξ
 refine hK2 _ _ ?_
 refine fU ?_
 exact ret h rfl (.cell (v := (vQ (⟨(aw a.num), a.den⟩ : GQ))) rfl (i := 0) rfl aa40 zz40 rfl rfl rfl .nil) rfl (h.retP (by unfold cm; rfl) (by unfold cm; exact ⟨s1, za.2⟩))
def aA (a : GQ) (b : GQ) : GQ :=
 (bc a (cm b))
theorem dQ (a : GQ) (b : GQ) (k : Nat) (hk : (k + 3) ≤ 40) (za : SzQ (k + 3) a) (zb : SzQ (k + 3) b) (w0 : World) : Calls Tryz.prog 100 #[(vQ a), (vQ b)] w0 (eX w0 (vQ (aA a b)) (SzQ k (aA a b))) := by
 refine enter (N := 9) (args := [(vQ a), (vQ b)]) Tryz.func100 rfl rfl ?_; intro ac h
 have s1 := aJ ((gU b (k + 3) (by omega) zb) w0)
 have s2 := aJ ((dC a (cm b) k (by omega) za s1) w0)
 refine eq fun K1 hK1 => ?_
 refine bx h (cQ a) rfl rfl rfl fun b1 => gb (cQ b) rfl rfl rfl fun b2 => ga (cQ oQ) vv40 rfl rfl fun b3 => gn hK1 <| gq fun K2 hK2 => ?_; clear h ac; intro ac wo h
 refine cj mixed [dw _ [2], dw _ [1], dv _, dv _, dw _ [0]] [⟨.blk b3 (cQ oQ) 40, [(4, .con _)]⟩, ⟨_, []⟩, ⟨_, []⟩] h rfl (by kernel_rfl) ⟨fun _ _ => cK _ rfl rfl (aV aa40 zz40 rfl rfl rfl (v := (vQ a)) rfl), fun _ _ => cK _ rfl rfl (aV aa40 zz40 rfl rfl rfl (v := (vQ b)) rfl), fun _ _ => eC (dK Tryz.call52 rfl (gU b (k + 3) (by omega) zb)), fun _ _ => eC (dK cc102 rfl (dC a (cm b) k (by omega) za s1)), fun _ _ => gY _ [.blk b3 (cQ (bc a (cm b))) 40] rfl rfl (iM zz40 rfl rfl rfl rfl rfl rfl rfl), trivial⟩ ?_
 clear h ac wo; intro ξ ac wo hφ h
 replace h : St w0 9 [(4, (ptr b3 0))] [.blk b3 (cQ (bc a (cm b))) 40, .blk b2 (cQ b) 40, .blk b1 (cQ a) 40] ac wo := h.sub ⟨rfl, trivial⟩
 clear hφ ξ
 refine hK2 _ _ ?_
 refine fU ?_
 exact ret h rfl (.cell (v := (vQ (bc a (cm b)))) rfl (i := 0) rfl aa40 zz40 rfl rfl rfl .nil) rfl (h.retP (by unfold aA; rfl) (by unfold aA; exact s2))
def aD (a : GQ) (b : GQ) : GQ :=
 (cw (cd a.num b.num) (cd (bb a) (bb b)))
theorem bV (a : GQ) (b : GQ) (k : Nat) (hk : (k + 2) ≤ 40) (za : SzQ (k + 2) a) (zb : SzQ (k + 2) b) (w0 : World) : Calls Tryz.prog 101 #[(vQ a), (vQ b)] w0 (eX w0 (vQ (aD a b)) (SzQ k (aD a b))) := by
 refine enter (N := 16) (args := [(vQ a), (vQ b)]) Tryz.func101 rfl rfl ?_; intro ac h
 have s1 := aJ ((es a.num b.num (k + 1) (by omega) za.1 zb.1) w0)
 have s2 := aJ ((dB a (k + 2) (by omega) za) w0)
 have s3 := aJ ((dB b (k + 2) (by omega) zb) w0)
 have s4 := aJ ((es (bb a) (bb b) (k + 1) (by omega) s2 s3) w0)
 have s5 := aJ ((fg (cd a.num b.num) (cd (bb a) (bb b)) k (by omega) s1 s4) w0)
 refine eq fun K1 hK1 => ?_
 refine bx h (cQ a) rfl rfl rfl fun b1 => gb (cQ b) rfl rfl rfl fun b2 => ga (cQ oQ) vv40 rfl rfl fun b3 => gn hK1 <| gq fun K2 hK2 => ?_; clear h ac; intro ac wo h
 refine cj mixed [dv _, dw _ [2], dv _, dw _ [1], dv _, dw _ [2], dv _, dw _ [1], dv _, dv _, dv _, dw _ [0]] [⟨.blk b3 (cQ oQ) 40, [(11, .con _)]⟩, ⟨_, []⟩, ⟨_, []⟩] h rfl (by kernel_rfl) ⟨fun _ _ => az (fa uu40 rfl zz38 rfl rfl rfl (k' := 0)), fun _ _ => cK _ rfl rfl (aV aa38 zz38 rfl rfl rfl (v := (vI a.num)) rfl), fun _ _ => az (fa uu40 rfl zz38 rfl rfl rfl (k' := 0)), fun _ _ => cK _ rfl rfl (aV aa38 zz38 rfl rfl rfl (v := (vI b.num)) rfl), fun _ _ => eC (dK cc158 rfl (es a.num b.num (k + 1) (by omega) za.1 zb.1)), fun _ _ => cK _ rfl rfl (aV aa40 zz40 rfl rfl rfl (v := (vQ a)) rfl), fun _ _ => eC (dK cc159 rfl (dB a (k + 2) (by omega) za)), fun _ _ => cK _ rfl rfl (aV aa40 zz40 rfl rfl rfl (v := (vQ b)) rfl), fun _ _ => eC (dK cc159 rfl (dB b (k + 2) (by omega) zb)), fun _ _ => eC (dK cc158 rfl (es (bb a) (bb b) (k + 1) (by omega) s2 s3)), fun _ _ => eC (dK Tryz.call157 rfl (fg (cd a.num b.num) (cd (bb a) (bb b)) k (by omega) s1 s4)), fun _ _ => gY _ [.blk b3 (cQ (cw (cd a.num b.num) (cd (bb a) (bb b)))) 40] rfl rfl (iM zz40 rfl rfl rfl rfl rfl rfl rfl), trivial⟩ ?_
 clear h ac wo; intro ξ ac wo hφ h
 replace h : St w0 16 [(4, (ptr b3 0))] [.blk b3 (cQ (cw (cd a.num b.num) (cd (bb a) (bb b)))) 40, .blk b2 (cQ b) 40, .blk b1 (cQ a) 40] ac wo := h.sub ⟨rfl, trivial⟩
 clear hφ ξ
 refine hK2 _ _ ?_
 refine fU ?_
 exact ret h rfl (.cell (v := (vQ (cw (cd a.num b.num) (cd (bb a) (bb b))))) rfl (i := 0) rfl aa40 zz40 rfl rfl rfl .nil) rfl (h.retP (by unfold aD; rfl) (by unfold aD; exact s5))
def aL (a : GQ) : Int :=
 (dE a.num)
theorem dH (a : GQ) (w0 : World) : Calls Tryz.prog 58 #[(vQ a)] w0 (eX w0 (.int .i64 (aL a)) ((-1 ≤ (aL a) ∧ (aL a) ≤ 1))) := by
 refine enter (N := 6) (args := [(vQ a)]) Tryz.func58 rfl rfl ?_; intro ac h
 have p2 := aJ ((eI a.num) w0)
 refine eq fun K1 hK1 => ?_
 refine bx h (cQ a) rfl rfl rfl fun b1 => g0 (ak rfl) rfl <| gn hK1 <| gr fun K2 hK2 => g0 (fa uu40 rfl zz38 rfl rfl rfl (k' := 0)) rfl <| g1 0 rfl (aV aa38 zz38 rfl rfl rfl (v := (vI a.num)) rfl) rfl <| gl cc124 rfl (eI a.num) rfl <| g0 (ak rfl) rfl <| gn hK2 <| gT ?_; clear h ac; intro ac wo h
 exact ret h rfl (.tmp rfl .nil) rfl (h.retP (by unfold aL; rfl) (by unfold aL; exact by first | omega | exact eZ (by omega) (by omega)))
def ed (a : GQ) (b : GQ) : Int :=
 bif (decide (a = b)) then
  0
 else
  (eJ ((aQ a b).1) ((aQ a b).2.1))
theorem iR (a : GQ) (b : GQ) (k : Nat) (hk : (k + 1) ≤ 40) (za : SzQ (k + 1) a) (zb : SzQ (k + 1) b) (w0 : World) : Calls Tryz.prog 198 #[(vQ a), (vQ b)] w0 (eX w0 (.int .i64 (ed a b)) ((-1 ≤ (ed a b) ∧ (ed a b) ≤ 1))) := by
 refine enter (N := 21) (args := [(vQ a), (vQ b)]) Tryz.func198 rfl rfl ?_; intro ac h
 refine eq fun K1 hK1 => ?_
 refine bx h (cQ a) rfl rfl rfl fun b1 => gb (cQ b) rfl rfl rfl fun b2 => g0 (ak rfl) rfl <| gn hK1 <| gq fun K2 hK2 => gr fun K3 hK3 => g1 1 rfl (aV aa40 zz40 rfl rfl rfl (v := (vQ a)) rfl) rfl <| g1 0 rfl (aV aa40 zz40 rfl rfl rfl (v := (vQ b)) rfl) rfl <| g0 (eY eqp40 rfl rfl) rfl <| gn hK3 ?_; clear h ac; intro ac wo h
 refine db h rfl (fun hc1 => ?_) (fun hc1 => ?_)
 ·
  have hd1 := of_decide_eq_true hc1
  refine gz h <| gr fun K4 hK4 => g0 (ak rfl) rfl <| gn hK4 <| gT ?_; clear h ac wo; intro ac wo h
  have hd : ed a b = 0 := (cT hc1)
  exact ret h rfl (.tmp rfl .nil) rfl (h.retP (by rw [hd] <;> rfl) (by rw [hd]; exact by first | omega | exact eZ (by omega) (by omega)))
 ·
  have hd1 := of_decide_eq_false hc1
  have c1 := jx a b k (by omega) za zb
  have s1 := aJ (c1 w0)
  have p3 := aJ ((jm ((aQ a b).1) ((aQ a b).2.1) k (by omega) s1.1 s1.2.1) w0)
  refine gz h <| gS <| gx hK2 <| gr fun K5 hK5 => g1 1 rfl (aV aa40 zz40 rfl rfl rfl (v := (vQ a)) rfl) rfl <| g1 0 rfl (aV aa40 zz40 rfl rfl rfl (v := (vQ b)) rfl) rfl <| gl Tryz.call160 rfl c1 rfl <| g0 (aj rfl) rfl <| g0 (bO rfl rfl) rfl <| g0 (bO rfl rfl) rfl <| g0 (bO rfl rfl) rfl <| ga (cI (⟨false, 0⟩ : GI)) vv38 rfl rfl fun b3 => ga (cI (⟨false, 0⟩ : GI)) vv38 rfl rfl fun b4 => ga (cI (⟨false, 0⟩ : GI)) vv38 rfl rfl fun b5 => gs 2 (cI ((aQ a b).1)) rfl zz38 rfl rfl rfl rfl rfl rfl rfl <| gs 1 (cI ((aQ a b).2.1)) rfl zz38 rfl rfl rfl rfl rfl rfl rfl <| gs 0 (cI ((aQ a b).2.2)) rfl zz38 rfl rfl rfl rfl rfl rfl rfl <| gn hK5 <| gr fun K6 hK6 => g1 2 rfl (aV aa38 zz38 rfl rfl rfl (v := (vI ((aQ a b).1))) rfl) rfl <| g1 1 rfl (aV aa38 zz38 rfl rfl rfl (v := (vI ((aQ a b).2.1))) rfl) rfl <| gl Tryz.call163 rfl (jm ((aQ a b).1) ((aQ a b).2.1) k (by omega) s1.1 s1.2.1) rfl <| g0 (ak rfl) rfl <| gn hK6 <| gT ?_; clear h ac wo; intro ac wo h
  have hd : ed a b = (eJ ((aQ a b).1) ((aQ a b).2.1)) := (cF hc1)
  exact ret h rfl (.tmp rfl .nil) rfl (h.retP (by rw [hd] <;> rfl) (by rw [hd]; exact by first | omega | exact eZ (by omega) (by omega)))
def aM (c0 : GQ) (c1 : GQ) : Qd :=
 (⟨c0, c1, (⟨(⟨false, 0⟩ : GI), (⟨false, 0⟩ : GI)⟩ : GQ)⟩ : Qd)
theorem dZ (c0 : GQ) (c1 : GQ) (k : Nat) (hk : k ≤ 40) (zc0 : SzQ k c0) (zc1 : SzQ k c1) (w0 : World) : Calls Tryz.prog 31 #[(vQ c0), (vQ c1)] w0 (eX w0 (vD (aM c0 c1)) (SzD k (aM c0 c1))) := by
 refine enter (N := 8) (args := [(vQ c0), (vQ c1)]) Tryz.func31 rfl rfl ?_; intro ac h
 refine eq fun K1 hK1 => ?_
 refine bx h (cQ c0) rfl rfl rfl fun b1 => gb (cQ c1) rfl rfl rfl fun b2 => ga (cD oD) vv69 rfl rfl fun b3 => gn hK1 <| gr fun K2 hK2 => g1 2 rfl (aV aa40 zz40 rfl rfl rfl (v := (vQ c0)) rfl) rfl <| g1 1 rfl (aV aa40 zz40 rfl rfl rfl (v := (vQ c1)) rfl) rfl <| g0 (bq rx rfl rfl (v := (vD (⟨c0, c1, oQ⟩ : Qd))) rfl) rfl <| gs 0 (cD (⟨c0, c1, oQ⟩ : Qd)) rfl zz69 rfl rfl rfl rfl rfl rfl rfl <| gn hK2 <| gT ?_; clear h ac; intro ac wo h
 exact ret h rfl (.cell (v := (vD (⟨c0, c1, oQ⟩ : Qd))) rfl (i := 0) rfl aa69 zz69 rfl rfl rfl .nil) rfl (h.retP (by unfold aM; rfl) (by unfold aM; exact ⟨zc0, zc1, ⟨(cO 0 (by decide) (by omega)), (cO 0 (by decide) (by omega))⟩⟩))
def aP (c : GQ) : Qd :=
 (⟨c, (⟨(⟨false, 0⟩ : GI), (⟨false, 0⟩ : GI)⟩ : GQ), (⟨(⟨false, 0⟩ : GI), (⟨false, 0⟩ : GI)⟩ : GQ)⟩ : Qd)
theorem fJ (c : GQ) (k : Nat) (hk : k ≤ 40) (zc : SzQ k c) (w0 : World) : Calls Tryz.prog 79 #[(vQ c)] w0 (eX w0 (vD (aP c)) (SzD k (aP c))) := by
 refine enter (N := 5) (args := [(vQ c)]) Tryz.func79 rfl rfl ?_; intro ac h
 refine eq fun K1 hK1 => ?_
 refine bx h (cQ c) rfl rfl rfl fun b1 => ga (cD oD) vv69 rfl rfl fun b2 => gn hK1 <| gr fun K2 hK2 => g1 1 rfl (aV aa40 zz40 rfl rfl rfl (v := (vQ c)) rfl) rfl <| g0 (bq rx rfl rfl (v := (vD (⟨c, oQ, oQ⟩ : Qd))) rfl) rfl <| gs 0 (cD (⟨c, oQ, oQ⟩ : Qd)) rfl zz69 rfl rfl rfl rfl rfl rfl rfl <| gn hK2 <| gT ?_; clear h ac; intro ac wo h
 exact ret h rfl (.cell (v := (vD (⟨c, oQ, oQ⟩ : Qd))) rfl (i := 0) rfl aa69 zz69 rfl rfl rfl .nil) rfl (h.retP (by unfold aP; rfl) (by unfold aP; exact ⟨zc, ⟨(cO 0 (by decide) (by omega)), (cO 0 (by decide) (by omega))⟩, ⟨(cO 0 (by decide) (by omega)), (cO 0 (by decide) (by omega))⟩⟩))
def fh (p : Qd) (q : Qd) : Qd :=
 (⟨(aA p.c0 q.c0), (aA p.c1 q.c1), (aA p.c2 q.c2)⟩ : Qd)
theorem jV (p : Qd) (q : Qd) (k : Nat) (hk : (k + 3) ≤ 40) (zp : SzD (k + 3) p) (zq : SzD (k + 3) q) (w0 : World) : Calls Tryz.prog 96 #[(vD p), (vD q)] w0 (eX w0 (vD (fh p q)) (SzD k (fh p q))) := by
 refine enter (N := 21) (args := [(vD p), (vD q)]) Tryz.func96 rfl rfl ?_; intro ac h
 have s1 := aJ ((dQ p.c0 q.c0 k (by omega) zp.1 zq.1) w0)
 have s2 := aJ ((dQ p.c1 q.c1 k (by omega) zp.2.1 zq.2.1) w0)
 have s3 := aJ ((dQ p.c2 q.c2 k (by omega) zp.2.2 zq.2.2) w0)
 refine eq fun K1 hK1 => ?_
 refine bx h (cD p) rfl rfl rfl fun b1 => gb (cD q) rfl rfl rfl fun b2 => ga (cD oD) vv69 rfl rfl fun b3 => gn hK1 <| gq fun K2 hK2 => ?_; clear h ac; intro ac wo h
 refine cj mixed [dv _, dw _ [2], dv _, dw _ [1], dv _, dv _, dw _ [2], dv _, dw _ [1], dv _, dv _, dw _ [2], dv _, dw _ [1], dv _, dv _, dw _ [0]] [⟨.blk b3 (cD oD) 69, [(16, .con _)]⟩, ⟨_, []⟩, ⟨_, []⟩] h rfl (by kernel_rfl) ⟨fun _ _ => az (fa uu69 rfl zz40 rfl rfl rfl (k' := 0)), fun _ _ => cK _ rfl rfl (aV aa40 zz40 rfl rfl rfl (v := (vQ p.c0)) rfl), fun _ _ => az (fa uu69 rfl zz40 rfl rfl rfl (k' := 0)), fun _ _ => cK _ rfl rfl (aV aa40 zz40 rfl rfl rfl (v := (vQ q.c0)) rfl), fun _ _ => eC (dK cc100 rfl (dQ p.c0 q.c0 k (by omega) zp.1 zq.1)), fun _ _ => az (fa uu69 rfl zz40 rfl rfl rfl (k' := 4)), fun _ _ => cK _ rfl rfl (aV aa40 zz40 rfl rfl rfl (v := (vQ p.c1)) rfl), fun _ _ => az (fa uu69 rfl zz40 rfl rfl rfl (k' := 4)), fun _ _ => cK _ rfl rfl (aV aa40 zz40 rfl rfl rfl (v := (vQ q.c1)) rfl), fun _ _ => eC (dK cc100 rfl (dQ p.c1 q.c1 k (by omega) zp.2.1 zq.2.1)), fun _ _ => az (fa uu69 rfl zz40 rfl rfl rfl (k' := 8)), fun _ _ => cK _ rfl rfl (aV aa40 zz40 rfl rfl rfl (v := (vQ p.c2)) rfl), fun _ _ => az (fa uu69 rfl zz40 rfl rfl rfl (k' := 8)), fun _ _ => cK _ rfl rfl (aV aa40 zz40 rfl rfl rfl (v := (vQ q.c2)) rfl), fun _ _ => eC (dK cc100 rfl (dQ p.c2 q.c2 k (by omega) zp.2.2 zq.2.2)), fun _ _ => az (bq rx rfl rfl (v := (vD (⟨(aA p.c0 q.c0), (aA p.c1 q.c1), (aA p.c2 q.c2)⟩ : Qd))) rfl), fun _ _ => gY _ [.blk b3 (cD (⟨(aA p.c0 q.c0), (aA p.c1 q.c1), (aA p.c2 q.c2)⟩ : Qd)) 69] rfl rfl (iM zz69 rfl rfl rfl rfl rfl rfl rfl), trivial⟩ ?_
 clear h ac wo; intro ξ ac wo hφ h
 replace h : St w0 21 [(4, (ptr b3 0))] [.blk b3 (cD (⟨(aA p.c0 q.c0), (aA p.c1 q.c1), (aA p.c2 q.c2)⟩ : Qd)) 69, .blk b2 (cD q) 69, .blk b1 (cD p) 69] ac wo := h.sub ⟨rfl, trivial⟩
 clear hφ ξ
 refine hK2 _ _ ?_
 refine fU ?_
 exact ret h rfl (.cell (v := (vD (⟨(aA p.c0 q.c0), (aA p.c1 q.c1), (aA p.c2 q.c2)⟩ : Qd))) rfl (i := 0) rfl aa69 zz69 rfl rfl rfl .nil) rfl (h.retP (by unfold fh; rfl) (by unfold fh; exact ⟨s1, s2, s3⟩))
def eE (q : Qd) (t : GQ) : GQ :=
 (bc q.c0 (aD t (bc q.c1 (aD t q.c2))))
theorem lw (q : Qd) (t : GQ) (k : Nat) (hk : (k + 10) ≤ 40) (zq : SzD (k + 10) q) (zt : SzQ (k + 10) t) (w0 : World) : Calls Tryz.prog 99 #[(vD q), (vQ t)] w0 (eX w0 (vQ (eE q t)) (SzQ k (eE q t))) := by
 refine enter (N := 17) (args := [(vD q), (vQ t)]) Tryz.func99 rfl rfl ?_; intro ac h
 have s1 := aJ ((bV t q.c2 (k + 8) (by omega) zt zq.2.2) w0)
 have s2 := aJ ((dC q.c1 (aD t q.c2) (k + 5) (by omega) (d8 zq (by omega)).2.1 s1) w0)
 have s3 := aJ ((bV t (bc q.c1 (aD t q.c2)) (k + 3) (by omega) (fk zt (by omega)) s2) w0)
 have s4 := aJ ((dC q.c0 (aD t (bc q.c1 (aD t q.c2))) k (by omega) (d8 zq (by omega)).1 s3) w0)
 refine eq fun K1 hK1 => ?_
 refine bx h (cD q) rfl rfl rfl fun b1 => gb (cQ t) rfl rfl rfl fun b2 => ga (cQ oQ) vv40 rfl rfl fun b3 => gn hK1 <| gq fun K2 hK2 => ?_; clear h ac; intro ac wo h
 refine cj mixed [dv _, dw _ [2], dw _ [1], dv _, dw _ [2], dw _ [1], dv _, dw _ [2], dv _, dv _, dv _, dv _, dw _ [0]] [⟨.blk b3 (cQ oQ) 40, [(12, .con _)]⟩, ⟨_, []⟩, ⟨_, []⟩] h rfl (by kernel_rfl) ⟨fun _ _ => az (fa uu69 rfl zz40 rfl rfl rfl (k' := 0)), fun _ _ => cK _ rfl rfl (aV aa40 zz40 rfl rfl rfl (v := (vQ q.c0)) rfl), fun _ _ => cK _ rfl rfl (aV aa40 zz40 rfl rfl rfl (v := (vQ t)) rfl), fun _ _ => az (fa uu69 rfl zz40 rfl rfl rfl (k' := 4)), fun _ _ => cK _ rfl rfl (aV aa40 zz40 rfl rfl rfl (v := (vQ q.c1)) rfl), fun _ _ => cK _ rfl rfl (aV aa40 zz40 rfl rfl rfl (v := (vQ t)) rfl), fun _ _ => az (fa uu69 rfl zz40 rfl rfl rfl (k' := 8)), fun _ _ => cK _ rfl rfl (aV aa40 zz40 rfl rfl rfl (v := (vQ q.c2)) rfl), fun _ _ => eC (dK cc101 rfl (bV t q.c2 (k + 8) (by omega) zt zq.2.2)), fun _ _ => eC (dK cc102 rfl (dC q.c1 (aD t q.c2) (k + 5) (by omega) (d8 zq (by omega)).2.1 s1)), fun _ _ => eC (dK cc101 rfl (bV t (bc q.c1 (aD t q.c2)) (k + 3) (by omega) (fk zt (by omega)) s2)), fun _ _ => eC (dK cc102 rfl (dC q.c0 (aD t (bc q.c1 (aD t q.c2))) k (by omega) (d8 zq (by omega)).1 s3)), fun _ _ => gY _ [.blk b3 (cQ (bc q.c0 (aD t (bc q.c1 (aD t q.c2))))) 40] rfl rfl (iM zz40 rfl rfl rfl rfl rfl rfl rfl), trivial⟩ ?_
 clear h ac wo; intro ξ ac wo hφ h
 replace h : St w0 17 [(4, (ptr b3 0))] [.blk b3 (cQ (bc q.c0 (aD t (bc q.c1 (aD t q.c2))))) 40, .blk b2 (cQ t) 40, .blk b1 (cD q) 69] ac wo := h.sub ⟨rfl, trivial⟩
 clear hφ ξ
 refine hK2 _ _ ?_
 refine fU ?_
 exact ret h rfl (.cell (v := (vQ (bc q.c0 (aD t (bc q.c1 (aD t q.c2)))))) rfl (i := 0) rfl aa40 zz40 rfl rfl rfl .nil) rfl (h.retP (by unfold eE; rfl) (by unfold eE; exact s4))
def dY (q : Qd) (t : GQ) : GQ :=
 (bc q.c1 (aD (bc q.c2 q.c2) t))
theorem jg (q : Qd) (t : GQ) (k : Nat) (hk : (k + 8) ≤ 40) (zq : SzD (k + 8) q) (zt : SzQ (k + 8) t) (w0 : World) : Calls Tryz.prog 103 #[(vD q), (vQ t)] w0 (eX w0 (vQ (dY q t)) (SzQ k (dY q t))) := by
 refine enter (N := 15) (args := [(vD q), (vQ t)]) Tryz.func103 rfl rfl ?_; intro ac h
 have s1 := aJ ((dC q.c2 q.c2 (k + 5) (by omega) zq.2.2 zq.2.2) w0)
 have s2 := aJ ((bV (bc q.c2 q.c2) t (k + 3) (by omega) s1 (fk zt (by omega))) w0)
 have s3 := aJ ((dC q.c1 (aD (bc q.c2 q.c2) t) k (by omega) (d8 zq (by omega)).2.1 s2) w0)
 refine eq fun K1 hK1 => ?_
 refine bx h (cD q) rfl rfl rfl fun b1 => gb (cQ t) rfl rfl rfl fun b2 => ga (cQ oQ) vv40 rfl rfl fun b3 => gn hK1 <| gq fun K2 hK2 => ?_; clear h ac; intro ac wo h
 refine cj mixed [dv _, dw _ [2], dv _, dw _ [2], dv _, dw _ [2], dv _, dw _ [1], dv _, dv _, dw _ [0]] [⟨.blk b3 (cQ oQ) 40, [(10, .con _)]⟩, ⟨_, []⟩, ⟨_, []⟩] h rfl (by kernel_rfl) ⟨fun _ _ => az (fa uu69 rfl zz40 rfl rfl rfl (k' := 4)), fun _ _ => cK _ rfl rfl (aV aa40 zz40 rfl rfl rfl (v := (vQ q.c1)) rfl), fun _ _ => az (fa uu69 rfl zz40 rfl rfl rfl (k' := 8)), fun _ _ => cK _ rfl rfl (aV aa40 zz40 rfl rfl rfl (v := (vQ q.c2)) rfl), fun _ _ => az (fa uu69 rfl zz40 rfl rfl rfl (k' := 8)), fun _ _ => cK _ rfl rfl (aV aa40 zz40 rfl rfl rfl (v := (vQ q.c2)) rfl), fun _ _ => eC (dK cc102 rfl (dC q.c2 q.c2 (k + 5) (by omega) zq.2.2 zq.2.2)), fun _ _ => cK _ rfl rfl (aV aa40 zz40 rfl rfl rfl (v := (vQ t)) rfl), fun _ _ => eC (dK cc101 rfl (bV (bc q.c2 q.c2) t (k + 3) (by omega) s1 (fk zt (by omega)))), fun _ _ => eC (dK cc102 rfl (dC q.c1 (aD (bc q.c2 q.c2) t) k (by omega) (d8 zq (by omega)).2.1 s2)), fun _ _ => gY _ [.blk b3 (cQ (bc q.c1 (aD (bc q.c2 q.c2) t))) 40] rfl rfl (iM zz40 rfl rfl rfl rfl rfl rfl rfl), trivial⟩ ?_
 clear h ac wo; intro ξ ac wo hφ h
 replace h : St w0 15 [(4, (ptr b3 0))] [.blk b3 (cQ (bc q.c1 (aD (bc q.c2 q.c2) t))) 40, .blk b2 (cQ t) 40, .blk b1 (cD q) 69] ac wo := h.sub ⟨rfl, trivial⟩
 clear hφ ξ
 refine hK2 _ _ ?_
 refine fU ?_
 exact ret h rfl (.cell (v := (vQ (bc q.c1 (aD (bc q.c2 q.c2) t)))) rfl (i := 0) rfl aa40 zz40 rfl rfl rfl .nil) rfl (h.retP (by unfold dY; rfl) (by unfold dY; exact s3))
def dF (x : GR) : GQ × Bool :=
 bif (!(decide (x.r = (⟨(⟨false, 0⟩ : GI), (⟨false, 0⟩ : GI)⟩ : GQ)))) then
  ((⟨(⟨false, 0⟩ : GI), (⟨false, 0⟩ : GI)⟩ : GQ), false)
 else
  (x.p, true)
theorem lP (x : GR) (k : Nat) (hk : k ≤ 40) (zx : SzR k x) (w0 : World) : Calls Tryz.prog 98 #[(vR x)] w0 (eX w0 (.tuple #[(vQ ((dF x).1)), (.bool ((dF x).2))]) (SzQ k ((dF x).1))) := by
 refine enter (N := 11) (args := [(vR x)]) Tryz.func98 rfl rfl ?_; intro ac h
 refine eq fun K1 hK1 => ?_
 refine bx h (cR x) rfl rfl rfl fun b1 => ga (cQ oQ) vv40 rfl rfl fun b2 => g0 (ak rfl) rfl <| gn hK1 <| gq fun K2 hK2 => gr fun K3 hK3 => g0 (fa uu53 rfl zz40 rfl rfl rfl (k' := 4)) rfl <| g1 1 rfl (aV aa40 zz40 rfl rfl rfl (v := (vQ x.r)) rfl) rfl <| g0 (bq nG rfl rfl (v := (vQ oQ)) rfl) rfl <| g0 (o7 eqp40 rfl rfl) rfl <| gn hK3 ?_; clear h ac; intro ac wo h
 refine db h rfl (fun hc1 => ?_) (fun hc1 => ?_)
 ·
  refine gz h <| gr fun K4 hK4 => g0 (bq nG rfl rfl (v := (vQ oQ)) rfl) rfl <| gs 0 (cQ oQ) rfl zz40 rfl rfl rfl rfl rfl rfl rfl <| g0 (ak rfl) rfl <| gn hK4 <| gT ?_; clear h ac wo; intro ac wo h
  have hd : dF x = (oQ, false) := (cT hc1)
  exact ret h rfl (.cell (v := (vQ oQ)) rfl (i := 0) rfl aa40 zz40 rfl rfl rfl (.tmp rfl .nil)) rfl (h.retP (by rw [hd] <;> rfl) (by rw [hd]; exact ⟨(cO 0 (by decide) (by omega)), (cO 0 (by decide) (by omega))⟩))
 ·
  refine gz h <| gS <| gx hK2 <| gr fun K5 hK5 => g0 (fa uu53 rfl zz40 rfl rfl rfl (k' := 0)) rfl <| g1 1 rfl (aV aa40 zz40 rfl rfl rfl (v := (vQ x.p)) rfl) rfl <| gs 0 (cQ x.p) rfl zz40 rfl rfl rfl rfl rfl rfl rfl <| g0 (ak rfl) rfl <| gn hK5 <| gT ?_; clear h ac wo; intro ac wo h
  have hd : dF x = (x.p, true) := (cF hc1)
  exact ret h rfl (.cell (v := (vQ x.p)) rfl (i := 0) rfl aa40 zz40 rfl rfl rfl (.tmp rfl .nil)) rfl (h.retP (by rw [hd] <;> rfl) (by rw [hd]; exact zx.1))
def aK (q : Qd) (t : GR) : Qd :=
 bif (dF t).2 then
  (aP (eE q ((dF t).1)))
 else
  (aM (bc q.c0 (aD q.c2 (aA t.r (aD t.p t.p)))) (dY q t.p))
theorem eD (q : Qd) (t : GR) (k : Nat) (hk : (k + 10) ≤ 40) (zq : SzD (k + 10) q) (zt : SzR (k + 10) t) (w0 : World) : Calls Tryz.prog 37 #[(vD q), (vR t)] w0 (eX w0 (vD (aK q t)) (SzD k (aK q t))) := by
 refine enter (N := 38) (args := [(vD q), (vR t)]) Tryz.func37 rfl rfl ?_; intro ac h
 have c1 := lP t (k + 10) (by omega) zt
 have s1 := aJ (c1 w0)
 refine eq fun K1 hK1 => ?_
 refine bx h (cD q) rfl rfl rfl fun b1 => gb (cR t) rfl rfl rfl fun b2 => ga (cD oD) vv69 rfl rfl fun b3 => gn hK1 <| gq fun K2 hK2 => gr fun K3 hK3 => g1 1 rfl (aV aa53 zz53 rfl rfl rfl (v := (vR t)) rfl) rfl <| gl Tryz.call98 rfl c1 rfl <| g0 (aj rfl) rfl <| g0 (bO rfl rfl) rfl <| g0 (bO rfl rfl) rfl <| ga (cQ oQ) vv40 rfl rfl fun b4 => gs 0 (cQ ((dF t).1)) rfl zz40 rfl rfl rfl rfl rfl rfl rfl <| g0 (ak rfl) rfl <| gn hK3 <| gr fun K4 hK4 => g0 (aj rfl) rfl <| gn hK4 ?_; clear h ac; intro ac wo h
 refine db h rfl (fun hc1 => ?_) (fun hc1 => ?_)
 ·
  have c2 := lw q ((dF t).1) k (by omega) zq s1
  have s2 := aJ (c2 w0)
  have c3 := fJ (eE q ((dF t).1)) k (by omega) s2
  have s3 := aJ (c3 w0)
  refine gz h <| gr fun K5 hK5 => g1 3 rfl (aV aa69 zz69 rfl rfl rfl (v := (vD q)) rfl) rfl <| g1 0 rfl (aV aa40 zz40 rfl rfl rfl (v := (vQ ((dF t).1))) rfl) rfl <| gl Tryz.call99 rfl c2 rfl <| gl Tryz.call79 rfl c3 rfl <| gs 1 (cD (aP (eE q ((dF t).1)))) rfl zz69 rfl rfl rfl rfl rfl rfl rfl <| gn hK5 <| gT ?_; clear h ac wo; intro ac wo h
  have hd : aK q t = (aP (eE q ((dF t).1))) := (cT hc1)
  exact ret h rfl (.cell (v := (vD (aP (eE q ((dF t).1))))) rfl (i := 1) rfl aa69 zz69 rfl rfl rfl .nil) rfl (h.retP (by rw [hd] <;> rfl) (by rw [hd]; exact s3))
 ·
  refine dR ?_
  refine hK2 _ _ ?_
  refine cG fun K6 hK6 => ?_
  have s4 := aJ ((bV t.p t.p (k + 8) (by omega) zt.1 zt.1) w0)
  have s5 := aJ ((dQ t.r (aD t.p t.p) (k + 5) (by omega) (dx zt (by omega)).2 s4) w0)
  replace h := h.emps 1
  refine cj mixed [dv _, dw _ [2], dv _, dw _ [2], dv _, dw _ [2], dv _, dv _, ⟨.nd (.one 8 fun v => ∃ b, v = ptr b 0), [4]⟩, ⟨.det undef, [4]⟩] [⟨_, []⟩, ⟨_, []⟩, ⟨_, []⟩, ⟨_, []⟩, ⟨.emp, [(8, .one 8 fun v => .blk (gj v) (cQ oQ) 40), (9, .one 8 fun v => .blk (gj v) (cQ (aA t.r (aD t.p t.p))) 40)]⟩] h rfl (by kernel_rfl) ⟨fun _ _ => az (fa uu53 rfl zz40 rfl rfl rfl (k' := 4)), fun _ _ => cK _ rfl rfl (aV aa40 zz40 rfl rfl rfl (v := (vQ t.r)) rfl), fun _ _ => az (fa uu53 rfl zz40 rfl rfl rfl (k' := 0)), fun _ _ => cK _ rfl rfl (aV aa40 zz40 rfl rfl rfl (v := (vQ t.p)) rfl), fun _ _ => az (fa uu53 rfl zz40 rfl rfl rfl (k' := 0)), fun _ _ => cK _ rfl rfl (aV aa40 zz40 rfl rfl rfl (v := (vQ t.p)) rfl), fun _ _ => eC (dK cc101 rfl (bV t.p t.p (k + 8) (by omega) zt.1 zt.1)), fun _ _ => eC (dK cc100 rfl (dQ t.r (aD t.p t.p) (k + 5) (by omega) (dx zt (by omega)).2 s4)), fun _ _ => kh (ψ := fun v => ∃ b, v = ptr b 0) (B := fun v => [.blk (gj v) (cQ oQ) 40]) [.emp] rfl (fun v _ => by simp only [eB, bn] <;> rfl) (fun v hv => by simpa [DF.one, bn] using hv) (jI (ln vv40 rfl)), (fun ξ hφ => by obtain ⟨b5, hb8⟩ := hφ 8 rfl; exact gY [.blk b5 (cQ oQ) 40] [.blk b5 (cQ (aA t.r (aD t.p t.p))) 40] (congrArg (fun v => [Asn.blk (gj v) (cQ oQ) 40]) hb8) (congrArg (fun v => [Asn.blk (gj v) (cQ (aA t.r (aD t.p t.p))) 40]) hb8) (iM zz40 (Eq.trans rfl (congrArg some hb8)) rfl rfl rfl rfl rfl rfl)), trivial⟩ ?_
  clear h ac wo; intro ξ ac wo hφ h
  replace h : St w0 38 [(2, (ptr b1 0)), (3, (ptr b2 0)), (4, (ptr b3 0)), (7, ξ 8)] [.blk b4 (cQ ((dF t).1)) 40, .blk b3 (cD oD) 69, .blk b2 (cR t) 53, .blk b1 (cD q) 69, .blk (gj (ξ 8)) (cQ (aA t.r (aD t.p t.p))) 40] ac wo := h.sub ⟨rfl, rfl, rfl, rfl, trivial⟩
  revert h
  obtain ⟨b5, hb8⟩ : ∃ b, ξ 8 = ptr b 0 := hφ 8
  rw [hb8]; intro h
  clear hb8 hφ ξ
  refine hK6 _ _ ?_
  refine cG fun K7 hK7 => ?_
  have s6 := aJ ((bV q.c2 (aA t.r (aD t.p t.p)) (k + 3) (by omega) (d8 zq (by omega)).2.2 s5) w0)
  have s7 := aJ ((dC q.c0 (aD q.c2 (aA t.r (aD t.p t.p))) k (by omega) (d8 zq (by omega)).1 s6) w0)
  have s8 := aJ ((jg q t.p (k + 2) (by omega) zq zt.1) w0)
  have s9 := aJ ((dZ (bc q.c0 (aD q.c2 (aA t.r (aD t.p t.p)))) (dY q t.p) k (by omega) s7 (fk s8 (by omega))) w0)
  refine cj mixed [dv _, dw _ [3], dv _, dw _ [3], dw _ [4], dv _, dv _, dw _ [3], dv _, dw _ [2], dv _, dv _, dw _ [1]] [⟨_, []⟩, ⟨.blk b3 (cD oD) 69, [(12, .con _)]⟩, ⟨_, []⟩, ⟨_, []⟩, ⟨_, []⟩] h rfl (by kernel_rfl) ⟨fun _ _ => az (fa uu69 rfl zz40 rfl rfl rfl (k' := 0)), fun _ _ => cK _ rfl rfl (aV aa40 zz40 rfl rfl rfl (v := (vQ q.c0)) rfl), fun _ _ => az (fa uu69 rfl zz40 rfl rfl rfl (k' := 8)), fun _ _ => cK _ rfl rfl (aV aa40 zz40 rfl rfl rfl (v := (vQ q.c2)) rfl), fun _ _ => cK _ rfl rfl (aV aa40 zz40 rfl rfl rfl (v := (vQ (aA t.r (aD t.p t.p)))) rfl), fun _ _ => eC (dK cc101 rfl (bV q.c2 (aA t.r (aD t.p t.p)) (k + 3) (by omega) (d8 zq (by omega)).2.2 s5)), fun _ _ => eC (dK cc102 rfl (dC q.c0 (aD q.c2 (aA t.r (aD t.p t.p))) k (by omega) (d8 zq (by omega)).1 s6)), fun _ _ => cK _ rfl rfl (aV aa69 zz69 rfl rfl rfl (v := (vD q)) rfl), fun _ _ => az (fa uu53 rfl zz40 rfl rfl rfl (k' := 0)), fun _ _ => cK _ rfl rfl (aV aa40 zz40 rfl rfl rfl (v := (vQ t.p)) rfl), fun _ _ => eC (dK Tryz.call103 rfl (jg q t.p (k + 2) (by omega) zq zt.1)), fun _ _ => eC (dK cc31 rfl (dZ (bc q.c0 (aD q.c2 (aA t.r (aD t.p t.p)))) (dY q t.p) k (by omega) s7 (fk s8 (by omega)))), fun _ _ => gY _ [.blk b3 (cD (aM (bc q.c0 (aD q.c2 (aA t.r (aD t.p t.p)))) (dY q t.p))) 69] rfl rfl (iM zz69 rfl rfl rfl rfl rfl rfl rfl), trivial⟩ ?_
  clear h ac wo; intro ξ ac wo hφ h
  replace h : St w0 38 [(4, (ptr b3 0))] [.blk b4 (cQ ((dF t).1)) 40, .blk b3 (cD (aM (bc q.c0 (aD q.c2 (aA t.r (aD t.p t.p)))) (dY q t.p))) 69, .blk b2 (cR t) 53, .blk b1 (cD q) 69, .blk b5 (cQ (aA t.r (aD t.p t.p))) 40] ac wo := h.sub ⟨rfl, trivial⟩
  clear hφ ξ
  refine hK7 _ _ ?_
  refine fU ?_
  have hd : aK q t = (aM (bc q.c0 (aD q.c2 (aA t.r (aD t.p t.p)))) (dY q t.p)) := (cF hc1)
  exact ret h rfl (.cell (v := (vD (aM (bc q.c0 (aD q.c2 (aA t.r (aD t.p t.p)))) (dY q t.p)))) rfl (i := 1) rfl aa69 zz69 rfl rfl rfl .nil) rfl (h.retP (by rw [hd] <;> rfl) (by rw [hd]; exact s9))
def cp (p : Qd) (q : Qd) (t : GR) : Bool :=
 (decide ((aK (fh p q) t) = (⟨(⟨(⟨false, 0⟩ : GI), (⟨false, 0⟩ : GI)⟩ : GQ), (⟨(⟨false, 0⟩ : GI), (⟨false, 0⟩ : GI)⟩ : GQ), (⟨(⟨false, 0⟩ : GI), (⟨false, 0⟩ : GI)⟩ : GQ)⟩ : Qd)))
theorem hQ (p : Qd) (q : Qd) (t : GR) (k : Nat) (hk : (k + 14) ≤ 40) (zp : SzD (k + 14) p) (zq : SzD (k + 14) q) (zt : SzR (k + 14) t) (w0 : World) : Calls Tryz.prog 30 #[(vD p), (vD q), (vR t)] w0 (eX w0 (.bool (cp p q t)) (True)) := by
 refine enter (N := 14) (args := [(vD p), (vD q), (vR t)]) Tryz.func30 rfl rfl ?_; intro ac h
 have s1 := aJ ((jV p q (k + 11) (by omega) zp zq) w0)
 have s2 := aJ ((eD (fh p q) t (k + 1) (by omega) s1 (dx zt (by omega))) w0)
 refine eq fun K1 hK1 => ?_
 refine bx h (cD p) rfl rfl rfl fun b1 => gb (cD q) rfl rfl rfl fun b2 => gb (cR t) rfl rfl rfl fun b3 => g0 (ak rfl) rfl <| gn hK1 <| gq fun K2 hK2 => ?_; clear h ac; intro ac wo h
 refine cj mixed [dw _ [2], dw _ [1], dv _, dw _ [0], dv _, dv _, dv _, dv _] [⟨_, []⟩, ⟨_, []⟩, ⟨_, []⟩] h rfl (by kernel_rfl) ⟨fun _ _ => cK _ rfl rfl (aV aa69 zz69 rfl rfl rfl (v := (vD p)) rfl), fun _ _ => cK _ rfl rfl (aV aa69 zz69 rfl rfl rfl (v := (vD q)) rfl), fun _ _ => eC (dK Tryz.call96 rfl (jV p q (k + 11) (by omega) zp zq)), fun _ _ => cK _ rfl rfl (aV aa53 zz53 rfl rfl rfl (v := (vR t)) rfl), fun _ _ => eC (dK Tryz.call37 rfl (eD (fh p q) t (k + 1) (by omega) s1 (dx zt (by omega)))), fun _ _ => az (bq rx rfl rfl (v := (vD oD)) rfl), fun _ _ => az (eY ra rfl rfl), fun _ _ => az (ak rfl), trivial⟩ ?_
 clear h ac wo; intro ξ ac wo hφ h
 replace h : St w0 14 [(6, (.bool (decide ((aK (fh p q) t) = oD))))] [.blk b3 (cR t) 53, .blk b2 (cD q) 69, .blk b1 (cD p) 69] ac wo := h.sub ⟨rfl, trivial⟩
 clear hφ ξ
 refine hK2 _ _ ?_
 refine fU ?_
 exact ret h rfl (.tmp rfl .nil) rfl (h.retP (by unfold cp; rfl) trivial)
def be (x : GR) : GQ :=
 bif x.neg then
  (ar (-1))
 else
  (ar 1)
theorem ie (x : GR) (k : Nat) (hk : k ≤ 40) (zx : SzR k x) (w0 : World) : Calls Tryz.prog 174 #[(vR x)] w0 (eX w0 (vQ (be x)) (SzQ k (be x))) := by
 refine enter (N := 7) (args := [(vR x)]) Tryz.func174 rfl rfl ?_; intro ac h
 refine eq fun K1 hK1 => ?_
 refine bx h (cR x) rfl rfl rfl fun b1 => ga (cQ oQ) vv40 rfl rfl fun b2 => gn hK1 <| gq fun K2 hK2 => gr fun K3 hK3 => g0 (fa uu53 rfl zz4 rfl rfl rfl (k' := 8)) rfl <| g1 1 rfl (aV aa4 zz4 rfl rfl rfl (v := (.bool x.neg)) rfl) rfl <| gn hK3 ?_; clear h ac; intro ac wo h
 refine db h rfl (fun hc1 => ?_) (fun hc1 => ?_)
 ·
  have c1 := bX (-1) k (by omega)  (by omega)
  have s1 := aJ (c1 w0)
  refine gz h <| gr fun K4 hK4 => gl cc45 rfl c1 rfl <| gs 0 (cQ (ar (-1))) rfl zz40 rfl rfl rfl rfl rfl rfl rfl <| gn hK4 <| gT ?_; clear h ac wo; intro ac wo h
  have hd : be x = (ar (-1)) := (cT hc1)
  exact ret h rfl (.cell (v := (vQ (ar (-1)))) rfl (i := 0) rfl aa40 zz40 rfl rfl rfl .nil) rfl (h.retP (by rw [hd] <;> rfl) (by rw [hd]; exact s1))
 ·
  have c2 := bX 1 k (by omega)  (by omega)
  have s2 := aJ (c2 w0)
  refine gz h <| gS <| gx hK2 <| gr fun K5 hK5 => gl cc45 rfl c2 rfl <| gs 0 (cQ (ar 1)) rfl zz40 rfl rfl rfl rfl rfl rfl rfl <| gn hK5 <| gT ?_; clear h ac wo; intro ac wo h
  have hd : be x = (ar 1) := (cF hc1)
  exact ret h rfl (.cell (v := (vQ (ar 1))) rfl (i := 0) rfl aa40 zz40 rfl rfl rfl .nil) rfl (h.retP (by rw [hd] <;> rfl) (by rw [hd]; exact s2))
def ef (a : GQ) (b : GQ) (r : GQ) : Int :=
 bif ((((aL b) * (aL r)) == 0) || ((aL a) == ((aL b) * (aL r)))) then
  (aL a)
 else
  bif ((aL a) == 0) then
   ((aL b) * (aL r))
  else
   ((aL a) * (ed (aD a a) (aD (aD b b) r)))
theorem jf (a : GQ) (b : GQ) (r : GQ) (k : Nat) (hk : (k + 8) ≤ 40) (za : SzQ (k + 8) a) (zb : SzQ (k + 8) b) (zr : SzQ (k + 8) r) (w0 : World) : Calls Tryz.prog 175 #[(vQ a), (vQ b), (vQ r)] w0 (eX w0 (.int .i64 (ef a b r)) ((-1 ≤ (ef a b r) ∧ (ef a b r) ≤ 1))) := by
 refine enter (N := 40) (args := [(vQ a), (vQ b), (vQ r)]) Tryz.func175 rfl rfl ?_; intro ac h
 have p2 := aJ ((dH a) w0)
 have p4 := aJ ((dH b) w0)
 have p6 := aJ ((dH r) w0)
 refine eq fun K1 hK1 => ?_
 refine bx h (cQ a) rfl rfl rfl fun b1 => gb (cQ b) rfl rfl rfl fun b2 => gb (cQ r) rfl rfl rfl fun b3 => g0 (ak rfl) rfl <| gn hK1 <| gq fun K2 hK2 => ?_; clear h ac; intro ac wo h
 refine cj mixed [dw _ [2], dv _, dw _ [1], dv _, dw _ [0], dv _, dv _, dv _, dv _] [⟨_, []⟩, ⟨_, []⟩, ⟨_, []⟩] h rfl (by kernel_rfl) ⟨fun _ _ => cK _ rfl rfl (aV aa40 zz40 rfl rfl rfl (v := (vQ a)) rfl), fun _ _ => eC (dK cc58 rfl (dH a)), fun _ _ => cK _ rfl rfl (aV aa40 zz40 rfl rfl rfl (v := (vQ b)) rfl), fun _ _ => eC (dK cc58 rfl (dH b)), fun _ _ => cK _ rfl rfl (aV aa40 zz40 rfl rfl rfl (v := (vQ r)) rfl), fun _ _ => eC (dK cc58 rfl (dH r)), fun _ _ => az (lR rfl rfl (r := ((aL b) * (aL r))) (by first | (rw [IntKind.wrap_i64]; omega) | exact jc (by omega) (by omega))), fun _ _ => az (ak rfl), fun _ _ => az (ak rfl), trivial⟩ ?_
 clear h ac wo; intro ξ ac wo hφ h
 replace h : St w0 40 [(3, (ptr b1 0)), (4, (ptr b2 0)), (5, (ptr b3 0)), (7, (.int .i64 (aL a))), (8, (.int .i64 ((aL b) * (aL r))))] [.blk b3 (cQ r) 40, .blk b2 (cQ b) 40, .blk b1 (cQ a) 40] ac wo := h.sub ⟨rfl, rfl, rfl, rfl, rfl, trivial⟩
 clear hφ ξ
 refine gz h <| gx hK2 <| gq fun K3 hK3 => gB <| gr fun K4 hK4 => g0 (aj rfl) rfl <| g0 (fZ rfl rfl) rfl <| g0 (aj rfl) rfl <| ge2 rfl rfl (fun hg => (Rd.of_nil (aj rfl)).step) rfl <| ge2 rfl rfl (fun hg => (Rd.of_nil (aj rfl)).step) rfl <| ge2 rfl rfl (fun hg => (Rd.of_nil (fZ (ao rfl hg) (ao rfl hg))).step) rfl <| g0 (r_or rfl (fun e => (ao rfl (notI e)))) rfl <| g0 (ak rfl) rfl <| gn hK4 ?_; clear h ac wo; intro ac wo h
 refine db h rfl (fun hc1 => ?_) (fun hc1 => ?_)
 ·
  refine gz h <| gr fun K5 hK5 => g0 (aj rfl) rfl <| g0 (ak rfl) rfl <| gn hK5 <| gT ?_; clear h ac wo; intro ac wo h
  have hd : ef a b r = (aL a) := (cT hc1)
  exact ret h rfl (.tmp rfl .nil) rfl (h.retP (by rw [hd] <;> rfl) (by rw [hd]; exact by first | omega | exact eZ (by omega) (by omega)))
 ·
  refine gz h <| gr fun K6 hK6 => g0 (aj rfl) rfl <| g0 (fZ rfl rfl) rfl <| g0 (ak rfl) rfl <| gn hK6 ?_; clear h ac wo; intro ac wo h
  refine db h rfl (fun hc2 => ?_) (fun hc2 => ?_)
  ·
   have hd2 := eq_of_beq hc2
   refine gz h <| gr fun K7 hK7 => g0 (aj rfl) rfl <| g0 (ak rfl) rfl <| gn hK7 <| gT ?_; clear h ac wo; intro ac wo h
   have hd : ef a b r = ((aL b) * (aL r)) := (Eq.trans (cF hc1) (cT hc2))
   exact ret h rfl (.tmp rfl .nil) rfl (h.retP (by rw [hd] <;> rfl) (by rw [hd]; exact by first | omega | exact eZ (by omega) (by omega)))
  ·
   have hd2 := ne_of_beq_false hc2
   refine dR ?_
   refine oB ?_
   refine hK3 _ _ ?_
   refine cG fun K8 hK8 => ?_
   have s7 := aJ ((bV a a (k + 6) (by omega) za za) w0)
   have s8 := aJ ((bV b b (k + 6) (by omega) zb zb) w0)
   have s9 := aJ ((bV (aD b b) r (k + 4) (by omega) s8 (fk zr (by omega))) w0)
   have p11 := aJ ((iR (aD a a) (aD (aD b b) r) (k + 3) (by omega) (fk s7 (by omega)) s9) w0)
   refine cj mixed [dv _, dw _ [2], dw _ [2], dv _, dw _ [1], dw _ [1], dv _, dw _ [0], dv _, dv _, dv _, dv _] [⟨_, []⟩, ⟨_, []⟩, ⟨_, []⟩] h rfl (by kernel_rfl) ⟨fun _ _ => om rfl, fun _ _ => cK _ rfl rfl (aV aa40 zz40 rfl rfl rfl (v := (vQ a)) rfl), fun _ _ => cK _ rfl rfl (aV aa40 zz40 rfl rfl rfl (v := (vQ a)) rfl), fun _ _ => eC (dK cc101 rfl (bV a a (k + 6) (by omega) za za)), fun _ _ => cK _ rfl rfl (aV aa40 zz40 rfl rfl rfl (v := (vQ b)) rfl), fun _ _ => cK _ rfl rfl (aV aa40 zz40 rfl rfl rfl (v := (vQ b)) rfl), fun _ _ => eC (dK cc101 rfl (bV b b (k + 6) (by omega) zb zb)), fun _ _ => cK _ rfl rfl (aV aa40 zz40 rfl rfl rfl (v := (vQ r)) rfl), fun _ _ => eC (dK cc101 rfl (bV (aD b b) r (k + 4) (by omega) s8 (fk zr (by omega)))), fun _ _ => eC (dK Tryz.call198 rfl (iR (aD a a) (aD (aD b b) r) (k + 3) (by omega) (fk s7 (by omega)) s9)), fun _ _ => az (lR rfl rfl (r := ((aL a) * (ed (aD a a) (aD (aD b b) r)))) (by first | (rw [IntKind.wrap_i64]; omega) | exact jc (by omega) (by omega))), fun _ _ => az (ak rfl), trivial⟩ ?_
   clear h ac wo; intro ξ ac wo hφ h
   replace h : St w0 40 [(6, (.int .i64 ((aL a) * (ed (aD a a) (aD (aD b b) r)))))] [.blk b3 (cQ r) 40, .blk b2 (cQ b) 40, .blk b1 (cQ a) 40] ac wo := h.sub ⟨rfl, trivial⟩
   clear hφ ξ
   refine hK8 _ _ ?_
   refine fU ?_
   have hd : ef a b r = ((aL a) * (ed (aD a a) (aD (aD b b) r))) := (Eq.trans (cF hc1) (cF hc2))
   exact ret h rfl (.tmp rfl .nil) rfl (h.retP (by rw [hd] <;> rfl) (by rw [hd]; exact by first | omega | exact eZ (by omega) (by omega)))
def aF (x : GR) (y : GR) : Int :=
 bif ((((aL (cm (be y))) * (aL y.r)) == 0) || ((ef (aA x.p y.p) (be x) x.r) == ((aL (cm (be y))) * (aL y.r)))) then
  (ef (aA x.p y.p) (be x) x.r)
 else
  bif ((ef (aA x.p y.p) (be x) x.r) == 0) then
   ((aL (cm (be y))) * (aL y.r))
  else
   ((ef (aA x.p y.p) (be x) x.r) * (ef (aA (bc (aD (aA x.p y.p) (aA x.p y.p)) x.r) y.r) (aD (ar 2) (aD (aA x.p y.p) (be x))) x.r))
theorem ch (x : GR) (y : GR) (k : Nat) (hk : (k + 20) ≤ 40) (zx : SzR (k + 20) x) (zy : SzR (k + 20) y) (w0 : World) : Calls Tryz.prog 115 #[(vR x), (vR y)] w0 (eX w0 (.int .i64 (aF x y)) ((-1 ≤ (aF x y) ∧ (aF x y) ≤ 1))) := by
 refine enter (N := 65) (args := [(vR x), (vR y)]) Tryz.func115 rfl rfl ?_; intro ac h
 have s1 := aJ ((dQ x.p y.p (k + 17) (by omega) zx.1 zy.1) w0)
 have s2 := aJ ((ie x (k + 20) (by omega) zx) w0)
 have s3 := aJ ((ie y (k + 20) (by omega) zy) w0)
 have s4 := aJ ((gU (be y) (k + 20) (by omega) s3) w0)
 refine eq fun K1 hK1 => ?_
 refine bx h (cR x) rfl rfl rfl fun b1 => gb (cR y) rfl rfl rfl fun b2 => g0 (ak rfl) rfl <| gn hK1 <| gq fun K2 hK2 => ?_; clear h ac; intro ac wo h
 replace h := h.emps 3
 refine cj mixed [dv _, dw _ [1], dv _, dw _ [0], dv _, dw _ [1], dv _, dw _ [0], dv _, dv _, ⟨.nd (.one 10 fun v => ∃ b, v = ptr b 0), [2]⟩, ⟨.nd (.one 11 fun v => ∃ b, v = ptr b 0), [3]⟩, ⟨.nd (.one 12 fun v => ∃ b, v = ptr b 0), [4]⟩, ⟨.det undef, [2]⟩, ⟨.det undef, [3]⟩, ⟨.det undef, [4]⟩] [⟨_, []⟩, ⟨_, []⟩, ⟨.emp, [(10, .one 10 fun v => .blk (gj v) (cQ oQ) 40), (13, .one 10 fun v => .blk (gj v) (cQ (aA x.p y.p)) 40)]⟩, ⟨.emp, [(11, .one 11 fun v => .blk (gj v) (cQ oQ) 40), (14, .one 11 fun v => .blk (gj v) (cQ (be x)) 40)]⟩, ⟨.emp, [(12, .one 12 fun v => .blk (gj v) (cQ oQ) 40), (15, .one 12 fun v => .blk (gj v) (cQ (cm (be y))) 40)]⟩] h rfl (by kernel_rfl) ⟨fun _ _ => az (fa uu53 rfl zz40 rfl rfl rfl (k' := 0)), fun _ _ => cK _ rfl rfl (aV aa40 zz40 rfl rfl rfl (v := (vQ x.p)) rfl), fun _ _ => az (fa uu53 rfl zz40 rfl rfl rfl (k' := 0)), fun _ _ => cK _ rfl rfl (aV aa40 zz40 rfl rfl rfl (v := (vQ y.p)) rfl), fun _ _ => eC (dK cc100 rfl (dQ x.p y.p (k + 17) (by omega) zx.1 zy.1)), fun _ _ => cK _ rfl rfl (aV aa53 zz53 rfl rfl rfl (v := (vR x)) rfl), fun _ _ => eC (dK Tryz.call174 rfl (ie x (k + 20) (by omega) zx)), fun _ _ => cK _ rfl rfl (aV aa53 zz53 rfl rfl rfl (v := (vR y)) rfl), fun _ _ => eC (dK Tryz.call174 rfl (ie y (k + 20) (by omega) zy)), fun _ _ => eC (dK Tryz.call52 rfl (gU (be y) (k + 20) (by omega) s3)), fun _ _ => kh (ψ := fun v => ∃ b, v = ptr b 0) (B := fun v => [.blk (gj v) (cQ oQ) 40]) [.emp] rfl (fun v _ => by simp only [eB, bn] <;> rfl) (fun v hv => by simpa [DF.one, bn] using hv) (jI (ln vv40 rfl)), fun _ _ => kh (ψ := fun v => ∃ b, v = ptr b 0) (B := fun v => [.blk (gj v) (cQ oQ) 40]) [.emp] rfl (fun v _ => by simp only [eB, bn] <;> rfl) (fun v hv => by simpa [DF.one, bn] using hv) (jI (ln vv40 rfl)), fun _ _ => kh (ψ := fun v => ∃ b, v = ptr b 0) (B := fun v => [.blk (gj v) (cQ oQ) 40]) [.emp] rfl (fun v _ => by simp only [eB, bn] <;> rfl) (fun v hv => by simpa [DF.one, bn] using hv) (jI (ln vv40 rfl)), (fun ξ hφ => by obtain ⟨b3, hb10⟩ := hφ 10 rfl; exact gY [.blk b3 (cQ oQ) 40] [.blk b3 (cQ (aA x.p y.p)) 40] (congrArg (fun v => [Asn.blk (gj v) (cQ oQ) 40]) hb10) (congrArg (fun v => [Asn.blk (gj v) (cQ (aA x.p y.p)) 40]) hb10) (iM zz40 (Eq.trans rfl (congrArg some hb10)) rfl rfl rfl rfl rfl rfl)), (fun ξ hφ => by obtain ⟨b4, hb11⟩ := hφ 11 rfl; exact gY [.blk b4 (cQ oQ) 40] [.blk b4 (cQ (be x)) 40] (congrArg (fun v => [Asn.blk (gj v) (cQ oQ) 40]) hb11) (congrArg (fun v => [Asn.blk (gj v) (cQ (be x)) 40]) hb11) (iM zz40 (Eq.trans rfl (congrArg some hb11)) rfl rfl rfl rfl rfl rfl)), (fun ξ hφ => by obtain ⟨b5, hb12⟩ := hφ 12 rfl; exact gY [.blk b5 (cQ oQ) 40] [.blk b5 (cQ (cm (be y))) 40] (congrArg (fun v => [Asn.blk (gj v) (cQ oQ) 40]) hb12) (congrArg (fun v => [Asn.blk (gj v) (cQ (cm (be y))) 40]) hb12) (iM zz40 (Eq.trans rfl (congrArg some hb12)) rfl rfl rfl rfl rfl rfl)), trivial⟩ ?_
 clear h ac wo; intro ξ ac wo hφ h
 replace h : St w0 65 [(2, (ptr b1 0)), (3, (ptr b2 0)), (5, ξ 10), (6, ξ 11), (7, ξ 12)] [.blk b2 (cR y) 53, .blk b1 (cR x) 53, .blk (gj (ξ 10)) (cQ (aA x.p y.p)) 40, .blk (gj (ξ 11)) (cQ (be x)) 40, .blk (gj (ξ 12)) (cQ (cm (be y))) 40] ac wo := h.sub ⟨rfl, rfl, rfl, rfl, rfl, trivial⟩
 revert h
 obtain ⟨b3, hb10⟩ : ∃ b, ξ 10 = ptr b 0 := hφ 10
 obtain ⟨b4, hb11⟩ : ∃ b, ξ 11 = ptr b 0 := hφ 11
 obtain ⟨b5, hb12⟩ : ∃ b, ξ 12 = ptr b 0 := hφ 12
 rw [hb10, hb11, hb12]; intro h
 clear hb10 hb11 hb12 hφ ξ
 refine hK2 _ _ ?_
 refine cG fun K3 hK3 => ?_
 have p6 := aJ ((jf (aA x.p y.p) (be x) x.r (k + 9) (by omega) s1 (fk s2 (by omega)) (dx zx (by omega)).2) w0)
 have p8 := aJ ((dH (cm (be y))) w0)
 have p10 := aJ ((dH y.r) w0)
 refine cj mixed [dw _ [2], dw _ [3], dv _, dw _ [1], dv _, dw _ [4], dv _, dv _, dw _ [0], dv _, dv _, dv _, dv _] [⟨_, []⟩, ⟨_, []⟩, ⟨_, []⟩, ⟨_, []⟩, ⟨_, []⟩] h rfl (by kernel_rfl) ⟨fun _ _ => cK _ rfl rfl (aV aa40 zz40 rfl rfl rfl (v := (vQ (aA x.p y.p))) rfl), fun _ _ => cK _ rfl rfl (aV aa40 zz40 rfl rfl rfl (v := (vQ (be x))) rfl), fun _ _ => az (fa uu53 rfl zz40 rfl rfl rfl (k' := 4)), fun _ _ => cK _ rfl rfl (aV aa40 zz40 rfl rfl rfl (v := (vQ x.r)) rfl), fun _ _ => eC (dK Tryz.call175 rfl (jf (aA x.p y.p) (be x) x.r (k + 9) (by omega) s1 (fk s2 (by omega)) (dx zx (by omega)).2)), fun _ _ => cK _ rfl rfl (aV aa40 zz40 rfl rfl rfl (v := (vQ (cm (be y)))) rfl), fun _ _ => eC (dK cc58 rfl (dH (cm (be y)))), fun _ _ => az (fa uu53 rfl zz40 rfl rfl rfl (k' := 4)), fun _ _ => cK _ rfl rfl (aV aa40 zz40 rfl rfl rfl (v := (vQ y.r)) rfl), fun _ _ => eC (dK cc58 rfl (dH y.r)), fun _ _ => az (lR rfl rfl (r := ((aL (cm (be y))) * (aL y.r))) (by first | (rw [IntKind.wrap_i64]; omega) | exact jc (by omega) (by omega))), fun _ _ => az (ak rfl), fun _ _ => az (ak rfl), trivial⟩ ?_
 clear h ac wo; intro ξ ac wo hφ h
 replace h : St w0 65 [(2, (ptr b1 0)), (3, (ptr b2 0)), (5, (ptr b3 0)), (6, (ptr b4 0)), (8, (.int .i64 (ef (aA x.p y.p) (be x) x.r))), (9, (.int .i64 ((aL (cm (be y))) * (aL y.r))))] [.blk b2 (cR y) 53, .blk b1 (cR x) 53, .blk b3 (cQ (aA x.p y.p)) 40, .blk b4 (cQ (be x)) 40, .blk b5 (cQ (cm (be y))) 40] ac wo := h.sub ⟨rfl, rfl, rfl, rfl, rfl, rfl, trivial⟩
 clear hφ ξ
 refine gz h <| gx hK3 <| gq fun K4 hK4 => gB <| gr fun K5 hK5 => g0 (aj rfl) rfl <| g0 (fZ rfl rfl) rfl <| g0 (aj rfl) rfl <| ge2 rfl rfl (fun hg => (Rd.of_nil (aj rfl)).step) rfl <| ge2 rfl rfl (fun hg => (Rd.of_nil (aj rfl)).step) rfl <| ge2 rfl rfl (fun hg => (Rd.of_nil (fZ (ao rfl hg) (ao rfl hg))).step) rfl <| g0 (r_or rfl (fun e => (ao rfl (notI e)))) rfl <| g0 (ak rfl) rfl <| gn hK5 ?_; clear h ac wo; intro ac wo h
 refine db h rfl (fun hc1 => ?_) (fun hc1 => ?_)
 ·
  refine gz h <| gr fun K6 hK6 => g0 (aj rfl) rfl <| g0 (ak rfl) rfl <| gn hK6 <| gT ?_; clear h ac wo; intro ac wo h
  have hd : aF x y = (ef (aA x.p y.p) (be x) x.r) := (cT hc1)
  exact ret h rfl (.tmp rfl .nil) rfl (h.retP (by rw [hd] <;> rfl) (by rw [hd]; exact by first | omega | exact eZ (by omega) (by omega)))
 ·
  refine gz h <| gr fun K7 hK7 => g0 (aj rfl) rfl <| g0 (fZ rfl rfl) rfl <| g0 (ak rfl) rfl <| gn hK7 ?_; clear h ac wo; intro ac wo h
  refine db h rfl (fun hc2 => ?_) (fun hc2 => ?_)
  ·
   have hd2 := eq_of_beq hc2
   refine gz h <| gr fun K8 hK8 => g0 (aj rfl) rfl <| g0 (ak rfl) rfl <| gn hK8 <| gT ?_; clear h ac wo; intro ac wo h
   have hd : aF x y = ((aL (cm (be y))) * (aL y.r)) := (Eq.trans (cF hc1) (cT hc2))
   exact ret h rfl (.tmp rfl .nil) rfl (h.retP (by rw [hd] <;> rfl) (by rw [hd]; exact by first | omega | exact eZ (by omega) (by omega)))
  ·
   have hd2 := ne_of_beq_false hc2
   refine dR ?_
   refine oB ?_
   refine hK4 _ _ ?_
   refine cG fun K9 hK9 => ?_
   have s11 := aJ ((bV (aA x.p y.p) (aA x.p y.p) (k + 15) (by omega) s1 s1) w0)
   have s12 := aJ ((dC (aD (aA x.p y.p) (aA x.p y.p)) x.r (k + 12) (by omega) s11 (dx zx (by omega)).2) w0)
   have s13 := aJ ((dQ (bc (aD (aA x.p y.p) (aA x.p y.p)) x.r) y.r (k + 9) (by omega) s12 (dx zy (by omega)).2) w0)
   replace h := h.emps 1
   refine cj mixed [dw _ [2], dw _ [2], dv _, dv _, dw _ [1], dv _, dv _, dw _ [0], dv _, ⟨.nd (.one 9 fun v => ∃ b, v = ptr b 0), [5]⟩, ⟨.det undef, [5]⟩] [⟨_, []⟩, ⟨_, []⟩, ⟨_, []⟩, ⟨_, []⟩, ⟨_, []⟩, ⟨.emp, [(9, .one 9 fun v => .blk (gj v) (cQ oQ) 40), (10, .one 9 fun v => .blk (gj v) (cQ (aA (bc (aD (aA x.p y.p) (aA x.p y.p)) x.r) y.r)) 40)]⟩] h rfl (by kernel_rfl) ⟨fun _ _ => cK _ rfl rfl (aV aa40 zz40 rfl rfl rfl (v := (vQ (aA x.p y.p))) rfl), fun _ _ => cK _ rfl rfl (aV aa40 zz40 rfl rfl rfl (v := (vQ (aA x.p y.p))) rfl), fun _ _ => eC (dK cc101 rfl (bV (aA x.p y.p) (aA x.p y.p) (k + 15) (by omega) s1 s1)), fun _ _ => az (fa uu53 rfl zz40 rfl rfl rfl (k' := 4)), fun _ _ => cK _ rfl rfl (aV aa40 zz40 rfl rfl rfl (v := (vQ x.r)) rfl), fun _ _ => eC (dK cc102 rfl (dC (aD (aA x.p y.p) (aA x.p y.p)) x.r (k + 12) (by omega) s11 (dx zx (by omega)).2)), fun _ _ => az (fa uu53 rfl zz40 rfl rfl rfl (k' := 4)), fun _ _ => cK _ rfl rfl (aV aa40 zz40 rfl rfl rfl (v := (vQ y.r)) rfl), fun _ _ => eC (dK cc100 rfl (dQ (bc (aD (aA x.p y.p) (aA x.p y.p)) x.r) y.r (k + 9) (by omega) s12 (dx zy (by omega)).2)), fun _ _ => kh (ψ := fun v => ∃ b, v = ptr b 0) (B := fun v => [.blk (gj v) (cQ oQ) 40]) [.emp] rfl (fun v _ => by simp only [eB, bn] <;> rfl) (fun v hv => by simpa [DF.one, bn] using hv) (jI (ln vv40 rfl)), (fun ξ hφ => by obtain ⟨b6, hb9⟩ := hφ 9 rfl; exact gY [.blk b6 (cQ oQ) 40] [.blk b6 (cQ (aA (bc (aD (aA x.p y.p) (aA x.p y.p)) x.r) y.r)) 40] (congrArg (fun v => [Asn.blk (gj v) (cQ oQ) 40]) hb9) (congrArg (fun v => [Asn.blk (gj v) (cQ (aA (bc (aD (aA x.p y.p) (aA x.p y.p)) x.r) y.r)) 40]) hb9) (iM zz40 (Eq.trans rfl (congrArg some hb9)) rfl rfl rfl rfl rfl rfl)), trivial⟩ ?_
   clear h ac wo; intro ξ ac wo hφ h
   replace h : St w0 65 [(2, (ptr b1 0)), (5, (ptr b3 0)), (6, (ptr b4 0)), (8, (.int .i64 (ef (aA x.p y.p) (be x) x.r))), (10, ξ 9)] [.blk b2 (cR y) 53, .blk b1 (cR x) 53, .blk b3 (cQ (aA x.p y.p)) 40, .blk b4 (cQ (be x)) 40, .blk b5 (cQ (cm (be y))) 40, .blk (gj (ξ 9)) (cQ (aA (bc (aD (aA x.p y.p) (aA x.p y.p)) x.r) y.r)) 40] ac wo := h.sub ⟨rfl, rfl, rfl, rfl, rfl, trivial⟩
   revert h
   obtain ⟨b6, hb9⟩ : ∃ b, ξ 9 = ptr b 0 := hφ 9
   rw [hb9]; intro h
   clear hb9 hφ ξ
   refine hK9 _ _ ?_
   refine cG fun K10 hK10 => ?_
   have s14 := aJ ((bX 2 (k + 20) (by omega)  (by omega)) w0)
   have s15 := aJ ((bV (aA x.p y.p) (be x) (k + 15) (by omega) s1 (fk s2 (by omega))) w0)
   have s16 := aJ ((bV (ar 2) (aD (aA x.p y.p) (be x)) (k + 13) (by omega) (fk s14 (by omega)) s15) w0)
   have p18 := aJ ((jf (aA (bc (aD (aA x.p y.p) (aA x.p y.p)) x.r) y.r) (aD (ar 2) (aD (aA x.p y.p) (be x))) x.r (k + 1) (by omega) s13 (fk s16 (by omega)) (dx zx (by omega)).2) w0)
   refine cj mixed [dv _, dw _ [5], dv _, dw _ [2], dw _ [3], dv _, dv _, dv _, dw _ [1], dv _, dv _, dv _] [⟨_, []⟩, ⟨_, []⟩, ⟨_, []⟩, ⟨_, []⟩, ⟨_, []⟩, ⟨_, []⟩] h rfl (by kernel_rfl) ⟨fun _ _ => om rfl, fun _ _ => cK _ rfl rfl (aV aa40 zz40 rfl rfl rfl (v := (vQ (aA (bc (aD (aA x.p y.p) (aA x.p y.p)) x.r) y.r))) rfl), fun _ _ => eC (dK cc45 rfl (bX 2 (k + 20) (by omega)  (by omega))), fun _ _ => cK _ rfl rfl (aV aa40 zz40 rfl rfl rfl (v := (vQ (aA x.p y.p))) rfl), fun _ _ => cK _ rfl rfl (aV aa40 zz40 rfl rfl rfl (v := (vQ (be x))) rfl), fun _ _ => eC (dK cc101 rfl (bV (aA x.p y.p) (be x) (k + 15) (by omega) s1 (fk s2 (by omega)))), fun _ _ => eC (dK cc101 rfl (bV (ar 2) (aD (aA x.p y.p) (be x)) (k + 13) (by omega) (fk s14 (by omega)) s15)), fun _ _ => az (fa uu53 rfl zz40 rfl rfl rfl (k' := 4)), fun _ _ => cK _ rfl rfl (aV aa40 zz40 rfl rfl rfl (v := (vQ x.r)) rfl), fun _ _ => eC (dK Tryz.call175 rfl (jf (aA (bc (aD (aA x.p y.p) (aA x.p y.p)) x.r) y.r) (aD (ar 2) (aD (aA x.p y.p) (be x))) x.r (k + 1) (by omega) s13 (fk s16 (by omega)) (dx zx (by omega)).2)), fun _ _ => az (lR rfl rfl (r := ((ef (aA x.p y.p) (be x) x.r) * (ef (aA (bc (aD (aA x.p y.p) (aA x.p y.p)) x.r) y.r) (aD (ar 2) (aD (aA x.p y.p) (be x))) x.r))) (by first | (rw [IntKind.wrap_i64]; omega) | exact jc (by omega) (by omega))), fun _ _ => az (ak rfl), trivial⟩ ?_
   clear h ac wo; intro ξ ac wo hφ h
   replace h : St w0 65 [(4, (.int .i64 ((ef (aA x.p y.p) (be x) x.r) * (ef (aA (bc (aD (aA x.p y.p) (aA x.p y.p)) x.r) y.r) (aD (ar 2) (aD (aA x.p y.p) (be x))) x.r))))] [.blk b2 (cR y) 53, .blk b1 (cR x) 53, .blk b3 (cQ (aA x.p y.p)) 40, .blk b4 (cQ (be x)) 40, .blk b5 (cQ (cm (be y))) 40, .blk b6 (cQ (aA (bc (aD (aA x.p y.p) (aA x.p y.p)) x.r) y.r)) 40] ac wo := h.sub ⟨rfl, trivial⟩
   clear hφ ξ
   refine hK10 _ _ ?_
   refine fU ?_
   have hd : aF x y = ((ef (aA x.p y.p) (be x) x.r) * (ef (aA (bc (aD (aA x.p y.p) (aA x.p y.p)) x.r) y.r) (aD (ar 2) (aD (aA x.p y.p) (be x))) x.r)) := (Eq.trans (cF hc1) (cF hc2))
   exact ret h rfl (.tmp rfl .nil) rfl (h.retP (by rw [hd] <;> rfl) (by rw [hd]; exact by first | omega | exact eZ (by omega) (by omega)))
def cX (n : Int) : GR :=
 (⟨(ar n), (⟨(⟨false, 0⟩ : GI), (⟨false, 0⟩ : GI)⟩ : GQ), false⟩ : GR)
theorem md (n : Int) (k : Nat) (hk : k ≤ 40) (hn : -9223372036854775808 ≤ n ∧ n ≤ 9223372036854775807) (w0 : World) : Calls Tryz.prog 156 #[(.int .i64 n)] w0 (eX w0 (vR (cX n)) (SzR k (cX n))) := by
 refine enter (N := 6) (args := [(.int .i64 n)]) Tryz.func156 rfl rfl ?_; intro ac h
 have c1 := bX n k (by omega)  (by omega)
 have s1 := aJ (c1 w0)
 refine eq fun K1 hK1 => ?_
 refine al h (cR (⟨oQ, oQ, false⟩ : GR)) Tryz.zeroValue53 rfl rfl fun b1 => gn hK1 <| gr fun K2 hK2 => g0 (aj rfl) rfl <| gl cc45 rfl c1 rfl <| g0 (bq bld53 rfl rfl (v := (vR (⟨(ar n), oQ, false⟩ : GR))) rfl) rfl <| gs 0 (cR (⟨(ar n), oQ, false⟩ : GR)) rfl zz53 rfl rfl rfl rfl rfl rfl rfl <| gn hK2 <| gT ?_; clear h ac; intro ac wo h
 exact ret h rfl (.cell (v := (vR (⟨(ar n), oQ, false⟩ : GR))) rfl (i := 0) rfl aa53 zz53 rfl rfl rfl .nil) rfl (h.retP (by unfold cX; rfl) (by unfold cX; exact ⟨s1, ⟨(cO 0 (by decide) (by omega)), (cO 0 (by decide) (by omega))⟩⟩))
def aI (i : Iv) : Bool :=
 (decide (i.lo = i.hi))
theorem bN (i : Iv) (w0 : World) : Calls Tryz.prog 83 #[(vV i)] w0 (eX w0 (.bool (aI i)) (True)) := by
 refine enter (N := 8) (args := [(vV i)]) Tryz.func83 rfl rfl ?_; intro ac h
 refine eq fun K1 hK1 => ?_
 refine bx h (cV i) rfl rfl rfl fun b1 => g0 (ak rfl) rfl <| gn hK1 <| gr fun K2 hK2 => g0 (fa uu55 rfl zz53 rfl rfl rfl (k' := 0)) rfl <| g1 0 rfl (aV aa53 zz53 rfl rfl rfl (v := (vR i.lo)) rfl) rfl <| g0 (fa uu55 rfl zz53 rfl rfl rfl (k' := 9)) rfl <| g1 0 rfl (aV aa53 zz53 rfl rfl rfl (v := (vR i.hi)) rfl) rfl <| g0 (eY jT rfl rfl) rfl <| g0 (ak rfl) rfl <| gn hK2 <| gT ?_; clear h ac; intro ac wo h
 exact ret h rfl (.tmp rfl .nil) rfl (h.retP (by unfold aI; rfl) trivial)
def bP (a : Iv) (b : Iv) : Bool :=
 ((decide ((aF a.hi b.lo) < 0)) || (((aF a.hi b.lo) == 0) && (a.openHi || b.openLo)))
theorem iV (a : Iv) (b : Iv) (k : Nat) (hk : (k + 20) ≤ 40) (za : SzV (k + 20) a) (zb : SzV (k + 20) b) (w0 : World) : Calls Tryz.prog 81 #[(vV a), (vV b)] w0 (eX w0 (.bool (bP a b)) (True)) := by
 refine enter (N := 25) (args := [(vV a), (vV b)]) Tryz.func81 rfl rfl ?_; intro ac h
 have p2 := aJ ((ch a.hi b.lo k (by omega) za.2 zb.1) w0)
 refine eq fun K1 hK1 => ?_
 refine bx h (cV a) rfl rfl rfl fun b1 => gb (cV b) rfl rfl rfl fun b2 => g0 (ak rfl) rfl <| gn hK1 <| gr fun K2 hK2 => g0 (fa uu55 rfl zz53 rfl rfl rfl (k' := 9)) rfl <| g1 1 rfl (aV aa53 zz53 rfl rfl rfl (v := (vR a.hi)) rfl) rfl <| g0 (fa uu55 rfl zz53 rfl rfl rfl (k' := 0)) rfl <| g1 0 rfl (aV aa53 zz53 rfl rfl rfl (v := (vR b.lo)) rfl) rfl <| gl Tryz.call115 rfl (ch a.hi b.lo k (by omega) za.2 zb.1) rfl <| g0 (ak rfl) rfl <| gn hK2 <| gr fun K3 hK3 => g0 (aj rfl) rfl <| g0 (dP rfl rfl) rfl <| g0 (aj rfl) rfl <| ge2 rfl rfl (fun hg => (Rd.of_nil (aj rfl)).step) rfl <| ge2 rfl rfl (fun hg => (Rd.of_nil (fZ (ao rfl hg) rfl)).step) rfl <| ge2 rfl rfl (fun hg => (Rd.of_nil (aj (ao rfl hg))).step) rfl <| ge3 rfl rfl (fun hg => (Rd.of_nil (fa uu55 rfl zz4 rfl rfl rfl (k' := 19))).step) rfl <| ge3 rfl rfl (fun hg => (Rd.of_mem (i := 1) (aV aa4 zz4 (ao rfl hg) rfl rfl (v := (.bool a.openHi)) rfl) rfl).step) rfl <| ge3 rfl rfl (fun hg => (Rd.of_nil (aj (ao rfl hg))).step) rfl <| ge4 rfl rfl (fun hg => (Rd.of_nil (fa uu55 rfl zz4 rfl rfl rfl (k' := 18))).step) rfl <| ge4 rfl rfl (fun hg => (Rd.of_mem (i := 0) (aV aa4 zz4 (ao rfl hg) rfl rfl (v := (.bool b.openLo)) rfl) rfl).step) rfl <| ge3 rfl rfl (fun hg => (Rd.of_nil (r_or (ao rfl hg) (fun e => (ao rfl (andI hg (notI e)))))).step) rfl <| ge2 rfl rfl (fun hg => (Rd.of_nil (da (ao rfl hg) (fun e => (ao rfl (andI hg e))))).step) rfl <| g0 (r_or rfl (fun e => (ao rfl (notI e)))) rfl <| g0 (ak rfl) rfl <| gn hK3 <| gT ?_; clear h ac; intro ac wo h
 exact ret h rfl (.tmp rfl .nil) rfl (h.retP (by unfold bP; rfl) trivial)
end Go.Sx
namespace Go.Sx
open Go Go.RowKit Go.Proofs
set_option maxRecDepth 100000
def aB (f : Ln) : Qd × Qd :=
 ((aM f.x0 f.x1), (aM f.y0 f.y1))
theorem fK (f : Ln) (k : Nat) (hk : k ≤ 40) (zf : SzN k f) (w0 : World) : Calls Tryz.prog 97 #[(vN f)] w0 (eX w0 (.tuple #[(vD ((aB f).1)), (vD ((aB f).2))]) (SzD k ((aB f).1) ∧ SzD k ((aB f).2))) := by
 refine enter (N := 14) (args := [(vN f)]) Tryz.func97 rfl rfl ?_; intro ac h
 have s1 := aJ ((dZ f.x0 f.x1 k (by omega) zf.1 zf.2.1) w0)
 have s2 := aJ ((dZ f.y0 f.y1 k (by omega) zf.2.2.1 zf.2.2.2) w0)
 refine eq fun K1 hK1 => ?_
 refine bx h (cN f) rfl rfl rfl fun b1 => ga (cD oD) vv69 rfl rfl fun b2 => ga (cD oD) vv69 rfl rfl fun b3 => gn hK1 <| gq fun K2 hK2 => ?_; clear h ac; intro ac wo h
 refine cj mixed [dv _, dw _ [2], dv _, dw _ [2], dv _, dv _, dw _ [2], dv _, dw _ [2], dv _, dw _ [1], dw _ [0]] [⟨.blk b3 (cD oD) 69, [(11, .con _)]⟩, ⟨.blk b2 (cD oD) 69, [(10, .con _)]⟩, ⟨_, []⟩] h rfl (by kernel_rfl) ⟨fun _ _ => az (fa uu42 rfl zz40 rfl rfl rfl (k' := 0)), fun _ _ => cK _ rfl rfl (aV aa40 zz40 rfl rfl rfl (v := (vQ f.x0)) rfl), fun _ _ => az (fa uu42 rfl zz40 rfl rfl rfl (k' := 4)), fun _ _ => cK _ rfl rfl (aV aa40 zz40 rfl rfl rfl (v := (vQ f.x1)) rfl), fun _ _ => eC (dK cc31 rfl (dZ f.x0 f.x1 k (by omega) zf.1 zf.2.1)), fun _ _ => az (fa uu42 rfl zz40 rfl rfl rfl (k' := 8)), fun _ _ => cK _ rfl rfl (aV aa40 zz40 rfl rfl rfl (v := (vQ f.y0)) rfl), fun _ _ => az (fa uu42 rfl zz40 rfl rfl rfl (k' := 12)), fun _ _ => cK _ rfl rfl (aV aa40 zz40 rfl rfl rfl (v := (vQ f.y1)) rfl), fun _ _ => eC (dK cc31 rfl (dZ f.y0 f.y1 k (by omega) zf.2.2.1 zf.2.2.2)), fun _ _ => gY _ [.blk b2 (cD (aM f.x0 f.x1)) 69] rfl rfl (iM zz69 rfl rfl rfl rfl rfl rfl rfl), fun _ _ => gY _ [.blk b3 (cD (aM f.y0 f.y1)) 69] rfl rfl (iM zz69 rfl rfl rfl rfl rfl rfl rfl), trivial⟩ ?_
 clear h ac wo; intro ξ ac wo hφ h
 replace h : St w0 14 [(2, (ptr b2 0)), (3, (ptr b3 0))] [.blk b3 (cD (aM f.y0 f.y1)) 69, .blk b2 (cD (aM f.x0 f.x1)) 69, .blk b1 (cN f) 42] ac wo := h.sub ⟨rfl, rfl, trivial⟩
 clear hφ ξ
 refine hK2 _ _ ?_
 refine fU ?_
 exact ret h rfl (.cell (v := (vD (aM f.x0 f.x1))) rfl (i := 1) rfl aa69 zz69 rfl rfl rfl (.cell (v := (vD (aM f.y0 f.y1))) rfl (i := 0) rfl aa69 zz69 rfl rfl rfl .nil)) rfl (h.retP (by unfold aB; rfl) (by unfold aB; exact ⟨s1, s2⟩))
end Go.Sx
