/- A part of the proof that the law PiecesRefines answers true at every input and leaves its arguments as they were. -/
import Derived.Test.YtnkaneggnjallaaGreatDoorProg
import Derived.Test.YtnkaneggnjallaaGreatDoorGdiv
set_option linter.unusedVariables false
set_option linter.unusedSimpArgs false
open Go.Proofs.Tryz renaming isAgg4 → aa4, underlying4 → nn4, isAgg9 → aa9, isAgg38 → aa38, sizeOf38 → zz38, isAgg40 → aa40, sizeOf40 → zz40, runUnderlying38 → uu38, sizeOf9 → zz9, sizeOf4 → zz4, zeroValue38 → vv38, call172 → cc172, call124 → cc124, call192 → cc192, zeroValue40 → vv40, runUnderlying40 → uu40, call164 → cc164, call118 → cc118, call188 → cc188, call159 → cc159, call158 → cc158, call102 → cc102, zeroValue69 → vv69, sizeOf69 → zz69, isAgg69 → aa69, runUnderlying69 → uu69, call100 → cc100, call101 → cc101, runUnderlying53 → uu53, isAgg53 → aa53, sizeOf53 → zz53, call45 → cc45, call58 → cc58, runUnderlying55 → uu55, call115 → cc115, zeroValue55 → vv55, isAgg55 → aa55, sizeOf55 → zz55
namespace Go.Sx
open Go Go.RowKit Go.Proofs
set_option maxRecDepth 100000
theorem eqi38 : EqIn Tryz.prog 2 38 vI := eqS (c := cI) (fun _ => rfl) Tryz.underlying38 Tryz.stoodInHeld38 fun d x y w hd => by
 refine Eq.trans (eqF (by decide) (gk aa4 rfl w) (gk aa4 rfl w) (eqB nn4 d (by omega) _ _ w) (eqF (by decide) (gk aa9 rfl w) (gk aa9 rfl w) (eqBs Tryz.underlying9 d (by omega) _ _ w) eqF0)) ?_
 congr 1
 rw [decide_eq_decide]
 cases x; cases y; simp
theorem eqp38 : EqP Tryz.prog 38 vI := EqIn.p (k := 2) rfl (c := fun x => (cI x).toArray) (fun _ => rfl) Tryz.eqGuardType38 eqi38
theorem pm : EqIn Tryz.prog 3 40 vQ := eqS (c := cQ) (fun _ => rfl) Tryz.underlying40 Tryz.stoodInHeld40 fun d x y w hd => by
 refine Eq.trans (eqF (by decide) (eA aa38 zz38 (v := vI (x.num)) rfl w) (eA aa38 zz38 (v := vI (y.num)) rfl w) (eqi38 d _ _ w (by omega)) (eqF (by decide) (eA aa38 zz38 (v := vI (x.den)) rfl w) (eA aa38 zz38 (v := vI (y.den)) rfl w) (eqi38 d _ _ w (by omega)) eqF0)) ?_
 congr 1
 rw [decide_eq_decide]
 cases x; cases y; simp
theorem eqp40 : EqP Tryz.prog 40 vQ := EqIn.p (k := 3) rfl (c := fun x => (cQ x).toArray) (fun _ => rfl) Tryz.eqGuardType40 pm
theorem eqi53 : EqIn Tryz.prog 4 53 vR := eqS (c := cR) (fun _ => rfl) Tryz.underlying53 Tryz.stoodInHeld53 fun d x y w hd => by
 refine Eq.trans (eqF (by decide) (eA aa40 zz40 (v := vQ (x.p)) rfl w) (eA aa40 zz40 (v := vQ (y.p)) rfl w) (pm d _ _ w (by omega)) (eqF (by decide) (eA aa40 zz40 (v := vQ (x.r)) rfl w) (eA aa40 zz40 (v := vQ (y.r)) rfl w) (pm d _ _ w (by omega)) (eqF (by decide) (gk aa4 rfl w) (gk aa4 rfl w) (eqB nn4 d (by omega) _ _ w) eqF0))) ?_
 congr 1
 rw [decide_eq_decide]
 cases x; cases y; simp
theorem nU : EqP Tryz.prog 53 vR := EqIn.p (k := 4) rfl (c := fun x => (cR x).toArray) (fun _ => rfl) Tryz.eqGuardType53 eqi53
theorem eqi69 : EqIn Tryz.prog 4 69 vD := eqS (c := cD) (fun _ => rfl) Tryz.underlying69 Tryz.stoodInHeld69 fun d x y w hd => by
 refine Eq.trans (eqF (by decide) (eA aa40 zz40 (v := vQ (x.c0)) rfl w) (eA aa40 zz40 (v := vQ (y.c0)) rfl w) (pm d _ _ w (by omega)) (eqF (by decide) (eA aa40 zz40 (v := vQ (x.c1)) rfl w) (eA aa40 zz40 (v := vQ (y.c1)) rfl w) (pm d _ _ w (by omega)) (eqF (by decide) (eA aa40 zz40 (v := vQ (x.c2)) rfl w) (eA aa40 zz40 (v := vQ (y.c2)) rfl w) (pm d _ _ w (by omega)) eqF0))) ?_
 congr 1
 rw [decide_eq_decide]
 cases x; cases y; simp
theorem pk : EqP Tryz.prog 69 vD := EqIn.p (k := 4) rfl (c := fun x => (cD x).toArray) (fun _ => rfl) Tryz.eqGuardType69 eqi69
def cG (a : GI) : Int :=
 bif (decide (a.mag = 0)) then
  0
 else
  bif a.neg then
   (-1)
  else
   1
theorem ee (a : GI) (w0 : World) : Calls Tryz.prog 124 #[(vI a)] w0 (eE w0 (.int .i64 (cG a)) ((-1 ≤ (cG a) ∧ (cG a) ≤ 1))) := by
 refine enter (N := 10) (args := [(vI a)]) Tryz.func124 rfl rfl ?_; intro ac h
 refine d8 fun K1 hK1 => ?_
 refine bx h (cI a) rfl rfl rfl fun b1 => g0 (ae rfl) rfl <| gn hK1 <| gq fun K2 hK2 => gB <| gr fun K3 hK3 => g0 (fa uu38 rfl zz9 rfl rfl rfl (k' := 1)) rfl <| g1 0 rfl (aS aa9 zz9 rfl rfl rfl (v := (.string (bs a.mag))) rfl) rfl <| g0 (pT rfl rfl (m := a.mag) (n := 0)) rfl <| g0 (ae rfl) rfl <| gn hK3 ?_; clear h ac; intro ac wo h
 refine dg h rfl (fun hc1 => ?_) (fun hc1 => ?_)
 ·
  have hd1 := of_decide_eq_true hc1
  refine gz h <| gr fun K4 hK4 => g0 (ae rfl) rfl <| gn hK4 <| gT ?_; clear h ac wo; intro ac wo h
  have hd : cG a = 0 := (cT hc1)
  exact ret h rfl (.tmp rfl .nil) rfl (h.retP (by rw [hd] <;> rfl) (by rw [hd]; exact by first | omega | exact eB (by omega) (by omega)))
 ·
  have hd1 := of_decide_eq_false hc1
  refine gz h <| gr fun K5 hK5 => g0 (fa uu38 rfl zz4 rfl rfl rfl (k' := 0)) rfl <| g1 0 rfl (aS aa4 zz4 rfl rfl rfl (v := (.bool a.neg)) rfl) rfl <| g0 (ae rfl) rfl <| gn hK5 ?_; clear h ac wo; intro ac wo h
  refine dg h rfl (fun hc2 => ?_) (fun hc2 => ?_)
  ·
   refine gz h <| gr fun K6 hK6 => g0 (ae rfl) rfl <| gn hK6 <| gT ?_; clear h ac wo; intro ac wo h
   have hd : cG a = (-1) := (Eq.trans (cF hc1) (cT hc2))
   exact ret h rfl (.tmp rfl .nil) rfl (h.retP (by rw [hd] <;> rfl) (by rw [hd]; exact by first | omega | exact eB (by omega) (by omega)))
  ·
   refine gz h <| gS <| gN <| gx hK2 <| gr fun K7 hK7 => g0 (ae rfl) rfl <| gn hK7 <| gT ?_; clear h ac wo; intro ac wo h
   have hd : cG a = 1 := (Eq.trans (cF hc1) (cF hc2))
   exact ret h rfl (.tmp rfl .nil) rfl (h.retP (by rw [hd] <;> rfl) (by rw [hd]; exact by first | omega | exact eB (by omega) (by omega)))
def am (a : GI) : GI :=
 (aB (!a.neg) a.mag)
theorem et (a : GI) (k : Nat) (hk : k ≤ 40) (za : SzI k a) (w0 : World) : Calls Tryz.prog 118 #[(vI a)] w0 (eE w0 (vI (am a)) (SzI k (am a))) := by
 refine enter (N := 9) (args := [(vI a)]) Tryz.func118 rfl rfl ?_; intro ac h
 have c1 := ck (!a.neg) a.mag k (by omega) za
 have s1 := ax (c1 w0)
 refine d8 fun K1 hK1 => ?_
 refine bx h (cI a) rfl rfl rfl fun b1 => ga (cI (⟨false, 0⟩ : GI)) vv38 rfl rfl fun b2 => gn hK1 <| gr fun K2 hK2 => g0 (fa uu38 rfl zz4 rfl rfl rfl (k' := 0)) rfl <| g1 1 rfl (aS aa4 zz4 rfl rfl rfl (v := (.bool a.neg)) rfl) rfl <| g0 (dV rfl) rfl <| g0 (fa uu38 rfl zz9 rfl rfl rfl (k' := 1)) rfl <| g1 1 rfl (aS aa9 zz9 rfl rfl rfl (v := (.string (bs a.mag))) rfl) rfl <| gl cc172 rfl c1 rfl <| gs 0 (cI (aB (!a.neg) a.mag)) rfl zz38 rfl rfl rfl rfl rfl rfl rfl <| gn hK2 <| gT ?_; clear h ac; intro ac wo h
 exact ret h rfl (.cell (v := (vI (aB (!a.neg) a.mag))) rfl (i := 0) rfl aa38 zz38 rfl rfl rfl .nil) rfl (h.retP (by unfold am; rfl) (by unfold am; exact s1))
def ef (a : GI) (b : GI) : Int :=
 bif (a.neg != b.neg) then
  (dG (cG a) (cG b))
 else
  bif a.neg then
   -(bh a.mag b.mag)
  else
   (bh a.mag b.mag)
theorem ik (a : GI) (b : GI) (k : Nat) (hk : k ≤ 40) (za : SzI k a) (zb : SzI k b) (w0 : World) : Calls Tryz.prog 163 #[(vI a), (vI b)] w0 (eE w0 (.int .i64 (ef a b)) ((-1 ≤ (ef a b) ∧ (ef a b) ≤ 1))) := by
 refine enter (N := 26) (args := [(vI a), (vI b)]) Tryz.func163 rfl rfl ?_; intro ac h
 refine d8 fun K1 hK1 => ?_
 refine bx h (cI a) rfl rfl rfl fun b1 => gb (cI b) rfl rfl rfl fun b2 => g0 (ae rfl) rfl <| gn hK1 <| gq fun K2 hK2 => gr fun K3 hK3 => g0 (fa uu38 rfl zz4 rfl rfl rfl (k' := 0)) rfl <| g1 1 rfl (aS aa4 zz4 rfl rfl rfl (v := (.bool a.neg)) rfl) rfl <| g0 (fa uu38 rfl zz4 rfl rfl rfl (k' := 0)) rfl <| g1 0 rfl (aS aa4 zz4 rfl rfl rfl (v := (.bool b.neg)) rfl) rfl <| g0 (od nn4 rfl rfl) rfl <| gn hK3 ?_; clear h ac; intro ac wo h
 refine dg h rfl (fun hc1 => ?_) (fun hc1 => ?_)
 ·
  refine di fun K4 hK4 => ?_
  have p2 := ax ((ee a) w0)
  have p4 := ax ((ee b) w0)
  have p6 := ax ((iI (cG a) (cG b)) w0)
  refine cb mixed [dw _ [1], dv _, dw _ [0], dv _, dv _, dv _] [⟨_, []⟩, ⟨_, []⟩] h rfl (by kernel_rfl) ⟨fun _ _ => cp _ rfl rfl (aS aa38 zz38 rfl rfl rfl (v := (vI a)) rfl), fun _ _ => eg (dl cc124 rfl (ee a)), fun _ _ => cp _ rfl rfl (aS aa38 zz38 rfl rfl rfl (v := (vI b)) rfl), fun _ _ => eg (dl cc124 rfl (ee b)), fun _ _ => eg (dl Tryz.call149 rfl (iI (cG a) (cG b))), fun _ _ => aq (ae rfl), trivial⟩ ?_
  clear h ac wo; intro ξ ac wo hφ h
  replace h : St w0 26 [(4, (.int .i64 (dG (cG a) (cG b))))] [.blk b2 (cI b) 38, .blk b1 (cI a) 38] ac wo := h.sub ⟨rfl, trivial⟩
  clear hφ ξ
  refine hK4 _ _ ?_
  refine e7 ?_
  have hd : ef a b = (dG (cG a) (cG b)) := (cT hc1)
  exact ret h rfl (.tmp rfl .nil) rfl (h.retP (by rw [hd] <;> rfl) (by rw [hd]; exact by first | omega | exact eB (by omega) (by omega)))
 ·
  have p8 := ax ((eh a.mag b.mag) w0)
  refine gz h <| gS <| gx hK2 <| gr fun K5 hK5 => g0 (fa uu38 rfl zz9 rfl rfl rfl (k' := 1)) rfl <| g1 1 rfl (aS aa9 zz9 rfl rfl rfl (v := (.string (bs a.mag))) rfl) rfl <| g0 (fa uu38 rfl zz9 rfl rfl rfl (k' := 1)) rfl <| g1 0 rfl (aS aa9 zz9 rfl rfl rfl (v := (.string (bs b.mag))) rfl) rfl <| gl Tryz.call191 rfl (eh a.mag b.mag) rfl <| g0 (ae rfl) rfl <| gn hK5 <| gq fun K6 hK6 => gr fun K7 hK7 => g0 (fa uu38 rfl zz4 rfl rfl rfl (k' := 0)) rfl <| g1 1 rfl (aS aa4 zz4 rfl rfl rfl (v := (.bool a.neg)) rfl) rfl <| gn hK7 ?_; clear h ac wo; intro ac wo h
  refine dg h rfl (fun hc2 => ?_) (fun hc2 => ?_)
  ·
   refine gz h <| gr fun K8 hK8 => g0 (af rfl) rfl <| g0 (r_neg rfl (r := -(bh a.mag b.mag)) (by rw [IntKind.wrap_i64]; omega)) rfl <| g0 (ae rfl) rfl <| gn hK8 <| gT ?_; clear h ac wo; intro ac wo h
   have hd : ef a b = -(bh a.mag b.mag) := (Eq.trans (cF hc1) (cT hc2))
   exact ret h rfl (.tmp rfl .nil) rfl (h.retP (by rw [hd] <;> rfl) (by rw [hd]; exact by first | omega | exact eB (by omega) (by omega)))
  ·
   refine gz h <| gS <| gx hK6 <| gr fun K9 hK9 => g0 (af rfl) rfl <| g0 (ae rfl) rfl <| gn hK9 <| gT ?_; clear h ac wo; intro ac wo h
   have hd : ef a b = (bh a.mag b.mag) := (Eq.trans (cF hc1) (cF hc2))
   exact ret h rfl (.tmp rfl .nil) rfl (h.retP (by rw [hd] <;> rfl) (by rw [hd]; exact by first | omega | exact eB (by omega) (by omega)))
def dL (a : GI) (b : GI) : GI :=
 bif (a.neg == b.neg) then
  (aB a.neg (dx a.mag b.mag))
 else
  bif (decide ((bh a.mag b.mag) ≥ 0)) then
   (aB a.neg (co a.mag b.mag))
  else
   (aB b.neg (co b.mag a.mag))
theorem jz (a : GI) (b : GI) (k : Nat) (hk : (k + 1) ≤ 40) (za : SzI (k + 1) a) (zb : SzI (k + 1) b) (w0 : World) : Calls Tryz.prog 161 #[(vI a), (vI b)] w0 (eE w0 (vI (dL a b)) (SzI k (dL a b))) := by
 refine enter (N := 42) (args := [(vI a), (vI b)]) Tryz.func161 rfl rfl ?_; intro ac h
 refine d8 fun K1 hK1 => ?_
 refine bx h (cI a) rfl rfl rfl fun b1 => gb (cI b) rfl rfl rfl fun b2 => ga (cI (⟨false, 0⟩ : GI)) vv38 rfl rfl fun b3 => gn hK1 <| gq fun K2 hK2 => gB <| gr fun K3 hK3 => g0 (fa uu38 rfl zz4 rfl rfl rfl (k' := 0)) rfl <| g1 2 rfl (aS aa4 zz4 rfl rfl rfl (v := (.bool a.neg)) rfl) rfl <| g0 (fa uu38 rfl zz4 rfl rfl rfl (k' := 0)) rfl <| g1 1 rfl (aS aa4 zz4 rfl rfl rfl (v := (.bool b.neg)) rfl) rfl <| g0 (r_eqlB nn4 rfl rfl) rfl <| g0 (ae rfl) rfl <| gn hK3 ?_; clear h ac; intro ac wo h
 refine dg h rfl (fun hc1 => ?_) (fun hc1 => ?_)
 ·
  have hd1 := eq_of_beq hc1
  refine di fun K4 hK4 => ?_
  have s1 := ax ((gm a.mag b.mag k (by omega) za zb) w0)
  have s2 := ax ((ck a.neg (dx a.mag b.mag) k (by omega) s1) w0)
  refine cb mixed [dv _, dw _ [2], dv _, dw _ [2], dv _, dw _ [1], dv _, dv _, dw _ [0]] [⟨.blk b3 (cI (⟨false, 0⟩ : GI)) 38, [(8, .con _)]⟩, ⟨_, []⟩, ⟨_, []⟩] h rfl (by kernel_rfl) ⟨fun _ _ => aq (fa uu38 rfl zz4 rfl rfl rfl (k' := 0)), fun _ _ => cp _ rfl rfl (aS aa4 zz4 rfl rfl rfl (v := (.bool a.neg)) rfl), fun _ _ => aq (fa uu38 rfl zz9 rfl rfl rfl (k' := 1)), fun _ _ => cp _ rfl rfl (aS aa9 zz9 rfl rfl rfl (v := (.string (bs a.mag))) rfl), fun _ _ => aq (fa uu38 rfl zz9 rfl rfl rfl (k' := 1)), fun _ _ => cp _ rfl rfl (aS aa9 zz9 rfl rfl rfl (v := (.string (bs b.mag))) rfl), fun _ _ => eg (dl Tryz.call190 rfl (gm a.mag b.mag k (by omega) za zb)), fun _ _ => eg (dl cc172 rfl (ck a.neg (dx a.mag b.mag) k (by omega) s1)), fun _ _ => ff _ [.blk b3 (cI (aB a.neg (dx a.mag b.mag))) 38] rfl rfl (fp zz38 rfl rfl rfl rfl rfl rfl rfl), trivial⟩ ?_
  clear h ac wo; intro ξ ac wo hφ h
  replace h : St w0 42 [(4, (ptr b3 0))] [.blk b3 (cI (aB a.neg (dx a.mag b.mag))) 38, .blk b2 (cI b) 38, .blk b1 (cI a) 38] ac wo := h.sub ⟨rfl, trivial⟩
  clear hφ ξ
  refine hK4 _ _ ?_
  refine e7 ?_
  have hd : dL a b = (aB a.neg (dx a.mag b.mag)) := (cT hc1)
  exact ret h rfl (.cell (v := (vI (aB a.neg (dx a.mag b.mag)))) rfl (i := 0) rfl aa38 zz38 rfl rfl rfl .nil) rfl (h.retP (by rw [hd] <;> rfl) (by rw [hd]; exact s2))
 ·
  have hd1 := ne_of_beq_false hc1
  have p4 := ax ((eh a.mag b.mag) w0)
  refine gz h <| gr fun K5 hK5 => g0 (fa uu38 rfl zz9 rfl rfl rfl (k' := 1)) rfl <| g1 2 rfl (aS aa9 zz9 rfl rfl rfl (v := (.string (bs a.mag))) rfl) rfl <| g0 (fa uu38 rfl zz9 rfl rfl rfl (k' := 1)) rfl <| g1 1 rfl (aS aa9 zz9 rfl rfl rfl (v := (.string (bs b.mag))) rfl) rfl <| gl Tryz.call191 rfl (eh a.mag b.mag) rfl <| g0 (lG rfl rfl) rfl <| g0 (ae rfl) rfl <| gn hK5 ?_; clear h ac wo; intro ac wo h
  refine dg h rfl (fun hc2 => ?_) (fun hc2 => ?_)
  ·
   have hd2 := of_decide_eq_true hc2
   refine di fun K6 hK6 => ?_
   have s5 := ax ((fb a.mag b.mag (k + 1) (by omega) za zb (by first | exact oN ‹_› | exact oM ‹_›)) w0)
   have s6 := ax ((ck a.neg (co a.mag b.mag) (k + 1) (by omega) s5) w0)
   refine cb mixed [dv _, dw _ [2], dv _, dw _ [2], dv _, dw _ [1], dv _, dv _, dw _ [0]] [⟨.blk b3 (cI (⟨false, 0⟩ : GI)) 38, [(8, .con _)]⟩, ⟨_, []⟩, ⟨_, []⟩] h rfl (by kernel_rfl) ⟨fun _ _ => aq (fa uu38 rfl zz4 rfl rfl rfl (k' := 0)), fun _ _ => cp _ rfl rfl (aS aa4 zz4 rfl rfl rfl (v := (.bool a.neg)) rfl), fun _ _ => aq (fa uu38 rfl zz9 rfl rfl rfl (k' := 1)), fun _ _ => cp _ rfl rfl (aS aa9 zz9 rfl rfl rfl (v := (.string (bs a.mag))) rfl), fun _ _ => aq (fa uu38 rfl zz9 rfl rfl rfl (k' := 1)), fun _ _ => cp _ rfl rfl (aS aa9 zz9 rfl rfl rfl (v := (.string (bs b.mag))) rfl), fun _ _ => eg (dl cc192 rfl (fb a.mag b.mag (k + 1) (by omega) za zb (by first | exact oN ‹_› | exact oM ‹_›))), fun _ _ => eg (dl cc172 rfl (ck a.neg (co a.mag b.mag) (k + 1) (by omega) s5)), fun _ _ => ff _ [.blk b3 (cI (aB a.neg (co a.mag b.mag))) 38] rfl rfl (fp zz38 rfl rfl rfl rfl rfl rfl rfl), trivial⟩ ?_
   clear h ac wo; intro ξ ac wo hφ h
   replace h : St w0 42 [(4, (ptr b3 0))] [.blk b3 (cI (aB a.neg (co a.mag b.mag))) 38, .blk b2 (cI b) 38, .blk b1 (cI a) 38] ac wo := h.sub ⟨rfl, trivial⟩
   clear hφ ξ
   refine hK6 _ _ ?_
   refine e7 ?_
   have hd : dL a b = (aB a.neg (co a.mag b.mag)) := (Eq.trans (cF hc1) (cT hc2))
   exact ret h rfl (.cell (v := (vI (aB a.neg (co a.mag b.mag)))) rfl (i := 0) rfl aa38 zz38 rfl rfl rfl .nil) rfl (h.retP (by rw [hd] <;> rfl) (by rw [hd]; exact (jB s6 (by omega))))
  ·
   have hd2 := of_decide_eq_false hc2
   refine dI ?_
   refine nA ?_
   refine hK2 _ _ ?_
   refine di fun K7 hK7 => ?_
   have s7 := ax ((fb b.mag a.mag (k + 1) (by omega) zb za (by first | exact oN ‹_› | exact oM ‹_›)) w0)
   have s8 := ax ((ck b.neg (co b.mag a.mag) (k + 1) (by omega) s7) w0)
   refine cb mixed [dv _, dw _ [1], dv _, dw _ [1], dv _, dw _ [2], dv _, dv _, dw _ [0]] [⟨.blk b3 (cI (⟨false, 0⟩ : GI)) 38, [(8, .con _)]⟩, ⟨_, []⟩, ⟨_, []⟩] h rfl (by kernel_rfl) ⟨fun _ _ => aq (fa uu38 rfl zz4 rfl rfl rfl (k' := 0)), fun _ _ => cp _ rfl rfl (aS aa4 zz4 rfl rfl rfl (v := (.bool b.neg)) rfl), fun _ _ => aq (fa uu38 rfl zz9 rfl rfl rfl (k' := 1)), fun _ _ => cp _ rfl rfl (aS aa9 zz9 rfl rfl rfl (v := (.string (bs b.mag))) rfl), fun _ _ => aq (fa uu38 rfl zz9 rfl rfl rfl (k' := 1)), fun _ _ => cp _ rfl rfl (aS aa9 zz9 rfl rfl rfl (v := (.string (bs a.mag))) rfl), fun _ _ => eg (dl cc192 rfl (fb b.mag a.mag (k + 1) (by omega) zb za (by first | exact oN ‹_› | exact oM ‹_›))), fun _ _ => eg (dl cc172 rfl (ck b.neg (co b.mag a.mag) (k + 1) (by omega) s7)), fun _ _ => ff _ [.blk b3 (cI (aB b.neg (co b.mag a.mag))) 38] rfl rfl (fp zz38 rfl rfl rfl rfl rfl rfl rfl), trivial⟩ ?_
   clear h ac wo; intro ξ ac wo hφ h
   replace h : St w0 42 [(4, (ptr b3 0))] [.blk b3 (cI (aB b.neg (co b.mag a.mag))) 38, .blk b2 (cI b) 38, .blk b1 (cI a) 38] ac wo := h.sub ⟨rfl, trivial⟩
   clear hφ ξ
   refine hK7 _ _ ?_
   refine e7 ?_
   have hd : dL a b = (aB b.neg (co b.mag a.mag)) := (Eq.trans (cF hc1) (cF hc2))
   exact ret h rfl (.cell (v := (vI (aB b.neg (co b.mag a.mag)))) rfl (i := 0) rfl aa38 zz38 rfl rfl rfl .nil) rfl (h.retP (by rw [hd] <;> rfl) (by rw [hd]; exact (jB s8 (by omega))))
def bp (a : GI) (b : GI) : GI :=
 (aB (a.neg != b.neg) (eu a.mag b.mag))
theorem dU (a : GI) (b : GI) (k : Nat) (hk : (k + 1) ≤ 40) (za : SzI (k + 1) a) (zb : SzI (k + 1) b) (w0 : World) : Calls Tryz.prog 158 #[(vI a), (vI b)] w0 (eE w0 (vI (bp a b)) (SzI k (bp a b))) := by
 refine enter (N := 16) (args := [(vI a), (vI b)]) Tryz.func158 rfl rfl ?_; intro ac h
 have s1 := ax ((ju a.mag b.mag k (by omega) za zb) w0)
 have s2 := ax ((ck (a.neg != b.neg) (eu a.mag b.mag) k (by omega) s1) w0)
 refine d8 fun K1 hK1 => ?_
 refine bx h (cI a) rfl rfl rfl fun b1 => gb (cI b) rfl rfl rfl fun b2 => ga (cI (⟨false, 0⟩ : GI)) vv38 rfl rfl fun b3 => gn hK1 <| gq fun K2 hK2 => ?_; clear h ac; intro ac wo h
 refine cb mixed [dv _, dw _ [2], dv _, dw _ [1], dv _, dv _, dw _ [2], dv _, dw _ [1], dv _, dv _, dw _ [0]] [⟨.blk b3 (cI (⟨false, 0⟩ : GI)) 38, [(11, .con _)]⟩, ⟨_, []⟩, ⟨_, []⟩] h rfl (by kernel_rfl) ⟨fun _ _ => aq (fa uu38 rfl zz4 rfl rfl rfl (k' := 0)), fun _ _ => cp _ rfl rfl (aS aa4 zz4 rfl rfl rfl (v := (.bool a.neg)) rfl), fun _ _ => aq (fa uu38 rfl zz4 rfl rfl rfl (k' := 0)), fun _ _ => cp _ rfl rfl (aS aa4 zz4 rfl rfl rfl (v := (.bool b.neg)) rfl), fun _ _ => aq (od nn4 rfl rfl), fun _ _ => aq (fa uu38 rfl zz9 rfl rfl rfl (k' := 1)), fun _ _ => cp _ rfl rfl (aS aa9 zz9 rfl rfl rfl (v := (.string (bs a.mag))) rfl), fun _ _ => aq (fa uu38 rfl zz9 rfl rfl rfl (k' := 1)), fun _ _ => cp _ rfl rfl (aS aa9 zz9 rfl rfl rfl (v := (.string (bs b.mag))) rfl), fun _ _ => eg (dl Tryz.call189 rfl (ju a.mag b.mag k (by omega) za zb)), fun _ _ => eg (dl cc172 rfl (ck (a.neg != b.neg) (eu a.mag b.mag) k (by omega) s1)), fun _ _ => ff _ [.blk b3 (cI (aB (a.neg != b.neg) (eu a.mag b.mag))) 38] rfl rfl (fp zz38 rfl rfl rfl rfl rfl rfl rfl), trivial⟩ ?_
 clear h ac wo; intro ξ ac wo hφ h
 replace h : St w0 16 [(4, (ptr b3 0))] [.blk b3 (cI (aB (a.neg != b.neg) (eu a.mag b.mag))) 38, .blk b2 (cI b) 38, .blk b1 (cI a) 38] ac wo := h.sub ⟨rfl, trivial⟩
 clear hφ ξ
 refine hK2 _ _ ?_
 refine e7 ?_
 exact ret h rfl (.cell (v := (vI (aB (a.neg != b.neg) (eu a.mag b.mag)))) rfl (i := 0) rfl aa38 zz38 rfl rfl rfl .nil) rfl (h.retP (by unfold bp; rfl) (by unfold bp; exact s2))
def ay (a b : GI) : GI := aB false (Nat.gcd a.mag b.mag)
theorem oF (x y : Nat) : Nat.gcd y (x % y) = Nat.gcd x y := by rw [Nat.gcd_comm x y, Nat.gcd_rec y x, Nat.gcd_comm]
theorem jy (a : GI) (b : GI) (k : Nat) (hk : k ≤ 40) (za : SzI k a) (zb : SzI k b) (w0 : World) : Calls Tryz.prog 165 #[(vI a), (vI b)] w0 (eE w0 (vI (ay a b)) (SzI k (ay a b))) := by
 refine enter (N := 45) (args := [(vI a), (vI b)]) Tryz.func165 rfl rfl ?_; intro ac h
 refine d8 fun K1 hK1 => ?_
 refine bx h (cI a) rfl rfl rfl fun b1 => gb (cI b) rfl rfl rfl fun b2 => ga (cI (⟨false, 0⟩ : GI)) vv38 rfl rfl fun b3 => gn hK1 <| gq fun K2 hK2 => ?_; clear h ac; intro ac wo h
 refine cb mixed [dv _, dw _ [2], dv _, dw _ [1], dv _, dv _] [⟨_, []⟩, ⟨_, []⟩, ⟨_, []⟩] h rfl (by kernel_rfl) ⟨fun _ _ => aq (fa uu38 rfl zz9 rfl rfl rfl (k' := 1)), fun _ _ => cp _ rfl rfl (aS aa9 zz9 rfl rfl rfl (v := (.string (bs a.mag))) rfl), fun _ _ => aq (fa uu38 rfl zz9 rfl rfl rfl (k' := 1)), fun _ _ => cp _ rfl rfl (aS aa9 zz9 rfl rfl rfl (v := (.string (bs b.mag))) rfl), fun _ _ => aq (ae rfl), fun _ _ => aq (ae rfl), trivial⟩ ?_
 clear h ac wo; intro ξ ac wo hφ h
 replace h : St w0 45 [(4, (ptr b3 0)), (5, (.string (bs a.mag))), (6, (.string (bs b.mag)))] [.blk b3 (cI (⟨false, 0⟩ : GI)) 38, .blk b2 (cI b) 38, .blk b1 (cI a) 38] ac wo := h.sub ⟨rfl, rfl, rfl, trivial⟩
 clear hφ ξ
 refine hK2 _ _ ?_
 refine di fun K3 hK3 => ?_
 refine eX ?_
 refine wp_loop_ghost (fun n_ a_ w_ => ∃ (x : Nat) (y : Nat), n_ = 1 * y ∧ (Nat.gcd x y = Nat.gcd a.mag b.mag) ∧ (SzB k x) ∧ (SzB k y) ∧ St w0 45 [(4, (ptr b3 0)), (5, (.string (bs x))), (6, (.string (bs y)))] [.blk b3 (cI (⟨false, 0⟩ : GI)) 38, .blk b2 (cI b) 38, .blk b1 (cI a) 38] a_ w_) _ ⟨a.mag, b.mag, rfl, rfl, za, zb, (h.pick [0, 1, 2] (by decide)).sub ⟨rfl, rfl, rfl, trivial⟩⟩ ?_
 clear h ac wo; rintro _ ac wo ⟨x, y, rfl, hg, zx, zy, h⟩
 refine gz h <| gq fun K4 hK4 => gr fun K5 hK5 => g0 (af rfl) rfl <| g0 (nJ rfl rfl (m := y) (n := 0)) rfl <| gn hK5 ?_; clear h ac wo; intro ac wo h
 refine dg h rfl (fun hc1 => ?_) (fun hc1 => ?_)
 ·
  have hy : y ≠ 0 := by simpa using hc1
  refine gz h <| gS <| gx hK4 <| gB <| gq fun K6 hK6 => gr fun K7 hK7 => g0 (af rfl) rfl <| g0 (af rfl) rfl <| gl Tryz.call193 rfl (eZ x y) rfl <| g0 (af rfl) rfl <| g0 (bR rfl rfl) rfl <| g0 (bR rfl rfl) rfl <| g0 (bR rfl rfl) rfl <| g0 (ae rfl) rfl <| g0 (ae rfl) rfl <| g0 (ae rfl) rfl <| gn hK7 <| gr fun K8 hK8 => g0 (af rfl) rfl <| gn hK8 ?_; clear h ac wo; intro ac wo h
  refine dg h rfl (fun hc2 => ?_) (fun hc2 => ?_)
  ·
   obtain ⟨ha6, hb6, hw⟩ := i5 hc2
   simp only [hw] at h
   refine di fun K9 hK9 => ?_
   refine eX ?_
   refine wp_loop_ghost (fun n_ a_ w_ => ∃ (u : Nat) (v : Nat), n_ = 1 * v ∧ (Nat.gcd u v = Nat.gcd a.mag b.mag) ∧ (SzB k u) ∧ (SzB k v) ∧ (u < 18446744073709551616 ∧ v < 18446744073709551616) ∧ St w0 45 [(4, (ptr b3 0)), (7, (.int .u64 ((u : Nat) : Int))), (8, (.int .u64 ((v : Nat) : Int)))] [.blk b3 (cI (⟨false, 0⟩ : GI)) 38, .blk b2 (cI b) 38, .blk b1 (cI a) 38] a_ w_) _ ⟨x, y, rfl, hg, zx, zy, ⟨ha6, hb6⟩, (h.pick [0, 1, 2] (by decide)).sub ⟨rfl, rfl, rfl, trivial⟩⟩ ?_
   clear h ac wo; rintro _ ac wo ⟨u, v, rfl, hgu, zu, zv, hul, h⟩
   refine gz h <| gq fun K10 hK10 => gr fun K11 hK11 => g0 (af rfl) rfl <| g0 (kJ rfl rfl) rfl <| gn hK11 ?_; clear h ac wo; intro ac wo h
   refine dg h rfl (fun hc3 => ?_) (fun hc3 => ?_)
   ·
    have hv : v ≠ 0 := by have := hc3; simp at this; omega
    refine dI ?_
    refine hK10 _ _ ?_
    refine eX ?_
    refine cb mixed [dv _, dv _, dv _, dv _, dv _, dv _] [⟨_, []⟩, ⟨_, []⟩, ⟨_, []⟩] h rfl (by kernel_rfl) ⟨fun _ _ => om rfl, fun _ _ => om rfl, fun _ _ => om rfl, fun _ _ => aq (gW rfl rfl (r := ((u % v : Nat) : Int)) (by omega) (by rw [Int.tmod_eq_emod_of_nonneg (by omega)]; rfl)), fun _ _ => aq (ae rfl), fun _ _ => aq (ae rfl), trivial⟩ ?_
    clear h ac wo; intro ξ ac wo hφ h
    replace h : St w0 45 [(4, (ptr b3 0)), (7, (.int .u64 ((v : Nat) : Int))), (8, (.int .u64 ((u % v : Nat) : Int)))] [.blk b3 (cI (⟨false, 0⟩ : GI)) 38, .blk b2 (cI b) 38, .blk b1 (cI a) 38] ac wo := h.sub ⟨rfl, rfl, rfl, trivial⟩
    clear hφ ξ
    refine nA ?_
    exact aC ⟨_, (by have := Nat.mod_lt u (show v > 0 by omega); omega), v, (u % v), rfl, (by rw [oF]; exact hgu), zv, (fC zu (Nat.mod_le _ _)), ⟨hul.2, by have := Nat.mod_lt u (show v > 0 by omega); omega⟩, (h.pick [0, 1, 2] (by decide)).sub ⟨rfl, rfl, rfl, trivial⟩⟩
   ·
    have hv : v = 0 := by have := hc3; simp at this; omega
    subst hv
    have c1 := ck false (bk u) k (by omega) zu
    have s1 := ax (c1 w0)
    refine gz h <| gE <| gx hK9 <| gr fun K12 hK12 => g0 (af rfl) rfl <| gl Tryz.call173 rfl (da u hul.1) rfl <| gl cc172 rfl c1 rfl <| gs 0 (cI (aB false (bk u))) rfl zz38 rfl rfl rfl rfl rfl rfl rfl <| gn hK12 <| gT ?_; clear h ac wo; intro ac wo h
    have hd : ay a b = (aB false (bk u)) := (by rw [Nat.gcd_zero_right] at hgu; unfold ay; rw [← hgu]; rfl)
    exact ret h rfl (.cell (v := (vI (aB false (bk u)))) rfl (i := 0) rfl aa38 zz38 rfl rfl rfl .nil) rfl (h.retP (by rw [hd] <;> rfl) (by rw [hd]; exact s1))
  ·
   have c2 := jv x y k (by omega) zx zy (by omega)
   have s2 := ax (c2 w0)
   refine gz h <| gS <| gx hK6 <| gr fun K13 hK13 => g0 (af rfl) rfl <| g0 (af rfl) rfl <| gl Tryz.call194 rfl c2 rfl <| g0 (af rfl) rfl <| g0 (bR rfl rfl) rfl <| g0 (bR rfl rfl) rfl <| g0 (ae rfl) rfl <| g0 (ae rfl) rfl <| gn hK13 <| gR <| g0 (af rfl) rfl <| g0 (af rfl) rfl <| g0 (ae rfl) rfl <| g0 (ae rfl) rfl <| gx (fun _ _ => bo) <| gN ?_; clear h ac wo; intro ac wo h
   exact aC ⟨_, (by have := Nat.mod_lt x (show y > 0 by omega); omega), y, (x % y), rfl, (by rw [oF]; exact hg), zy, (fC zx (Nat.mod_le _ _)), (h.pick [0, 1, 2] (by decide)).sub ⟨rfl, rfl, rfl, trivial⟩⟩
 ·
  have hy : y = 0 := by simpa using hc1
  subst hy
  have c3 := ck false x k (by omega) zx
  have s3 := ax (c3 w0)
  refine gz h <| gE <| gx hK3 <| gr fun K14 hK14 => g0 (af rfl) rfl <| gl cc172 rfl c3 rfl <| gs 0 (cI (aB false x)) rfl zz38 rfl rfl rfl rfl rfl rfl rfl <| gn hK14 <| gT ?_; clear h ac wo; intro ac wo h
  have hd : ay a b = (aB false x) := (by rw [Nat.gcd_zero_right] at hg; unfold ay; rw [← hg])
  exact ret h rfl (.cell (v := (vI (aB false x))) rfl (i := 0) rfl aa38 zz38 rfl rfl rfl .nil) rfl (h.retP (by rw [hd] <;> rfl) (by rw [hd]; exact s3))
def cZ (a : GI) (b : GI) : GI × GI × Int :=
 bif (decide (b.mag = 0)) then
  ((⟨false, 0⟩ : GI), (⟨false, 0⟩ : GI), 6)
 else
  bif (a.neg && (!(decide (((bn a.mag b.mag).2) = 0)))) then
   ((aB (a.neg != b.neg) (dx ((bn a.mag b.mag).1) 1)), (aB false (co b.mag ((bn a.mag b.mag).2))), 0)
  else
   ((aB (a.neg != b.neg) ((bn a.mag b.mag).1)), (aB false ((bn a.mag b.mag).2)), 0)
theorem kr (a : GI) (b : GI) (k : Nat) (hk : (k + 1) ≤ 40) (za : SzI (k + 1) a) (zb : SzI (k + 1) b) (w0 : World) : Calls Tryz.prog 212 #[(vI a), (vI b)] w0 (eE w0 (.tuple #[(vI ((cZ a b).1)), (vI ((cZ a b).2.1)), (.int .i64 ((cZ a b).2.2))]) (SzI k ((cZ a b).1) ∧ SzI k ((cZ a b).2.1))) := by
 refine enter (N := 43) (args := [(vI a), (vI b)]) Tryz.func212 rfl rfl ?_; intro ac h
 refine d8 fun K1 hK1 => ?_
 refine bx h (cI a) rfl rfl rfl fun b1 => gb (cI b) rfl rfl rfl fun b2 => ga (cI (⟨false, 0⟩ : GI)) vv38 rfl rfl fun b3 => ga (cI (⟨false, 0⟩ : GI)) vv38 rfl rfl fun b4 => g0 (ae rfl) rfl <| gn hK1 <| gq fun K2 hK2 => gr fun K3 hK3 => g0 (fa uu38 rfl zz9 rfl rfl rfl (k' := 1)) rfl <| g1 2 rfl (aS aa9 zz9 rfl rfl rfl (v := (.string (bs b.mag))) rfl) rfl <| g0 (pT rfl rfl (m := b.mag) (n := 0)) rfl <| gn hK3 ?_; clear h ac; intro ac wo h
 refine dg h rfl (fun hc1 => ?_) (fun hc1 => ?_)
 ·
  have hd1 := of_decide_eq_true hc1
  refine gz h <| gr fun K4 hK4 => g0 (bG pw rfl rfl (v := (vI (⟨false, 0⟩ : GI))) rfl) rfl <| g0 (bG pw rfl rfl (v := (vI (⟨false, 0⟩ : GI))) rfl) rfl <| gs 1 (cI (⟨false, 0⟩ : GI)) rfl zz38 rfl rfl rfl rfl rfl rfl rfl <| gs 0 (cI (⟨false, 0⟩ : GI)) rfl zz38 rfl rfl rfl rfl rfl rfl rfl <| g0 (ae rfl) rfl <| gn hK4 <| gT ?_; clear h ac wo; intro ac wo h
  have hd : cZ a b = ((⟨false, 0⟩ : GI), (⟨false, 0⟩ : GI), 6) := (cT hc1)
  exact ret h rfl (.cell (v := (vI (⟨false, 0⟩ : GI))) rfl (i := 1) rfl aa38 zz38 rfl rfl rfl (.cell (v := (vI (⟨false, 0⟩ : GI))) rfl (i := 0) rfl aa38 zz38 rfl rfl rfl (.tmp rfl .nil))) rfl (h.retP (by rw [hd] <;> rfl) (by rw [hd]; exact ⟨(cB 0 (by decide) (by omega)), (cB 0 (by decide) (by omega))⟩))
 ·
  have hd1 := of_decide_eq_false hc1
  have c1 := jv a.mag b.mag (k + 1) (by omega) za zb (by omega)
  have s1 := ax (c1 w0)
  refine gz h <| gS <| gx hK2 <| gr fun K5 hK5 => g0 (fa uu38 rfl zz9 rfl rfl rfl (k' := 1)) rfl <| g1 3 rfl (aS aa9 zz9 rfl rfl rfl (v := (.string (bs a.mag))) rfl) rfl <| g0 (fa uu38 rfl zz9 rfl rfl rfl (k' := 1)) rfl <| g1 2 rfl (aS aa9 zz9 rfl rfl rfl (v := (.string (bs b.mag))) rfl) rfl <| gl Tryz.call194 rfl c1 rfl <| g0 (af rfl) rfl <| g0 (bR rfl rfl) rfl <| g0 (bR rfl rfl) rfl <| g0 (ae rfl) rfl <| g0 (ae rfl) rfl <| gn hK5 <| gq fun K6 hK6 => gr fun K7 hK7 => g0 (fa uu38 rfl zz4 rfl rfl rfl (k' := 0)) rfl <| g1 3 rfl (aS aa4 zz4 rfl rfl rfl (v := (.bool a.neg)) rfl) rfl <| g0 (af rfl) rfl <| ge1 rfl rfl (fun hg => (Rd.of_nil (af rfl)).step) rfl <| ge1 rfl rfl (fun hg => (Rd.of_nil (nJ (an rfl hg) rfl (m := ((bn a.mag b.mag).2)) (n := 0))).step) rfl <| g0 (de rfl (fun e => (an rfl e))) rfl <| gn hK7 ?_; clear h ac wo; intro ac wo h
  refine dg h rfl (fun hc2 => ?_) (fun hc2 => ?_)
  ·
   have s2 := ax ((gm ((bn a.mag b.mag).1) 1 k (by omega) s1.1 (cB 1 (by decide) (by omega))) w0)
   have s3 := ax ((fb b.mag ((bn a.mag b.mag).2) (k + 1) (by omega) zb s1.2 (Nat.le_of_lt (Nat.mod_lt _ (by omega)))) w0)
   refine cb mixed [dv _, dv _, dv _, dw _ [2], dv _, dv _, dv _, dv _] [⟨_, []⟩, ⟨_, []⟩, ⟨_, []⟩, ⟨_, []⟩] h rfl (by kernel_rfl) ⟨fun _ _ => om rfl, fun _ _ => eg (dl Tryz.call190 rfl (gm ((bn a.mag b.mag).1) 1 k (by omega) s1.1 (cB 1 (by decide) (by omega)))), fun _ _ => aq (fa uu38 rfl zz9 rfl rfl rfl (k' := 1)), fun _ _ => cp _ rfl rfl (aS aa9 zz9 rfl rfl rfl (v := (.string (bs b.mag))) rfl), fun _ _ => om rfl, fun _ _ => eg (dl cc192 rfl (fb b.mag ((bn a.mag b.mag).2) (k + 1) (by omega) zb s1.2 (Nat.le_of_lt (Nat.mod_lt _ (by omega))))), fun _ _ => aq (ae rfl), fun _ _ => aq (ae rfl), trivial⟩ ?_
   clear h ac wo; intro ξ ac wo hφ h
   replace h : St w0 43 [(2, (ptr b1 0)), (3, (ptr b2 0)), (4, (ptr b3 0)), (5, (ptr b4 0)), (7, (.string (bs (dx ((bn a.mag b.mag).1) 1)))), (8, (.string (bs (co b.mag ((bn a.mag b.mag).2)))))] [.blk b4 (cI (⟨false, 0⟩ : GI)) 38, .blk b3 (cI (⟨false, 0⟩ : GI)) 38, .blk b2 (cI b) 38, .blk b1 (cI a) 38] ac wo := h.sub ⟨rfl, rfl, rfl, rfl, rfl, rfl, trivial⟩
   clear hφ ξ
   have c4 := ck (a.neg != b.neg) (dx ((bn a.mag b.mag).1) 1) k (by omega) s2
   have s4 := ax (c4 w0)
   have c5 := ck false (co b.mag ((bn a.mag b.mag).2)) (k + 1) (by omega) s3
   have s5 := ax (c5 w0)
   refine gz h <| gx hK6 <| gr fun K8 hK8 => g0 (fa uu38 rfl zz4 rfl rfl rfl (k' := 0)) rfl <| g1 3 rfl (aS aa4 zz4 rfl rfl rfl (v := (.bool a.neg)) rfl) rfl <| g0 (fa uu38 rfl zz4 rfl rfl rfl (k' := 0)) rfl <| g1 2 rfl (aS aa4 zz4 rfl rfl rfl (v := (.bool b.neg)) rfl) rfl <| g0 (od nn4 rfl rfl) rfl <| g0 (af rfl) rfl <| gl cc172 rfl c4 rfl <| g0 (af rfl) rfl <| gl cc172 rfl c5 rfl <| gs 1 (cI (aB (a.neg != b.neg) (dx ((bn a.mag b.mag).1) 1))) rfl zz38 rfl rfl rfl rfl rfl rfl rfl <| gs 0 (cI (aB false (co b.mag ((bn a.mag b.mag).2)))) rfl zz38 rfl rfl rfl rfl rfl rfl rfl <| g0 (ae rfl) rfl <| gn hK8 <| gT ?_; clear h ac wo; intro ac wo h
   have hd : cZ a b = ((aB (a.neg != b.neg) (dx ((bn a.mag b.mag).1) 1)), (aB false (co b.mag ((bn a.mag b.mag).2))), 0) := (Eq.trans (cF hc1) (cT hc2))
   exact ret h rfl (.cell (v := (vI (aB (a.neg != b.neg) (dx ((bn a.mag b.mag).1) 1)))) rfl (i := 1) rfl aa38 zz38 rfl rfl rfl (.cell (v := (vI (aB false (co b.mag ((bn a.mag b.mag).2))))) rfl (i := 0) rfl aa38 zz38 rfl rfl rfl (.tmp rfl .nil))) rfl (h.retP (by rw [hd] <;> rfl) (by rw [hd]; exact ⟨s4, (jB s5 (by omega))⟩))
  ·
   have c6 := ck (a.neg != b.neg) ((bn a.mag b.mag).1) (k + 1) (by omega) s1.1
   have s6 := ax (c6 w0)
   have c7 := ck false ((bn a.mag b.mag).2) (k + 1) (by omega) s1.2
   have s7 := ax (c7 w0)
   refine gz h <| gS <| gx hK6 <| gr fun K9 hK9 => g0 (fa uu38 rfl zz4 rfl rfl rfl (k' := 0)) rfl <| g1 3 rfl (aS aa4 zz4 rfl rfl rfl (v := (.bool a.neg)) rfl) rfl <| g0 (fa uu38 rfl zz4 rfl rfl rfl (k' := 0)) rfl <| g1 2 rfl (aS aa4 zz4 rfl rfl rfl (v := (.bool b.neg)) rfl) rfl <| g0 (od nn4 rfl rfl) rfl <| g0 (af rfl) rfl <| gl cc172 rfl c6 rfl <| g0 (af rfl) rfl <| gl cc172 rfl c7 rfl <| gs 1 (cI (aB (a.neg != b.neg) ((bn a.mag b.mag).1))) rfl zz38 rfl rfl rfl rfl rfl rfl rfl <| gs 0 (cI (aB false ((bn a.mag b.mag).2))) rfl zz38 rfl rfl rfl rfl rfl rfl rfl <| g0 (ae rfl) rfl <| gn hK9 <| gT ?_; clear h ac wo; intro ac wo h
   have hd : cZ a b = ((aB (a.neg != b.neg) ((bn a.mag b.mag).1)), (aB false ((bn a.mag b.mag).2)), 0) := (Eq.trans (cF hc1) (cF hc2))
   exact ret h rfl (.cell (v := (vI (aB (a.neg != b.neg) ((bn a.mag b.mag).1)))) rfl (i := 1) rfl aa38 zz38 rfl rfl rfl (.cell (v := (vI (aB false ((bn a.mag b.mag).2)))) rfl (i := 0) rfl aa38 zz38 rfl rfl rfl (.tmp rfl .nil))) rfl (h.retP (by rw [hd] <;> rfl) (by rw [hd]; exact ⟨(jB s6 (by omega)), (jB s7 (by omega))⟩))
def rational_one  : GI :=
 (cf 1)
theorem fi (k : Nat) (hk : k ≤ 40) (w0 : World) : Calls Tryz.prog 164 #[] w0 (eE w0 (vI rational_one) (SzI k rational_one)) := by
 refine enter (N := 2) (args := []) Tryz.func164 rfl rfl ?_; intro ac h
 have c1 := ij 1 k (by omega)  (by omega)
 have s1 := ax (c1 w0)
 refine d8 fun K1 hK1 => ?_
 refine al h (cI (⟨false, 0⟩ : GI)) vv38 rfl rfl fun b1 => gn hK1 <| gr fun K2 hK2 => gl Tryz.call113 rfl c1 rfl <| gs 0 (cI (cf 1)) rfl zz38 rfl rfl rfl rfl rfl rfl rfl <| gn hK2 <| gT ?_; clear h ac; intro ac wo h
 exact ret h rfl (.cell (v := (vI (cf 1))) rfl (i := 0) rfl aa38 zz38 rfl rfl rfl .nil) rfl (h.retP (by unfold rational_one; rfl) (by unfold rational_one; exact s1))
def aj (n : Int) : GQ :=
 (⟨(cf n), (⟨false, 0⟩ : GI)⟩ : GQ)
theorem bJ (n : Int) (k : Nat) (hk : k ≤ 40) (hn : -9223372036854775808 ≤ n ∧ n ≤ 9223372036854775807) (w0 : World) : Calls Tryz.prog 45 #[(.int .i64 n)] w0 (eE w0 (vQ (aj n)) (SzQ k (aj n))) := by
 refine enter (N := 6) (args := [(.int .i64 n)]) Tryz.func45 rfl rfl ?_; intro ac h
 have c1 := ij n k (by omega)  (by omega)
 have s1 := ax (c1 w0)
 refine d8 fun K1 hK1 => ?_
 refine al h (cQ oQ) vv40 rfl rfl fun b1 => gn hK1 <| gr fun K2 hK2 => g0 (af rfl) rfl <| gl Tryz.call113 rfl c1 rfl <| g0 (bG mQ rfl rfl (v := (vQ (⟨(cf n), (⟨false, 0⟩ : GI)⟩ : GQ))) rfl) rfl <| gs 0 (cQ (⟨(cf n), (⟨false, 0⟩ : GI)⟩ : GQ)) rfl zz40 rfl rfl rfl rfl rfl rfl rfl <| gn hK2 <| gT ?_; clear h ac; intro ac wo h
 exact ret h rfl (.cell (v := (vQ (⟨(cf n), (⟨false, 0⟩ : GI)⟩ : GQ))) rfl (i := 0) rfl aa40 zz40 rfl rfl rfl .nil) rfl (h.retP (by unfold aj; rfl) (by unfold aj; exact ⟨s1, (cB 0 (by decide) (by omega))⟩))
def aI (a : GQ) : GI :=
 bif (decide (a.den = (⟨false, 0⟩ : GI))) then
  rational_one
 else
  a.den
theorem cO (a : GQ) (k : Nat) (hk : k ≤ 40) (za : SzQ k a) (w0 : World) : Calls Tryz.prog 159 #[(vQ a)] w0 (eE w0 (vI (aI a)) (SzI k (aI a))) := by
 refine enter (N := 10) (args := [(vQ a)]) Tryz.func159 rfl rfl ?_; intro ac h
 refine d8 fun K1 hK1 => ?_
 refine bx h (cQ a) rfl rfl rfl fun b1 => ga (cI (⟨false, 0⟩ : GI)) vv38 rfl rfl fun b2 => gn hK1 <| gq fun K2 hK2 => gr fun K3 hK3 => g0 (fa uu40 rfl zz38 rfl rfl rfl (k' := 2)) rfl <| g1 1 rfl (aS aa38 zz38 rfl rfl rfl (v := (vI a.den)) rfl) rfl <| g0 (bG pw rfl rfl (v := (vI (⟨false, 0⟩ : GI))) rfl) rfl <| g0 (gC eqp38 rfl rfl) rfl <| gn hK3 ?_; clear h ac; intro ac wo h
 refine dg h rfl (fun hc1 => ?_) (fun hc1 => ?_)
 ·
  have hd1 := of_decide_eq_true hc1
  have c1 := fi  k (by omega) 
  have s1 := ax (c1 w0)
  refine gz h <| gr fun K4 hK4 => gl cc164 rfl c1 rfl <| gs 0 (cI rational_one) rfl zz38 rfl rfl rfl rfl rfl rfl rfl <| gn hK4 <| gT ?_; clear h ac wo; intro ac wo h
  have hd : aI a = rational_one := (cT hc1)
  exact ret h rfl (.cell (v := (vI rational_one)) rfl (i := 0) rfl aa38 zz38 rfl rfl rfl .nil) rfl (h.retP (by rw [hd] <;> rfl) (by rw [hd]; exact s1))
 ·
  have hd1 := of_decide_eq_false hc1
  refine gz h <| gS <| gx hK2 <| gr fun K5 hK5 => g0 (fa uu40 rfl zz38 rfl rfl rfl (k' := 2)) rfl <| g1 1 rfl (aS aa38 zz38 rfl rfl rfl (v := (vI a.den)) rfl) rfl <| gs 0 (cI a.den) rfl zz38 rfl rfl rfl rfl rfl rfl rfl <| gn hK5 <| gT ?_; clear h ac wo; intro ac wo h
  have hd : aI a = a.den := (cF hc1)
  exact ret h rfl (.cell (v := (vI a.den)) rfl (i := 0) rfl aa38 zz38 rfl rfl rfl .nil) rfl (h.retP (by rw [hd] <;> rfl) (by rw [hd]; exact za.2))
def ar (a : GI) (b : GI) : GI :=
 (cZ a b).1
theorem dq (a : GI) (b : GI) (k : Nat) (hk : (k + 1) ≤ 40) (za : SzI (k + 1) a) (zb : SzI (k + 1) b) (w0 : World) : Calls Tryz.prog 188 #[(vI a), (vI b)] w0 (eE w0 (vI (ar a b)) (SzI k (ar a b))) := by
 refine enter (N := 16) (args := [(vI a), (vI b)]) Tryz.func188 rfl rfl ?_; intro ac h
 have c1 := kr a b k (by omega) za zb
 have s1 := ax (c1 w0)
 refine d8 fun K1 hK1 => ?_
 refine bx h (cI a) rfl rfl rfl fun b1 => gb (cI b) rfl rfl rfl fun b2 => ga (cI (⟨false, 0⟩ : GI)) vv38 rfl rfl fun b3 => gn hK1 <| gr fun K2 hK2 => g1 2 rfl (aS aa38 zz38 rfl rfl rfl (v := (vI a)) rfl) rfl <| g1 1 rfl (aS aa38 zz38 rfl rfl rfl (v := (vI b)) rfl) rfl <| gl Tryz.call212 rfl c1 rfl <| g0 (af rfl) rfl <| g0 (bR rfl rfl) rfl <| g0 (bR rfl rfl) rfl <| g0 (bR rfl rfl) rfl <| ga (cI (⟨false, 0⟩ : GI)) vv38 rfl rfl fun b4 => ga (cI (⟨false, 0⟩ : GI)) vv38 rfl rfl fun b5 => gs 1 (cI ((cZ a b).1)) rfl zz38 rfl rfl rfl rfl rfl rfl rfl <| gs 0 (cI ((cZ a b).2.1)) rfl zz38 rfl rfl rfl rfl rfl rfl rfl <| g0 (ae rfl) rfl <| gn hK2 <| gr fun K3 hK3 => g1 1 rfl (aS aa38 zz38 rfl rfl rfl (v := (vI ((cZ a b).1))) rfl) rfl <| gs 2 (cI ((cZ a b).1)) rfl zz38 rfl rfl rfl rfl rfl rfl rfl <| gn hK3 <| gT ?_; clear h ac; intro ac wo h
 exact ret h rfl (.cell (v := (vI ((cZ a b).1))) rfl (i := 2) rfl aa38 zz38 rfl rfl rfl .nil) rfl (h.retP (by unfold ar; rfl) (by unfold ar; exact s1.1))
def bL (num : GI) (den : GI) : GQ :=
 bif (decide ((cG den) < 0)) then
  bif (decide ((ar (am den) (ay (am num) (am den))) = rational_one)) then
   (⟨(ar (am num) (ay (am num) (am den))), (⟨false, 0⟩ : GI)⟩ : GQ)
  else
   (⟨(ar (am num) (ay (am num) (am den))), (ar (am den) (ay (am num) (am den)))⟩ : GQ)
 else
  bif (decide ((ar den (ay num den)) = rational_one)) then
   (⟨(ar num (ay num den)), (⟨false, 0⟩ : GI)⟩ : GQ)
  else
   (⟨(ar num (ay num den)), (ar den (ay num den))⟩ : GQ)
theorem eH (num : GI) (den : GI) (k : Nat) (hk : (k + 1) ≤ 40) (znum : SzI (k + 1) num) (zden : SzI (k + 1) den) (w0 : World) : Calls Tryz.prog 157 #[(vI num), (vI den)] w0 (eE w0 (vQ (bL num den)) (SzQ k (bL num den))) := by
 refine enter (N := 29) (args := [(vI num), (vI den)]) Tryz.func157 rfl rfl ?_; intro ac h
 have p2 := ax ((ee den) w0)
 refine d8 fun K1 hK1 => ?_
 refine bx h (cI num) rfl rfl rfl fun b1 => gb (cI den) rfl rfl rfl fun b2 => ga (cQ oQ) vv40 rfl rfl fun b3 => gn hK1 <| gq fun K2 hK2 => gr fun K3 hK3 => g1 1 rfl (aS aa38 zz38 rfl rfl rfl (v := (vI den)) rfl) rfl <| gl cc124 rfl (ee den) rfl <| g0 (dk rfl rfl) rfl <| gn hK3 ?_; clear h ac; intro ac wo h
 refine dg h rfl (fun hc1 => ?_) (fun hc1 => ?_)
 ·
  have hd1 := of_decide_eq_true hc1
  have s3 := ax ((et num (k + 1) (by omega) znum) w0)
  have s4 := ax ((et den (k + 1) (by omega) zden) w0)
  refine cb mixed [dw _ [2], dv _, dw _ [1], dv _, dw _ [2], dw _ [1]] [⟨_, []⟩, ⟨.blk b2 (cI den) 38, [(5, .con _)]⟩, ⟨.blk b1 (cI num) 38, [(4, .con _)]⟩] h rfl (by kernel_rfl) ⟨fun _ _ => cp _ rfl rfl (aS aa38 zz38 rfl rfl rfl (v := (vI num)) rfl), fun _ _ => eg (dl cc118 rfl (et num (k + 1) (by omega) znum)), fun _ _ => cp _ rfl rfl (aS aa38 zz38 rfl rfl rfl (v := (vI den)) rfl), fun _ _ => eg (dl cc118 rfl (et den (k + 1) (by omega) zden)), fun _ _ => ff _ [.blk b1 (cI (am num)) 38] rfl rfl (fp zz38 rfl rfl rfl rfl rfl rfl rfl), fun _ _ => ff _ [.blk b2 (cI (am den)) 38] rfl rfl (fp zz38 rfl rfl rfl rfl rfl rfl rfl), trivial⟩ ?_
  clear h ac wo; intro ξ ac wo hφ h
  replace h : St w0 29 [(2, (ptr b1 0)), (3, (ptr b2 0)), (4, (ptr b3 0))] [.blk b3 (cQ oQ) 40, .blk b2 (cI (am den)) 38, .blk b1 (cI (am num)) 38] ac wo := h.sub ⟨rfl, rfl, rfl, trivial⟩
  clear hφ ξ
  have c5 := jy (am num) (am den) (k + 1) (by omega) s3 s4
  have s5 := ax (c5 w0)
  have s6 := ax ((dq (am num) (ay (am num) (am den)) k (by omega) s3 s5) w0)
  have s7 := ax ((dq (am den) (ay (am num) (am den)) k (by omega) s4 s5) w0)
  refine gz h <| gx hK2 <| gr fun K4 hK4 => g1 2 rfl (aS aa38 zz38 rfl rfl rfl (v := (vI (am num))) rfl) rfl <| g1 1 rfl (aS aa38 zz38 rfl rfl rfl (v := (vI (am den))) rfl) rfl <| gl Tryz.call165 rfl c5 rfl <| ga (cI (⟨false, 0⟩ : GI)) vv38 rfl rfl fun b4 => gs 0 (cI (ay (am num) (am den))) rfl zz38 rfl rfl rfl rfl rfl rfl rfl <| gn hK4 <| gq fun K5 hK5 => ?_; clear h ac wo; intro ac wo h
  refine cb mixed [dw _ [3], dw _ [0], dv _, dw _ [2], dw _ [0], dv _, dw _ [3], dw _ [2]] [⟨_, []⟩, ⟨_, []⟩, ⟨.blk b2 (cI (am den)) 38, [(7, .con _)]⟩, ⟨.blk b1 (cI (am num)) 38, [(6, .con _)]⟩] h rfl (by kernel_rfl) ⟨fun _ _ => cp _ rfl rfl (aS aa38 zz38 rfl rfl rfl (v := (vI (am num))) rfl), fun _ _ => cp _ rfl rfl (aS aa38 zz38 rfl rfl rfl (v := (vI (ay (am num) (am den)))) rfl), fun _ _ => eg (dl cc188 rfl (dq (am num) (ay (am num) (am den)) k (by omega) s3 s5)), fun _ _ => cp _ rfl rfl (aS aa38 zz38 rfl rfl rfl (v := (vI (am den))) rfl), fun _ _ => cp _ rfl rfl (aS aa38 zz38 rfl rfl rfl (v := (vI (ay (am num) (am den)))) rfl), fun _ _ => eg (dl cc188 rfl (dq (am den) (ay (am num) (am den)) k (by omega) s4 s5)), fun _ _ => ff _ [.blk b1 (cI (ar (am num) (ay (am num) (am den)))) 38] rfl rfl (fp zz38 rfl rfl rfl rfl rfl rfl rfl), fun _ _ => ff _ [.blk b2 (cI (ar (am den) (ay (am num) (am den)))) 38] rfl rfl (fp zz38 rfl rfl rfl rfl rfl rfl rfl), trivial⟩ ?_
  clear h ac wo; intro ξ ac wo hφ h
  replace h : St w0 29 [(2, (ptr b1 0)), (3, (ptr b2 0)), (4, (ptr b3 0))] [.blk b4 (cI (ay (am num) (am den))) 38, .blk b3 (cQ oQ) 40, .blk b2 (cI (ar (am den) (ay (am num) (am den)))) 38, .blk b1 (cI (ar (am num) (ay (am num) (am den)))) 38] ac wo := h.sub ⟨rfl, rfl, rfl, trivial⟩
  clear hφ ξ
  refine hK5 _ _ ?_
  refine di fun K6 hK6 => ?_
  refine di fun K7 hK7 => ?_
  have s8 := ax ((fi  (k + 1) (by omega) ) w0)
  refine cb mixed [dw _ [2], dv _, dv _] [⟨_, []⟩, ⟨_, []⟩, ⟨_, []⟩, ⟨_, []⟩] h rfl (by kernel_rfl) ⟨fun _ _ => cp _ rfl rfl (aS aa38 zz38 rfl rfl rfl (v := (vI (ar (am den) (ay (am num) (am den))))) rfl), fun _ _ => eg (dl cc164 rfl (fi  (k + 1) (by omega) )), fun _ _ => aq (gC eqp38 rfl rfl), trivial⟩ ?_
  clear h ac wo; intro ξ ac wo hφ h
  replace h : St w0 29 [(2, (ptr b1 0)), (3, (ptr b2 0)), (4, (ptr b3 0)), (24, (.bool (decide ((ar (am den) (ay (am num) (am den))) = rational_one))))] [.blk b4 (cI (ay (am num) (am den))) 38, .blk b3 (cQ oQ) 40, .blk b2 (cI (ar (am den) (ay (am num) (am den)))) 38, .blk b1 (cI (ar (am num) (ay (am num) (am den)))) 38] ac wo := h.sub ⟨rfl, rfl, rfl, rfl, trivial⟩
  clear hφ ξ
  refine hK7 _ _ ?_
  refine dg h rfl (fun hc2 => ?_) (fun hc2 => ?_)
  ·
   have hd2 := of_decide_eq_true hc2
   refine gz h <| gR <| g0 (bG pw rfl rfl (v := (vI (⟨false, 0⟩ : GI))) rfl) rfl <| gs 2 (cI (⟨false, 0⟩ : GI)) rfl zz38 rfl rfl rfl rfl rfl rfl rfl <| gn hK6 <| gr fun K8 hK8 => g1 3 rfl (aS aa38 zz38 rfl rfl rfl (v := (vI (ar (am num) (ay (am num) (am den))))) rfl) rfl <| g1 2 rfl (aS aa38 zz38 rfl rfl rfl (v := (vI (⟨false, 0⟩ : GI))) rfl) rfl <| g0 (bG mQ rfl rfl (v := (vQ (⟨(ar (am num) (ay (am num) (am den))), (⟨false, 0⟩ : GI)⟩ : GQ))) rfl) rfl <| gs 1 (cQ (⟨(ar (am num) (ay (am num) (am den))), (⟨false, 0⟩ : GI)⟩ : GQ)) rfl zz40 rfl rfl rfl rfl rfl rfl rfl <| gn hK8 <| gT ?_; clear h ac wo; intro ac wo h
   have hd : bL num den = (⟨(ar (am num) (ay (am num) (am den))), (⟨false, 0⟩ : GI)⟩ : GQ) := (Eq.trans (cT hc1) (cT hc2))
   exact ret h rfl (.cell (v := (vQ (⟨(ar (am num) (ay (am num) (am den))), (⟨false, 0⟩ : GI)⟩ : GQ))) rfl (i := 1) rfl aa40 zz40 rfl rfl rfl .nil) rfl (h.retP (by rw [hd] <;> rfl) (by rw [hd]; exact ⟨s6, (cB 0 (by decide) (by omega))⟩))
  ·
   have hd2 := of_decide_eq_false hc2
   refine gz h <| gS <| gx hK6 <| gr fun K9 hK9 => g1 3 rfl (aS aa38 zz38 rfl rfl rfl (v := (vI (ar (am num) (ay (am num) (am den))))) rfl) rfl <| g1 2 rfl (aS aa38 zz38 rfl rfl rfl (v := (vI (ar (am den) (ay (am num) (am den))))) rfl) rfl <| g0 (bG mQ rfl rfl (v := (vQ (⟨(ar (am num) (ay (am num) (am den))), (ar (am den) (ay (am num) (am den)))⟩ : GQ))) rfl) rfl <| gs 1 (cQ (⟨(ar (am num) (ay (am num) (am den))), (ar (am den) (ay (am num) (am den)))⟩ : GQ)) rfl zz40 rfl rfl rfl rfl rfl rfl rfl <| gn hK9 <| gT ?_; clear h ac wo; intro ac wo h
   have hd : bL num den = (⟨(ar (am num) (ay (am num) (am den))), (ar (am den) (ay (am num) (am den)))⟩ : GQ) := (Eq.trans (cT hc1) (cF hc2))
   exact ret h rfl (.cell (v := (vQ (⟨(ar (am num) (ay (am num) (am den))), (ar (am den) (ay (am num) (am den)))⟩ : GQ))) rfl (i := 1) rfl aa40 zz40 rfl rfl rfl .nil) rfl (h.retP (by rw [hd] <;> rfl) (by rw [hd]; exact ⟨s6, s7⟩))
 ·
  have hd1 := of_decide_eq_false hc1
  have c9 := jy num den (k + 1) (by omega) znum zden
  have s9 := ax (c9 w0)
  have s10 := ax ((dq num (ay num den) k (by omega) znum s9) w0)
  have s11 := ax ((dq den (ay num den) k (by omega) zden s9) w0)
  refine gz h <| gS <| gx hK2 <| gr fun K10 hK10 => g1 2 rfl (aS aa38 zz38 rfl rfl rfl (v := (vI num)) rfl) rfl <| g1 1 rfl (aS aa38 zz38 rfl rfl rfl (v := (vI den)) rfl) rfl <| gl Tryz.call165 rfl c9 rfl <| ga (cI (⟨false, 0⟩ : GI)) vv38 rfl rfl fun b5 => gs 0 (cI (ay num den)) rfl zz38 rfl rfl rfl rfl rfl rfl rfl <| gn hK10 <| gq fun K11 hK11 => ?_; clear h ac wo; intro ac wo h
  refine cb mixed [dw _ [3], dw _ [0], dv _, dw _ [2], dw _ [0], dv _, dw _ [3], dw _ [2]] [⟨_, []⟩, ⟨_, []⟩, ⟨.blk b2 (cI den) 38, [(7, .con _)]⟩, ⟨.blk b1 (cI num) 38, [(6, .con _)]⟩] h rfl (by kernel_rfl) ⟨fun _ _ => cp _ rfl rfl (aS aa38 zz38 rfl rfl rfl (v := (vI num)) rfl), fun _ _ => cp _ rfl rfl (aS aa38 zz38 rfl rfl rfl (v := (vI (ay num den))) rfl), fun _ _ => eg (dl cc188 rfl (dq num (ay num den) k (by omega) znum s9)), fun _ _ => cp _ rfl rfl (aS aa38 zz38 rfl rfl rfl (v := (vI den)) rfl), fun _ _ => cp _ rfl rfl (aS aa38 zz38 rfl rfl rfl (v := (vI (ay num den))) rfl), fun _ _ => eg (dl cc188 rfl (dq den (ay num den) k (by omega) zden s9)), fun _ _ => ff _ [.blk b1 (cI (ar num (ay num den))) 38] rfl rfl (fp zz38 rfl rfl rfl rfl rfl rfl rfl), fun _ _ => ff _ [.blk b2 (cI (ar den (ay num den))) 38] rfl rfl (fp zz38 rfl rfl rfl rfl rfl rfl rfl), trivial⟩ ?_
  clear h ac wo; intro ξ ac wo hφ h
  replace h : St w0 29 [(2, (ptr b1 0)), (3, (ptr b2 0)), (4, (ptr b3 0))] [.blk b5 (cI (ay num den)) 38, .blk b3 (cQ oQ) 40, .blk b2 (cI (ar den (ay num den))) 38, .blk b1 (cI (ar num (ay num den))) 38] ac wo := h.sub ⟨rfl, rfl, rfl, trivial⟩
  clear hφ ξ
  refine hK11 _ _ ?_
  refine di fun K12 hK12 => ?_
  refine di fun K13 hK13 => ?_
  have s12 := ax ((fi  (k + 1) (by omega) ) w0)
  refine cb mixed [dw _ [2], dv _, dv _] [⟨_, []⟩, ⟨_, []⟩, ⟨_, []⟩, ⟨_, []⟩] h rfl (by kernel_rfl) ⟨fun _ _ => cp _ rfl rfl (aS aa38 zz38 rfl rfl rfl (v := (vI (ar den (ay num den)))) rfl), fun _ _ => eg (dl cc164 rfl (fi  (k + 1) (by omega) )), fun _ _ => aq (gC eqp38 rfl rfl), trivial⟩ ?_
  clear h ac wo; intro ξ ac wo hφ h
  replace h : St w0 29 [(2, (ptr b1 0)), (3, (ptr b2 0)), (4, (ptr b3 0)), (24, (.bool (decide ((ar den (ay num den)) = rational_one))))] [.blk b5 (cI (ay num den)) 38, .blk b3 (cQ oQ) 40, .blk b2 (cI (ar den (ay num den))) 38, .blk b1 (cI (ar num (ay num den))) 38] ac wo := h.sub ⟨rfl, rfl, rfl, rfl, trivial⟩
  clear hφ ξ
  refine hK13 _ _ ?_
  refine dg h rfl (fun hc3 => ?_) (fun hc3 => ?_)
  ·
   have hd3 := of_decide_eq_true hc3
   refine gz h <| gR <| g0 (bG pw rfl rfl (v := (vI (⟨false, 0⟩ : GI))) rfl) rfl <| gs 2 (cI (⟨false, 0⟩ : GI)) rfl zz38 rfl rfl rfl rfl rfl rfl rfl <| gn hK12 <| gr fun K14 hK14 => g1 3 rfl (aS aa38 zz38 rfl rfl rfl (v := (vI (ar num (ay num den)))) rfl) rfl <| g1 2 rfl (aS aa38 zz38 rfl rfl rfl (v := (vI (⟨false, 0⟩ : GI))) rfl) rfl <| g0 (bG mQ rfl rfl (v := (vQ (⟨(ar num (ay num den)), (⟨false, 0⟩ : GI)⟩ : GQ))) rfl) rfl <| gs 1 (cQ (⟨(ar num (ay num den)), (⟨false, 0⟩ : GI)⟩ : GQ)) rfl zz40 rfl rfl rfl rfl rfl rfl rfl <| gn hK14 <| gT ?_; clear h ac wo; intro ac wo h
   have hd : bL num den = (⟨(ar num (ay num den)), (⟨false, 0⟩ : GI)⟩ : GQ) := (Eq.trans (cF hc1) (cT hc3))
   exact ret h rfl (.cell (v := (vQ (⟨(ar num (ay num den)), (⟨false, 0⟩ : GI)⟩ : GQ))) rfl (i := 1) rfl aa40 zz40 rfl rfl rfl .nil) rfl (h.retP (by rw [hd] <;> rfl) (by rw [hd]; exact ⟨s10, (cB 0 (by decide) (by omega))⟩))
  ·
   have hd3 := of_decide_eq_false hc3
   refine gz h <| gS <| gx hK12 <| gr fun K15 hK15 => g1 3 rfl (aS aa38 zz38 rfl rfl rfl (v := (vI (ar num (ay num den)))) rfl) rfl <| g1 2 rfl (aS aa38 zz38 rfl rfl rfl (v := (vI (ar den (ay num den)))) rfl) rfl <| g0 (bG mQ rfl rfl (v := (vQ (⟨(ar num (ay num den)), (ar den (ay num den))⟩ : GQ))) rfl) rfl <| gs 1 (cQ (⟨(ar num (ay num den)), (ar den (ay num den))⟩ : GQ)) rfl zz40 rfl rfl rfl rfl rfl rfl rfl <| gn hK15 <| gT ?_; clear h ac wo; intro ac wo h
   have hd : bL num den = (⟨(ar num (ay num den)), (ar den (ay num den))⟩ : GQ) := (Eq.trans (cF hc1) (cF hc3))
   exact ret h rfl (.cell (v := (vQ (⟨(ar num (ay num den)), (ar den (ay num den))⟩ : GQ))) rfl (i := 1) rfl aa40 zz40 rfl rfl rfl .nil) rfl (h.retP (by rw [hd] <;> rfl) (by rw [hd]; exact ⟨s10, s11⟩))
def aD (a : GQ) (b : GQ) : GI × GI × GI :=
 bif (decide (a.den = b.den)) then
  (a.num, b.num, (aI a))
 else
  ((bp a.num (aI b)), (bp b.num (aI a)), (bp (aI a) (aI b)))
theorem iy (a : GQ) (b : GQ) (k : Nat) (hk : (k + 1) ≤ 40) (za : SzQ (k + 1) a) (zb : SzQ (k + 1) b) (w0 : World) : Calls Tryz.prog 160 #[(vQ a), (vQ b)] w0 (eE w0 (.tuple #[(vI ((aD a b).1)), (vI ((aD a b).2.1)), (vI ((aD a b).2.2))]) (SzI k ((aD a b).1) ∧ SzI k ((aD a b).2.1) ∧ SzI k ((aD a b).2.2))) := by
 refine enter (N := 33) (args := [(vQ a), (vQ b)]) Tryz.func160 rfl rfl ?_; intro ac h
 refine d8 fun K1 hK1 => ?_
 refine bx h (cQ a) rfl rfl rfl fun b1 => gb (cQ b) rfl rfl rfl fun b2 => ga (cI (⟨false, 0⟩ : GI)) vv38 rfl rfl fun b3 => ga (cI (⟨false, 0⟩ : GI)) vv38 rfl rfl fun b4 => ga (cI (⟨false, 0⟩ : GI)) vv38 rfl rfl fun b5 => gn hK1 <| gq fun K2 hK2 => gr fun K3 hK3 => g0 (fa uu40 rfl zz38 rfl rfl rfl (k' := 2)) rfl <| g1 4 rfl (aS aa38 zz38 rfl rfl rfl (v := (vI a.den)) rfl) rfl <| g0 (fa uu40 rfl zz38 rfl rfl rfl (k' := 2)) rfl <| g1 3 rfl (aS aa38 zz38 rfl rfl rfl (v := (vI b.den)) rfl) rfl <| g0 (gC eqp38 rfl rfl) rfl <| gn hK3 ?_; clear h ac; intro ac wo h
 refine dg h rfl (fun hc1 => ?_) (fun hc1 => ?_)
 ·
  have hd1 := of_decide_eq_true hc1
  refine di fun K4 hK4 => ?_
  have s1 := ax ((cO a (k + 1) (by omega) za) w0)
  refine cb mixed [dv _, dw _ [4], dv _, dw _ [3], dw _ [4], dv _, dw _ [2], dw _ [1], dw _ [0]] [⟨.blk b5 (cI (⟨false, 0⟩ : GI)) 38, [(8, .con _)]⟩, ⟨.blk b4 (cI (⟨false, 0⟩ : GI)) 38, [(7, .con _)]⟩, ⟨.blk b3 (cI (⟨false, 0⟩ : GI)) 38, [(6, .con _)]⟩, ⟨_, []⟩, ⟨_, []⟩] h rfl (by kernel_rfl) ⟨fun _ _ => aq (fa uu40 rfl zz38 rfl rfl rfl (k' := 0)), fun _ _ => cp _ rfl rfl (aS aa38 zz38 rfl rfl rfl (v := (vI a.num)) rfl), fun _ _ => aq (fa uu40 rfl zz38 rfl rfl rfl (k' := 0)), fun _ _ => cp _ rfl rfl (aS aa38 zz38 rfl rfl rfl (v := (vI b.num)) rfl), fun _ _ => cp _ rfl rfl (aS aa40 zz40 rfl rfl rfl (v := (vQ a)) rfl), fun _ _ => eg (dl cc159 rfl (cO a (k + 1) (by omega) za)), fun _ _ => ff _ [.blk b3 (cI a.num) 38] rfl rfl (fp zz38 rfl rfl rfl rfl rfl rfl rfl), fun _ _ => ff _ [.blk b4 (cI b.num) 38] rfl rfl (fp zz38 rfl rfl rfl rfl rfl rfl rfl), fun _ _ => ff _ [.blk b5 (cI (aI a)) 38] rfl rfl (fp zz38 rfl rfl rfl rfl rfl rfl rfl), trivial⟩ ?_
  clear h ac wo; intro ξ ac wo hφ h
  replace h : St w0 33 [(4, (ptr b3 0)), (5, (ptr b4 0)), (6, (ptr b5 0))] [.blk b5 (cI (aI a)) 38, .blk b4 (cI b.num) 38, .blk b3 (cI a.num) 38, .blk b2 (cQ b) 40, .blk b1 (cQ a) 40] ac wo := h.sub ⟨rfl, rfl, rfl, trivial⟩
  clear hφ ξ
  refine hK4 _ _ ?_
  refine e7 ?_
  have hd : aD a b = (a.num, b.num, (aI a)) := (cT hc1)
  exact ret h rfl (.cell (v := (vI a.num)) rfl (i := 2) rfl aa38 zz38 rfl rfl rfl (.cell (v := (vI b.num)) rfl (i := 1) rfl aa38 zz38 rfl rfl rfl (.cell (v := (vI (aI a))) rfl (i := 0) rfl aa38 zz38 rfl rfl rfl .nil))) rfl (h.retP (by rw [hd] <;> rfl) (by rw [hd]; exact ⟨(e8 za (by omega)).1, (e8 zb (by omega)).1, (jB s1 (by omega))⟩))
 ·
  have hd1 := of_decide_eq_false hc1
  refine dI ?_
  refine hK2 _ _ ?_
  refine di fun K5 hK5 => ?_
  have s2 := ax ((cO b (k + 1) (by omega) zb) w0)
  have s3 := ax ((dU a.num (aI b) k (by omega) za.1 s2) w0)
  have s4 := ax ((cO a (k + 1) (by omega) za) w0)
  have s5 := ax ((dU b.num (aI a) k (by omega) zb.1 s4) w0)
  have s6 := ax ((cO a (k + 1) (by omega) za) w0)
  have s7 := ax ((cO b (k + 1) (by omega) zb) w0)
  have s8 := ax ((dU (aI a) (aI b) k (by omega) s6 s7) w0)
  refine cb mixed [dv _, dw _ [4], dw _ [3], dv _, dv _, dv _, dw _ [3], dw _ [4], dv _, dv _, dw _ [4], dv _, dw _ [3], dv _, dv _, dw _ [2], dw _ [1], dw _ [0]] [⟨.blk b5 (cI (⟨false, 0⟩ : GI)) 38, [(17, .con _)]⟩, ⟨.blk b4 (cI (⟨false, 0⟩ : GI)) 38, [(16, .con _)]⟩, ⟨.blk b3 (cI (⟨false, 0⟩ : GI)) 38, [(15, .con _)]⟩, ⟨_, []⟩, ⟨_, []⟩] h rfl (by kernel_rfl) ⟨fun _ _ => aq (fa uu40 rfl zz38 rfl rfl rfl (k' := 0)), fun _ _ => cp _ rfl rfl (aS aa38 zz38 rfl rfl rfl (v := (vI a.num)) rfl), fun _ _ => cp _ rfl rfl (aS aa40 zz40 rfl rfl rfl (v := (vQ b)) rfl), fun _ _ => eg (dl cc159 rfl (cO b (k + 1) (by omega) zb)), fun _ _ => eg (dl cc158 rfl (dU a.num (aI b) k (by omega) za.1 s2)), fun _ _ => aq (fa uu40 rfl zz38 rfl rfl rfl (k' := 0)), fun _ _ => cp _ rfl rfl (aS aa38 zz38 rfl rfl rfl (v := (vI b.num)) rfl), fun _ _ => cp _ rfl rfl (aS aa40 zz40 rfl rfl rfl (v := (vQ a)) rfl), fun _ _ => eg (dl cc159 rfl (cO a (k + 1) (by omega) za)), fun _ _ => eg (dl cc158 rfl (dU b.num (aI a) k (by omega) zb.1 s4)), fun _ _ => cp _ rfl rfl (aS aa40 zz40 rfl rfl rfl (v := (vQ a)) rfl), fun _ _ => eg (dl cc159 rfl (cO a (k + 1) (by omega) za)), fun _ _ => cp _ rfl rfl (aS aa40 zz40 rfl rfl rfl (v := (vQ b)) rfl), fun _ _ => eg (dl cc159 rfl (cO b (k + 1) (by omega) zb)), fun _ _ => eg (dl cc158 rfl (dU (aI a) (aI b) k (by omega) s6 s7)), fun _ _ => ff _ [.blk b3 (cI (bp a.num (aI b))) 38] rfl rfl (fp zz38 rfl rfl rfl rfl rfl rfl rfl), fun _ _ => ff _ [.blk b4 (cI (bp b.num (aI a))) 38] rfl rfl (fp zz38 rfl rfl rfl rfl rfl rfl rfl), fun _ _ => ff _ [.blk b5 (cI (bp (aI a) (aI b))) 38] rfl rfl (fp zz38 rfl rfl rfl rfl rfl rfl rfl), trivial⟩ ?_
  clear h ac wo; intro ξ ac wo hφ h
  replace h : St w0 33 [(4, (ptr b3 0)), (5, (ptr b4 0)), (6, (ptr b5 0))] [.blk b5 (cI (bp (aI a) (aI b))) 38, .blk b4 (cI (bp b.num (aI a))) 38, .blk b3 (cI (bp a.num (aI b))) 38, .blk b2 (cQ b) 40, .blk b1 (cQ a) 40] ac wo := h.sub ⟨rfl, rfl, rfl, trivial⟩
  clear hφ ξ
  refine hK5 _ _ ?_
  refine e7 ?_
  have hd : aD a b = ((bp a.num (aI b)), (bp b.num (aI a)), (bp (aI a) (aI b))) := (cF hc1)
  exact ret h rfl (.cell (v := (vI (bp a.num (aI b)))) rfl (i := 2) rfl aa38 zz38 rfl rfl rfl (.cell (v := (vI (bp b.num (aI a)))) rfl (i := 1) rfl aa38 zz38 rfl rfl rfl (.cell (v := (vI (bp (aI a) (aI b)))) rfl (i := 0) rfl aa38 zz38 rfl rfl rfl .nil))) rfl (h.retP (by rw [hd] <;> rfl) (by rw [hd]; exact ⟨s3, s5, s8⟩))
def aM (a : GQ) (b : GQ) : GQ :=
 (bL (dL ((aD a b).1) ((aD a b).2.1)) ((aD a b).2.2))
theorem cP (a : GQ) (b : GQ) (k : Nat) (hk : (k + 3) ≤ 40) (za : SzQ (k + 3) a) (zb : SzQ (k + 3) b) (w0 : World) : Calls Tryz.prog 102 #[(vQ a), (vQ b)] w0 (eE w0 (vQ (aM a b)) (SzQ k (aM a b))) := by
 refine enter (N := 20) (args := [(vQ a), (vQ b)]) Tryz.func102 rfl rfl ?_; intro ac h
 have c1 := iy a b (k + 2) (by omega) za zb
 have s1 := ax (c1 w0)
 have s2 := ax ((jz ((aD a b).1) ((aD a b).2.1) (k + 1) (by omega) s1.1 s1.2.1) w0)
 have s3 := ax ((eH (dL ((aD a b).1) ((aD a b).2.1)) ((aD a b).2.2) k (by omega) s2 (jB s1.2.2 (by omega))) w0)
 refine d8 fun K1 hK1 => ?_
 refine bx h (cQ a) rfl rfl rfl fun b1 => gb (cQ b) rfl rfl rfl fun b2 => ga (cQ oQ) vv40 rfl rfl fun b3 => gn hK1 <| gr fun K2 hK2 => g1 2 rfl (aS aa40 zz40 rfl rfl rfl (v := (vQ a)) rfl) rfl <| g1 1 rfl (aS aa40 zz40 rfl rfl rfl (v := (vQ b)) rfl) rfl <| gl Tryz.call160 rfl c1 rfl <| g0 (af rfl) rfl <| g0 (bR rfl rfl) rfl <| g0 (bR rfl rfl) rfl <| g0 (bR rfl rfl) rfl <| ga (cI (⟨false, 0⟩ : GI)) vv38 rfl rfl fun b4 => ga (cI (⟨false, 0⟩ : GI)) vv38 rfl rfl fun b5 => ga (cI (⟨false, 0⟩ : GI)) vv38 rfl rfl fun b6 => gs 2 (cI ((aD a b).1)) rfl zz38 rfl rfl rfl rfl rfl rfl rfl <| gs 1 (cI ((aD a b).2.1)) rfl zz38 rfl rfl rfl rfl rfl rfl rfl <| gs 0 (cI ((aD a b).2.2)) rfl zz38 rfl rfl rfl rfl rfl rfl rfl <| gn hK2 <| gq fun K3 hK3 => ?_; clear h ac; intro ac wo h
 refine cb mixed [dw _ [2], dw _ [1], dv _, dw _ [0], dv _, dw _ [3]] [⟨_, []⟩, ⟨_, []⟩, ⟨_, []⟩, ⟨.blk b3 (cQ oQ) 40, [(5, .con _)]⟩, ⟨_, []⟩, ⟨_, []⟩] h rfl (by kernel_rfl) ⟨fun _ _ => cp _ rfl rfl (aS aa38 zz38 rfl rfl rfl (v := (vI ((aD a b).1))) rfl), fun _ _ => cp _ rfl rfl (aS aa38 zz38 rfl rfl rfl (v := (vI ((aD a b).2.1))) rfl), fun _ _ => eg (dl Tryz.call161 rfl (jz ((aD a b).1) ((aD a b).2.1) (k + 1) (by omega) s1.1 s1.2.1)), fun _ _ => cp _ rfl rfl (aS aa38 zz38 rfl rfl rfl (v := (vI ((aD a b).2.2))) rfl), fun _ _ => eg (dl Tryz.call157 rfl (eH (dL ((aD a b).1) ((aD a b).2.1)) ((aD a b).2.2) k (by omega) s2 (jB s1.2.2 (by omega)))), fun _ _ => ff _ [.blk b3 (cQ (bL (dL ((aD a b).1) ((aD a b).2.1)) ((aD a b).2.2))) 40] rfl rfl (fp zz40 rfl rfl rfl rfl rfl rfl rfl), trivial⟩ ?_
 clear h ac wo; intro ξ ac wo hφ h
 replace h : St w0 20 [(4, (ptr b3 0))] [.blk b6 (cI ((aD a b).2.2)) 38, .blk b5 (cI ((aD a b).2.1)) 38, .blk b4 (cI ((aD a b).1)) 38, .blk b3 (cQ (bL (dL ((aD a b).1) ((aD a b).2.1)) ((aD a b).2.2))) 40, .blk b2 (cQ b) 40, .blk b1 (cQ a) 40] ac wo := h.sub ⟨rfl, trivial⟩
 clear hφ ξ
 refine hK3 _ _ ?_
 refine e7 ?_
 exact ret h rfl (.cell (v := (vQ (bL (dL ((aD a b).1) ((aD a b).2.1)) ((aD a b).2.2)))) rfl (i := 3) rfl aa40 zz40 rfl rfl rfl .nil) rfl (h.retP (by unfold aM; rfl) (by unfold aM; exact s3))
def bM (a : GQ) : GQ :=
 (⟨(am a.num), a.den⟩ : GQ)
theorem fP (a : GQ) (k : Nat) (hk : k ≤ 40) (za : SzQ k a) (w0 : World) : Calls Tryz.prog 52 #[(vQ a)] w0 (eE w0 (vQ (bM a)) (SzQ k (bM a))) := by
 refine enter (N := 9) (args := [(vQ a)]) Tryz.func52 rfl rfl ?_; intro ac h
 have s1 := ax ((et a.num k (by omega) za.1) w0)
 refine d8 fun K1 hK1 => ?_
 refine bx h (cQ a) rfl rfl rfl fun b1 => ga (cQ oQ) vv40 rfl rfl fun b2 => gn hK1 <| gq fun K2 hK2 => ?_; clear h ac; intro ac wo h
 refine cb mixed [dv _, dw _ [1], dv _, dv _, dw _ [1], dv _, dw _ [0]] [⟨.blk b2 (cQ oQ) 40, [(6, .con _)]⟩, ⟨_, []⟩] h rfl (by kernel_rfl) ⟨fun _ _ => aq (fa uu40 rfl zz38 rfl rfl rfl (k' := 0)), fun _ _ => cp _ rfl rfl (aS aa38 zz38 rfl rfl rfl (v := (vI a.num)) rfl), fun _ _ => eg (dl cc118 rfl (et a.num k (by omega) za.1)), fun _ _ => aq (fa uu40 rfl zz38 rfl rfl rfl (k' := 2)), fun _ _ => cp _ rfl rfl (aS aa38 zz38 rfl rfl rfl (v := (vI a.den)) rfl), fun _ _ => aq (bG mQ rfl rfl (v := (vQ (⟨(am a.num), a.den⟩ : GQ))) rfl), fun _ _ => ff _ [.blk b2 (cQ (⟨(am a.num), a.den⟩ : GQ)) 40] rfl rfl (fp zz40 rfl rfl rfl rfl rfl rfl rfl), trivial⟩ ?_
 clear h ac wo; intro ξ ac wo hφ h
 replace h : St w0 9 [(2, (ptr b2 0))] [.blk b2 (cQ (⟨(am a.num), a.den⟩ : GQ)) 40, .blk b1 (cQ a) 40] ac wo := h.sub ⟨rfl, trivial⟩
 clear hφ ξ
 refine hK2 _ _ ?_
 refine e7 ?_
 exact ret h rfl (.cell (v := (vQ (⟨(am a.num), a.den⟩ : GQ))) rfl (i := 0) rfl aa40 zz40 rfl rfl rfl .nil) rfl (h.retP (by unfold bM; rfl) (by unfold bM; exact ⟨s1, za.2⟩))
def ap (a : GQ) (b : GQ) : GQ :=
 (aM a (bM b))
theorem dm (a : GQ) (b : GQ) (k : Nat) (hk : (k + 3) ≤ 40) (za : SzQ (k + 3) a) (zb : SzQ (k + 3) b) (w0 : World) : Calls Tryz.prog 100 #[(vQ a), (vQ b)] w0 (eE w0 (vQ (ap a b)) (SzQ k (ap a b))) := by
 refine enter (N := 9) (args := [(vQ a), (vQ b)]) Tryz.func100 rfl rfl ?_; intro ac h
 have s1 := ax ((fP b (k + 3) (by omega) zb) w0)
 have s2 := ax ((cP a (bM b) k (by omega) za s1) w0)
 refine d8 fun K1 hK1 => ?_
 refine bx h (cQ a) rfl rfl rfl fun b1 => gb (cQ b) rfl rfl rfl fun b2 => ga (cQ oQ) vv40 rfl rfl fun b3 => gn hK1 <| gq fun K2 hK2 => ?_; clear h ac; intro ac wo h
 refine cb mixed [dw _ [2], dw _ [1], dv _, dv _, dw _ [0]] [⟨.blk b3 (cQ oQ) 40, [(4, .con _)]⟩, ⟨_, []⟩, ⟨_, []⟩] h rfl (by kernel_rfl) ⟨fun _ _ => cp _ rfl rfl (aS aa40 zz40 rfl rfl rfl (v := (vQ a)) rfl), fun _ _ => cp _ rfl rfl (aS aa40 zz40 rfl rfl rfl (v := (vQ b)) rfl), fun _ _ => eg (dl Tryz.call52 rfl (fP b (k + 3) (by omega) zb)), fun _ _ => eg (dl cc102 rfl (cP a (bM b) k (by omega) za s1)), fun _ _ => ff _ [.blk b3 (cQ (aM a (bM b))) 40] rfl rfl (fp zz40 rfl rfl rfl rfl rfl rfl rfl), trivial⟩ ?_
 clear h ac wo; intro ξ ac wo hφ h
 replace h : St w0 9 [(4, (ptr b3 0))] [.blk b3 (cQ (aM a (bM b))) 40, .blk b2 (cQ b) 40, .blk b1 (cQ a) 40] ac wo := h.sub ⟨rfl, trivial⟩
 clear hφ ξ
 refine hK2 _ _ ?_
 refine e7 ?_
 exact ret h rfl (.cell (v := (vQ (aM a (bM b)))) rfl (i := 0) rfl aa40 zz40 rfl rfl rfl .nil) rfl (h.retP (by unfold ap; rfl) (by unfold ap; exact s2))
def au (a : GQ) (b : GQ) : GQ :=
 (bL (bp a.num b.num) (bp (aI a) (aI b)))
theorem bH (a : GQ) (b : GQ) (k : Nat) (hk : (k + 2) ≤ 40) (za : SzQ (k + 2) a) (zb : SzQ (k + 2) b) (w0 : World) : Calls Tryz.prog 101 #[(vQ a), (vQ b)] w0 (eE w0 (vQ (au a b)) (SzQ k (au a b))) := by
 refine enter (N := 16) (args := [(vQ a), (vQ b)]) Tryz.func101 rfl rfl ?_; intro ac h
 have s1 := ax ((dU a.num b.num (k + 1) (by omega) za.1 zb.1) w0)
 have s2 := ax ((cO a (k + 2) (by omega) za) w0)
 have s3 := ax ((cO b (k + 2) (by omega) zb) w0)
 have s4 := ax ((dU (aI a) (aI b) (k + 1) (by omega) s2 s3) w0)
 have s5 := ax ((eH (bp a.num b.num) (bp (aI a) (aI b)) k (by omega) s1 s4) w0)
 refine d8 fun K1 hK1 => ?_
 refine bx h (cQ a) rfl rfl rfl fun b1 => gb (cQ b) rfl rfl rfl fun b2 => ga (cQ oQ) vv40 rfl rfl fun b3 => gn hK1 <| gq fun K2 hK2 => ?_; clear h ac; intro ac wo h
 refine cb mixed [dv _, dw _ [2], dv _, dw _ [1], dv _, dw _ [2], dv _, dw _ [1], dv _, dv _, dv _, dw _ [0]] [⟨.blk b3 (cQ oQ) 40, [(11, .con _)]⟩, ⟨_, []⟩, ⟨_, []⟩] h rfl (by kernel_rfl) ⟨fun _ _ => aq (fa uu40 rfl zz38 rfl rfl rfl (k' := 0)), fun _ _ => cp _ rfl rfl (aS aa38 zz38 rfl rfl rfl (v := (vI a.num)) rfl), fun _ _ => aq (fa uu40 rfl zz38 rfl rfl rfl (k' := 0)), fun _ _ => cp _ rfl rfl (aS aa38 zz38 rfl rfl rfl (v := (vI b.num)) rfl), fun _ _ => eg (dl cc158 rfl (dU a.num b.num (k + 1) (by omega) za.1 zb.1)), fun _ _ => cp _ rfl rfl (aS aa40 zz40 rfl rfl rfl (v := (vQ a)) rfl), fun _ _ => eg (dl cc159 rfl (cO a (k + 2) (by omega) za)), fun _ _ => cp _ rfl rfl (aS aa40 zz40 rfl rfl rfl (v := (vQ b)) rfl), fun _ _ => eg (dl cc159 rfl (cO b (k + 2) (by omega) zb)), fun _ _ => eg (dl cc158 rfl (dU (aI a) (aI b) (k + 1) (by omega) s2 s3)), fun _ _ => eg (dl Tryz.call157 rfl (eH (bp a.num b.num) (bp (aI a) (aI b)) k (by omega) s1 s4)), fun _ _ => ff _ [.blk b3 (cQ (bL (bp a.num b.num) (bp (aI a) (aI b)))) 40] rfl rfl (fp zz40 rfl rfl rfl rfl rfl rfl rfl), trivial⟩ ?_
 clear h ac wo; intro ξ ac wo hφ h
 replace h : St w0 16 [(4, (ptr b3 0))] [.blk b3 (cQ (bL (bp a.num b.num) (bp (aI a) (aI b)))) 40, .blk b2 (cQ b) 40, .blk b1 (cQ a) 40] ac wo := h.sub ⟨rfl, trivial⟩
 clear hφ ξ
 refine hK2 _ _ ?_
 refine e7 ?_
 exact ret h rfl (.cell (v := (vQ (bL (bp a.num b.num) (bp (aI a) (aI b))))) rfl (i := 0) rfl aa40 zz40 rfl rfl rfl .nil) rfl (h.retP (by unfold au; rfl) (by unfold au; exact s5))
def az (a : GQ) : Int :=
 (cG a.num)
theorem db (a : GQ) (w0 : World) : Calls Tryz.prog 58 #[(vQ a)] w0 (eE w0 (.int .i64 (az a)) ((-1 ≤ (az a) ∧ (az a) ≤ 1))) := by
 refine enter (N := 6) (args := [(vQ a)]) Tryz.func58 rfl rfl ?_; intro ac h
 have p2 := ax ((ee a.num) w0)
 refine d8 fun K1 hK1 => ?_
 refine bx h (cQ a) rfl rfl rfl fun b1 => g0 (ae rfl) rfl <| gn hK1 <| gr fun K2 hK2 => g0 (fa uu40 rfl zz38 rfl rfl rfl (k' := 0)) rfl <| g1 0 rfl (aS aa38 zz38 rfl rfl rfl (v := (vI a.num)) rfl) rfl <| gl cc124 rfl (ee a.num) rfl <| g0 (ae rfl) rfl <| gn hK2 <| gT ?_; clear h ac; intro ac wo h
 exact ret h rfl (.tmp rfl .nil) rfl (h.retP (by unfold az; rfl) (by unfold az; exact by first | omega | exact eB (by omega) (by omega)))
def dJ (a : GQ) (b : GQ) : Int :=
 bif (decide (a = b)) then
  0
 else
  (ef ((aD a b).1) ((aD a b).2.1))
theorem g5 (a : GQ) (b : GQ) (k : Nat) (hk : (k + 1) ≤ 40) (za : SzQ (k + 1) a) (zb : SzQ (k + 1) b) (w0 : World) : Calls Tryz.prog 198 #[(vQ a), (vQ b)] w0 (eE w0 (.int .i64 (dJ a b)) ((-1 ≤ (dJ a b) ∧ (dJ a b) ≤ 1))) := by
 refine enter (N := 21) (args := [(vQ a), (vQ b)]) Tryz.func198 rfl rfl ?_; intro ac h
 refine d8 fun K1 hK1 => ?_
 refine bx h (cQ a) rfl rfl rfl fun b1 => gb (cQ b) rfl rfl rfl fun b2 => g0 (ae rfl) rfl <| gn hK1 <| gq fun K2 hK2 => gr fun K3 hK3 => g1 1 rfl (aS aa40 zz40 rfl rfl rfl (v := (vQ a)) rfl) rfl <| g1 0 rfl (aS aa40 zz40 rfl rfl rfl (v := (vQ b)) rfl) rfl <| g0 (gC eqp40 rfl rfl) rfl <| gn hK3 ?_; clear h ac; intro ac wo h
 refine dg h rfl (fun hc1 => ?_) (fun hc1 => ?_)
 ·
  have hd1 := of_decide_eq_true hc1
  refine gz h <| gr fun K4 hK4 => g0 (ae rfl) rfl <| gn hK4 <| gT ?_; clear h ac wo; intro ac wo h
  have hd : dJ a b = 0 := (cT hc1)
  exact ret h rfl (.tmp rfl .nil) rfl (h.retP (by rw [hd] <;> rfl) (by rw [hd]; exact by first | omega | exact eB (by omega) (by omega)))
 ·
  have hd1 := of_decide_eq_false hc1
  have c1 := iy a b k (by omega) za zb
  have s1 := ax (c1 w0)
  have p3 := ax ((ik ((aD a b).1) ((aD a b).2.1) k (by omega) s1.1 s1.2.1) w0)
  refine gz h <| gS <| gx hK2 <| gr fun K5 hK5 => g1 1 rfl (aS aa40 zz40 rfl rfl rfl (v := (vQ a)) rfl) rfl <| g1 0 rfl (aS aa40 zz40 rfl rfl rfl (v := (vQ b)) rfl) rfl <| gl Tryz.call160 rfl c1 rfl <| g0 (af rfl) rfl <| g0 (bR rfl rfl) rfl <| g0 (bR rfl rfl) rfl <| g0 (bR rfl rfl) rfl <| ga (cI (⟨false, 0⟩ : GI)) vv38 rfl rfl fun b3 => ga (cI (⟨false, 0⟩ : GI)) vv38 rfl rfl fun b4 => ga (cI (⟨false, 0⟩ : GI)) vv38 rfl rfl fun b5 => gs 2 (cI ((aD a b).1)) rfl zz38 rfl rfl rfl rfl rfl rfl rfl <| gs 1 (cI ((aD a b).2.1)) rfl zz38 rfl rfl rfl rfl rfl rfl rfl <| gs 0 (cI ((aD a b).2.2)) rfl zz38 rfl rfl rfl rfl rfl rfl rfl <| gn hK5 <| gr fun K6 hK6 => g1 2 rfl (aS aa38 zz38 rfl rfl rfl (v := (vI ((aD a b).1))) rfl) rfl <| g1 1 rfl (aS aa38 zz38 rfl rfl rfl (v := (vI ((aD a b).2.1))) rfl) rfl <| gl Tryz.call163 rfl (ik ((aD a b).1) ((aD a b).2.1) k (by omega) s1.1 s1.2.1) rfl <| g0 (ae rfl) rfl <| gn hK6 <| gT ?_; clear h ac wo; intro ac wo h
  have hd : dJ a b = (ef ((aD a b).1) ((aD a b).2.1)) := (cF hc1)
  exact ret h rfl (.tmp rfl .nil) rfl (h.retP (by rw [hd] <;> rfl) (by rw [hd]; exact by first | omega | exact eB (by omega) (by omega)))
def aE (c0 : GQ) (c1 : GQ) : Qd :=
 (⟨c0, c1, (⟨(⟨false, 0⟩ : GI), (⟨false, 0⟩ : GI)⟩ : GQ)⟩ : Qd)
theorem eT (c0 : GQ) (c1 : GQ) (k : Nat) (hk : k ≤ 40) (zc0 : SzQ k c0) (zc1 : SzQ k c1) (w0 : World) : Calls Tryz.prog 31 #[(vQ c0), (vQ c1)] w0 (eE w0 (vD (aE c0 c1)) (SzD k (aE c0 c1))) := by
 refine enter (N := 8) (args := [(vQ c0), (vQ c1)]) Tryz.func31 rfl rfl ?_; intro ac h
 refine d8 fun K1 hK1 => ?_
 refine bx h (cQ c0) rfl rfl rfl fun b1 => gb (cQ c1) rfl rfl rfl fun b2 => ga (cD oD) vv69 rfl rfl fun b3 => gn hK1 <| gr fun K2 hK2 => g1 2 rfl (aS aa40 zz40 rfl rfl rfl (v := (vQ c0)) rfl) rfl <| g1 1 rfl (aS aa40 zz40 rfl rfl rfl (v := (vQ c1)) rfl) rfl <| g0 (bG qS rfl rfl (v := (vD (⟨c0, c1, oQ⟩ : Qd))) rfl) rfl <| gs 0 (cD (⟨c0, c1, oQ⟩ : Qd)) rfl zz69 rfl rfl rfl rfl rfl rfl rfl <| gn hK2 <| gT ?_; clear h ac; intro ac wo h
 exact ret h rfl (.cell (v := (vD (⟨c0, c1, oQ⟩ : Qd))) rfl (i := 0) rfl aa69 zz69 rfl rfl rfl .nil) rfl (h.retP (by unfold aE; rfl) (by unfold aE; exact ⟨zc0, zc1, ⟨(cB 0 (by decide) (by omega)), (cB 0 (by decide) (by omega))⟩⟩))
def aA (c : GQ) : Qd :=
 (⟨c, (⟨(⟨false, 0⟩ : GI), (⟨false, 0⟩ : GI)⟩ : GQ), (⟨(⟨false, 0⟩ : GI), (⟨false, 0⟩ : GI)⟩ : GQ)⟩ : Qd)
theorem fj (c : GQ) (k : Nat) (hk : k ≤ 40) (zc : SzQ k c) (w0 : World) : Calls Tryz.prog 79 #[(vQ c)] w0 (eE w0 (vD (aA c)) (SzD k (aA c))) := by
 refine enter (N := 5) (args := [(vQ c)]) Tryz.func79 rfl rfl ?_; intro ac h
 refine d8 fun K1 hK1 => ?_
 refine bx h (cQ c) rfl rfl rfl fun b1 => ga (cD oD) vv69 rfl rfl fun b2 => gn hK1 <| gr fun K2 hK2 => g1 1 rfl (aS aa40 zz40 rfl rfl rfl (v := (vQ c)) rfl) rfl <| g0 (bG qS rfl rfl (v := (vD (⟨c, oQ, oQ⟩ : Qd))) rfl) rfl <| gs 0 (cD (⟨c, oQ, oQ⟩ : Qd)) rfl zz69 rfl rfl rfl rfl rfl rfl rfl <| gn hK2 <| gT ?_; clear h ac; intro ac wo h
 exact ret h rfl (.cell (v := (vD (⟨c, oQ, oQ⟩ : Qd))) rfl (i := 0) rfl aa69 zz69 rfl rfl rfl .nil) rfl (h.retP (by unfold aA; rfl) (by unfold aA; exact ⟨zc, ⟨(cB 0 (by decide) (by omega)), (cB 0 (by decide) (by omega))⟩, ⟨(cB 0 (by decide) (by omega)), (cB 0 (by decide) (by omega))⟩⟩))
def dy (p : Qd) (q : Qd) : Qd :=
 (⟨(ap p.c0 q.c0), (ap p.c1 q.c1), (ap p.c2 q.c2)⟩ : Qd)
theorem iV (p : Qd) (q : Qd) (k : Nat) (hk : (k + 3) ≤ 40) (zp : SzD (k + 3) p) (zq : SzD (k + 3) q) (w0 : World) : Calls Tryz.prog 96 #[(vD p), (vD q)] w0 (eE w0 (vD (dy p q)) (SzD k (dy p q))) := by
 refine enter (N := 21) (args := [(vD p), (vD q)]) Tryz.func96 rfl rfl ?_; intro ac h
 have s1 := ax ((dm p.c0 q.c0 k (by omega) zp.1 zq.1) w0)
 have s2 := ax ((dm p.c1 q.c1 k (by omega) zp.2.1 zq.2.1) w0)
 have s3 := ax ((dm p.c2 q.c2 k (by omega) zp.2.2 zq.2.2) w0)
 refine d8 fun K1 hK1 => ?_
 refine bx h (cD p) rfl rfl rfl fun b1 => gb (cD q) rfl rfl rfl fun b2 => ga (cD oD) vv69 rfl rfl fun b3 => gn hK1 <| gq fun K2 hK2 => ?_; clear h ac; intro ac wo h
 refine cb mixed [dv _, dw _ [2], dv _, dw _ [1], dv _, dv _, dw _ [2], dv _, dw _ [1], dv _, dv _, dw _ [2], dv _, dw _ [1], dv _, dv _, dw _ [0]] [⟨.blk b3 (cD oD) 69, [(16, .con _)]⟩, ⟨_, []⟩, ⟨_, []⟩] h rfl (by kernel_rfl) ⟨fun _ _ => aq (fa uu69 rfl zz40 rfl rfl rfl (k' := 0)), fun _ _ => cp _ rfl rfl (aS aa40 zz40 rfl rfl rfl (v := (vQ p.c0)) rfl), fun _ _ => aq (fa uu69 rfl zz40 rfl rfl rfl (k' := 0)), fun _ _ => cp _ rfl rfl (aS aa40 zz40 rfl rfl rfl (v := (vQ q.c0)) rfl), fun _ _ => eg (dl cc100 rfl (dm p.c0 q.c0 k (by omega) zp.1 zq.1)), fun _ _ => aq (fa uu69 rfl zz40 rfl rfl rfl (k' := 4)), fun _ _ => cp _ rfl rfl (aS aa40 zz40 rfl rfl rfl (v := (vQ p.c1)) rfl), fun _ _ => aq (fa uu69 rfl zz40 rfl rfl rfl (k' := 4)), fun _ _ => cp _ rfl rfl (aS aa40 zz40 rfl rfl rfl (v := (vQ q.c1)) rfl), fun _ _ => eg (dl cc100 rfl (dm p.c1 q.c1 k (by omega) zp.2.1 zq.2.1)), fun _ _ => aq (fa uu69 rfl zz40 rfl rfl rfl (k' := 8)), fun _ _ => cp _ rfl rfl (aS aa40 zz40 rfl rfl rfl (v := (vQ p.c2)) rfl), fun _ _ => aq (fa uu69 rfl zz40 rfl rfl rfl (k' := 8)), fun _ _ => cp _ rfl rfl (aS aa40 zz40 rfl rfl rfl (v := (vQ q.c2)) rfl), fun _ _ => eg (dl cc100 rfl (dm p.c2 q.c2 k (by omega) zp.2.2 zq.2.2)), fun _ _ => aq (bG qS rfl rfl (v := (vD (⟨(ap p.c0 q.c0), (ap p.c1 q.c1), (ap p.c2 q.c2)⟩ : Qd))) rfl), fun _ _ => ff _ [.blk b3 (cD (⟨(ap p.c0 q.c0), (ap p.c1 q.c1), (ap p.c2 q.c2)⟩ : Qd)) 69] rfl rfl (fp zz69 rfl rfl rfl rfl rfl rfl rfl), trivial⟩ ?_
 clear h ac wo; intro ξ ac wo hφ h
 replace h : St w0 21 [(4, (ptr b3 0))] [.blk b3 (cD (⟨(ap p.c0 q.c0), (ap p.c1 q.c1), (ap p.c2 q.c2)⟩ : Qd)) 69, .blk b2 (cD q) 69, .blk b1 (cD p) 69] ac wo := h.sub ⟨rfl, trivial⟩
 clear hφ ξ
 refine hK2 _ _ ?_
 refine e7 ?_
 exact ret h rfl (.cell (v := (vD (⟨(ap p.c0 q.c0), (ap p.c1 q.c1), (ap p.c2 q.c2)⟩ : Qd))) rfl (i := 0) rfl aa69 zz69 rfl rfl rfl .nil) rfl (h.retP (by unfold dy; rfl) (by unfold dy; exact ⟨s1, s2, s3⟩))
def dC (q : Qd) (t : GQ) : GQ :=
 (aM q.c0 (au t (aM q.c1 (au t q.c2))))
theorem km (q : Qd) (t : GQ) (k : Nat) (hk : (k + 10) ≤ 40) (zq : SzD (k + 10) q) (zt : SzQ (k + 10) t) (w0 : World) : Calls Tryz.prog 99 #[(vD q), (vQ t)] w0 (eE w0 (vQ (dC q t)) (SzQ k (dC q t))) := by
 refine enter (N := 17) (args := [(vD q), (vQ t)]) Tryz.func99 rfl rfl ?_; intro ac h
 have s1 := ax ((bH t q.c2 (k + 8) (by omega) zt zq.2.2) w0)
 have s2 := ax ((cP q.c1 (au t q.c2) (k + 5) (by omega) (cL zq (by omega)).2.1 s1) w0)
 have s3 := ax ((bH t (aM q.c1 (au t q.c2)) (k + 3) (by omega) (e8 zt (by omega)) s2) w0)
 have s4 := ax ((cP q.c0 (au t (aM q.c1 (au t q.c2))) k (by omega) (cL zq (by omega)).1 s3) w0)
 refine d8 fun K1 hK1 => ?_
 refine bx h (cD q) rfl rfl rfl fun b1 => gb (cQ t) rfl rfl rfl fun b2 => ga (cQ oQ) vv40 rfl rfl fun b3 => gn hK1 <| gq fun K2 hK2 => ?_; clear h ac; intro ac wo h
 refine cb mixed [dv _, dw _ [2], dw _ [1], dv _, dw _ [2], dw _ [1], dv _, dw _ [2], dv _, dv _, dv _, dv _, dw _ [0]] [⟨.blk b3 (cQ oQ) 40, [(12, .con _)]⟩, ⟨_, []⟩, ⟨_, []⟩] h rfl (by kernel_rfl) ⟨fun _ _ => aq (fa uu69 rfl zz40 rfl rfl rfl (k' := 0)), fun _ _ => cp _ rfl rfl (aS aa40 zz40 rfl rfl rfl (v := (vQ q.c0)) rfl), fun _ _ => cp _ rfl rfl (aS aa40 zz40 rfl rfl rfl (v := (vQ t)) rfl), fun _ _ => aq (fa uu69 rfl zz40 rfl rfl rfl (k' := 4)), fun _ _ => cp _ rfl rfl (aS aa40 zz40 rfl rfl rfl (v := (vQ q.c1)) rfl), fun _ _ => cp _ rfl rfl (aS aa40 zz40 rfl rfl rfl (v := (vQ t)) rfl), fun _ _ => aq (fa uu69 rfl zz40 rfl rfl rfl (k' := 8)), fun _ _ => cp _ rfl rfl (aS aa40 zz40 rfl rfl rfl (v := (vQ q.c2)) rfl), fun _ _ => eg (dl cc101 rfl (bH t q.c2 (k + 8) (by omega) zt zq.2.2)), fun _ _ => eg (dl cc102 rfl (cP q.c1 (au t q.c2) (k + 5) (by omega) (cL zq (by omega)).2.1 s1)), fun _ _ => eg (dl cc101 rfl (bH t (aM q.c1 (au t q.c2)) (k + 3) (by omega) (e8 zt (by omega)) s2)), fun _ _ => eg (dl cc102 rfl (cP q.c0 (au t (aM q.c1 (au t q.c2))) k (by omega) (cL zq (by omega)).1 s3)), fun _ _ => ff _ [.blk b3 (cQ (aM q.c0 (au t (aM q.c1 (au t q.c2))))) 40] rfl rfl (fp zz40 rfl rfl rfl rfl rfl rfl rfl), trivial⟩ ?_
 clear h ac wo; intro ξ ac wo hφ h
 replace h : St w0 17 [(4, (ptr b3 0))] [.blk b3 (cQ (aM q.c0 (au t (aM q.c1 (au t q.c2))))) 40, .blk b2 (cQ t) 40, .blk b1 (cD q) 69] ac wo := h.sub ⟨rfl, trivial⟩
 clear hφ ξ
 refine hK2 _ _ ?_
 refine e7 ?_
 exact ret h rfl (.cell (v := (vQ (aM q.c0 (au t (aM q.c1 (au t q.c2)))))) rfl (i := 0) rfl aa40 zz40 rfl rfl rfl .nil) rfl (h.retP (by unfold dC; rfl) (by unfold dC; exact s4))
def cU (q : Qd) (t : GQ) : GQ :=
 (aM q.c1 (au (aM q.c2 q.c2) t))
theorem ie (q : Qd) (t : GQ) (k : Nat) (hk : (k + 8) ≤ 40) (zq : SzD (k + 8) q) (zt : SzQ (k + 8) t) (w0 : World) : Calls Tryz.prog 103 #[(vD q), (vQ t)] w0 (eE w0 (vQ (cU q t)) (SzQ k (cU q t))) := by
 refine enter (N := 15) (args := [(vD q), (vQ t)]) Tryz.func103 rfl rfl ?_; intro ac h
 have s1 := ax ((cP q.c2 q.c2 (k + 5) (by omega) zq.2.2 zq.2.2) w0)
 have s2 := ax ((bH (aM q.c2 q.c2) t (k + 3) (by omega) s1 (e8 zt (by omega))) w0)
 have s3 := ax ((cP q.c1 (au (aM q.c2 q.c2) t) k (by omega) (cL zq (by omega)).2.1 s2) w0)
 refine d8 fun K1 hK1 => ?_
 refine bx h (cD q) rfl rfl rfl fun b1 => gb (cQ t) rfl rfl rfl fun b2 => ga (cQ oQ) vv40 rfl rfl fun b3 => gn hK1 <| gq fun K2 hK2 => ?_; clear h ac; intro ac wo h
 refine cb mixed [dv _, dw _ [2], dv _, dw _ [2], dv _, dw _ [2], dv _, dw _ [1], dv _, dv _, dw _ [0]] [⟨.blk b3 (cQ oQ) 40, [(10, .con _)]⟩, ⟨_, []⟩, ⟨_, []⟩] h rfl (by kernel_rfl) ⟨fun _ _ => aq (fa uu69 rfl zz40 rfl rfl rfl (k' := 4)), fun _ _ => cp _ rfl rfl (aS aa40 zz40 rfl rfl rfl (v := (vQ q.c1)) rfl), fun _ _ => aq (fa uu69 rfl zz40 rfl rfl rfl (k' := 8)), fun _ _ => cp _ rfl rfl (aS aa40 zz40 rfl rfl rfl (v := (vQ q.c2)) rfl), fun _ _ => aq (fa uu69 rfl zz40 rfl rfl rfl (k' := 8)), fun _ _ => cp _ rfl rfl (aS aa40 zz40 rfl rfl rfl (v := (vQ q.c2)) rfl), fun _ _ => eg (dl cc102 rfl (cP q.c2 q.c2 (k + 5) (by omega) zq.2.2 zq.2.2)), fun _ _ => cp _ rfl rfl (aS aa40 zz40 rfl rfl rfl (v := (vQ t)) rfl), fun _ _ => eg (dl cc101 rfl (bH (aM q.c2 q.c2) t (k + 3) (by omega) s1 (e8 zt (by omega)))), fun _ _ => eg (dl cc102 rfl (cP q.c1 (au (aM q.c2 q.c2) t) k (by omega) (cL zq (by omega)).2.1 s2)), fun _ _ => ff _ [.blk b3 (cQ (aM q.c1 (au (aM q.c2 q.c2) t))) 40] rfl rfl (fp zz40 rfl rfl rfl rfl rfl rfl rfl), trivial⟩ ?_
 clear h ac wo; intro ξ ac wo hφ h
 replace h : St w0 15 [(4, (ptr b3 0))] [.blk b3 (cQ (aM q.c1 (au (aM q.c2 q.c2) t))) 40, .blk b2 (cQ t) 40, .blk b1 (cD q) 69] ac wo := h.sub ⟨rfl, trivial⟩
 clear hφ ξ
 refine hK2 _ _ ?_
 refine e7 ?_
 exact ret h rfl (.cell (v := (vQ (aM q.c1 (au (aM q.c2 q.c2) t)))) rfl (i := 0) rfl aa40 zz40 rfl rfl rfl .nil) rfl (h.retP (by unfold cU; rfl) (by unfold cU; exact s3))
def cN (x : GR) : GQ × Bool :=
 bif (!(decide (x.r = (⟨(⟨false, 0⟩ : GI), (⟨false, 0⟩ : GI)⟩ : GQ)))) then
  ((⟨(⟨false, 0⟩ : GI), (⟨false, 0⟩ : GI)⟩ : GQ), false)
 else
  (x.p, true)
theorem kH (x : GR) (k : Nat) (hk : k ≤ 40) (zx : SzR k x) (w0 : World) : Calls Tryz.prog 98 #[(vR x)] w0 (eE w0 (.tuple #[(vQ ((cN x).1)), (.bool ((cN x).2))]) (SzQ k ((cN x).1))) := by
 refine enter (N := 11) (args := [(vR x)]) Tryz.func98 rfl rfl ?_; intro ac h
 refine d8 fun K1 hK1 => ?_
 refine bx h (cR x) rfl rfl rfl fun b1 => ga (cQ oQ) vv40 rfl rfl fun b2 => g0 (ae rfl) rfl <| gn hK1 <| gq fun K2 hK2 => gr fun K3 hK3 => g0 (fa uu53 rfl zz40 rfl rfl rfl (k' := 4)) rfl <| g1 1 rfl (aS aa40 zz40 rfl rfl rfl (v := (vQ x.r)) rfl) rfl <| g0 (bG mQ rfl rfl (v := (vQ oQ)) rfl) rfl <| g0 (oc eqp40 rfl rfl) rfl <| gn hK3 ?_; clear h ac; intro ac wo h
 refine dg h rfl (fun hc1 => ?_) (fun hc1 => ?_)
 ·
  refine gz h <| gr fun K4 hK4 => g0 (bG mQ rfl rfl (v := (vQ oQ)) rfl) rfl <| gs 0 (cQ oQ) rfl zz40 rfl rfl rfl rfl rfl rfl rfl <| g0 (ae rfl) rfl <| gn hK4 <| gT ?_; clear h ac wo; intro ac wo h
  have hd : cN x = (oQ, false) := (cT hc1)
  exact ret h rfl (.cell (v := (vQ oQ)) rfl (i := 0) rfl aa40 zz40 rfl rfl rfl (.tmp rfl .nil)) rfl (h.retP (by rw [hd] <;> rfl) (by rw [hd]; exact ⟨(cB 0 (by decide) (by omega)), (cB 0 (by decide) (by omega))⟩))
 ·
  refine gz h <| gS <| gx hK2 <| gr fun K5 hK5 => g0 (fa uu53 rfl zz40 rfl rfl rfl (k' := 0)) rfl <| g1 1 rfl (aS aa40 zz40 rfl rfl rfl (v := (vQ x.p)) rfl) rfl <| gs 0 (cQ x.p) rfl zz40 rfl rfl rfl rfl rfl rfl rfl <| g0 (ae rfl) rfl <| gn hK5 <| gT ?_; clear h ac wo; intro ac wo h
  have hd : cN x = (x.p, true) := (cF hc1)
  exact ret h rfl (.cell (v := (vQ x.p)) rfl (i := 0) rfl aa40 zz40 rfl rfl rfl (.tmp rfl .nil)) rfl (h.retP (by rw [hd] <;> rfl) (by rw [hd]; exact zx.1))
def aP (q : Qd) (t : GR) : Qd :=
 bif (cN t).2 then
  (aA (dC q ((cN t).1)))
 else
  (aE (aM q.c0 (au q.c2 (ap t.r (au t.p t.p)))) (cU q t.p))
theorem fG (q : Qd) (t : GR) (k : Nat) (hk : (k + 10) ≤ 40) (zq : SzD (k + 10) q) (zt : SzR (k + 10) t) (w0 : World) : Calls Tryz.prog 37 #[(vD q), (vR t)] w0 (eE w0 (vD (aP q t)) (SzD k (aP q t))) := by
 refine enter (N := 38) (args := [(vD q), (vR t)]) Tryz.func37 rfl rfl ?_; intro ac h
 have c1 := kH t (k + 10) (by omega) zt
 have s1 := ax (c1 w0)
 refine d8 fun K1 hK1 => ?_
 refine bx h (cD q) rfl rfl rfl fun b1 => gb (cR t) rfl rfl rfl fun b2 => ga (cD oD) vv69 rfl rfl fun b3 => gn hK1 <| gq fun K2 hK2 => gr fun K3 hK3 => g1 1 rfl (aS aa53 zz53 rfl rfl rfl (v := (vR t)) rfl) rfl <| gl Tryz.call98 rfl c1 rfl <| g0 (af rfl) rfl <| g0 (bR rfl rfl) rfl <| g0 (bR rfl rfl) rfl <| ga (cQ oQ) vv40 rfl rfl fun b4 => gs 0 (cQ ((cN t).1)) rfl zz40 rfl rfl rfl rfl rfl rfl rfl <| g0 (ae rfl) rfl <| gn hK3 <| gr fun K4 hK4 => g0 (af rfl) rfl <| gn hK4 ?_; clear h ac; intro ac wo h
 refine dg h rfl (fun hc1 => ?_) (fun hc1 => ?_)
 ·
  have c2 := km q ((cN t).1) k (by omega) zq s1
  have s2 := ax (c2 w0)
  have c3 := fj (dC q ((cN t).1)) k (by omega) s2
  have s3 := ax (c3 w0)
  refine gz h <| gr fun K5 hK5 => g1 3 rfl (aS aa69 zz69 rfl rfl rfl (v := (vD q)) rfl) rfl <| g1 0 rfl (aS aa40 zz40 rfl rfl rfl (v := (vQ ((cN t).1))) rfl) rfl <| gl Tryz.call99 rfl c2 rfl <| gl Tryz.call79 rfl c3 rfl <| gs 1 (cD (aA (dC q ((cN t).1)))) rfl zz69 rfl rfl rfl rfl rfl rfl rfl <| gn hK5 <| gT ?_; clear h ac wo; intro ac wo h
  have hd : aP q t = (aA (dC q ((cN t).1))) := (cT hc1)
  exact ret h rfl (.cell (v := (vD (aA (dC q ((cN t).1))))) rfl (i := 1) rfl aa69 zz69 rfl rfl rfl .nil) rfl (h.retP (by rw [hd] <;> rfl) (by rw [hd]; exact s3))
 ·
  refine dI ?_
  refine hK2 _ _ ?_
  refine di fun K6 hK6 => ?_
  have s4 := ax ((bH t.p t.p (k + 8) (by omega) zt.1 zt.1) w0)
  have s5 := ax ((dm t.r (au t.p t.p) (k + 5) (by omega) (df zt (by omega)).2 s4) w0)
  replace h := h.emps 1
  refine cb mixed [dv _, dw _ [2], dv _, dw _ [2], dv _, dw _ [2], dv _, dv _, ⟨.nd (.one 8 fun v => ∃ b, v = ptr b 0), [4]⟩, ⟨.det undef, [4]⟩] [⟨_, []⟩, ⟨_, []⟩, ⟨_, []⟩, ⟨_, []⟩, ⟨.emp, [(8, .one 8 fun v => .blk (dQ v) (cQ oQ) 40), (9, .one 8 fun v => .blk (dQ v) (cQ (ap t.r (au t.p t.p))) 40)]⟩] h rfl (by kernel_rfl) ⟨fun _ _ => aq (fa uu53 rfl zz40 rfl rfl rfl (k' := 4)), fun _ _ => cp _ rfl rfl (aS aa40 zz40 rfl rfl rfl (v := (vQ t.r)) rfl), fun _ _ => aq (fa uu53 rfl zz40 rfl rfl rfl (k' := 0)), fun _ _ => cp _ rfl rfl (aS aa40 zz40 rfl rfl rfl (v := (vQ t.p)) rfl), fun _ _ => aq (fa uu53 rfl zz40 rfl rfl rfl (k' := 0)), fun _ _ => cp _ rfl rfl (aS aa40 zz40 rfl rfl rfl (v := (vQ t.p)) rfl), fun _ _ => eg (dl cc101 rfl (bH t.p t.p (k + 8) (by omega) zt.1 zt.1)), fun _ _ => eg (dl cc100 rfl (dm t.r (au t.p t.p) (k + 5) (by omega) (df zt (by omega)).2 s4)), fun _ _ => iD (ψ := fun v => ∃ b, v = ptr b 0) (B := fun v => [.blk (dQ v) (cQ oQ) 40]) [.emp] rfl (fun v _ => by simp only [dO, aX] <;> rfl) (fun v hv => by simpa [DF.one, aX] using hv) (gV (gY vv40 rfl)), (fun ξ hφ => by obtain ⟨b5, hb8⟩ := hφ 8 rfl; exact ff [.blk b5 (cQ oQ) 40] [.blk b5 (cQ (ap t.r (au t.p t.p))) 40] (congrArg (fun v => [Asn.blk (dQ v) (cQ oQ) 40]) hb8) (congrArg (fun v => [Asn.blk (dQ v) (cQ (ap t.r (au t.p t.p))) 40]) hb8) (fp zz40 (Eq.trans rfl (congrArg some hb8)) rfl rfl rfl rfl rfl rfl)), trivial⟩ ?_
  clear h ac wo; intro ξ ac wo hφ h
  replace h : St w0 38 [(2, (ptr b1 0)), (3, (ptr b2 0)), (4, (ptr b3 0)), (7, ξ 8)] [.blk b4 (cQ ((cN t).1)) 40, .blk b3 (cD oD) 69, .blk b2 (cR t) 53, .blk b1 (cD q) 69, .blk (dQ (ξ 8)) (cQ (ap t.r (au t.p t.p))) 40] ac wo := h.sub ⟨rfl, rfl, rfl, rfl, trivial⟩
  revert h
  obtain ⟨b5, hb8⟩ : ∃ b, ξ 8 = ptr b 0 := hφ 8
  rw [hb8]; intro h
  clear hb8 hφ ξ
  refine hK6 _ _ ?_
  refine di fun K7 hK7 => ?_
  have s6 := ax ((bH q.c2 (ap t.r (au t.p t.p)) (k + 3) (by omega) (cL zq (by omega)).2.2 s5) w0)
  have s7 := ax ((cP q.c0 (au q.c2 (ap t.r (au t.p t.p))) k (by omega) (cL zq (by omega)).1 s6) w0)
  have s8 := ax ((ie q t.p (k + 2) (by omega) zq zt.1) w0)
  have s9 := ax ((eT (aM q.c0 (au q.c2 (ap t.r (au t.p t.p)))) (cU q t.p) k (by omega) s7 (e8 s8 (by omega))) w0)
  refine cb mixed [dv _, dw _ [3], dv _, dw _ [3], dw _ [4], dv _, dv _, dw _ [3], dv _, dw _ [2], dv _, dv _, dw _ [1]] [⟨_, []⟩, ⟨.blk b3 (cD oD) 69, [(12, .con _)]⟩, ⟨_, []⟩, ⟨_, []⟩, ⟨_, []⟩] h rfl (by kernel_rfl) ⟨fun _ _ => aq (fa uu69 rfl zz40 rfl rfl rfl (k' := 0)), fun _ _ => cp _ rfl rfl (aS aa40 zz40 rfl rfl rfl (v := (vQ q.c0)) rfl), fun _ _ => aq (fa uu69 rfl zz40 rfl rfl rfl (k' := 8)), fun _ _ => cp _ rfl rfl (aS aa40 zz40 rfl rfl rfl (v := (vQ q.c2)) rfl), fun _ _ => cp _ rfl rfl (aS aa40 zz40 rfl rfl rfl (v := (vQ (ap t.r (au t.p t.p)))) rfl), fun _ _ => eg (dl cc101 rfl (bH q.c2 (ap t.r (au t.p t.p)) (k + 3) (by omega) (cL zq (by omega)).2.2 s5)), fun _ _ => eg (dl cc102 rfl (cP q.c0 (au q.c2 (ap t.r (au t.p t.p))) k (by omega) (cL zq (by omega)).1 s6)), fun _ _ => cp _ rfl rfl (aS aa69 zz69 rfl rfl rfl (v := (vD q)) rfl), fun _ _ => aq (fa uu53 rfl zz40 rfl rfl rfl (k' := 0)), fun _ _ => cp _ rfl rfl (aS aa40 zz40 rfl rfl rfl (v := (vQ t.p)) rfl), fun _ _ => eg (dl Tryz.call103 rfl (ie q t.p (k + 2) (by omega) zq zt.1)), fun _ _ => eg (dl Tryz.call31 rfl (eT (aM q.c0 (au q.c2 (ap t.r (au t.p t.p)))) (cU q t.p) k (by omega) s7 (e8 s8 (by omega)))), fun _ _ => ff _ [.blk b3 (cD (aE (aM q.c0 (au q.c2 (ap t.r (au t.p t.p)))) (cU q t.p))) 69] rfl rfl (fp zz69 rfl rfl rfl rfl rfl rfl rfl), trivial⟩ ?_
  clear h ac wo; intro ξ ac wo hφ h
  replace h : St w0 38 [(4, (ptr b3 0))] [.blk b4 (cQ ((cN t).1)) 40, .blk b3 (cD (aE (aM q.c0 (au q.c2 (ap t.r (au t.p t.p)))) (cU q t.p))) 69, .blk b2 (cR t) 53, .blk b1 (cD q) 69, .blk b5 (cQ (ap t.r (au t.p t.p))) 40] ac wo := h.sub ⟨rfl, trivial⟩
  clear hφ ξ
  refine hK7 _ _ ?_
  refine e7 ?_
  have hd : aP q t = (aE (aM q.c0 (au q.c2 (ap t.r (au t.p t.p)))) (cU q t.p)) := (cF hc1)
  exact ret h rfl (.cell (v := (vD (aE (aM q.c0 (au q.c2 (ap t.r (au t.p t.p)))) (cU q t.p)))) rfl (i := 1) rfl aa69 zz69 rfl rfl rfl .nil) rfl (h.retP (by rw [hd] <;> rfl) (by rw [hd]; exact s9))
def bE (p : Qd) (q : Qd) (t : GR) : Bool :=
 (decide ((aP (dy p q) t) = (⟨(⟨(⟨false, 0⟩ : GI), (⟨false, 0⟩ : GI)⟩ : GQ), (⟨(⟨false, 0⟩ : GI), (⟨false, 0⟩ : GI)⟩ : GQ), (⟨(⟨false, 0⟩ : GI), (⟨false, 0⟩ : GI)⟩ : GQ)⟩ : Qd)))
theorem kj (p : Qd) (q : Qd) (t : GR) (k : Nat) (hk : (k + 14) ≤ 40) (zp : SzD (k + 14) p) (zq : SzD (k + 14) q) (zt : SzR (k + 14) t) (w0 : World) : Calls Tryz.prog 30 #[(vD p), (vD q), (vR t)] w0 (eE w0 (.bool (bE p q t)) (True)) := by
 refine enter (N := 14) (args := [(vD p), (vD q), (vR t)]) Tryz.func30 rfl rfl ?_; intro ac h
 have s1 := ax ((iV p q (k + 11) (by omega) zp zq) w0)
 have s2 := ax ((fG (dy p q) t (k + 1) (by omega) s1 (df zt (by omega))) w0)
 refine d8 fun K1 hK1 => ?_
 refine bx h (cD p) rfl rfl rfl fun b1 => gb (cD q) rfl rfl rfl fun b2 => gb (cR t) rfl rfl rfl fun b3 => g0 (ae rfl) rfl <| gn hK1 <| gq fun K2 hK2 => ?_; clear h ac; intro ac wo h
 refine cb mixed [dw _ [2], dw _ [1], dv _, dw _ [0], dv _, dv _, dv _, dv _] [⟨_, []⟩, ⟨_, []⟩, ⟨_, []⟩] h rfl (by kernel_rfl) ⟨fun _ _ => cp _ rfl rfl (aS aa69 zz69 rfl rfl rfl (v := (vD p)) rfl), fun _ _ => cp _ rfl rfl (aS aa69 zz69 rfl rfl rfl (v := (vD q)) rfl), fun _ _ => eg (dl Tryz.call96 rfl (iV p q (k + 11) (by omega) zp zq)), fun _ _ => cp _ rfl rfl (aS aa53 zz53 rfl rfl rfl (v := (vR t)) rfl), fun _ _ => eg (dl Tryz.call37 rfl (fG (dy p q) t (k + 1) (by omega) s1 (df zt (by omega)))), fun _ _ => aq (bG qS rfl rfl (v := (vD oD)) rfl), fun _ _ => aq (gC pk rfl rfl), fun _ _ => aq (ae rfl), trivial⟩ ?_
 clear h ac wo; intro ξ ac wo hφ h
 replace h : St w0 14 [(6, (.bool (decide ((aP (dy p q) t) = oD))))] [.blk b3 (cR t) 53, .blk b2 (cD q) 69, .blk b1 (cD p) 69] ac wo := h.sub ⟨rfl, trivial⟩
 clear hφ ξ
 refine hK2 _ _ ?_
 refine e7 ?_
 exact ret h rfl (.tmp rfl .nil) rfl (h.retP (by unfold bE; rfl) trivial)
def aW (x : GR) : GQ :=
 bif x.neg then
  (aj (-1))
 else
  (aj 1)
theorem gi (x : GR) (k : Nat) (hk : k ≤ 40) (zx : SzR k x) (w0 : World) : Calls Tryz.prog 174 #[(vR x)] w0 (eE w0 (vQ (aW x)) (SzQ k (aW x))) := by
 refine enter (N := 7) (args := [(vR x)]) Tryz.func174 rfl rfl ?_; intro ac h
 refine d8 fun K1 hK1 => ?_
 refine bx h (cR x) rfl rfl rfl fun b1 => ga (cQ oQ) vv40 rfl rfl fun b2 => gn hK1 <| gq fun K2 hK2 => gr fun K3 hK3 => g0 (fa uu53 rfl zz4 rfl rfl rfl (k' := 8)) rfl <| g1 1 rfl (aS aa4 zz4 rfl rfl rfl (v := (.bool x.neg)) rfl) rfl <| gn hK3 ?_; clear h ac; intro ac wo h
 refine dg h rfl (fun hc1 => ?_) (fun hc1 => ?_)
 ·
  have c1 := bJ (-1) k (by omega)  (by omega)
  have s1 := ax (c1 w0)
  refine gz h <| gr fun K4 hK4 => gl cc45 rfl c1 rfl <| gs 0 (cQ (aj (-1))) rfl zz40 rfl rfl rfl rfl rfl rfl rfl <| gn hK4 <| gT ?_; clear h ac wo; intro ac wo h
  have hd : aW x = (aj (-1)) := (cT hc1)
  exact ret h rfl (.cell (v := (vQ (aj (-1)))) rfl (i := 0) rfl aa40 zz40 rfl rfl rfl .nil) rfl (h.retP (by rw [hd] <;> rfl) (by rw [hd]; exact s1))
 ·
  have c2 := bJ 1 k (by omega)  (by omega)
  have s2 := ax (c2 w0)
  refine gz h <| gS <| gx hK2 <| gr fun K5 hK5 => gl cc45 rfl c2 rfl <| gs 0 (cQ (aj 1)) rfl zz40 rfl rfl rfl rfl rfl rfl rfl <| gn hK5 <| gT ?_; clear h ac wo; intro ac wo h
  have hd : aW x = (aj 1) := (cF hc1)
  exact ret h rfl (.cell (v := (vQ (aj 1))) rfl (i := 0) rfl aa40 zz40 rfl rfl rfl .nil) rfl (h.retP (by rw [hd] <;> rfl) (by rw [hd]; exact s2))
def dM (a : GQ) (b : GQ) (r : GQ) : Int :=
 bif ((((az b) * (az r)) == 0) || ((az a) == ((az b) * (az r)))) then
  (az a)
 else
  bif ((az a) == 0) then
   ((az b) * (az r))
  else
   ((az a) * (dJ (au a a) (au (au b b) r)))
theorem ib (a : GQ) (b : GQ) (r : GQ) (k : Nat) (hk : (k + 8) ≤ 40) (za : SzQ (k + 8) a) (zb : SzQ (k + 8) b) (zr : SzQ (k + 8) r) (w0 : World) : Calls Tryz.prog 175 #[(vQ a), (vQ b), (vQ r)] w0 (eE w0 (.int .i64 (dM a b r)) ((-1 ≤ (dM a b r) ∧ (dM a b r) ≤ 1))) := by
 refine enter (N := 40) (args := [(vQ a), (vQ b), (vQ r)]) Tryz.func175 rfl rfl ?_; intro ac h
 have p2 := ax ((db a) w0)
 have p4 := ax ((db b) w0)
 have p6 := ax ((db r) w0)
 refine d8 fun K1 hK1 => ?_
 refine bx h (cQ a) rfl rfl rfl fun b1 => gb (cQ b) rfl rfl rfl fun b2 => gb (cQ r) rfl rfl rfl fun b3 => g0 (ae rfl) rfl <| gn hK1 <| gq fun K2 hK2 => ?_; clear h ac; intro ac wo h
 refine cb mixed [dw _ [2], dv _, dw _ [1], dv _, dw _ [0], dv _, dv _, dv _, dv _] [⟨_, []⟩, ⟨_, []⟩, ⟨_, []⟩] h rfl (by kernel_rfl) ⟨fun _ _ => cp _ rfl rfl (aS aa40 zz40 rfl rfl rfl (v := (vQ a)) rfl), fun _ _ => eg (dl cc58 rfl (db a)), fun _ _ => cp _ rfl rfl (aS aa40 zz40 rfl rfl rfl (v := (vQ b)) rfl), fun _ _ => eg (dl cc58 rfl (db b)), fun _ _ => cp _ rfl rfl (aS aa40 zz40 rfl rfl rfl (v := (vQ r)) rfl), fun _ _ => eg (dl cc58 rfl (db r)), fun _ _ => aq (kK rfl rfl (r := ((az b) * (az r))) (by first | (rw [IntKind.wrap_i64]; omega) | exact ia (by omega) (by omega))), fun _ _ => aq (ae rfl), fun _ _ => aq (ae rfl), trivial⟩ ?_
 clear h ac wo; intro ξ ac wo hφ h
 replace h : St w0 40 [(3, (ptr b1 0)), (4, (ptr b2 0)), (5, (ptr b3 0)), (7, (.int .i64 (az a))), (8, (.int .i64 ((az b) * (az r))))] [.blk b3 (cQ r) 40, .blk b2 (cQ b) 40, .blk b1 (cQ a) 40] ac wo := h.sub ⟨rfl, rfl, rfl, rfl, rfl, trivial⟩
 clear hφ ξ
 refine gz h <| gx hK2 <| gq fun K3 hK3 => gB <| gr fun K4 hK4 => g0 (af rfl) rfl <| g0 (es rfl rfl) rfl <| g0 (af rfl) rfl <| ge2 rfl rfl (fun hg => (Rd.of_nil (af rfl)).step) rfl <| ge2 rfl rfl (fun hg => (Rd.of_nil (af rfl)).step) rfl <| ge2 rfl rfl (fun hg => (Rd.of_nil (es (an rfl hg) (an rfl hg))).step) rfl <| g0 (kI rfl (fun e => (an rfl (kM e)))) rfl <| g0 (ae rfl) rfl <| gn hK4 ?_; clear h ac wo; intro ac wo h
 refine dg h rfl (fun hc1 => ?_) (fun hc1 => ?_)
 ·
  refine gz h <| gr fun K5 hK5 => g0 (af rfl) rfl <| g0 (ae rfl) rfl <| gn hK5 <| gT ?_; clear h ac wo; intro ac wo h
  have hd : dM a b r = (az a) := (cT hc1)
  exact ret h rfl (.tmp rfl .nil) rfl (h.retP (by rw [hd] <;> rfl) (by rw [hd]; exact by first | omega | exact eB (by omega) (by omega)))
 ·
  refine gz h <| gr fun K6 hK6 => g0 (af rfl) rfl <| g0 (es rfl rfl) rfl <| g0 (ae rfl) rfl <| gn hK6 ?_; clear h ac wo; intro ac wo h
  refine dg h rfl (fun hc2 => ?_) (fun hc2 => ?_)
  ·
   have hd2 := eq_of_beq hc2
   refine gz h <| gr fun K7 hK7 => g0 (af rfl) rfl <| g0 (ae rfl) rfl <| gn hK7 <| gT ?_; clear h ac wo; intro ac wo h
   have hd : dM a b r = ((az b) * (az r)) := (Eq.trans (cF hc1) (cT hc2))
   exact ret h rfl (.tmp rfl .nil) rfl (h.retP (by rw [hd] <;> rfl) (by rw [hd]; exact by first | omega | exact eB (by omega) (by omega)))
  ·
   have hd2 := ne_of_beq_false hc2
   refine dI ?_
   refine nA ?_
   refine hK3 _ _ ?_
   refine di fun K8 hK8 => ?_
   have s7 := ax ((bH a a (k + 6) (by omega) za za) w0)
   have s8 := ax ((bH b b (k + 6) (by omega) zb zb) w0)
   have s9 := ax ((bH (au b b) r (k + 4) (by omega) s8 (e8 zr (by omega))) w0)
   have p11 := ax ((g5 (au a a) (au (au b b) r) (k + 3) (by omega) (e8 s7 (by omega)) s9) w0)
   refine cb mixed [dv _, dw _ [2], dw _ [2], dv _, dw _ [1], dw _ [1], dv _, dw _ [0], dv _, dv _, dv _, dv _] [⟨_, []⟩, ⟨_, []⟩, ⟨_, []⟩] h rfl (by kernel_rfl) ⟨fun _ _ => om rfl, fun _ _ => cp _ rfl rfl (aS aa40 zz40 rfl rfl rfl (v := (vQ a)) rfl), fun _ _ => cp _ rfl rfl (aS aa40 zz40 rfl rfl rfl (v := (vQ a)) rfl), fun _ _ => eg (dl cc101 rfl (bH a a (k + 6) (by omega) za za)), fun _ _ => cp _ rfl rfl (aS aa40 zz40 rfl rfl rfl (v := (vQ b)) rfl), fun _ _ => cp _ rfl rfl (aS aa40 zz40 rfl rfl rfl (v := (vQ b)) rfl), fun _ _ => eg (dl cc101 rfl (bH b b (k + 6) (by omega) zb zb)), fun _ _ => cp _ rfl rfl (aS aa40 zz40 rfl rfl rfl (v := (vQ r)) rfl), fun _ _ => eg (dl cc101 rfl (bH (au b b) r (k + 4) (by omega) s8 (e8 zr (by omega)))), fun _ _ => eg (dl Tryz.call198 rfl (g5 (au a a) (au (au b b) r) (k + 3) (by omega) (e8 s7 (by omega)) s9)), fun _ _ => aq (kK rfl rfl (r := ((az a) * (dJ (au a a) (au (au b b) r)))) (by first | (rw [IntKind.wrap_i64]; omega) | exact ia (by omega) (by omega))), fun _ _ => aq (ae rfl), trivial⟩ ?_
   clear h ac wo; intro ξ ac wo hφ h
   replace h : St w0 40 [(6, (.int .i64 ((az a) * (dJ (au a a) (au (au b b) r)))))] [.blk b3 (cQ r) 40, .blk b2 (cQ b) 40, .blk b1 (cQ a) 40] ac wo := h.sub ⟨rfl, trivial⟩
   clear hφ ξ
   refine hK8 _ _ ?_
   refine e7 ?_
   have hd : dM a b r = ((az a) * (dJ (au a a) (au (au b b) r))) := (Eq.trans (cF hc1) (cF hc2))
   exact ret h rfl (.tmp rfl .nil) rfl (h.retP (by rw [hd] <;> rfl) (by rw [hd]; exact by first | omega | exact eB (by omega) (by omega)))
def ao (x : GR) (y : GR) : Int :=
 bif ((((az (bM (aW y))) * (az y.r)) == 0) || ((dM (ap x.p y.p) (aW x) x.r) == ((az (bM (aW y))) * (az y.r)))) then
  (dM (ap x.p y.p) (aW x) x.r)
 else
  bif ((dM (ap x.p y.p) (aW x) x.r) == 0) then
   ((az (bM (aW y))) * (az y.r))
  else
   ((dM (ap x.p y.p) (aW x) x.r) * (dM (ap (aM (au (ap x.p y.p) (ap x.p y.p)) x.r) y.r) (au (aj 2) (au (ap x.p y.p) (aW x))) x.r))
theorem aL (x : GR) (y : GR) (k : Nat) (hk : (k + 20) ≤ 40) (zx : SzR (k + 20) x) (zy : SzR (k + 20) y) (w0 : World) : Calls Tryz.prog 115 #[(vR x), (vR y)] w0 (eE w0 (.int .i64 (ao x y)) ((-1 ≤ (ao x y) ∧ (ao x y) ≤ 1))) := by
 refine enter (N := 65) (args := [(vR x), (vR y)]) Tryz.func115 rfl rfl ?_; intro ac h
 have s1 := ax ((dm x.p y.p (k + 17) (by omega) zx.1 zy.1) w0)
 have s2 := ax ((gi x (k + 20) (by omega) zx) w0)
 have s3 := ax ((gi y (k + 20) (by omega) zy) w0)
 have s4 := ax ((fP (aW y) (k + 20) (by omega) s3) w0)
 refine d8 fun K1 hK1 => ?_
 refine bx h (cR x) rfl rfl rfl fun b1 => gb (cR y) rfl rfl rfl fun b2 => g0 (ae rfl) rfl <| gn hK1 <| gq fun K2 hK2 => ?_; clear h ac; intro ac wo h
 replace h := h.emps 3
 refine cb mixed [dv _, dw _ [1], dv _, dw _ [0], dv _, dw _ [1], dv _, dw _ [0], dv _, dv _, ⟨.nd (.one 10 fun v => ∃ b, v = ptr b 0), [2]⟩, ⟨.nd (.one 11 fun v => ∃ b, v = ptr b 0), [3]⟩, ⟨.nd (.one 12 fun v => ∃ b, v = ptr b 0), [4]⟩, ⟨.det undef, [2]⟩, ⟨.det undef, [3]⟩, ⟨.det undef, [4]⟩] [⟨_, []⟩, ⟨_, []⟩, ⟨.emp, [(10, .one 10 fun v => .blk (dQ v) (cQ oQ) 40), (13, .one 10 fun v => .blk (dQ v) (cQ (ap x.p y.p)) 40)]⟩, ⟨.emp, [(11, .one 11 fun v => .blk (dQ v) (cQ oQ) 40), (14, .one 11 fun v => .blk (dQ v) (cQ (aW x)) 40)]⟩, ⟨.emp, [(12, .one 12 fun v => .blk (dQ v) (cQ oQ) 40), (15, .one 12 fun v => .blk (dQ v) (cQ (bM (aW y))) 40)]⟩] h rfl (by kernel_rfl) ⟨fun _ _ => aq (fa uu53 rfl zz40 rfl rfl rfl (k' := 0)), fun _ _ => cp _ rfl rfl (aS aa40 zz40 rfl rfl rfl (v := (vQ x.p)) rfl), fun _ _ => aq (fa uu53 rfl zz40 rfl rfl rfl (k' := 0)), fun _ _ => cp _ rfl rfl (aS aa40 zz40 rfl rfl rfl (v := (vQ y.p)) rfl), fun _ _ => eg (dl cc100 rfl (dm x.p y.p (k + 17) (by omega) zx.1 zy.1)), fun _ _ => cp _ rfl rfl (aS aa53 zz53 rfl rfl rfl (v := (vR x)) rfl), fun _ _ => eg (dl Tryz.call174 rfl (gi x (k + 20) (by omega) zx)), fun _ _ => cp _ rfl rfl (aS aa53 zz53 rfl rfl rfl (v := (vR y)) rfl), fun _ _ => eg (dl Tryz.call174 rfl (gi y (k + 20) (by omega) zy)), fun _ _ => eg (dl Tryz.call52 rfl (fP (aW y) (k + 20) (by omega) s3)), fun _ _ => iD (ψ := fun v => ∃ b, v = ptr b 0) (B := fun v => [.blk (dQ v) (cQ oQ) 40]) [.emp] rfl (fun v _ => by simp only [dO, aX] <;> rfl) (fun v hv => by simpa [DF.one, aX] using hv) (gV (gY vv40 rfl)), fun _ _ => iD (ψ := fun v => ∃ b, v = ptr b 0) (B := fun v => [.blk (dQ v) (cQ oQ) 40]) [.emp] rfl (fun v _ => by simp only [dO, aX] <;> rfl) (fun v hv => by simpa [DF.one, aX] using hv) (gV (gY vv40 rfl)), fun _ _ => iD (ψ := fun v => ∃ b, v = ptr b 0) (B := fun v => [.blk (dQ v) (cQ oQ) 40]) [.emp] rfl (fun v _ => by simp only [dO, aX] <;> rfl) (fun v hv => by simpa [DF.one, aX] using hv) (gV (gY vv40 rfl)), (fun ξ hφ => by obtain ⟨b3, hb10⟩ := hφ 10 rfl; exact ff [.blk b3 (cQ oQ) 40] [.blk b3 (cQ (ap x.p y.p)) 40] (congrArg (fun v => [Asn.blk (dQ v) (cQ oQ) 40]) hb10) (congrArg (fun v => [Asn.blk (dQ v) (cQ (ap x.p y.p)) 40]) hb10) (fp zz40 (Eq.trans rfl (congrArg some hb10)) rfl rfl rfl rfl rfl rfl)), (fun ξ hφ => by obtain ⟨b4, hb11⟩ := hφ 11 rfl; exact ff [.blk b4 (cQ oQ) 40] [.blk b4 (cQ (aW x)) 40] (congrArg (fun v => [Asn.blk (dQ v) (cQ oQ) 40]) hb11) (congrArg (fun v => [Asn.blk (dQ v) (cQ (aW x)) 40]) hb11) (fp zz40 (Eq.trans rfl (congrArg some hb11)) rfl rfl rfl rfl rfl rfl)), (fun ξ hφ => by obtain ⟨b5, hb12⟩ := hφ 12 rfl; exact ff [.blk b5 (cQ oQ) 40] [.blk b5 (cQ (bM (aW y))) 40] (congrArg (fun v => [Asn.blk (dQ v) (cQ oQ) 40]) hb12) (congrArg (fun v => [Asn.blk (dQ v) (cQ (bM (aW y))) 40]) hb12) (fp zz40 (Eq.trans rfl (congrArg some hb12)) rfl rfl rfl rfl rfl rfl)), trivial⟩ ?_
 clear h ac wo; intro ξ ac wo hφ h
 replace h : St w0 65 [(2, (ptr b1 0)), (3, (ptr b2 0)), (5, ξ 10), (6, ξ 11), (7, ξ 12)] [.blk b2 (cR y) 53, .blk b1 (cR x) 53, .blk (dQ (ξ 10)) (cQ (ap x.p y.p)) 40, .blk (dQ (ξ 11)) (cQ (aW x)) 40, .blk (dQ (ξ 12)) (cQ (bM (aW y))) 40] ac wo := h.sub ⟨rfl, rfl, rfl, rfl, rfl, trivial⟩
 revert h
 obtain ⟨b3, hb10⟩ : ∃ b, ξ 10 = ptr b 0 := hφ 10
 obtain ⟨b4, hb11⟩ : ∃ b, ξ 11 = ptr b 0 := hφ 11
 obtain ⟨b5, hb12⟩ : ∃ b, ξ 12 = ptr b 0 := hφ 12
 rw [hb10, hb11, hb12]; intro h
 clear hb10 hb11 hb12 hφ ξ
 refine hK2 _ _ ?_
 refine di fun K3 hK3 => ?_
 have p6 := ax ((ib (ap x.p y.p) (aW x) x.r (k + 9) (by omega) s1 (e8 s2 (by omega)) (df zx (by omega)).2) w0)
 have p8 := ax ((db (bM (aW y))) w0)
 have p10 := ax ((db y.r) w0)
 refine cb mixed [dw _ [2], dw _ [3], dv _, dw _ [1], dv _, dw _ [4], dv _, dv _, dw _ [0], dv _, dv _, dv _, dv _] [⟨_, []⟩, ⟨_, []⟩, ⟨_, []⟩, ⟨_, []⟩, ⟨_, []⟩] h rfl (by kernel_rfl) ⟨fun _ _ => cp _ rfl rfl (aS aa40 zz40 rfl rfl rfl (v := (vQ (ap x.p y.p))) rfl), fun _ _ => cp _ rfl rfl (aS aa40 zz40 rfl rfl rfl (v := (vQ (aW x))) rfl), fun _ _ => aq (fa uu53 rfl zz40 rfl rfl rfl (k' := 4)), fun _ _ => cp _ rfl rfl (aS aa40 zz40 rfl rfl rfl (v := (vQ x.r)) rfl), fun _ _ => eg (dl Tryz.call175 rfl (ib (ap x.p y.p) (aW x) x.r (k + 9) (by omega) s1 (e8 s2 (by omega)) (df zx (by omega)).2)), fun _ _ => cp _ rfl rfl (aS aa40 zz40 rfl rfl rfl (v := (vQ (bM (aW y)))) rfl), fun _ _ => eg (dl cc58 rfl (db (bM (aW y)))), fun _ _ => aq (fa uu53 rfl zz40 rfl rfl rfl (k' := 4)), fun _ _ => cp _ rfl rfl (aS aa40 zz40 rfl rfl rfl (v := (vQ y.r)) rfl), fun _ _ => eg (dl cc58 rfl (db y.r)), fun _ _ => aq (kK rfl rfl (r := ((az (bM (aW y))) * (az y.r))) (by first | (rw [IntKind.wrap_i64]; omega) | exact ia (by omega) (by omega))), fun _ _ => aq (ae rfl), fun _ _ => aq (ae rfl), trivial⟩ ?_
 clear h ac wo; intro ξ ac wo hφ h
 replace h : St w0 65 [(2, (ptr b1 0)), (3, (ptr b2 0)), (5, (ptr b3 0)), (6, (ptr b4 0)), (8, (.int .i64 (dM (ap x.p y.p) (aW x) x.r))), (9, (.int .i64 ((az (bM (aW y))) * (az y.r))))] [.blk b2 (cR y) 53, .blk b1 (cR x) 53, .blk b3 (cQ (ap x.p y.p)) 40, .blk b4 (cQ (aW x)) 40, .blk b5 (cQ (bM (aW y))) 40] ac wo := h.sub ⟨rfl, rfl, rfl, rfl, rfl, rfl, trivial⟩
 clear hφ ξ
 refine gz h <| gx hK3 <| gq fun K4 hK4 => gB <| gr fun K5 hK5 => g0 (af rfl) rfl <| g0 (es rfl rfl) rfl <| g0 (af rfl) rfl <| ge2 rfl rfl (fun hg => (Rd.of_nil (af rfl)).step) rfl <| ge2 rfl rfl (fun hg => (Rd.of_nil (af rfl)).step) rfl <| ge2 rfl rfl (fun hg => (Rd.of_nil (es (an rfl hg) (an rfl hg))).step) rfl <| g0 (kI rfl (fun e => (an rfl (kM e)))) rfl <| g0 (ae rfl) rfl <| gn hK5 ?_; clear h ac wo; intro ac wo h
 refine dg h rfl (fun hc1 => ?_) (fun hc1 => ?_)
 ·
  refine gz h <| gr fun K6 hK6 => g0 (af rfl) rfl <| g0 (ae rfl) rfl <| gn hK6 <| gT ?_; clear h ac wo; intro ac wo h
  have hd : ao x y = (dM (ap x.p y.p) (aW x) x.r) := (cT hc1)
  exact ret h rfl (.tmp rfl .nil) rfl (h.retP (by rw [hd] <;> rfl) (by rw [hd]; exact by first | omega | exact eB (by omega) (by omega)))
 ·
  refine gz h <| gr fun K7 hK7 => g0 (af rfl) rfl <| g0 (es rfl rfl) rfl <| g0 (ae rfl) rfl <| gn hK7 ?_; clear h ac wo; intro ac wo h
  refine dg h rfl (fun hc2 => ?_) (fun hc2 => ?_)
  ·
   have hd2 := eq_of_beq hc2
   refine gz h <| gr fun K8 hK8 => g0 (af rfl) rfl <| g0 (ae rfl) rfl <| gn hK8 <| gT ?_; clear h ac wo; intro ac wo h
   have hd : ao x y = ((az (bM (aW y))) * (az y.r)) := (Eq.trans (cF hc1) (cT hc2))
   exact ret h rfl (.tmp rfl .nil) rfl (h.retP (by rw [hd] <;> rfl) (by rw [hd]; exact by first | omega | exact eB (by omega) (by omega)))
  ·
   have hd2 := ne_of_beq_false hc2
   refine dI ?_
   refine nA ?_
   refine hK4 _ _ ?_
   refine di fun K9 hK9 => ?_
   have s11 := ax ((bH (ap x.p y.p) (ap x.p y.p) (k + 15) (by omega) s1 s1) w0)
   have s12 := ax ((cP (au (ap x.p y.p) (ap x.p y.p)) x.r (k + 12) (by omega) s11 (df zx (by omega)).2) w0)
   have s13 := ax ((dm (aM (au (ap x.p y.p) (ap x.p y.p)) x.r) y.r (k + 9) (by omega) s12 (df zy (by omega)).2) w0)
   replace h := h.emps 1
   refine cb mixed [dw _ [2], dw _ [2], dv _, dv _, dw _ [1], dv _, dv _, dw _ [0], dv _, ⟨.nd (.one 9 fun v => ∃ b, v = ptr b 0), [5]⟩, ⟨.det undef, [5]⟩] [⟨_, []⟩, ⟨_, []⟩, ⟨_, []⟩, ⟨_, []⟩, ⟨_, []⟩, ⟨.emp, [(9, .one 9 fun v => .blk (dQ v) (cQ oQ) 40), (10, .one 9 fun v => .blk (dQ v) (cQ (ap (aM (au (ap x.p y.p) (ap x.p y.p)) x.r) y.r)) 40)]⟩] h rfl (by kernel_rfl) ⟨fun _ _ => cp _ rfl rfl (aS aa40 zz40 rfl rfl rfl (v := (vQ (ap x.p y.p))) rfl), fun _ _ => cp _ rfl rfl (aS aa40 zz40 rfl rfl rfl (v := (vQ (ap x.p y.p))) rfl), fun _ _ => eg (dl cc101 rfl (bH (ap x.p y.p) (ap x.p y.p) (k + 15) (by omega) s1 s1)), fun _ _ => aq (fa uu53 rfl zz40 rfl rfl rfl (k' := 4)), fun _ _ => cp _ rfl rfl (aS aa40 zz40 rfl rfl rfl (v := (vQ x.r)) rfl), fun _ _ => eg (dl cc102 rfl (cP (au (ap x.p y.p) (ap x.p y.p)) x.r (k + 12) (by omega) s11 (df zx (by omega)).2)), fun _ _ => aq (fa uu53 rfl zz40 rfl rfl rfl (k' := 4)), fun _ _ => cp _ rfl rfl (aS aa40 zz40 rfl rfl rfl (v := (vQ y.r)) rfl), fun _ _ => eg (dl cc100 rfl (dm (aM (au (ap x.p y.p) (ap x.p y.p)) x.r) y.r (k + 9) (by omega) s12 (df zy (by omega)).2)), fun _ _ => iD (ψ := fun v => ∃ b, v = ptr b 0) (B := fun v => [.blk (dQ v) (cQ oQ) 40]) [.emp] rfl (fun v _ => by simp only [dO, aX] <;> rfl) (fun v hv => by simpa [DF.one, aX] using hv) (gV (gY vv40 rfl)), (fun ξ hφ => by obtain ⟨b6, hb9⟩ := hφ 9 rfl; exact ff [.blk b6 (cQ oQ) 40] [.blk b6 (cQ (ap (aM (au (ap x.p y.p) (ap x.p y.p)) x.r) y.r)) 40] (congrArg (fun v => [Asn.blk (dQ v) (cQ oQ) 40]) hb9) (congrArg (fun v => [Asn.blk (dQ v) (cQ (ap (aM (au (ap x.p y.p) (ap x.p y.p)) x.r) y.r)) 40]) hb9) (fp zz40 (Eq.trans rfl (congrArg some hb9)) rfl rfl rfl rfl rfl rfl)), trivial⟩ ?_
   clear h ac wo; intro ξ ac wo hφ h
   replace h : St w0 65 [(2, (ptr b1 0)), (5, (ptr b3 0)), (6, (ptr b4 0)), (8, (.int .i64 (dM (ap x.p y.p) (aW x) x.r))), (10, ξ 9)] [.blk b2 (cR y) 53, .blk b1 (cR x) 53, .blk b3 (cQ (ap x.p y.p)) 40, .blk b4 (cQ (aW x)) 40, .blk b5 (cQ (bM (aW y))) 40, .blk (dQ (ξ 9)) (cQ (ap (aM (au (ap x.p y.p) (ap x.p y.p)) x.r) y.r)) 40] ac wo := h.sub ⟨rfl, rfl, rfl, rfl, rfl, trivial⟩
   revert h
   obtain ⟨b6, hb9⟩ : ∃ b, ξ 9 = ptr b 0 := hφ 9
   rw [hb9]; intro h
   clear hb9 hφ ξ
   refine hK9 _ _ ?_
   refine di fun K10 hK10 => ?_
   have s14 := ax ((bJ 2 (k + 20) (by omega)  (by omega)) w0)
   have s15 := ax ((bH (ap x.p y.p) (aW x) (k + 15) (by omega) s1 (e8 s2 (by omega))) w0)
   have s16 := ax ((bH (aj 2) (au (ap x.p y.p) (aW x)) (k + 13) (by omega) (e8 s14 (by omega)) s15) w0)
   have p18 := ax ((ib (ap (aM (au (ap x.p y.p) (ap x.p y.p)) x.r) y.r) (au (aj 2) (au (ap x.p y.p) (aW x))) x.r (k + 1) (by omega) s13 (e8 s16 (by omega)) (df zx (by omega)).2) w0)
   refine cb mixed [dv _, dw _ [5], dv _, dw _ [2], dw _ [3], dv _, dv _, dv _, dw _ [1], dv _, dv _, dv _] [⟨_, []⟩, ⟨_, []⟩, ⟨_, []⟩, ⟨_, []⟩, ⟨_, []⟩, ⟨_, []⟩] h rfl (by kernel_rfl) ⟨fun _ _ => om rfl, fun _ _ => cp _ rfl rfl (aS aa40 zz40 rfl rfl rfl (v := (vQ (ap (aM (au (ap x.p y.p) (ap x.p y.p)) x.r) y.r))) rfl), fun _ _ => eg (dl cc45 rfl (bJ 2 (k + 20) (by omega)  (by omega))), fun _ _ => cp _ rfl rfl (aS aa40 zz40 rfl rfl rfl (v := (vQ (ap x.p y.p))) rfl), fun _ _ => cp _ rfl rfl (aS aa40 zz40 rfl rfl rfl (v := (vQ (aW x))) rfl), fun _ _ => eg (dl cc101 rfl (bH (ap x.p y.p) (aW x) (k + 15) (by omega) s1 (e8 s2 (by omega)))), fun _ _ => eg (dl cc101 rfl (bH (aj 2) (au (ap x.p y.p) (aW x)) (k + 13) (by omega) (e8 s14 (by omega)) s15)), fun _ _ => aq (fa uu53 rfl zz40 rfl rfl rfl (k' := 4)), fun _ _ => cp _ rfl rfl (aS aa40 zz40 rfl rfl rfl (v := (vQ x.r)) rfl), fun _ _ => eg (dl Tryz.call175 rfl (ib (ap (aM (au (ap x.p y.p) (ap x.p y.p)) x.r) y.r) (au (aj 2) (au (ap x.p y.p) (aW x))) x.r (k + 1) (by omega) s13 (e8 s16 (by omega)) (df zx (by omega)).2)), fun _ _ => aq (kK rfl rfl (r := ((dM (ap x.p y.p) (aW x) x.r) * (dM (ap (aM (au (ap x.p y.p) (ap x.p y.p)) x.r) y.r) (au (aj 2) (au (ap x.p y.p) (aW x))) x.r))) (by first | (rw [IntKind.wrap_i64]; omega) | exact ia (by omega) (by omega))), fun _ _ => aq (ae rfl), trivial⟩ ?_
   clear h ac wo; intro ξ ac wo hφ h
   replace h : St w0 65 [(4, (.int .i64 ((dM (ap x.p y.p) (aW x) x.r) * (dM (ap (aM (au (ap x.p y.p) (ap x.p y.p)) x.r) y.r) (au (aj 2) (au (ap x.p y.p) (aW x))) x.r))))] [.blk b2 (cR y) 53, .blk b1 (cR x) 53, .blk b3 (cQ (ap x.p y.p)) 40, .blk b4 (cQ (aW x)) 40, .blk b5 (cQ (bM (aW y))) 40, .blk b6 (cQ (ap (aM (au (ap x.p y.p) (ap x.p y.p)) x.r) y.r)) 40] ac wo := h.sub ⟨rfl, trivial⟩
   clear hφ ξ
   refine hK10 _ _ ?_
   refine e7 ?_
   have hd : ao x y = ((dM (ap x.p y.p) (aW x) x.r) * (dM (ap (aM (au (ap x.p y.p) (ap x.p y.p)) x.r) y.r) (au (aj 2) (au (ap x.p y.p) (aW x))) x.r)) := (Eq.trans (cF hc1) (cF hc2))
   exact ret h rfl (.tmp rfl .nil) rfl (h.retP (by rw [hd] <;> rfl) (by rw [hd]; exact by first | omega | exact eB (by omega) (by omega)))
def bU (n : Int) : GR :=
 (⟨(aj n), (⟨(⟨false, 0⟩ : GI), (⟨false, 0⟩ : GI)⟩ : GQ), false⟩ : GR)
theorem lc (n : Int) (k : Nat) (hk : k ≤ 40) (hn : -9223372036854775808 ≤ n ∧ n ≤ 9223372036854775807) (w0 : World) : Calls Tryz.prog 156 #[(.int .i64 n)] w0 (eE w0 (vR (bU n)) (SzR k (bU n))) := by
 refine enter (N := 6) (args := [(.int .i64 n)]) Tryz.func156 rfl rfl ?_; intro ac h
 have c1 := bJ n k (by omega)  (by omega)
 have s1 := ax (c1 w0)
 refine d8 fun K1 hK1 => ?_
 refine al h (cR (⟨oQ, oQ, false⟩ : GR)) Tryz.zeroValue53 rfl rfl fun b1 => gn hK1 <| gr fun K2 hK2 => g0 (af rfl) rfl <| gl cc45 rfl c1 rfl <| g0 (bG bld53 rfl rfl (v := (vR (⟨(aj n), oQ, false⟩ : GR))) rfl) rfl <| gs 0 (cR (⟨(aj n), oQ, false⟩ : GR)) rfl zz53 rfl rfl rfl rfl rfl rfl rfl <| gn hK2 <| gT ?_; clear h ac; intro ac wo h
 exact ret h rfl (.cell (v := (vR (⟨(aj n), oQ, false⟩ : GR))) rfl (i := 0) rfl aa53 zz53 rfl rfl rfl .nil) rfl (h.retP (by unfold bU; rfl) (by unfold bU; exact ⟨s1, ⟨(cB 0 (by decide) (by omega)), (cB 0 (by decide) (by omega))⟩⟩))
def aQ (i : Iv) : Bool :=
 (decide (i.lo = i.hi))
theorem d5 (i : Iv) (w0 : World) : Calls Tryz.prog 83 #[(vV i)] w0 (eE w0 (.bool (aQ i)) (True)) := by
 refine enter (N := 8) (args := [(vV i)]) Tryz.func83 rfl rfl ?_; intro ac h
 refine d8 fun K1 hK1 => ?_
 refine bx h (cV i) rfl rfl rfl fun b1 => g0 (ae rfl) rfl <| gn hK1 <| gr fun K2 hK2 => g0 (fa uu55 rfl zz53 rfl rfl rfl (k' := 0)) rfl <| g1 0 rfl (aS aa53 zz53 rfl rfl rfl (v := (vR i.lo)) rfl) rfl <| g0 (fa uu55 rfl zz53 rfl rfl rfl (k' := 9)) rfl <| g1 0 rfl (aS aa53 zz53 rfl rfl rfl (v := (vR i.hi)) rfl) rfl <| g0 (gC nU rfl rfl) rfl <| g0 (ae rfl) rfl <| gn hK2 <| gT ?_; clear h ac; intro ac wo h
 exact ret h rfl (.tmp rfl .nil) rfl (h.retP (by unfold aQ; rfl) trivial)
def cj (a : Iv) (b : Iv) : Bool :=
 ((decide ((ao a.hi b.lo) < 0)) || (((ao a.hi b.lo) == 0) && (a.openHi || b.openLo)))
theorem lh (a : Iv) (b : Iv) (k : Nat) (hk : (k + 20) ≤ 40) (za : SzV (k + 20) a) (zb : SzV (k + 20) b) (w0 : World) : Calls Tryz.prog 81 #[(vV a), (vV b)] w0 (eE w0 (.bool (cj a b)) (True)) := by
 refine enter (N := 25) (args := [(vV a), (vV b)]) Tryz.func81 rfl rfl ?_; intro ac h
 have p2 := ax ((aL a.hi b.lo k (by omega) za.2 zb.1) w0)
 refine d8 fun K1 hK1 => ?_
 refine bx h (cV a) rfl rfl rfl fun b1 => gb (cV b) rfl rfl rfl fun b2 => g0 (ae rfl) rfl <| gn hK1 <| gr fun K2 hK2 => g0 (fa uu55 rfl zz53 rfl rfl rfl (k' := 9)) rfl <| g1 1 rfl (aS aa53 zz53 rfl rfl rfl (v := (vR a.hi)) rfl) rfl <| g0 (fa uu55 rfl zz53 rfl rfl rfl (k' := 0)) rfl <| g1 0 rfl (aS aa53 zz53 rfl rfl rfl (v := (vR b.lo)) rfl) rfl <| gl cc115 rfl (aL a.hi b.lo k (by omega) za.2 zb.1) rfl <| g0 (ae rfl) rfl <| gn hK2 <| gr fun K3 hK3 => g0 (af rfl) rfl <| g0 (dk rfl rfl) rfl <| g0 (af rfl) rfl <| ge2 rfl rfl (fun hg => (Rd.of_nil (af rfl)).step) rfl <| ge2 rfl rfl (fun hg => (Rd.of_nil (es (an rfl hg) rfl)).step) rfl <| ge2 rfl rfl (fun hg => (Rd.of_nil (af (an rfl hg))).step) rfl <| ge3 rfl rfl (fun hg => (Rd.of_nil (fa uu55 rfl zz4 rfl rfl rfl (k' := 19))).step) rfl <| ge3 rfl rfl (fun hg => (Rd.of_mem (i := 1) (aS aa4 zz4 (an rfl hg) rfl rfl (v := (.bool a.openHi)) rfl) rfl).step) rfl <| ge3 rfl rfl (fun hg => (Rd.of_nil (af (an rfl hg))).step) rfl <| ge4 rfl rfl (fun hg => (Rd.of_nil (fa uu55 rfl zz4 rfl rfl rfl (k' := 18))).step) rfl <| ge4 rfl rfl (fun hg => (Rd.of_mem (i := 0) (aS aa4 zz4 (an rfl hg) rfl rfl (v := (.bool b.openLo)) rfl) rfl).step) rfl <| ge3 rfl rfl (fun hg => (Rd.of_nil (kI (an rfl hg) (fun e => (an rfl (ke hg (kM e)))))).step) rfl <| ge2 rfl rfl (fun hg => (Rd.of_nil (de (an rfl hg) (fun e => (an rfl (ke hg e))))).step) rfl <| g0 (kI rfl (fun e => (an rfl (kM e)))) rfl <| g0 (ae rfl) rfl <| gn hK3 <| gT ?_; clear h ac; intro ac wo h
 exact ret h rfl (.tmp rfl .nil) rfl (h.retP (by unfold cj; rfl) trivial)
def dc (a : Iv) (b : Iv) : Bool :=
 ((decide ((ao a.hi b.hi) < 0)) || (((ao a.hi b.hi) == 0) && (a.openHi || (!b.openHi))))
theorem g7 (a : Iv) (b : Iv) (k : Nat) (hk : (k + 20) ≤ 40) (za : SzV (k + 20) a) (zb : SzV (k + 20) b) (w0 : World) : Calls Tryz.prog 120 #[(vV a), (vV b)] w0 (eE w0 (.bool (dc a b)) (True)) := by
 refine enter (N := 26) (args := [(vV a), (vV b)]) Tryz.func120 rfl rfl ?_; intro ac h
 have p2 := ax ((aL a.hi b.hi k (by omega) za.2 zb.2) w0)
 refine d8 fun K1 hK1 => ?_
 refine bx h (cV a) rfl rfl rfl fun b1 => gb (cV b) rfl rfl rfl fun b2 => g0 (ae rfl) rfl <| gn hK1 <| gr fun K2 hK2 => g0 (fa uu55 rfl zz53 rfl rfl rfl (k' := 9)) rfl <| g1 1 rfl (aS aa53 zz53 rfl rfl rfl (v := (vR a.hi)) rfl) rfl <| g0 (fa uu55 rfl zz53 rfl rfl rfl (k' := 9)) rfl <| g1 0 rfl (aS aa53 zz53 rfl rfl rfl (v := (vR b.hi)) rfl) rfl <| gl cc115 rfl (aL a.hi b.hi k (by omega) za.2 zb.2) rfl <| g0 (ae rfl) rfl <| gn hK2 <| gr fun K3 hK3 => g0 (af rfl) rfl <| g0 (dk rfl rfl) rfl <| g0 (af rfl) rfl <| ge2 rfl rfl (fun hg => (Rd.of_nil (af rfl)).step) rfl <| ge2 rfl rfl (fun hg => (Rd.of_nil (es (an rfl hg) rfl)).step) rfl <| ge2 rfl rfl (fun hg => (Rd.of_nil (af (an rfl hg))).step) rfl <| ge3 rfl rfl (fun hg => (Rd.of_nil (fa uu55 rfl zz4 rfl rfl rfl (k' := 19))).step) rfl <| ge3 rfl rfl (fun hg => (Rd.of_mem (i := 1) (aS aa4 zz4 (an rfl hg) rfl rfl (v := (.bool a.openHi)) rfl) rfl).step) rfl <| ge3 rfl rfl (fun hg => (Rd.of_nil (af (an rfl hg))).step) rfl <| ge4 rfl rfl (fun hg => (Rd.of_nil (fa uu55 rfl zz4 rfl rfl rfl (k' := 19))).step) rfl <| ge4 rfl rfl (fun hg => (Rd.of_mem (i := 0) (aS aa4 zz4 (an rfl hg) rfl rfl (v := (.bool b.openHi)) rfl) rfl).step) rfl <| ge4 rfl rfl (fun hg => (Rd.of_nil (dV (an rfl hg))).step) rfl <| ge3 rfl rfl (fun hg => (Rd.of_nil (kI (an rfl hg) (fun e => (an rfl (ke hg (kM e)))))).step) rfl <| ge2 rfl rfl (fun hg => (Rd.of_nil (de (an rfl hg) (fun e => (an rfl (ke hg e))))).step) rfl <| g0 (kI rfl (fun e => (an rfl (kM e)))) rfl <| g0 (ae rfl) rfl <| gn hK3 <| gT ?_; clear h ac; intro ac wo h
 exact ret h rfl (.tmp rfl .nil) rfl (h.retP (by unfold dc; rfl) trivial)
def aU (a : Iv) (b : Iv) : Iv × Bool :=
 bif (decide ((ao a.lo b.lo) < 0)) then
  bif (decide ((ao a.hi b.hi) > 0)) then
   ((⟨b.lo, b.hi, b.openLo, b.openHi⟩ : Iv), ((decide ((ao b.lo b.hi) < 0)) || ((((ao b.lo b.hi) == 0) && (!b.openLo)) && (!b.openHi))))
  else
   bif ((ao a.hi b.hi) == 0) then
    ((⟨b.lo, a.hi, b.openLo, (a.openHi || b.openHi)⟩ : Iv), ((decide ((ao b.lo a.hi) < 0)) || ((((ao b.lo a.hi) == 0) && (!b.openLo)) && (!(a.openHi || b.openHi)))))
   else
    ((⟨b.lo, a.hi, b.openLo, a.openHi⟩ : Iv), ((decide ((ao b.lo a.hi) < 0)) || ((((ao b.lo a.hi) == 0) && (!b.openLo)) && (!a.openHi))))
 else
  bif ((ao a.lo b.lo) == 0) then
   bif (decide ((ao a.hi b.hi) > 0)) then
    ((⟨a.lo, b.hi, (a.openLo || b.openLo), b.openHi⟩ : Iv), ((decide ((ao a.lo b.hi) < 0)) || ((((ao a.lo b.hi) == 0) && (!(a.openLo || b.openLo))) && (!b.openHi))))
   else
    bif ((ao a.hi b.hi) == 0) then
     ((⟨a.lo, a.hi, (a.openLo || b.openLo), (a.openHi || b.openHi)⟩ : Iv), ((decide ((ao a.lo a.hi) < 0)) || ((((ao a.lo a.hi) == 0) && (!(a.openLo || b.openLo))) && (!(a.openHi || b.openHi)))))
    else
     ((⟨a.lo, a.hi, (a.openLo || b.openLo), a.openHi⟩ : Iv), ((decide ((ao a.lo a.hi) < 0)) || ((((ao a.lo a.hi) == 0) && (!(a.openLo || b.openLo))) && (!a.openHi))))
  else
   bif (decide ((ao a.hi b.hi) > 0)) then
    ((⟨a.lo, b.hi, a.openLo, b.openHi⟩ : Iv), ((decide ((ao a.lo b.hi) < 0)) || ((((ao a.lo b.hi) == 0) && (!a.openLo)) && (!b.openHi))))
   else
    bif ((ao a.hi b.hi) == 0) then
     ((⟨a.lo, a.hi, a.openLo, (a.openHi || b.openHi)⟩ : Iv), ((decide ((ao a.lo a.hi) < 0)) || ((((ao a.lo a.hi) == 0) && (!a.openLo)) && (!(a.openHi || b.openHi)))))
    else
     (a, ((decide ((ao a.lo a.hi) < 0)) || ((((ao a.lo a.hi) == 0) && (!a.openLo)) && (!a.openHi))))
theorem jr (a : Iv) (b : Iv) (k : Nat) (hk : (k + 20) ≤ 40) (za : SzV (k + 20) a) (zb : SzV (k + 20) b) (w0 : World) : Calls Tryz.prog 119 #[(vV a), (vV b)] w0 (eE w0 (.tuple #[(vV ((aU a b).1)), (.bool ((aU a b).2))]) (SzV k ((aU a b).1))) := by
 refine enter (N := 81) (args := [(vV a), (vV b)]) Tryz.func119 rfl rfl ?_; intro ac h
 have p2 := ax ((aL a.lo b.lo k (by omega) za.1 zb.1) w0)
 refine d8 fun K1 hK1 => ?_
 refine bx h (cV a) rfl rfl rfl fun b1 => gb (cV b) rfl rfl rfl fun b2 => ga (cV (⟨(⟨oQ, oQ, false⟩ : GR), (⟨oQ, oQ, false⟩ : GR), false, false⟩ : Iv)) vv55 rfl rfl fun b3 => g0 (ae rfl) rfl <| gn hK1 <| gr fun K2 hK2 => g1 2 rfl (aS aa55 zz55 rfl rfl rfl (v := (vV a)) rfl) rfl <| ga (cV (⟨(⟨oQ, oQ, false⟩ : GR), (⟨oQ, oQ, false⟩ : GR), false, false⟩ : Iv)) vv55 rfl rfl fun b4 => gs 0 (cV a) rfl zz55 rfl rfl rfl rfl rfl rfl rfl <| gn hK2 <| gq fun K3 hK3 => gr fun K4 hK4 => g0 (fa uu55 rfl zz53 rfl rfl rfl (k' := 0)) rfl <| g1 3 rfl (aS aa53 zz53 rfl rfl rfl (v := (vR a.lo)) rfl) rfl <| g0 (fa uu55 rfl zz53 rfl rfl rfl (k' := 0)) rfl <| g1 2 rfl (aS aa53 zz53 rfl rfl rfl (v := (vR b.lo)) rfl) rfl <| gl cc115 rfl (aL a.lo b.lo k (by omega) za.1 zb.1) rfl <| g0 (ae rfl) rfl <| gn hK4 <| gB <| gr fun K5 hK5 => g0 (af rfl) rfl <| g0 (dk rfl rfl) rfl <| g0 (ae rfl) rfl <| gn hK5 ?_; clear h ac; intro ac wo h
 refine dg h rfl (fun hc1 => ?_) (fun hc1 => ?_)
 ·
  have hd1 := of_decide_eq_true hc1
  refine cb mixed [dv _, dw _ [2], dv _, dw _ [2], dv _, dw _ [0], dv _, dw _ [0]] [⟨.blk b4 (cV a) 55, [(5, .con _), (7, .con _)]⟩, ⟨_, []⟩, ⟨_, []⟩, ⟨_, []⟩] h rfl (by kernel_rfl) ⟨fun _ _ => aq (fa uu55 rfl zz53 rfl rfl rfl (k' := 0)), fun _ _ => cp _ rfl rfl (aS aa53 zz53 rfl rfl rfl (v := (vR b.lo)) rfl), fun _ _ => aq (fa uu55 rfl zz4 rfl rfl rfl (k' := 18)), fun _ _ => cp _ rfl rfl (aS aa4 zz4 rfl rfl rfl (v := (.bool b.openLo)) rfl), fun _ _ => aq (fa uu55 rfl zz53 rfl rfl rfl (k' := 0)), fun _ _ => ff _ [.blk b4 (cV (⟨b.lo, a.hi, a.openLo, a.openHi⟩ : Iv)) 55] rfl rfl (fp zz53 rfl rfl rfl rfl rfl rfl rfl), fun _ _ => aq (fa uu55 rfl zz4 rfl rfl rfl (k' := 18)), fun _ _ => ff _ [.blk b4 (cV (⟨b.lo, a.hi, b.openLo, a.openHi⟩ : Iv)) 55] rfl rfl (fp zz4 rfl rfl rfl rfl rfl rfl rfl), trivial⟩ ?_
  clear h ac wo; intro ξ ac wo hφ h
  replace h : St w0 81 [(2, (ptr b1 0)), (3, (ptr b2 0)), (4, (ptr b3 0)), (6, (ptr b4 0))] [.blk b4 (cV (⟨b.lo, a.hi, b.openLo, a.openHi⟩ : Iv)) 55, .blk b3 (cV (⟨(⟨oQ, oQ, false⟩ : GR), (⟨oQ, oQ, false⟩ : GR), false, false⟩ : Iv)) 55, .blk b2 (cV b) 55, .blk b1 (cV a) 55] ac wo := h.sub ⟨rfl, rfl, rfl, rfl, trivial⟩
  clear hφ ξ
  have p4 := ax ((aL a.hi b.hi k (by omega) za.2 zb.2) w0)
  refine gz h <| gN <| gx hK3 <| gq fun K6 hK6 => gr fun K7 hK7 => g0 (fa uu55 rfl zz53 rfl rfl rfl (k' := 9)) rfl <| g1 3 rfl (aS aa53 zz53 rfl rfl rfl (v := (vR a.hi)) rfl) rfl <| g0 (fa uu55 rfl zz53 rfl rfl rfl (k' := 9)) rfl <| g1 2 rfl (aS aa53 zz53 rfl rfl rfl (v := (vR b.hi)) rfl) rfl <| gl cc115 rfl (aL a.hi b.hi k (by omega) za.2 zb.2) rfl <| g0 (ae rfl) rfl <| gn hK7 <| gB <| gr fun K8 hK8 => g0 (af rfl) rfl <| g0 (iZ rfl rfl) rfl <| g0 (ae rfl) rfl <| gn hK8 ?_; clear h ac wo; intro ac wo h
  refine dg h rfl (fun hc2 => ?_) (fun hc2 => ?_)
  ·
   have hd2 := of_decide_eq_true hc2
   refine cb mixed [dv _, dw _ [2], dv _, dw _ [2], dv _, dw _ [0], dv _, dw _ [0]] [⟨.blk b4 (cV (⟨b.lo, a.hi, b.openLo, a.openHi⟩ : Iv)) 55, [(5, .con _), (7, .con _)]⟩, ⟨_, []⟩, ⟨_, []⟩, ⟨_, []⟩] h rfl (by kernel_rfl) ⟨fun _ _ => aq (fa uu55 rfl zz53 rfl rfl rfl (k' := 9)), fun _ _ => cp _ rfl rfl (aS aa53 zz53 rfl rfl rfl (v := (vR b.hi)) rfl), fun _ _ => aq (fa uu55 rfl zz4 rfl rfl rfl (k' := 19)), fun _ _ => cp _ rfl rfl (aS aa4 zz4 rfl rfl rfl (v := (.bool b.openHi)) rfl), fun _ _ => aq (fa uu55 rfl zz53 rfl rfl rfl (k' := 9)), fun _ _ => ff _ [.blk b4 (cV (⟨b.lo, b.hi, b.openLo, a.openHi⟩ : Iv)) 55] rfl rfl (fp zz53 rfl rfl rfl rfl rfl rfl rfl), fun _ _ => aq (fa uu55 rfl zz4 rfl rfl rfl (k' := 19)), fun _ _ => ff _ [.blk b4 (cV (⟨b.lo, b.hi, b.openLo, b.openHi⟩ : Iv)) 55] rfl rfl (fp zz4 rfl rfl rfl rfl rfl rfl rfl), trivial⟩ ?_
   clear h ac wo; intro ξ ac wo hφ h
   replace h : St w0 81 [(4, (ptr b3 0)), (6, (ptr b4 0))] [.blk b4 (cV (⟨b.lo, b.hi, b.openLo, b.openHi⟩ : Iv)) 55, .blk b3 (cV (⟨(⟨oQ, oQ, false⟩ : GR), (⟨oQ, oQ, false⟩ : GR), false, false⟩ : Iv)) 55, .blk b2 (cV b) 55, .blk b1 (cV a) 55] ac wo := h.sub ⟨rfl, rfl, trivial⟩
   clear hφ ξ
   have p6 := ax ((aL b.lo b.hi k (by omega) zb.1 zb.2) w0)
   refine gz h <| gN <| gx hK6 <| gr fun K9 hK9 => g0 (fa uu55 rfl zz53 rfl rfl rfl (k' := 0)) rfl <| g1 0 rfl (aS aa53 zz53 rfl rfl rfl (v := (vR b.lo)) rfl) rfl <| g0 (fa uu55 rfl zz53 rfl rfl rfl (k' := 9)) rfl <| g1 0 rfl (aS aa53 zz53 rfl rfl rfl (v := (vR b.hi)) rfl) rfl <| gl cc115 rfl (aL b.lo b.hi k (by omega) zb.1 zb.2) rfl <| g0 (ae rfl) rfl <| gn hK9 <| gq fun K10 hK10 => ?_; clear h ac wo; intro ac wo h
   refine cb mixed [dw _ [0], dv _, dv _, dv _, dv _, dv _, dv _, dv _, dw _ [0], dv _, dv _, dv _, dv _, dw _ [0], dv _, dv _, dv _, dw _ [1], dv _] [⟨_, []⟩, ⟨.blk b3 (cV (⟨(⟨oQ, oQ, false⟩ : GR), (⟨oQ, oQ, false⟩ : GR), false, false⟩ : Iv)) 55, [(17, .con _)]⟩, ⟨_, []⟩, ⟨_, []⟩] h rfl (by kernel_rfl) ⟨fun _ _ => cp _ rfl rfl (aS aa55 zz55 rfl rfl rfl (v := (vV (⟨b.lo, b.hi, b.openLo, b.openHi⟩ : Iv))) rfl), fun _ _ => om rfl, fun _ _ => aq (dk rfl rfl), fun _ _ => om rfl, fun _ _ => og2 rfl rfl rfl rfl (fun hg => Rd.step (af rfl)), fun _ _ => og2 rfl rfl rfl rfl (fun hg => Rd.step (es (an rfl hg) rfl)), fun _ _ => og2 rfl rfl rfl rfl (fun hg => Rd.step (af (an rfl hg))), fun _ _ => og3 rfl rfl rfl rfl (fun hg => Rd.step (fa uu55 rfl zz4 rfl rfl rfl (k' := 18))), fun _ _ => og3 rfl rfl rfl rfl (fun hg => Rd.step (aS aa4 zz4 (an rfl hg) rfl rfl (v := (.bool b.openLo)) rfl)), fun _ _ => og3 rfl rfl rfl rfl (fun hg => Rd.step (dV (an rfl hg))), fun _ _ => og2 rfl rfl rfl rfl (fun hg => Rd.step (de (an rfl hg) (fun e => (an rfl (ke hg e))))), fun _ _ => og2 rfl rfl rfl rfl (fun hg => Rd.step (af (an rfl hg))), fun _ _ => og3 rfl rfl rfl rfl (fun hg => Rd.step (fa uu55 rfl zz4 rfl rfl rfl (k' := 19))), fun _ _ => og3 rfl rfl rfl rfl (fun hg => Rd.step (aS aa4 zz4 (an rfl hg) rfl rfl (v := (.bool b.openHi)) rfl)), fun _ _ => og3 rfl rfl rfl rfl (fun hg => Rd.step (dV (an rfl hg))), fun _ _ => og2 rfl rfl rfl rfl (fun hg => Rd.step (de (an rfl hg) (fun e => (an rfl (ke hg e))))), fun _ _ => aq (kI rfl (fun e => (an rfl (kM e)))), fun _ _ => ff _ [.blk b3 (cV (⟨b.lo, b.hi, b.openLo, b.openHi⟩ : Iv)) 55] rfl rfl (fp zz55 rfl rfl rfl rfl rfl rfl rfl), fun _ _ => aq (ae rfl), trivial⟩ ?_
   clear h ac wo; intro ξ ac wo hφ h
   replace h : St w0 81 [(4, (ptr b3 0)), (5, (.bool ((decide ((ao b.lo b.hi) < 0)) || ((((ao b.lo b.hi) == 0) && (!b.openLo)) && (!b.openHi)))))] [.blk b4 (cV (⟨b.lo, b.hi, b.openLo, b.openHi⟩ : Iv)) 55, .blk b3 (cV (⟨b.lo, b.hi, b.openLo, b.openHi⟩ : Iv)) 55, .blk b2 (cV b) 55, .blk b1 (cV a) 55] ac wo := h.sub ⟨rfl, rfl, trivial⟩
   clear hφ ξ
   refine hK10 _ _ ?_
   refine e7 ?_
   have hd : aU a b = ((⟨b.lo, b.hi, b.openLo, b.openHi⟩ : Iv), ((decide ((ao b.lo b.hi) < 0)) || ((((ao b.lo b.hi) == 0) && (!b.openLo)) && (!b.openHi)))) := (Eq.trans (cT hc1) (cT hc2))
   exact ret h rfl (.cell (v := (vV (⟨b.lo, b.hi, b.openLo, b.openHi⟩ : Iv))) rfl (i := 1) rfl aa55 zz55 rfl rfl rfl (.tmp rfl .nil)) rfl (h.retP (by rw [hd] <;> rfl) (by rw [hd]; exact ⟨(ft zb (by omega)).1, (ft zb (by omega)).2⟩))
  ·
   have hd2 := of_decide_eq_false hc2
   refine gz h <| gr fun K11 hK11 => g0 (af rfl) rfl <| g0 (es rfl rfl) rfl <| g0 (ae rfl) rfl <| gn hK11 ?_; clear h ac wo; intro ac wo h
   refine dg h rfl (fun hc3 => ?_) (fun hc3 => ?_)
   ·
    have hd3 := eq_of_beq hc3
    have p8 := ax ((aL b.lo a.hi k (by omega) zb.1 za.2) w0)
    refine gz h <| gR <| g0 (fa uu55 rfl zz4 rfl rfl rfl (k' := 19)) rfl <| g1 3 rfl (aS aa4 zz4 rfl rfl rfl (v := (.bool a.openHi)) rfl) rfl <| g0 (af rfl) rfl <| ge2 rfl rfl (fun hg => (Rd.of_nil (fa uu55 rfl zz4 rfl rfl rfl (k' := 19))).step) rfl <| ge2 rfl rfl (fun hg => (Rd.of_mem (i := 2) (aS aa4 zz4 (an rfl hg) rfl rfl (v := (.bool b.openHi)) rfl) rfl).step) rfl <| g0 (kI rfl (fun e => (an rfl (kM e)))) rfl <| g0 (fa uu55 rfl zz4 rfl rfl rfl (k' := 19)) rfl <| gs 0 (cV (⟨b.lo, a.hi, b.openLo, (a.openHi || b.openHi)⟩ : Iv)) rfl zz4 rfl rfl rfl rfl rfl rfl rfl <| gx (fun _ _ => bo) <| gN <| gx hK6 <| gr fun K12 hK12 => g0 (fa uu55 rfl zz53 rfl rfl rfl (k' := 0)) rfl <| g1 0 rfl (aS aa53 zz53 rfl rfl rfl (v := (vR b.lo)) rfl) rfl <| g0 (fa uu55 rfl zz53 rfl rfl rfl (k' := 9)) rfl <| g1 0 rfl (aS aa53 zz53 rfl rfl rfl (v := (vR a.hi)) rfl) rfl <| gl cc115 rfl (aL b.lo a.hi k (by omega) zb.1 za.2) rfl <| g0 (ae rfl) rfl <| gn hK12 <| gq fun K13 hK13 => ?_; clear h ac wo; intro ac wo h
    refine cb mixed [dw _ [0], dv _, dv _, dv _, dv _, dv _, dv _, dv _, dw _ [0], dv _, dv _, dv _, dv _, dw _ [0], dv _, dv _, dv _, dw _ [1], dv _] [⟨_, []⟩, ⟨.blk b3 (cV (⟨(⟨oQ, oQ, false⟩ : GR), (⟨oQ, oQ, false⟩ : GR), false, false⟩ : Iv)) 55, [(17, .con _)]⟩, ⟨_, []⟩, ⟨_, []⟩] h rfl (by kernel_rfl) ⟨fun _ _ => cp _ rfl rfl (aS aa55 zz55 rfl rfl rfl (v := (vV (⟨b.lo, a.hi, b.openLo, (a.openHi || b.openHi)⟩ : Iv))) rfl), fun _ _ => om rfl, fun _ _ => aq (dk rfl rfl), fun _ _ => om rfl, fun _ _ => og2 rfl rfl rfl rfl (fun hg => Rd.step (af rfl)), fun _ _ => og2 rfl rfl rfl rfl (fun hg => Rd.step (es (an rfl hg) rfl)), fun _ _ => og2 rfl rfl rfl rfl (fun hg => Rd.step (af (an rfl hg))), fun _ _ => og3 rfl rfl rfl rfl (fun hg => Rd.step (fa uu55 rfl zz4 rfl rfl rfl (k' := 18))), fun _ _ => og3 rfl rfl rfl rfl (fun hg => Rd.step (aS aa4 zz4 (an rfl hg) rfl rfl (v := (.bool b.openLo)) rfl)), fun _ _ => og3 rfl rfl rfl rfl (fun hg => Rd.step (dV (an rfl hg))), fun _ _ => og2 rfl rfl rfl rfl (fun hg => Rd.step (de (an rfl hg) (fun e => (an rfl (ke hg e))))), fun _ _ => og2 rfl rfl rfl rfl (fun hg => Rd.step (af (an rfl hg))), fun _ _ => og3 rfl rfl rfl rfl (fun hg => Rd.step (fa uu55 rfl zz4 rfl rfl rfl (k' := 19))), fun _ _ => og3 rfl rfl rfl rfl (fun hg => Rd.step (aS aa4 zz4 (an rfl hg) rfl rfl (v := (.bool (a.openHi || b.openHi))) rfl)), fun _ _ => og3 rfl rfl rfl rfl (fun hg => Rd.step (dV (an rfl hg))), fun _ _ => og2 rfl rfl rfl rfl (fun hg => Rd.step (de (an rfl hg) (fun e => (an rfl (ke hg e))))), fun _ _ => aq (kI rfl (fun e => (an rfl (kM e)))), fun _ _ => ff _ [.blk b3 (cV (⟨b.lo, a.hi, b.openLo, (a.openHi || b.openHi)⟩ : Iv)) 55] rfl rfl (fp zz55 rfl rfl rfl rfl rfl rfl rfl), fun _ _ => aq (ae rfl), trivial⟩ ?_
    clear h ac wo; intro ξ ac wo hφ h
    replace h : St w0 81 [(4, (ptr b3 0)), (5, (.bool ((decide ((ao b.lo a.hi) < 0)) || ((((ao b.lo a.hi) == 0) && (!b.openLo)) && (!(a.openHi || b.openHi))))))] [.blk b4 (cV (⟨b.lo, a.hi, b.openLo, (a.openHi || b.openHi)⟩ : Iv)) 55, .blk b3 (cV (⟨b.lo, a.hi, b.openLo, (a.openHi || b.openHi)⟩ : Iv)) 55, .blk b2 (cV b) 55, .blk b1 (cV a) 55] ac wo := h.sub ⟨rfl, rfl, trivial⟩
    clear hφ ξ
    refine hK13 _ _ ?_
    refine e7 ?_
    have hd : aU a b = ((⟨b.lo, a.hi, b.openLo, (a.openHi || b.openHi)⟩ : Iv), ((decide ((ao b.lo a.hi) < 0)) || ((((ao b.lo a.hi) == 0) && (!b.openLo)) && (!(a.openHi || b.openHi))))) := (Eq.trans (cT hc1) (Eq.trans (cF hc2) (cT hc3)))
    exact ret h rfl (.cell (v := (vV (⟨b.lo, a.hi, b.openLo, (a.openHi || b.openHi)⟩ : Iv))) rfl (i := 1) rfl aa55 zz55 rfl rfl rfl (.tmp rfl .nil)) rfl (h.retP (by rw [hd] <;> rfl) (by rw [hd]; exact ⟨(ft zb (by omega)).1, (ft za (by omega)).2⟩))
   ·
    have hd3 := ne_of_beq_false hc3
    have p10 := ax ((aL b.lo a.hi k (by omega) zb.1 za.2) w0)
    refine gz h <| gS <| gN <| gx hK6 <| gr fun K14 hK14 => g0 (fa uu55 rfl zz53 rfl rfl rfl (k' := 0)) rfl <| g1 0 rfl (aS aa53 zz53 rfl rfl rfl (v := (vR b.lo)) rfl) rfl <| g0 (fa uu55 rfl zz53 rfl rfl rfl (k' := 9)) rfl <| g1 0 rfl (aS aa53 zz53 rfl rfl rfl (v := (vR a.hi)) rfl) rfl <| gl cc115 rfl (aL b.lo a.hi k (by omega) zb.1 za.2) rfl <| g0 (ae rfl) rfl <| gn hK14 <| gq fun K15 hK15 => ?_; clear h ac wo; intro ac wo h
    refine cb mixed [dw _ [0], dv _, dv _, dv _, dv _, dv _, dv _, dv _, dw _ [0], dv _, dv _, dv _, dv _, dw _ [0], dv _, dv _, dv _, dw _ [1], dv _] [⟨_, []⟩, ⟨.blk b3 (cV (⟨(⟨oQ, oQ, false⟩ : GR), (⟨oQ, oQ, false⟩ : GR), false, false⟩ : Iv)) 55, [(17, .con _)]⟩, ⟨_, []⟩, ⟨_, []⟩] h rfl (by kernel_rfl) ⟨fun _ _ => cp _ rfl rfl (aS aa55 zz55 rfl rfl rfl (v := (vV (⟨b.lo, a.hi, b.openLo, a.openHi⟩ : Iv))) rfl), fun _ _ => om rfl, fun _ _ => aq (dk rfl rfl), fun _ _ => om rfl, fun _ _ => og2 rfl rfl rfl rfl (fun hg => Rd.step (af rfl)), fun _ _ => og2 rfl rfl rfl rfl (fun hg => Rd.step (es (an rfl hg) rfl)), fun _ _ => og2 rfl rfl rfl rfl (fun hg => Rd.step (af (an rfl hg))), fun _ _ => og3 rfl rfl rfl rfl (fun hg => Rd.step (fa uu55 rfl zz4 rfl rfl rfl (k' := 18))), fun _ _ => og3 rfl rfl rfl rfl (fun hg => Rd.step (aS aa4 zz4 (an rfl hg) rfl rfl (v := (.bool b.openLo)) rfl)), fun _ _ => og3 rfl rfl rfl rfl (fun hg => Rd.step (dV (an rfl hg))), fun _ _ => og2 rfl rfl rfl rfl (fun hg => Rd.step (de (an rfl hg) (fun e => (an rfl (ke hg e))))), fun _ _ => og2 rfl rfl rfl rfl (fun hg => Rd.step (af (an rfl hg))), fun _ _ => og3 rfl rfl rfl rfl (fun hg => Rd.step (fa uu55 rfl zz4 rfl rfl rfl (k' := 19))), fun _ _ => og3 rfl rfl rfl rfl (fun hg => Rd.step (aS aa4 zz4 (an rfl hg) rfl rfl (v := (.bool a.openHi)) rfl)), fun _ _ => og3 rfl rfl rfl rfl (fun hg => Rd.step (dV (an rfl hg))), fun _ _ => og2 rfl rfl rfl rfl (fun hg => Rd.step (de (an rfl hg) (fun e => (an rfl (ke hg e))))), fun _ _ => aq (kI rfl (fun e => (an rfl (kM e)))), fun _ _ => ff _ [.blk b3 (cV (⟨b.lo, a.hi, b.openLo, a.openHi⟩ : Iv)) 55] rfl rfl (fp zz55 rfl rfl rfl rfl rfl rfl rfl), fun _ _ => aq (ae rfl), trivial⟩ ?_
    clear h ac wo; intro ξ ac wo hφ h
    replace h : St w0 81 [(4, (ptr b3 0)), (5, (.bool ((decide ((ao b.lo a.hi) < 0)) || ((((ao b.lo a.hi) == 0) && (!b.openLo)) && (!a.openHi)))))] [.blk b4 (cV (⟨b.lo, a.hi, b.openLo, a.openHi⟩ : Iv)) 55, .blk b3 (cV (⟨b.lo, a.hi, b.openLo, a.openHi⟩ : Iv)) 55, .blk b2 (cV b) 55, .blk b1 (cV a) 55] ac wo := h.sub ⟨rfl, rfl, trivial⟩
    clear hφ ξ
    refine hK15 _ _ ?_
    refine e7 ?_
    have hd : aU a b = ((⟨b.lo, a.hi, b.openLo, a.openHi⟩ : Iv), ((decide ((ao b.lo a.hi) < 0)) || ((((ao b.lo a.hi) == 0) && (!b.openLo)) && (!a.openHi)))) := (Eq.trans (cT hc1) (Eq.trans (cF hc2) (cF hc3)))
    exact ret h rfl (.cell (v := (vV (⟨b.lo, a.hi, b.openLo, a.openHi⟩ : Iv))) rfl (i := 1) rfl aa55 zz55 rfl rfl rfl (.tmp rfl .nil)) rfl (h.retP (by rw [hd] <;> rfl) (by rw [hd]; exact ⟨(ft zb (by omega)).1, (ft za (by omega)).2⟩))
 ·
  have hd1 := of_decide_eq_false hc1
  refine gz h <| gr fun K16 hK16 => g0 (af rfl) rfl <| g0 (es rfl rfl) rfl <| g0 (ae rfl) rfl <| gn hK16 ?_; clear h ac wo; intro ac wo h
  refine dg h rfl (fun hc4 => ?_) (fun hc4 => ?_)
  ·
   have hd4 := eq_of_beq hc4
   have p12 := ax ((aL a.hi b.hi k (by omega) za.2 zb.2) w0)
   refine gz h <| gR <| g0 (fa uu55 rfl zz4 rfl rfl rfl (k' := 18)) rfl <| g1 3 rfl (aS aa4 zz4 rfl rfl rfl (v := (.bool a.openLo)) rfl) rfl <| g0 (af rfl) rfl <| ge2 rfl rfl (fun hg => (Rd.of_nil (fa uu55 rfl zz4 rfl rfl rfl (k' := 18))).step) rfl <| ge2 rfl rfl (fun hg => (Rd.of_mem (i := 2) (aS aa4 zz4 (an rfl hg) rfl rfl (v := (.bool b.openLo)) rfl) rfl).step) rfl <| g0 (kI rfl (fun e => (an rfl (kM e)))) rfl <| g0 (fa uu55 rfl zz4 rfl rfl rfl (k' := 18)) rfl <| gs 0 (cV (⟨a.lo, a.hi, (a.openLo || b.openLo), a.openHi⟩ : Iv)) rfl zz4 rfl rfl rfl rfl rfl rfl rfl <| gx (fun _ _ => bo) <| gN <| gx hK3 <| gq fun K17 hK17 => gr fun K18 hK18 => g0 (fa uu55 rfl zz53 rfl rfl rfl (k' := 9)) rfl <| g1 3 rfl (aS aa53 zz53 rfl rfl rfl (v := (vR a.hi)) rfl) rfl <| g0 (fa uu55 rfl zz53 rfl rfl rfl (k' := 9)) rfl <| g1 2 rfl (aS aa53 zz53 rfl rfl rfl (v := (vR b.hi)) rfl) rfl <| gl cc115 rfl (aL a.hi b.hi k (by omega) za.2 zb.2) rfl <| g0 (ae rfl) rfl <| gn hK18 <| gB <| gr fun K19 hK19 => g0 (af rfl) rfl <| g0 (iZ rfl rfl) rfl <| g0 (ae rfl) rfl <| gn hK19 ?_; clear h ac wo; intro ac wo h
   refine dg h rfl (fun hc5 => ?_) (fun hc5 => ?_)
   ·
    have hd5 := of_decide_eq_true hc5
    refine cb mixed [dv _, dw _ [2], dv _, dw _ [2], dv _, dw _ [0], dv _, dw _ [0]] [⟨.blk b4 (cV (⟨a.lo, a.hi, (a.openLo || b.openLo), a.openHi⟩ : Iv)) 55, [(5, .con _), (7, .con _)]⟩, ⟨_, []⟩, ⟨_, []⟩, ⟨_, []⟩] h rfl (by kernel_rfl) ⟨fun _ _ => aq (fa uu55 rfl zz53 rfl rfl rfl (k' := 9)), fun _ _ => cp _ rfl rfl (aS aa53 zz53 rfl rfl rfl (v := (vR b.hi)) rfl), fun _ _ => aq (fa uu55 rfl zz4 rfl rfl rfl (k' := 19)), fun _ _ => cp _ rfl rfl (aS aa4 zz4 rfl rfl rfl (v := (.bool b.openHi)) rfl), fun _ _ => aq (fa uu55 rfl zz53 rfl rfl rfl (k' := 9)), fun _ _ => ff _ [.blk b4 (cV (⟨a.lo, b.hi, (a.openLo || b.openLo), a.openHi⟩ : Iv)) 55] rfl rfl (fp zz53 rfl rfl rfl rfl rfl rfl rfl), fun _ _ => aq (fa uu55 rfl zz4 rfl rfl rfl (k' := 19)), fun _ _ => ff _ [.blk b4 (cV (⟨a.lo, b.hi, (a.openLo || b.openLo), b.openHi⟩ : Iv)) 55] rfl rfl (fp zz4 rfl rfl rfl rfl rfl rfl rfl), trivial⟩ ?_
    clear h ac wo; intro ξ ac wo hφ h
    replace h : St w0 81 [(4, (ptr b3 0)), (6, (ptr b4 0))] [.blk b4 (cV (⟨a.lo, b.hi, (a.openLo || b.openLo), b.openHi⟩ : Iv)) 55, .blk b3 (cV (⟨(⟨oQ, oQ, false⟩ : GR), (⟨oQ, oQ, false⟩ : GR), false, false⟩ : Iv)) 55, .blk b2 (cV b) 55, .blk b1 (cV a) 55] ac wo := h.sub ⟨rfl, rfl, trivial⟩
    clear hφ ξ
    have p14 := ax ((aL a.lo b.hi k (by omega) za.1 zb.2) w0)
    refine gz h <| gN <| gx hK17 <| gr fun K20 hK20 => g0 (fa uu55 rfl zz53 rfl rfl rfl (k' := 0)) rfl <| g1 0 rfl (aS aa53 zz53 rfl rfl rfl (v := (vR a.lo)) rfl) rfl <| g0 (fa uu55 rfl zz53 rfl rfl rfl (k' := 9)) rfl <| g1 0 rfl (aS aa53 zz53 rfl rfl rfl (v := (vR b.hi)) rfl) rfl <| gl cc115 rfl (aL a.lo b.hi k (by omega) za.1 zb.2) rfl <| g0 (ae rfl) rfl <| gn hK20 <| gq fun K21 hK21 => ?_; clear h ac wo; intro ac wo h
    refine cb mixed [dw _ [0], dv _, dv _, dv _, dv _, dv _, dv _, dv _, dw _ [0], dv _, dv _, dv _, dv _, dw _ [0], dv _, dv _, dv _, dw _ [1], dv _] [⟨_, []⟩, ⟨.blk b3 (cV (⟨(⟨oQ, oQ, false⟩ : GR), (⟨oQ, oQ, false⟩ : GR), false, false⟩ : Iv)) 55, [(17, .con _)]⟩, ⟨_, []⟩, ⟨_, []⟩] h rfl (by kernel_rfl) ⟨fun _ _ => cp _ rfl rfl (aS aa55 zz55 rfl rfl rfl (v := (vV (⟨a.lo, b.hi, (a.openLo || b.openLo), b.openHi⟩ : Iv))) rfl), fun _ _ => om rfl, fun _ _ => aq (dk rfl rfl), fun _ _ => om rfl, fun _ _ => og2 rfl rfl rfl rfl (fun hg => Rd.step (af rfl)), fun _ _ => og2 rfl rfl rfl rfl (fun hg => Rd.step (es (an rfl hg) rfl)), fun _ _ => og2 rfl rfl rfl rfl (fun hg => Rd.step (af (an rfl hg))), fun _ _ => og3 rfl rfl rfl rfl (fun hg => Rd.step (fa uu55 rfl zz4 rfl rfl rfl (k' := 18))), fun _ _ => og3 rfl rfl rfl rfl (fun hg => Rd.step (aS aa4 zz4 (an rfl hg) rfl rfl (v := (.bool (a.openLo || b.openLo))) rfl)), fun _ _ => og3 rfl rfl rfl rfl (fun hg => Rd.step (dV (an rfl hg))), fun _ _ => og2 rfl rfl rfl rfl (fun hg => Rd.step (de (an rfl hg) (fun e => (an rfl (ke hg e))))), fun _ _ => og2 rfl rfl rfl rfl (fun hg => Rd.step (af (an rfl hg))), fun _ _ => og3 rfl rfl rfl rfl (fun hg => Rd.step (fa uu55 rfl zz4 rfl rfl rfl (k' := 19))), fun _ _ => og3 rfl rfl rfl rfl (fun hg => Rd.step (aS aa4 zz4 (an rfl hg) rfl rfl (v := (.bool b.openHi)) rfl)), fun _ _ => og3 rfl rfl rfl rfl (fun hg => Rd.step (dV (an rfl hg))), fun _ _ => og2 rfl rfl rfl rfl (fun hg => Rd.step (de (an rfl hg) (fun e => (an rfl (ke hg e))))), fun _ _ => aq (kI rfl (fun e => (an rfl (kM e)))), fun _ _ => ff _ [.blk b3 (cV (⟨a.lo, b.hi, (a.openLo || b.openLo), b.openHi⟩ : Iv)) 55] rfl rfl (fp zz55 rfl rfl rfl rfl rfl rfl rfl), fun _ _ => aq (ae rfl), trivial⟩ ?_
    clear h ac wo; intro ξ ac wo hφ h
    replace h : St w0 81 [(4, (ptr b3 0)), (5, (.bool ((decide ((ao a.lo b.hi) < 0)) || ((((ao a.lo b.hi) == 0) && (!(a.openLo || b.openLo))) && (!b.openHi)))))] [.blk b4 (cV (⟨a.lo, b.hi, (a.openLo || b.openLo), b.openHi⟩ : Iv)) 55, .blk b3 (cV (⟨a.lo, b.hi, (a.openLo || b.openLo), b.openHi⟩ : Iv)) 55, .blk b2 (cV b) 55, .blk b1 (cV a) 55] ac wo := h.sub ⟨rfl, rfl, trivial⟩
    clear hφ ξ
    refine hK21 _ _ ?_
    refine e7 ?_
    have hd : aU a b = ((⟨a.lo, b.hi, (a.openLo || b.openLo), b.openHi⟩ : Iv), ((decide ((ao a.lo b.hi) < 0)) || ((((ao a.lo b.hi) == 0) && (!(a.openLo || b.openLo))) && (!b.openHi)))) := (Eq.trans (cF hc1) (Eq.trans (cT hc4) (cT hc5)))
    exact ret h rfl (.cell (v := (vV (⟨a.lo, b.hi, (a.openLo || b.openLo), b.openHi⟩ : Iv))) rfl (i := 1) rfl aa55 zz55 rfl rfl rfl (.tmp rfl .nil)) rfl (h.retP (by rw [hd] <;> rfl) (by rw [hd]; exact ⟨(ft za (by omega)).1, (ft zb (by omega)).2⟩))
   ·
    have hd5 := of_decide_eq_false hc5
    refine gz h <| gr fun K22 hK22 => g0 (af rfl) rfl <| g0 (es rfl rfl) rfl <| g0 (ae rfl) rfl <| gn hK22 ?_; clear h ac wo; intro ac wo h
    refine dg h rfl (fun hc6 => ?_) (fun hc6 => ?_)
    ·
     have hd6 := eq_of_beq hc6
     have p16 := ax ((aL a.lo a.hi k (by omega) za.1 za.2) w0)
     refine gz h <| gR <| g0 (fa uu55 rfl zz4 rfl rfl rfl (k' := 19)) rfl <| g1 3 rfl (aS aa4 zz4 rfl rfl rfl (v := (.bool a.openHi)) rfl) rfl <| g0 (af rfl) rfl <| ge2 rfl rfl (fun hg => (Rd.of_nil (fa uu55 rfl zz4 rfl rfl rfl (k' := 19))).step) rfl <| ge2 rfl rfl (fun hg => (Rd.of_mem (i := 2) (aS aa4 zz4 (an rfl hg) rfl rfl (v := (.bool b.openHi)) rfl) rfl).step) rfl <| g0 (kI rfl (fun e => (an rfl (kM e)))) rfl <| g0 (fa uu55 rfl zz4 rfl rfl rfl (k' := 19)) rfl <| gs 0 (cV (⟨a.lo, a.hi, (a.openLo || b.openLo), (a.openHi || b.openHi)⟩ : Iv)) rfl zz4 rfl rfl rfl rfl rfl rfl rfl <| gx (fun _ _ => bo) <| gN <| gx hK17 <| gr fun K23 hK23 => g0 (fa uu55 rfl zz53 rfl rfl rfl (k' := 0)) rfl <| g1 0 rfl (aS aa53 zz53 rfl rfl rfl (v := (vR a.lo)) rfl) rfl <| g0 (fa uu55 rfl zz53 rfl rfl rfl (k' := 9)) rfl <| g1 0 rfl (aS aa53 zz53 rfl rfl rfl (v := (vR a.hi)) rfl) rfl <| gl cc115 rfl (aL a.lo a.hi k (by omega) za.1 za.2) rfl <| g0 (ae rfl) rfl <| gn hK23 <| gq fun K24 hK24 => ?_; clear h ac wo; intro ac wo h
     refine cb mixed [dw _ [0], dv _, dv _, dv _, dv _, dv _, dv _, dv _, dw _ [0], dv _, dv _, dv _, dv _, dw _ [0], dv _, dv _, dv _, dw _ [1], dv _] [⟨_, []⟩, ⟨.blk b3 (cV (⟨(⟨oQ, oQ, false⟩ : GR), (⟨oQ, oQ, false⟩ : GR), false, false⟩ : Iv)) 55, [(17, .con _)]⟩, ⟨_, []⟩, ⟨_, []⟩] h rfl (by kernel_rfl) ⟨fun _ _ => cp _ rfl rfl (aS aa55 zz55 rfl rfl rfl (v := (vV (⟨a.lo, a.hi, (a.openLo || b.openLo), (a.openHi || b.openHi)⟩ : Iv))) rfl), fun _ _ => om rfl, fun _ _ => aq (dk rfl rfl), fun _ _ => om rfl, fun _ _ => og2 rfl rfl rfl rfl (fun hg => Rd.step (af rfl)), fun _ _ => og2 rfl rfl rfl rfl (fun hg => Rd.step (es (an rfl hg) rfl)), fun _ _ => og2 rfl rfl rfl rfl (fun hg => Rd.step (af (an rfl hg))), fun _ _ => og3 rfl rfl rfl rfl (fun hg => Rd.step (fa uu55 rfl zz4 rfl rfl rfl (k' := 18))), fun _ _ => og3 rfl rfl rfl rfl (fun hg => Rd.step (aS aa4 zz4 (an rfl hg) rfl rfl (v := (.bool (a.openLo || b.openLo))) rfl)), fun _ _ => og3 rfl rfl rfl rfl (fun hg => Rd.step (dV (an rfl hg))), fun _ _ => og2 rfl rfl rfl rfl (fun hg => Rd.step (de (an rfl hg) (fun e => (an rfl (ke hg e))))), fun _ _ => og2 rfl rfl rfl rfl (fun hg => Rd.step (af (an rfl hg))), fun _ _ => og3 rfl rfl rfl rfl (fun hg => Rd.step (fa uu55 rfl zz4 rfl rfl rfl (k' := 19))), fun _ _ => og3 rfl rfl rfl rfl (fun hg => Rd.step (aS aa4 zz4 (an rfl hg) rfl rfl (v := (.bool (a.openHi || b.openHi))) rfl)), fun _ _ => og3 rfl rfl rfl rfl (fun hg => Rd.step (dV (an rfl hg))), fun _ _ => og2 rfl rfl rfl rfl (fun hg => Rd.step (de (an rfl hg) (fun e => (an rfl (ke hg e))))), fun _ _ => aq (kI rfl (fun e => (an rfl (kM e)))), fun _ _ => ff _ [.blk b3 (cV (⟨a.lo, a.hi, (a.openLo || b.openLo), (a.openHi || b.openHi)⟩ : Iv)) 55] rfl rfl (fp zz55 rfl rfl rfl rfl rfl rfl rfl), fun _ _ => aq (ae rfl), trivial⟩ ?_
     clear h ac wo; intro ξ ac wo hφ h
     replace h : St w0 81 [(4, (ptr b3 0)), (5, (.bool ((decide ((ao a.lo a.hi) < 0)) || ((((ao a.lo a.hi) == 0) && (!(a.openLo || b.openLo))) && (!(a.openHi || b.openHi))))))] [.blk b4 (cV (⟨a.lo, a.hi, (a.openLo || b.openLo), (a.openHi || b.openHi)⟩ : Iv)) 55, .blk b3 (cV (⟨a.lo, a.hi, (a.openLo || b.openLo), (a.openHi || b.openHi)⟩ : Iv)) 55, .blk b2 (cV b) 55, .blk b1 (cV a) 55] ac wo := h.sub ⟨rfl, rfl, trivial⟩
     clear hφ ξ
     refine hK24 _ _ ?_
     refine e7 ?_
     have hd : aU a b = ((⟨a.lo, a.hi, (a.openLo || b.openLo), (a.openHi || b.openHi)⟩ : Iv), ((decide ((ao a.lo a.hi) < 0)) || ((((ao a.lo a.hi) == 0) && (!(a.openLo || b.openLo))) && (!(a.openHi || b.openHi))))) := (Eq.trans (cF hc1) (Eq.trans (cT hc4) (Eq.trans (cF hc5) (cT hc6))))
     exact ret h rfl (.cell (v := (vV (⟨a.lo, a.hi, (a.openLo || b.openLo), (a.openHi || b.openHi)⟩ : Iv))) rfl (i := 1) rfl aa55 zz55 rfl rfl rfl (.tmp rfl .nil)) rfl (h.retP (by rw [hd] <;> rfl) (by rw [hd]; exact ⟨(ft za (by omega)).1, (ft za (by omega)).2⟩))
    ·
     have hd6 := ne_of_beq_false hc6
     have p18 := ax ((aL a.lo a.hi k (by omega) za.1 za.2) w0)
     refine gz h <| gS <| gN <| gx hK17 <| gr fun K25 hK25 => g0 (fa uu55 rfl zz53 rfl rfl rfl (k' := 0)) rfl <| g1 0 rfl (aS aa53 zz53 rfl rfl rfl (v := (vR a.lo)) rfl) rfl <| g0 (fa uu55 rfl zz53 rfl rfl rfl (k' := 9)) rfl <| g1 0 rfl (aS aa53 zz53 rfl rfl rfl (v := (vR a.hi)) rfl) rfl <| gl cc115 rfl (aL a.lo a.hi k (by omega) za.1 za.2) rfl <| g0 (ae rfl) rfl <| gn hK25 <| gq fun K26 hK26 => ?_; clear h ac wo; intro ac wo h
     refine cb mixed [dw _ [0], dv _, dv _, dv _, dv _, dv _, dv _, dv _, dw _ [0], dv _, dv _, dv _, dv _, dw _ [0], dv _, dv _, dv _, dw _ [1], dv _] [⟨_, []⟩, ⟨.blk b3 (cV (⟨(⟨oQ, oQ, false⟩ : GR), (⟨oQ, oQ, false⟩ : GR), false, false⟩ : Iv)) 55, [(17, .con _)]⟩, ⟨_, []⟩, ⟨_, []⟩] h rfl (by kernel_rfl) ⟨fun _ _ => cp _ rfl rfl (aS aa55 zz55 rfl rfl rfl (v := (vV (⟨a.lo, a.hi, (a.openLo || b.openLo), a.openHi⟩ : Iv))) rfl), fun _ _ => om rfl, fun _ _ => aq (dk rfl rfl), fun _ _ => om rfl, fun _ _ => og2 rfl rfl rfl rfl (fun hg => Rd.step (af rfl)), fun _ _ => og2 rfl rfl rfl rfl (fun hg => Rd.step (es (an rfl hg) rfl)), fun _ _ => og2 rfl rfl rfl rfl (fun hg => Rd.step (af (an rfl hg))), fun _ _ => og3 rfl rfl rfl rfl (fun hg => Rd.step (fa uu55 rfl zz4 rfl rfl rfl (k' := 18))), fun _ _ => og3 rfl rfl rfl rfl (fun hg => Rd.step (aS aa4 zz4 (an rfl hg) rfl rfl (v := (.bool (a.openLo || b.openLo))) rfl)), fun _ _ => og3 rfl rfl rfl rfl (fun hg => Rd.step (dV (an rfl hg))), fun _ _ => og2 rfl rfl rfl rfl (fun hg => Rd.step (de (an rfl hg) (fun e => (an rfl (ke hg e))))), fun _ _ => og2 rfl rfl rfl rfl (fun hg => Rd.step (af (an rfl hg))), fun _ _ => og3 rfl rfl rfl rfl (fun hg => Rd.step (fa uu55 rfl zz4 rfl rfl rfl (k' := 19))), fun _ _ => og3 rfl rfl rfl rfl (fun hg => Rd.step (aS aa4 zz4 (an rfl hg) rfl rfl (v := (.bool a.openHi)) rfl)), fun _ _ => og3 rfl rfl rfl rfl (fun hg => Rd.step (dV (an rfl hg))), fun _ _ => og2 rfl rfl rfl rfl (fun hg => Rd.step (de (an rfl hg) (fun e => (an rfl (ke hg e))))), fun _ _ => aq (kI rfl (fun e => (an rfl (kM e)))), fun _ _ => ff _ [.blk b3 (cV (⟨a.lo, a.hi, (a.openLo || b.openLo), a.openHi⟩ : Iv)) 55] rfl rfl (fp zz55 rfl rfl rfl rfl rfl rfl rfl), fun _ _ => aq (ae rfl), trivial⟩ ?_
     clear h ac wo; intro ξ ac wo hφ h
     replace h : St w0 81 [(4, (ptr b3 0)), (5, (.bool ((decide ((ao a.lo a.hi) < 0)) || ((((ao a.lo a.hi) == 0) && (!(a.openLo || b.openLo))) && (!a.openHi)))))] [.blk b4 (cV (⟨a.lo, a.hi, (a.openLo || b.openLo), a.openHi⟩ : Iv)) 55, .blk b3 (cV (⟨a.lo, a.hi, (a.openLo || b.openLo), a.openHi⟩ : Iv)) 55, .blk b2 (cV b) 55, .blk b1 (cV a) 55] ac wo := h.sub ⟨rfl, rfl, trivial⟩
     clear hφ ξ
     refine hK26 _ _ ?_
     refine e7 ?_
     have hd : aU a b = ((⟨a.lo, a.hi, (a.openLo || b.openLo), a.openHi⟩ : Iv), ((decide ((ao a.lo a.hi) < 0)) || ((((ao a.lo a.hi) == 0) && (!(a.openLo || b.openLo))) && (!a.openHi)))) := (Eq.trans (cF hc1) (Eq.trans (cT hc4) (Eq.trans (cF hc5) (cF hc6))))
     exact ret h rfl (.cell (v := (vV (⟨a.lo, a.hi, (a.openLo || b.openLo), a.openHi⟩ : Iv))) rfl (i := 1) rfl aa55 zz55 rfl rfl rfl (.tmp rfl .nil)) rfl (h.retP (by rw [hd] <;> rfl) (by rw [hd]; exact ⟨(ft za (by omega)).1, (ft za (by omega)).2⟩))
  ·
   have hd4 := ne_of_beq_false hc4
   have p20 := ax ((aL a.hi b.hi k (by omega) za.2 zb.2) w0)
   refine gz h <| gS <| gN <| gx hK3 <| gq fun K27 hK27 => gr fun K28 hK28 => g0 (fa uu55 rfl zz53 rfl rfl rfl (k' := 9)) rfl <| g1 3 rfl (aS aa53 zz53 rfl rfl rfl (v := (vR a.hi)) rfl) rfl <| g0 (fa uu55 rfl zz53 rfl rfl rfl (k' := 9)) rfl <| g1 2 rfl (aS aa53 zz53 rfl rfl rfl (v := (vR b.hi)) rfl) rfl <| gl cc115 rfl (aL a.hi b.hi k (by omega) za.2 zb.2) rfl <| g0 (ae rfl) rfl <| gn hK28 <| gB <| gr fun K29 hK29 => g0 (af rfl) rfl <| g0 (iZ rfl rfl) rfl <| g0 (ae rfl) rfl <| gn hK29 ?_; clear h ac wo; intro ac wo h
   refine dg h rfl (fun hc7 => ?_) (fun hc7 => ?_)
   ·
    have hd7 := of_decide_eq_true hc7
    refine cb mixed [dv _, dw _ [2], dv _, dw _ [2], dv _, dw _ [0], dv _, dw _ [0]] [⟨.blk b4 (cV a) 55, [(5, .con _), (7, .con _)]⟩, ⟨_, []⟩, ⟨_, []⟩, ⟨_, []⟩] h rfl (by kernel_rfl) ⟨fun _ _ => aq (fa uu55 rfl zz53 rfl rfl rfl (k' := 9)), fun _ _ => cp _ rfl rfl (aS aa53 zz53 rfl rfl rfl (v := (vR b.hi)) rfl), fun _ _ => aq (fa uu55 rfl zz4 rfl rfl rfl (k' := 19)), fun _ _ => cp _ rfl rfl (aS aa4 zz4 rfl rfl rfl (v := (.bool b.openHi)) rfl), fun _ _ => aq (fa uu55 rfl zz53 rfl rfl rfl (k' := 9)), fun _ _ => ff _ [.blk b4 (cV (⟨a.lo, b.hi, a.openLo, a.openHi⟩ : Iv)) 55] rfl rfl (fp zz53 rfl rfl rfl rfl rfl rfl rfl), fun _ _ => aq (fa uu55 rfl zz4 rfl rfl rfl (k' := 19)), fun _ _ => ff _ [.blk b4 (cV (⟨a.lo, b.hi, a.openLo, b.openHi⟩ : Iv)) 55] rfl rfl (fp zz4 rfl rfl rfl rfl rfl rfl rfl), trivial⟩ ?_
    clear h ac wo; intro ξ ac wo hφ h
    replace h : St w0 81 [(4, (ptr b3 0)), (6, (ptr b4 0))] [.blk b4 (cV (⟨a.lo, b.hi, a.openLo, b.openHi⟩ : Iv)) 55, .blk b3 (cV (⟨(⟨oQ, oQ, false⟩ : GR), (⟨oQ, oQ, false⟩ : GR), false, false⟩ : Iv)) 55, .blk b2 (cV b) 55, .blk b1 (cV a) 55] ac wo := h.sub ⟨rfl, rfl, trivial⟩
    clear hφ ξ
    have p22 := ax ((aL a.lo b.hi k (by omega) za.1 zb.2) w0)
    refine gz h <| gN <| gx hK27 <| gr fun K30 hK30 => g0 (fa uu55 rfl zz53 rfl rfl rfl (k' := 0)) rfl <| g1 0 rfl (aS aa53 zz53 rfl rfl rfl (v := (vR a.lo)) rfl) rfl <| g0 (fa uu55 rfl zz53 rfl rfl rfl (k' := 9)) rfl <| g1 0 rfl (aS aa53 zz53 rfl rfl rfl (v := (vR b.hi)) rfl) rfl <| gl cc115 rfl (aL a.lo b.hi k (by omega) za.1 zb.2) rfl <| g0 (ae rfl) rfl <| gn hK30 <| gq fun K31 hK31 => ?_; clear h ac wo; intro ac wo h
    refine cb mixed [dw _ [0], dv _, dv _, dv _, dv _, dv _, dv _, dv _, dw _ [0], dv _, dv _, dv _, dv _, dw _ [0], dv _, dv _, dv _, dw _ [1], dv _] [⟨_, []⟩, ⟨.blk b3 (cV (⟨(⟨oQ, oQ, false⟩ : GR), (⟨oQ, oQ, false⟩ : GR), false, false⟩ : Iv)) 55, [(17, .con _)]⟩, ⟨_, []⟩, ⟨_, []⟩] h rfl (by kernel_rfl) ⟨fun _ _ => cp _ rfl rfl (aS aa55 zz55 rfl rfl rfl (v := (vV (⟨a.lo, b.hi, a.openLo, b.openHi⟩ : Iv))) rfl), fun _ _ => om rfl, fun _ _ => aq (dk rfl rfl), fun _ _ => om rfl, fun _ _ => og2 rfl rfl rfl rfl (fun hg => Rd.step (af rfl)), fun _ _ => og2 rfl rfl rfl rfl (fun hg => Rd.step (es (an rfl hg) rfl)), fun _ _ => og2 rfl rfl rfl rfl (fun hg => Rd.step (af (an rfl hg))), fun _ _ => og3 rfl rfl rfl rfl (fun hg => Rd.step (fa uu55 rfl zz4 rfl rfl rfl (k' := 18))), fun _ _ => og3 rfl rfl rfl rfl (fun hg => Rd.step (aS aa4 zz4 (an rfl hg) rfl rfl (v := (.bool a.openLo)) rfl)), fun _ _ => og3 rfl rfl rfl rfl (fun hg => Rd.step (dV (an rfl hg))), fun _ _ => og2 rfl rfl rfl rfl (fun hg => Rd.step (de (an rfl hg) (fun e => (an rfl (ke hg e))))), fun _ _ => og2 rfl rfl rfl rfl (fun hg => Rd.step (af (an rfl hg))), fun _ _ => og3 rfl rfl rfl rfl (fun hg => Rd.step (fa uu55 rfl zz4 rfl rfl rfl (k' := 19))), fun _ _ => og3 rfl rfl rfl rfl (fun hg => Rd.step (aS aa4 zz4 (an rfl hg) rfl rfl (v := (.bool b.openHi)) rfl)), fun _ _ => og3 rfl rfl rfl rfl (fun hg => Rd.step (dV (an rfl hg))), fun _ _ => og2 rfl rfl rfl rfl (fun hg => Rd.step (de (an rfl hg) (fun e => (an rfl (ke hg e))))), fun _ _ => aq (kI rfl (fun e => (an rfl (kM e)))), fun _ _ => ff _ [.blk b3 (cV (⟨a.lo, b.hi, a.openLo, b.openHi⟩ : Iv)) 55] rfl rfl (fp zz55 rfl rfl rfl rfl rfl rfl rfl), fun _ _ => aq (ae rfl), trivial⟩ ?_
    clear h ac wo; intro ξ ac wo hφ h
    replace h : St w0 81 [(4, (ptr b3 0)), (5, (.bool ((decide ((ao a.lo b.hi) < 0)) || ((((ao a.lo b.hi) == 0) && (!a.openLo)) && (!b.openHi)))))] [.blk b4 (cV (⟨a.lo, b.hi, a.openLo, b.openHi⟩ : Iv)) 55, .blk b3 (cV (⟨a.lo, b.hi, a.openLo, b.openHi⟩ : Iv)) 55, .blk b2 (cV b) 55, .blk b1 (cV a) 55] ac wo := h.sub ⟨rfl, rfl, trivial⟩
    clear hφ ξ
    refine hK31 _ _ ?_
    refine e7 ?_
    have hd : aU a b = ((⟨a.lo, b.hi, a.openLo, b.openHi⟩ : Iv), ((decide ((ao a.lo b.hi) < 0)) || ((((ao a.lo b.hi) == 0) && (!a.openLo)) && (!b.openHi)))) := (Eq.trans (cF hc1) (Eq.trans (cF hc4) (cT hc7)))
    exact ret h rfl (.cell (v := (vV (⟨a.lo, b.hi, a.openLo, b.openHi⟩ : Iv))) rfl (i := 1) rfl aa55 zz55 rfl rfl rfl (.tmp rfl .nil)) rfl (h.retP (by rw [hd] <;> rfl) (by rw [hd]; exact ⟨(ft za (by omega)).1, (ft zb (by omega)).2⟩))
   ·
    have hd7 := of_decide_eq_false hc7
    refine gz h <| gr fun K32 hK32 => g0 (af rfl) rfl <| g0 (es rfl rfl) rfl <| g0 (ae rfl) rfl <| gn hK32 ?_; clear h ac wo; intro ac wo h
    refine dg h rfl (fun hc8 => ?_) (fun hc8 => ?_)
    ·
     have hd8 := eq_of_beq hc8
     have p24 := ax ((aL a.lo a.hi k (by omega) za.1 za.2) w0)
     refine gz h <| gR <| g0 (fa uu55 rfl zz4 rfl rfl rfl (k' := 19)) rfl <| g1 3 rfl (aS aa4 zz4 rfl rfl rfl (v := (.bool a.openHi)) rfl) rfl <| g0 (af rfl) rfl <| ge2 rfl rfl (fun hg => (Rd.of_nil (fa uu55 rfl zz4 rfl rfl rfl (k' := 19))).step) rfl <| ge2 rfl rfl (fun hg => (Rd.of_mem (i := 2) (aS aa4 zz4 (an rfl hg) rfl rfl (v := (.bool b.openHi)) rfl) rfl).step) rfl <| g0 (kI rfl (fun e => (an rfl (kM e)))) rfl <| g0 (fa uu55 rfl zz4 rfl rfl rfl (k' := 19)) rfl <| gs 0 (cV (⟨a.lo, a.hi, a.openLo, (a.openHi || b.openHi)⟩ : Iv)) rfl zz4 rfl rfl rfl rfl rfl rfl rfl <| gx (fun _ _ => bo) <| gN <| gx hK27 <| gr fun K33 hK33 => g0 (fa uu55 rfl zz53 rfl rfl rfl (k' := 0)) rfl <| g1 0 rfl (aS aa53 zz53 rfl rfl rfl (v := (vR a.lo)) rfl) rfl <| g0 (fa uu55 rfl zz53 rfl rfl rfl (k' := 9)) rfl <| g1 0 rfl (aS aa53 zz53 rfl rfl rfl (v := (vR a.hi)) rfl) rfl <| gl cc115 rfl (aL a.lo a.hi k (by omega) za.1 za.2) rfl <| g0 (ae rfl) rfl <| gn hK33 <| gq fun K34 hK34 => ?_; clear h ac wo; intro ac wo h
     refine cb mixed [dw _ [0], dv _, dv _, dv _, dv _, dv _, dv _, dv _, dw _ [0], dv _, dv _, dv _, dv _, dw _ [0], dv _, dv _, dv _, dw _ [1], dv _] [⟨_, []⟩, ⟨.blk b3 (cV (⟨(⟨oQ, oQ, false⟩ : GR), (⟨oQ, oQ, false⟩ : GR), false, false⟩ : Iv)) 55, [(17, .con _)]⟩, ⟨_, []⟩, ⟨_, []⟩] h rfl (by kernel_rfl) ⟨fun _ _ => cp _ rfl rfl (aS aa55 zz55 rfl rfl rfl (v := (vV (⟨a.lo, a.hi, a.openLo, (a.openHi || b.openHi)⟩ : Iv))) rfl), fun _ _ => om rfl, fun _ _ => aq (dk rfl rfl), fun _ _ => om rfl, fun _ _ => og2 rfl rfl rfl rfl (fun hg => Rd.step (af rfl)), fun _ _ => og2 rfl rfl rfl rfl (fun hg => Rd.step (es (an rfl hg) rfl)), fun _ _ => og2 rfl rfl rfl rfl (fun hg => Rd.step (af (an rfl hg))), fun _ _ => og3 rfl rfl rfl rfl (fun hg => Rd.step (fa uu55 rfl zz4 rfl rfl rfl (k' := 18))), fun _ _ => og3 rfl rfl rfl rfl (fun hg => Rd.step (aS aa4 zz4 (an rfl hg) rfl rfl (v := (.bool a.openLo)) rfl)), fun _ _ => og3 rfl rfl rfl rfl (fun hg => Rd.step (dV (an rfl hg))), fun _ _ => og2 rfl rfl rfl rfl (fun hg => Rd.step (de (an rfl hg) (fun e => (an rfl (ke hg e))))), fun _ _ => og2 rfl rfl rfl rfl (fun hg => Rd.step (af (an rfl hg))), fun _ _ => og3 rfl rfl rfl rfl (fun hg => Rd.step (fa uu55 rfl zz4 rfl rfl rfl (k' := 19))), fun _ _ => og3 rfl rfl rfl rfl (fun hg => Rd.step (aS aa4 zz4 (an rfl hg) rfl rfl (v := (.bool (a.openHi || b.openHi))) rfl)), fun _ _ => og3 rfl rfl rfl rfl (fun hg => Rd.step (dV (an rfl hg))), fun _ _ => og2 rfl rfl rfl rfl (fun hg => Rd.step (de (an rfl hg) (fun e => (an rfl (ke hg e))))), fun _ _ => aq (kI rfl (fun e => (an rfl (kM e)))), fun _ _ => ff _ [.blk b3 (cV (⟨a.lo, a.hi, a.openLo, (a.openHi || b.openHi)⟩ : Iv)) 55] rfl rfl (fp zz55 rfl rfl rfl rfl rfl rfl rfl), fun _ _ => aq (ae rfl), trivial⟩ ?_
     clear h ac wo; intro ξ ac wo hφ h
     replace h : St w0 81 [(4, (ptr b3 0)), (5, (.bool ((decide ((ao a.lo a.hi) < 0)) || ((((ao a.lo a.hi) == 0) && (!a.openLo)) && (!(a.openHi || b.openHi))))))] [.blk b4 (cV (⟨a.lo, a.hi, a.openLo, (a.openHi || b.openHi)⟩ : Iv)) 55, .blk b3 (cV (⟨a.lo, a.hi, a.openLo, (a.openHi || b.openHi)⟩ : Iv)) 55, .blk b2 (cV b) 55, .blk b1 (cV a) 55] ac wo := h.sub ⟨rfl, rfl, trivial⟩
     clear hφ ξ
     refine hK34 _ _ ?_
     refine e7 ?_
     have hd : aU a b = ((⟨a.lo, a.hi, a.openLo, (a.openHi || b.openHi)⟩ : Iv), ((decide ((ao a.lo a.hi) < 0)) || ((((ao a.lo a.hi) == 0) && (!a.openLo)) && (!(a.openHi || b.openHi))))) := (Eq.trans (cF hc1) (Eq.trans (cF hc4) (Eq.trans (cF hc7) (cT hc8))))
     exact ret h rfl (.cell (v := (vV (⟨a.lo, a.hi, a.openLo, (a.openHi || b.openHi)⟩ : Iv))) rfl (i := 1) rfl aa55 zz55 rfl rfl rfl (.tmp rfl .nil)) rfl (h.retP (by rw [hd] <;> rfl) (by rw [hd]; exact ⟨(ft za (by omega)).1, (ft za (by omega)).2⟩))
    ·
     have hd8 := ne_of_beq_false hc8
     have p26 := ax ((aL a.lo a.hi k (by omega) za.1 za.2) w0)
     refine gz h <| gS <| gN <| gx hK27 <| gr fun K35 hK35 => g0 (fa uu55 rfl zz53 rfl rfl rfl (k' := 0)) rfl <| g1 0 rfl (aS aa53 zz53 rfl rfl rfl (v := (vR a.lo)) rfl) rfl <| g0 (fa uu55 rfl zz53 rfl rfl rfl (k' := 9)) rfl <| g1 0 rfl (aS aa53 zz53 rfl rfl rfl (v := (vR a.hi)) rfl) rfl <| gl cc115 rfl (aL a.lo a.hi k (by omega) za.1 za.2) rfl <| g0 (ae rfl) rfl <| gn hK35 <| gq fun K36 hK36 => ?_; clear h ac wo; intro ac wo h
     refine cb mixed [dw _ [0], dv _, dv _, dv _, dv _, dv _, dv _, dv _, dw _ [0], dv _, dv _, dv _, dv _, dw _ [0], dv _, dv _, dv _, dw _ [1], dv _] [⟨_, []⟩, ⟨.blk b3 (cV (⟨(⟨oQ, oQ, false⟩ : GR), (⟨oQ, oQ, false⟩ : GR), false, false⟩ : Iv)) 55, [(17, .con _)]⟩, ⟨_, []⟩, ⟨_, []⟩] h rfl (by kernel_rfl) ⟨fun _ _ => cp _ rfl rfl (aS aa55 zz55 rfl rfl rfl (v := (vV a)) rfl), fun _ _ => om rfl, fun _ _ => aq (dk rfl rfl), fun _ _ => om rfl, fun _ _ => og2 rfl rfl rfl rfl (fun hg => Rd.step (af rfl)), fun _ _ => og2 rfl rfl rfl rfl (fun hg => Rd.step (es (an rfl hg) rfl)), fun _ _ => og2 rfl rfl rfl rfl (fun hg => Rd.step (af (an rfl hg))), fun _ _ => og3 rfl rfl rfl rfl (fun hg => Rd.step (fa uu55 rfl zz4 rfl rfl rfl (k' := 18))), fun _ _ => og3 rfl rfl rfl rfl (fun hg => Rd.step (aS aa4 zz4 (an rfl hg) rfl rfl (v := (.bool a.openLo)) rfl)), fun _ _ => og3 rfl rfl rfl rfl (fun hg => Rd.step (dV (an rfl hg))), fun _ _ => og2 rfl rfl rfl rfl (fun hg => Rd.step (de (an rfl hg) (fun e => (an rfl (ke hg e))))), fun _ _ => og2 rfl rfl rfl rfl (fun hg => Rd.step (af (an rfl hg))), fun _ _ => og3 rfl rfl rfl rfl (fun hg => Rd.step (fa uu55 rfl zz4 rfl rfl rfl (k' := 19))), fun _ _ => og3 rfl rfl rfl rfl (fun hg => Rd.step (aS aa4 zz4 (an rfl hg) rfl rfl (v := (.bool a.openHi)) rfl)), fun _ _ => og3 rfl rfl rfl rfl (fun hg => Rd.step (dV (an rfl hg))), fun _ _ => og2 rfl rfl rfl rfl (fun hg => Rd.step (de (an rfl hg) (fun e => (an rfl (ke hg e))))), fun _ _ => aq (kI rfl (fun e => (an rfl (kM e)))), fun _ _ => ff _ [.blk b3 (cV a) 55] rfl rfl (fp zz55 rfl rfl rfl rfl rfl rfl rfl), fun _ _ => aq (ae rfl), trivial⟩ ?_
     clear h ac wo; intro ξ ac wo hφ h
     replace h : St w0 81 [(4, (ptr b3 0)), (5, (.bool ((decide ((ao a.lo a.hi) < 0)) || ((((ao a.lo a.hi) == 0) && (!a.openLo)) && (!a.openHi)))))] [.blk b4 (cV a) 55, .blk b3 (cV a) 55, .blk b2 (cV b) 55, .blk b1 (cV a) 55] ac wo := h.sub ⟨rfl, rfl, trivial⟩
     clear hφ ξ
     refine hK36 _ _ ?_
     refine e7 ?_
     have hd : aU a b = (a, ((decide ((ao a.lo a.hi) < 0)) || ((((ao a.lo a.hi) == 0) && (!a.openLo)) && (!a.openHi)))) := (Eq.trans (cF hc1) (Eq.trans (cF hc4) (Eq.trans (cF hc7) (cF hc8))))
     exact ret h rfl (.cell (v := (vV a)) rfl (i := 1) rfl aa55 zz55 rfl rfl rfl (.tmp rfl .nil)) rfl (h.retP (by rw [hd] <;> rfl) (by rw [hd]; exact (ft za (by omega))))
end Go.Sx
