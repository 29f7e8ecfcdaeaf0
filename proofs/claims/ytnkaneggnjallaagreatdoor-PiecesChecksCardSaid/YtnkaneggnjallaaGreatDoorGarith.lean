/- A part of the proof that the law PiecesChecks answers true at every input and leaves its arguments as they were. -/
import Derived.Test.YtnkaneggnjallaaGreatDoorProg
import Derived.Test.YtnkaneggnjallaaGreatDoorGdiv
set_option linter.unusedVariables false
set_option linter.unusedSimpArgs false
open Go.Proofs.Tryz renaming isAgg4 → aa4, underlying4 → nn4, isAgg9 → aa9, isAgg38 → aa38, sizeOf38 → zz38, isAgg40 → aa40, sizeOf40 → zz40, runUnderlying38 → uu38, sizeOf9 → zz9, sizeOf4 → zz4, zeroValue38 → vv38, call172 → cc172, call124 → cc124, call192 → cc192, zeroValue40 → vv40, runUnderlying40 → uu40, call164 → cc164, call118 → cc118, call188 → cc188, call159 → cc159, call158 → cc158, call102 → cc102, zeroValue69 → vv69, sizeOf69 → zz69, isAgg69 → aa69, runUnderlying69 → uu69, call100 → cc100, call101 → cc101, runUnderlying53 → uu53, isAgg53 → aa53, sizeOf53 → zz53, call45 → cc45, call58 → cc58, runUnderlying55 → uu55
namespace Go.Sx
open Go Go.RowKit Go.Proofs
set_option maxRecDepth 100000
theorem eqi38 : EqIn Tryz.prog 2 38 vI := eqS (c := cI) (fun _ => rfl) Tryz.underlying38 Tryz.stoodInHeld38 fun d x y w hd => by
 refine Eq.trans (eqF (by decide) (fL aa4 rfl w) (fL aa4 rfl w) (eqB nn4 d (by omega) _ _ w) (eqF (by decide) (fL aa9 rfl w) (fL aa9 rfl w) (eqBs Tryz.underlying9 d (by omega) _ _ w) eqF0)) ?_
 congr 1
 rw [decide_eq_decide]
 cases x; cases y; simp
theorem pi : EqP Tryz.prog 38 vI := EqIn.p (k := 2) rfl (c := fun x => (cI x).toArray) (fun _ => rfl) Tryz.eqGuardType38 eqi38
theorem pj : EqIn Tryz.prog 3 40 vQ := eqS (c := cQ) (fun _ => rfl) Tryz.underlying40 Tryz.stoodInHeld40 fun d x y w hd => by
 refine Eq.trans (eqF (by decide) (d7 aa38 zz38 (v := vI (x.num)) rfl w) (d7 aa38 zz38 (v := vI (y.num)) rfl w) (eqi38 d _ _ w (by omega)) (eqF (by decide) (d7 aa38 zz38 (v := vI (x.den)) rfl w) (d7 aa38 zz38 (v := vI (y.den)) rfl w) (eqi38 d _ _ w (by omega)) eqF0)) ?_
 congr 1
 rw [decide_eq_decide]
 cases x; cases y; simp
theorem eqp40 : EqP Tryz.prog 40 vQ := EqIn.p (k := 3) rfl (c := fun x => (cQ x).toArray) (fun _ => rfl) Tryz.eqGuardType40 pj
theorem eqi53 : EqIn Tryz.prog 4 53 vR := eqS (c := cR) (fun _ => rfl) Tryz.underlying53 Tryz.stoodInHeld53 fun d x y w hd => by
 refine Eq.trans (eqF (by decide) (d7 aa40 zz40 (v := vQ (x.p)) rfl w) (d7 aa40 zz40 (v := vQ (y.p)) rfl w) (pj d _ _ w (by omega)) (eqF (by decide) (d7 aa40 zz40 (v := vQ (x.r)) rfl w) (d7 aa40 zz40 (v := vQ (y.r)) rfl w) (pj d _ _ w (by omega)) (eqF (by decide) (fL aa4 rfl w) (fL aa4 rfl w) (eqB nn4 d (by omega) _ _ w) eqF0))) ?_
 congr 1
 rw [decide_eq_decide]
 cases x; cases y; simp
theorem nI : EqP Tryz.prog 53 vR := EqIn.p (k := 4) rfl (c := fun x => (cR x).toArray) (fun _ => rfl) Tryz.eqGuardType53 eqi53
theorem eqi69 : EqIn Tryz.prog 4 69 vD := eqS (c := cD) (fun _ => rfl) Tryz.underlying69 Tryz.stoodInHeld69 fun d x y w hd => by
 refine Eq.trans (eqF (by decide) (d7 aa40 zz40 (v := vQ (x.c0)) rfl w) (d7 aa40 zz40 (v := vQ (y.c0)) rfl w) (pj d _ _ w (by omega)) (eqF (by decide) (d7 aa40 zz40 (v := vQ (x.c1)) rfl w) (d7 aa40 zz40 (v := vQ (y.c1)) rfl w) (pj d _ _ w (by omega)) (eqF (by decide) (d7 aa40 zz40 (v := vQ (x.c2)) rfl w) (d7 aa40 zz40 (v := vQ (y.c2)) rfl w) (pj d _ _ w (by omega)) eqF0))) ?_
 congr 1
 rw [decide_eq_decide]
 cases x; cases y; simp
theorem qy : EqP Tryz.prog 69 vD := EqIn.p (k := 4) rfl (c := fun x => (cD x).toArray) (fun _ => rfl) Tryz.eqGuardType69 eqi69
def cg (a : GI) : Int :=
 bif (decide (a.mag = 0)) then
  0
 else
  bif a.neg then
   (-1)
  else
   1
theorem dO (a : GI) (w0 : World) : Calls Tryz.prog 124 #[(vI a)] w0 (dZ w0 (.int .i64 (cg a)) ((-1 ≤ (cg a) ∧ (cg a) ≤ 1))) := by
 refine enter (N := 10) (args := [(vI a)]) Tryz.func124 rfl rfl ?_; intro ac h
 refine dL fun K1 hK1 => ?_
 refine bx h (cI a) rfl rfl rfl fun b1 => g0 (ag rfl) rfl <| gn hK1 <| gq fun K2 hK2 => gB <| gr fun K3 hK3 => g0 (fa uu38 rfl zz9 rfl rfl rfl (k' := 1)) rfl <| g1 0 rfl (aX aa9 zz9 rfl rfl rfl (v := (.string (bs a.mag))) rfl) rfl <| g0 (lW rfl rfl (m := a.mag) (n := 0)) rfl <| g0 (ag rfl) rfl <| gn hK3 ?_; clear h ac; intro ac wo h
 refine cr h rfl (fun hc1 => ?_) (fun hc1 => ?_)
 ·
  have hd1 := of_decide_eq_true hc1
  refine gz h <| gr fun K4 hK4 => g0 (ag rfl) rfl <| gn hK4 <| gT ?_; clear h ac wo; intro ac wo h
  have hd : cg a = 0 := (cT hc1)
  exact ret h rfl (.tmp rfl .nil) rfl (h.retP (by rw [hd] <;> rfl) (by rw [hd]; exact by first | omega | exact d9 (by omega) (by omega)))
 ·
  have hd1 := of_decide_eq_false hc1
  refine gz h <| gr fun K5 hK5 => g0 (fa uu38 rfl zz4 rfl rfl rfl (k' := 0)) rfl <| g1 0 rfl (aX aa4 zz4 rfl rfl rfl (v := (.bool a.neg)) rfl) rfl <| g0 (ag rfl) rfl <| gn hK5 ?_; clear h ac wo; intro ac wo h
  refine cr h rfl (fun hc2 => ?_) (fun hc2 => ?_)
  ·
   refine gz h <| gr fun K6 hK6 => g0 (ag rfl) rfl <| gn hK6 <| gT ?_; clear h ac wo; intro ac wo h
   have hd : cg a = (-1) := (Eq.trans (cF hc1) (cT hc2))
   exact ret h rfl (.tmp rfl .nil) rfl (h.retP (by rw [hd] <;> rfl) (by rw [hd]; exact by first | omega | exact d9 (by omega) (by omega)))
  ·
   refine gz h <| gS <| gN <| gx hK2 <| gr fun K7 hK7 => g0 (ag rfl) rfl <| gn hK7 <| gT ?_; clear h ac wo; intro ac wo h
   have hd : cg a = 1 := (Eq.trans (cF hc1) (cF hc2))
   exact ret h rfl (.tmp rfl .nil) rfl (h.retP (by rw [hd] <;> rfl) (by rw [hd]; exact by first | omega | exact d9 (by omega) (by omega)))
def am (a : GI) : GI :=
 (ay (!a.neg) a.mag)
theorem d3 (a : GI) (k : Nat) (hk : k ≤ 40) (za : SzI k a) (w0 : World) : Calls Tryz.prog 118 #[(vI a)] w0 (dZ w0 (vI (am a)) (SzI k (am a))) := by
 refine enter (N := 9) (args := [(vI a)]) Tryz.func118 rfl rfl ?_; intro ac h
 have c1 := bN (!a.neg) a.mag k (by omega) za
 have s1 := az (c1 w0)
 refine dL fun K1 hK1 => ?_
 refine bx h (cI a) rfl rfl rfl fun b1 => ga (cI (⟨false, 0⟩ : GI)) vv38 rfl rfl fun b2 => gn hK1 <| gr fun K2 hK2 => g0 (fa uu38 rfl zz4 rfl rfl rfl (k' := 0)) rfl <| g1 1 rfl (aX aa4 zz4 rfl rfl rfl (v := (.bool a.neg)) rfl) rfl <| g0 (ex rfl) rfl <| g0 (fa uu38 rfl zz9 rfl rfl rfl (k' := 1)) rfl <| g1 1 rfl (aX aa9 zz9 rfl rfl rfl (v := (.string (bs a.mag))) rfl) rfl <| gl cc172 rfl c1 rfl <| gs 0 (cI (ay (!a.neg) a.mag)) rfl zz38 rfl rfl rfl rfl rfl rfl rfl <| gn hK2 <| gT ?_; clear h ac; intro ac wo h
 exact ret h rfl (.cell (v := (vI (ay (!a.neg) a.mag))) rfl (i := 0) rfl aa38 zz38 rfl rfl rfl .nil) rfl (h.retP (by unfold am; rfl) (by unfold am; exact s1))
def aO (a : GI) (b : GI) : Int :=
 bif (a.neg != b.neg) then
  (cO (cg a) (cg b))
 else
  bif a.neg then
   -(aY a.mag b.mag)
  else
   (aY a.mag b.mag)
theorem eP (a : GI) (b : GI) (k : Nat) (hk : k ≤ 40) (za : SzI k a) (zb : SzI k b) (w0 : World) : Calls Tryz.prog 163 #[(vI a), (vI b)] w0 (dZ w0 (.int .i64 (aO a b)) ((-1 ≤ (aO a b) ∧ (aO a b) ≤ 1))) := by
 refine enter (N := 26) (args := [(vI a), (vI b)]) Tryz.func163 rfl rfl ?_; intro ac h
 refine dL fun K1 hK1 => ?_
 refine bx h (cI a) rfl rfl rfl fun b1 => gb (cI b) rfl rfl rfl fun b2 => g0 (ag rfl) rfl <| gn hK1 <| gq fun K2 hK2 => gr fun K3 hK3 => g0 (fa uu38 rfl zz4 rfl rfl rfl (k' := 0)) rfl <| g1 1 rfl (aX aa4 zz4 rfl rfl rfl (v := (.bool a.neg)) rfl) rfl <| g0 (fa uu38 rfl zz4 rfl rfl rfl (k' := 0)) rfl <| g1 0 rfl (aX aa4 zz4 rfl rfl rfl (v := (.bool b.neg)) rfl) rfl <| g0 (n7 nn4 rfl rfl) rfl <| gn hK3 ?_; clear h ac; intro ac wo h
 refine cr h rfl (fun hc1 => ?_) (fun hc1 => ?_)
 ·
  refine dg fun K4 hK4 => ?_
  have p2 := az ((dO a) w0)
  have p4 := az ((dO b) w0)
  have p6 := az ((ik (cg a) (cg b)) w0)
  refine cj mixed [dw _ [1], dv _, dw _ [0], dv _, dv _, dv _] [⟨_, []⟩, ⟨_, []⟩] h rfl (by kernel_rfl) ⟨fun _ _ => cq _ rfl rfl (aX aa38 zz38 rfl rfl rfl (v := (vI a)) rfl), fun _ _ => dU (cB cc124 rfl (dO a)), fun _ _ => cq _ rfl rfl (aX aa38 zz38 rfl rfl rfl (v := (vI b)) rfl), fun _ _ => dU (cB cc124 rfl (dO b)), fun _ _ => dU (cB Tryz.call149 rfl (ik (cg a) (cg b))), fun _ _ => ax (ag rfl), trivial⟩ ?_
  clear h ac wo; intro ξ ac wo hφ h
  replace h : St w0 26 [(4, (.int .i64 (cO (cg a) (cg b))))] [.blk b2 (cI b) 38, .blk b1 (cI a) 38] ac wo := h.sub ⟨rfl, trivial⟩
  clear hφ ξ
  refine hK4 _ _ ?_
  refine e8 ?_
  have hd : aO a b = (cO (cg a) (cg b)) := (cT hc1)
  exact ret h rfl (.tmp rfl .nil) rfl (h.retP (by rw [hd] <;> rfl) (by rw [hd]; exact by first | omega | exact d9 (by omega) (by omega)))
 ·
  have p8 := az ((df a.mag b.mag) w0)
  refine gz h <| gS <| gx hK2 <| gr fun K5 hK5 => g0 (fa uu38 rfl zz9 rfl rfl rfl (k' := 1)) rfl <| g1 1 rfl (aX aa9 zz9 rfl rfl rfl (v := (.string (bs a.mag))) rfl) rfl <| g0 (fa uu38 rfl zz9 rfl rfl rfl (k' := 1)) rfl <| g1 0 rfl (aX aa9 zz9 rfl rfl rfl (v := (.string (bs b.mag))) rfl) rfl <| gl Tryz.call191 rfl (df a.mag b.mag) rfl <| g0 (ag rfl) rfl <| gn hK5 <| gq fun K6 hK6 => gr fun K7 hK7 => g0 (fa uu38 rfl zz4 rfl rfl rfl (k' := 0)) rfl <| g1 1 rfl (aX aa4 zz4 rfl rfl rfl (v := (.bool a.neg)) rfl) rfl <| gn hK7 ?_; clear h ac wo; intro ac wo h
  refine cr h rfl (fun hc2 => ?_) (fun hc2 => ?_)
  ·
   refine gz h <| gr fun K8 hK8 => g0 (ah rfl) rfl <| g0 (r_neg rfl (r := -(aY a.mag b.mag)) (by rw [IntKind.wrap_i64]; omega)) rfl <| g0 (ag rfl) rfl <| gn hK8 <| gT ?_; clear h ac wo; intro ac wo h
   have hd : aO a b = -(aY a.mag b.mag) := (Eq.trans (cF hc1) (cT hc2))
   exact ret h rfl (.tmp rfl .nil) rfl (h.retP (by rw [hd] <;> rfl) (by rw [hd]; exact by first | omega | exact d9 (by omega) (by omega)))
  ·
   refine gz h <| gS <| gx hK6 <| gr fun K9 hK9 => g0 (ah rfl) rfl <| g0 (ag rfl) rfl <| gn hK9 <| gT ?_; clear h ac wo; intro ac wo h
   have hd : aO a b = (aY a.mag b.mag) := (Eq.trans (cF hc1) (cF hc2))
   exact ret h rfl (.tmp rfl .nil) rfl (h.retP (by rw [hd] <;> rfl) (by rw [hd]; exact by first | omega | exact d9 (by omega) (by omega)))
def dp (a : GI) (b : GI) : GI :=
 bif (a.neg == b.neg) then
  (ay a.neg (bV a.mag b.mag))
 else
  bif (decide ((aY a.mag b.mag) ≥ 0)) then
   (ay a.neg (bY a.mag b.mag))
  else
   (ay b.neg (bY b.mag a.mag))
theorem jl (a : GI) (b : GI) (k : Nat) (hk : (k + 1) ≤ 40) (za : SzI (k + 1) a) (zb : SzI (k + 1) b) (w0 : World) : Calls Tryz.prog 161 #[(vI a), (vI b)] w0 (dZ w0 (vI (dp a b)) (SzI k (dp a b))) := by
 refine enter (N := 42) (args := [(vI a), (vI b)]) Tryz.func161 rfl rfl ?_; intro ac h
 refine dL fun K1 hK1 => ?_
 refine bx h (cI a) rfl rfl rfl fun b1 => gb (cI b) rfl rfl rfl fun b2 => ga (cI (⟨false, 0⟩ : GI)) vv38 rfl rfl fun b3 => gn hK1 <| gq fun K2 hK2 => gB <| gr fun K3 hK3 => g0 (fa uu38 rfl zz4 rfl rfl rfl (k' := 0)) rfl <| g1 2 rfl (aX aa4 zz4 rfl rfl rfl (v := (.bool a.neg)) rfl) rfl <| g0 (fa uu38 rfl zz4 rfl rfl rfl (k' := 0)) rfl <| g1 1 rfl (aX aa4 zz4 rfl rfl rfl (v := (.bool b.neg)) rfl) rfl <| g0 (r_eqlB nn4 rfl rfl) rfl <| g0 (ag rfl) rfl <| gn hK3 ?_; clear h ac; intro ac wo h
 refine cr h rfl (fun hc1 => ?_) (fun hc1 => ?_)
 ·
  have hd1 := eq_of_beq hc1
  refine dg fun K4 hK4 => ?_
  have s1 := az ((fd a.mag b.mag k (by omega) za zb) w0)
  have s2 := az ((bN a.neg (bV a.mag b.mag) k (by omega) s1) w0)
  refine cj mixed [dv _, dw _ [2], dv _, dw _ [2], dv _, dw _ [1], dv _, dv _, dw _ [0]] [⟨.blk b3 (cI (⟨false, 0⟩ : GI)) 38, [(8, .con _)]⟩, ⟨_, []⟩, ⟨_, []⟩] h rfl (by kernel_rfl) ⟨fun _ _ => ax (fa uu38 rfl zz4 rfl rfl rfl (k' := 0)), fun _ _ => cq _ rfl rfl (aX aa4 zz4 rfl rfl rfl (v := (.bool a.neg)) rfl), fun _ _ => ax (fa uu38 rfl zz9 rfl rfl rfl (k' := 1)), fun _ _ => cq _ rfl rfl (aX aa9 zz9 rfl rfl rfl (v := (.string (bs a.mag))) rfl), fun _ _ => ax (fa uu38 rfl zz9 rfl rfl rfl (k' := 1)), fun _ _ => cq _ rfl rfl (aX aa9 zz9 rfl rfl rfl (v := (.string (bs b.mag))) rfl), fun _ _ => dU (cB Tryz.call190 rfl (fd a.mag b.mag k (by omega) za zb)), fun _ _ => dU (cB cc172 rfl (bN a.neg (bV a.mag b.mag) k (by omega) s1)), fun _ _ => fM _ [.blk b3 (cI (ay a.neg (bV a.mag b.mag))) 38] rfl rfl (gK zz38 rfl rfl rfl rfl rfl rfl rfl), trivial⟩ ?_
  clear h ac wo; intro ξ ac wo hφ h
  replace h : St w0 42 [(4, (ptr b3 0))] [.blk b3 (cI (ay a.neg (bV a.mag b.mag))) 38, .blk b2 (cI b) 38, .blk b1 (cI a) 38] ac wo := h.sub ⟨rfl, trivial⟩
  clear hφ ξ
  refine hK4 _ _ ?_
  refine e8 ?_
  have hd : dp a b = (ay a.neg (bV a.mag b.mag)) := (cT hc1)
  exact ret h rfl (.cell (v := (vI (ay a.neg (bV a.mag b.mag)))) rfl (i := 0) rfl aa38 zz38 rfl rfl rfl .nil) rfl (h.retP (by rw [hd] <;> rfl) (by rw [hd]; exact s2))
 ·
  have hd1 := ne_of_beq_false hc1
  have p4 := az ((df a.mag b.mag) w0)
  refine gz h <| gr fun K5 hK5 => g0 (fa uu38 rfl zz9 rfl rfl rfl (k' := 1)) rfl <| g1 2 rfl (aX aa9 zz9 rfl rfl rfl (v := (.string (bs a.mag))) rfl) rfl <| g0 (fa uu38 rfl zz9 rfl rfl rfl (k' := 1)) rfl <| g1 1 rfl (aX aa9 zz9 rfl rfl rfl (v := (.string (bs b.mag))) rfl) rfl <| gl Tryz.call191 rfl (df a.mag b.mag) rfl <| g0 (lV rfl rfl) rfl <| g0 (ag rfl) rfl <| gn hK5 ?_; clear h ac wo; intro ac wo h
  refine cr h rfl (fun hc2 => ?_) (fun hc2 => ?_)
  ·
   have hd2 := of_decide_eq_true hc2
   refine dg fun K6 hK6 => ?_
   have s5 := az ((eM a.mag b.mag (k + 1) (by omega) za zb (by first | exact oJ ‹_› | exact oI ‹_›)) w0)
   have s6 := az ((bN a.neg (bY a.mag b.mag) (k + 1) (by omega) s5) w0)
   refine cj mixed [dv _, dw _ [2], dv _, dw _ [2], dv _, dw _ [1], dv _, dv _, dw _ [0]] [⟨.blk b3 (cI (⟨false, 0⟩ : GI)) 38, [(8, .con _)]⟩, ⟨_, []⟩, ⟨_, []⟩] h rfl (by kernel_rfl) ⟨fun _ _ => ax (fa uu38 rfl zz4 rfl rfl rfl (k' := 0)), fun _ _ => cq _ rfl rfl (aX aa4 zz4 rfl rfl rfl (v := (.bool a.neg)) rfl), fun _ _ => ax (fa uu38 rfl zz9 rfl rfl rfl (k' := 1)), fun _ _ => cq _ rfl rfl (aX aa9 zz9 rfl rfl rfl (v := (.string (bs a.mag))) rfl), fun _ _ => ax (fa uu38 rfl zz9 rfl rfl rfl (k' := 1)), fun _ _ => cq _ rfl rfl (aX aa9 zz9 rfl rfl rfl (v := (.string (bs b.mag))) rfl), fun _ _ => dU (cB cc192 rfl (eM a.mag b.mag (k + 1) (by omega) za zb (by first | exact oJ ‹_› | exact oI ‹_›))), fun _ _ => dU (cB cc172 rfl (bN a.neg (bY a.mag b.mag) (k + 1) (by omega) s5)), fun _ _ => fM _ [.blk b3 (cI (ay a.neg (bY a.mag b.mag))) 38] rfl rfl (gK zz38 rfl rfl rfl rfl rfl rfl rfl), trivial⟩ ?_
   clear h ac wo; intro ξ ac wo hφ h
   replace h : St w0 42 [(4, (ptr b3 0))] [.blk b3 (cI (ay a.neg (bY a.mag b.mag))) 38, .blk b2 (cI b) 38, .blk b1 (cI a) 38] ac wo := h.sub ⟨rfl, trivial⟩
   clear hφ ξ
   refine hK6 _ _ ?_
   refine e8 ?_
   have hd : dp a b = (ay a.neg (bY a.mag b.mag)) := (Eq.trans (cF hc1) (cT hc2))
   exact ret h rfl (.cell (v := (vI (ay a.neg (bY a.mag b.mag)))) rfl (i := 0) rfl aa38 zz38 rfl rfl rfl .nil) rfl (h.retP (by rw [hd] <;> rfl) (by rw [hd]; exact (im s6 (by omega))))
  ·
   have hd2 := of_decide_eq_false hc2
   refine dF ?_
   refine nk ?_
   refine hK2 _ _ ?_
   refine dg fun K7 hK7 => ?_
   have s7 := az ((eM b.mag a.mag (k + 1) (by omega) zb za (by first | exact oJ ‹_› | exact oI ‹_›)) w0)
   have s8 := az ((bN b.neg (bY b.mag a.mag) (k + 1) (by omega) s7) w0)
   refine cj mixed [dv _, dw _ [1], dv _, dw _ [1], dv _, dw _ [2], dv _, dv _, dw _ [0]] [⟨.blk b3 (cI (⟨false, 0⟩ : GI)) 38, [(8, .con _)]⟩, ⟨_, []⟩, ⟨_, []⟩] h rfl (by kernel_rfl) ⟨fun _ _ => ax (fa uu38 rfl zz4 rfl rfl rfl (k' := 0)), fun _ _ => cq _ rfl rfl (aX aa4 zz4 rfl rfl rfl (v := (.bool b.neg)) rfl), fun _ _ => ax (fa uu38 rfl zz9 rfl rfl rfl (k' := 1)), fun _ _ => cq _ rfl rfl (aX aa9 zz9 rfl rfl rfl (v := (.string (bs b.mag))) rfl), fun _ _ => ax (fa uu38 rfl zz9 rfl rfl rfl (k' := 1)), fun _ _ => cq _ rfl rfl (aX aa9 zz9 rfl rfl rfl (v := (.string (bs a.mag))) rfl), fun _ _ => dU (cB cc192 rfl (eM b.mag a.mag (k + 1) (by omega) zb za (by first | exact oJ ‹_› | exact oI ‹_›))), fun _ _ => dU (cB cc172 rfl (bN b.neg (bY b.mag a.mag) (k + 1) (by omega) s7)), fun _ _ => fM _ [.blk b3 (cI (ay b.neg (bY b.mag a.mag))) 38] rfl rfl (gK zz38 rfl rfl rfl rfl rfl rfl rfl), trivial⟩ ?_
   clear h ac wo; intro ξ ac wo hφ h
   replace h : St w0 42 [(4, (ptr b3 0))] [.blk b3 (cI (ay b.neg (bY b.mag a.mag))) 38, .blk b2 (cI b) 38, .blk b1 (cI a) 38] ac wo := h.sub ⟨rfl, trivial⟩
   clear hφ ξ
   refine hK7 _ _ ?_
   refine e8 ?_
   have hd : dp a b = (ay b.neg (bY b.mag a.mag)) := (Eq.trans (cF hc1) (cF hc2))
   exact ret h rfl (.cell (v := (vI (ay b.neg (bY b.mag a.mag)))) rfl (i := 0) rfl aa38 zz38 rfl rfl rfl .nil) rfl (h.retP (by rw [hd] <;> rfl) (by rw [hd]; exact (im s8 (by omega))))
def bj (a : GI) (b : GI) : GI :=
 (ay (a.neg != b.neg) (db a.mag b.mag))
theorem dy (a : GI) (b : GI) (k : Nat) (hk : (k + 1) ≤ 40) (za : SzI (k + 1) a) (zb : SzI (k + 1) b) (w0 : World) : Calls Tryz.prog 158 #[(vI a), (vI b)] w0 (dZ w0 (vI (bj a b)) (SzI k (bj a b))) := by
 refine enter (N := 16) (args := [(vI a), (vI b)]) Tryz.func158 rfl rfl ?_; intro ac h
 have s1 := az ((hH a.mag b.mag k (by omega) za zb) w0)
 have s2 := az ((bN (a.neg != b.neg) (db a.mag b.mag) k (by omega) s1) w0)
 refine dL fun K1 hK1 => ?_
 refine bx h (cI a) rfl rfl rfl fun b1 => gb (cI b) rfl rfl rfl fun b2 => ga (cI (⟨false, 0⟩ : GI)) vv38 rfl rfl fun b3 => gn hK1 <| gq fun K2 hK2 => ?_; clear h ac; intro ac wo h
 refine cj mixed [dv _, dw _ [2], dv _, dw _ [1], dv _, dv _, dw _ [2], dv _, dw _ [1], dv _, dv _, dw _ [0]] [⟨.blk b3 (cI (⟨false, 0⟩ : GI)) 38, [(11, .con _)]⟩, ⟨_, []⟩, ⟨_, []⟩] h rfl (by kernel_rfl) ⟨fun _ _ => ax (fa uu38 rfl zz4 rfl rfl rfl (k' := 0)), fun _ _ => cq _ rfl rfl (aX aa4 zz4 rfl rfl rfl (v := (.bool a.neg)) rfl), fun _ _ => ax (fa uu38 rfl zz4 rfl rfl rfl (k' := 0)), fun _ _ => cq _ rfl rfl (aX aa4 zz4 rfl rfl rfl (v := (.bool b.neg)) rfl), fun _ _ => ax (n7 nn4 rfl rfl), fun _ _ => ax (fa uu38 rfl zz9 rfl rfl rfl (k' := 1)), fun _ _ => cq _ rfl rfl (aX aa9 zz9 rfl rfl rfl (v := (.string (bs a.mag))) rfl), fun _ _ => ax (fa uu38 rfl zz9 rfl rfl rfl (k' := 1)), fun _ _ => cq _ rfl rfl (aX aa9 zz9 rfl rfl rfl (v := (.string (bs b.mag))) rfl), fun _ _ => dU (cB Tryz.call189 rfl (hH a.mag b.mag k (by omega) za zb)), fun _ _ => dU (cB cc172 rfl (bN (a.neg != b.neg) (db a.mag b.mag) k (by omega) s1)), fun _ _ => fM _ [.blk b3 (cI (ay (a.neg != b.neg) (db a.mag b.mag))) 38] rfl rfl (gK zz38 rfl rfl rfl rfl rfl rfl rfl), trivial⟩ ?_
 clear h ac wo; intro ξ ac wo hφ h
 replace h : St w0 16 [(4, (ptr b3 0))] [.blk b3 (cI (ay (a.neg != b.neg) (db a.mag b.mag))) 38, .blk b2 (cI b) 38, .blk b1 (cI a) 38] ac wo := h.sub ⟨rfl, trivial⟩
 clear hφ ξ
 refine hK2 _ _ ?_
 refine e8 ?_
 exact ret h rfl (.cell (v := (vI (ay (a.neg != b.neg) (db a.mag b.mag)))) rfl (i := 0) rfl aa38 zz38 rfl rfl rfl .nil) rfl (h.retP (by unfold bj; rfl) (by unfold bj; exact s2))
def au (a b : GI) : GI := ay false (Nat.gcd a.mag b.mag)
theorem oz (x y : Nat) : Nat.gcd y (x % y) = Nat.gcd x y := by rw [Nat.gcd_comm x y, Nat.gcd_rec y x, Nat.gcd_comm]
theorem fO (a : GI) (b : GI) (k : Nat) (hk : k ≤ 40) (za : SzI k a) (zb : SzI k b) (w0 : World) : Calls Tryz.prog 165 #[(vI a), (vI b)] w0 (dZ w0 (vI (au a b)) (SzI k (au a b))) := by
 refine enter (N := 45) (args := [(vI a), (vI b)]) Tryz.func165 rfl rfl ?_; intro ac h
 refine dL fun K1 hK1 => ?_
 refine bx h (cI a) rfl rfl rfl fun b1 => gb (cI b) rfl rfl rfl fun b2 => ga (cI (⟨false, 0⟩ : GI)) vv38 rfl rfl fun b3 => gn hK1 <| gq fun K2 hK2 => ?_; clear h ac; intro ac wo h
 refine cj mixed [dv _, dw _ [2], dv _, dw _ [1], dv _, dv _] [⟨_, []⟩, ⟨_, []⟩, ⟨_, []⟩] h rfl (by kernel_rfl) ⟨fun _ _ => ax (fa uu38 rfl zz9 rfl rfl rfl (k' := 1)), fun _ _ => cq _ rfl rfl (aX aa9 zz9 rfl rfl rfl (v := (.string (bs a.mag))) rfl), fun _ _ => ax (fa uu38 rfl zz9 rfl rfl rfl (k' := 1)), fun _ _ => cq _ rfl rfl (aX aa9 zz9 rfl rfl rfl (v := (.string (bs b.mag))) rfl), fun _ _ => ax (ag rfl), fun _ _ => ax (ag rfl), trivial⟩ ?_
 clear h ac wo; intro ξ ac wo hφ h
 replace h : St w0 45 [(4, (ptr b3 0)), (5, (.string (bs a.mag))), (6, (.string (bs b.mag)))] [.blk b3 (cI (⟨false, 0⟩ : GI)) 38, .blk b2 (cI b) 38, .blk b1 (cI a) 38] ac wo := h.sub ⟨rfl, rfl, rfl, trivial⟩
 clear hφ ξ
 refine hK2 _ _ ?_
 refine dg fun K3 hK3 => ?_
 refine fx ?_
 refine wp_loop_ghost (fun n_ a_ w_ => ∃ (x : Nat) (y : Nat), n_ = 1 * y ∧ (Nat.gcd x y = Nat.gcd a.mag b.mag) ∧ (SzB k x) ∧ (SzB k y) ∧ St w0 45 [(4, (ptr b3 0)), (5, (.string (bs x))), (6, (.string (bs y)))] [.blk b3 (cI (⟨false, 0⟩ : GI)) 38, .blk b2 (cI b) 38, .blk b1 (cI a) 38] a_ w_) _ ⟨a.mag, b.mag, rfl, rfl, za, zb, (h.pick [0, 1, 2] (by decide)).sub ⟨rfl, rfl, rfl, trivial⟩⟩ ?_
 clear h ac wo; rintro _ ac wo ⟨x, y, rfl, hg, zx, zy, h⟩
 refine gz h <| gq fun K4 hK4 => gr fun K5 hK5 => g0 (ah rfl) rfl <| g0 (kR rfl rfl (m := y) (n := 0)) rfl <| gn hK5 ?_; clear h ac wo; intro ac wo h
 refine cr h rfl (fun hc1 => ?_) (fun hc1 => ?_)
 ·
  have hy : y ≠ 0 := by simpa using hc1
  refine gz h <| gS <| gx hK4 <| gB <| gq fun K6 hK6 => gr fun K7 hK7 => g0 (ah rfl) rfl <| g0 (ah rfl) rfl <| gl Tryz.call193 rfl (eJ x y) rfl <| g0 (ah rfl) rfl <| g0 (bh rfl rfl) rfl <| g0 (bh rfl rfl) rfl <| g0 (bh rfl rfl) rfl <| g0 (ag rfl) rfl <| g0 (ag rfl) rfl <| g0 (ag rfl) rfl <| gn hK7 <| gr fun K8 hK8 => g0 (ah rfl) rfl <| gn hK8 ?_; clear h ac wo; intro ac wo h
  refine cr h rfl (fun hc2 => ?_) (fun hc2 => ?_)
  ·
   obtain ⟨ha6, hb6, hw⟩ := iL hc2
   simp only [hw] at h
   refine dg fun K9 hK9 => ?_
   refine fx ?_
   refine wp_loop_ghost (fun n_ a_ w_ => ∃ (u : Nat) (v : Nat), n_ = 1 * v ∧ (Nat.gcd u v = Nat.gcd a.mag b.mag) ∧ (SzB k u) ∧ (SzB k v) ∧ (u < 18446744073709551616 ∧ v < 18446744073709551616) ∧ St w0 45 [(4, (ptr b3 0)), (7, (.int .u64 ((u : Nat) : Int))), (8, (.int .u64 ((v : Nat) : Int)))] [.blk b3 (cI (⟨false, 0⟩ : GI)) 38, .blk b2 (cI b) 38, .blk b1 (cI a) 38] a_ w_) _ ⟨x, y, rfl, hg, zx, zy, ⟨ha6, hb6⟩, (h.pick [0, 1, 2] (by decide)).sub ⟨rfl, rfl, rfl, trivial⟩⟩ ?_
   clear h ac wo; rintro _ ac wo ⟨u, v, rfl, hgu, zu, zv, hul, h⟩
   refine gz h <| gq fun K10 hK10 => gr fun K11 hK11 => g0 (ah rfl) rfl <| g0 (fV rfl rfl) rfl <| gn hK11 ?_; clear h ac wo; intro ac wo h
   refine cr h rfl (fun hc3 => ?_) (fun hc3 => ?_)
   ·
    have hv : v ≠ 0 := by have := hc3; simp at this; omega
    refine dF ?_
    refine hK10 _ _ ?_
    refine fx ?_
    refine cj mixed [dv _, dv _, dv _, dv _, dv _, dv _] [⟨_, []⟩, ⟨_, []⟩, ⟨_, []⟩] h rfl (by kernel_rfl) ⟨fun _ _ => om rfl, fun _ _ => om rfl, fun _ _ => om rfl, fun _ _ => ax (fF rfl rfl (r := ((u % v : Nat) : Int)) (by omega) (by rw [Int.tmod_eq_emod_of_nonneg (by omega)]; rfl)), fun _ _ => ax (ag rfl), fun _ _ => ax (ag rfl), trivial⟩ ?_
    clear h ac wo; intro ξ ac wo hφ h
    replace h : St w0 45 [(4, (ptr b3 0)), (7, (.int .u64 ((v : Nat) : Int))), (8, (.int .u64 ((u % v : Nat) : Int)))] [.blk b3 (cI (⟨false, 0⟩ : GI)) 38, .blk b2 (cI b) 38, .blk b1 (cI a) 38] ac wo := h.sub ⟨rfl, rfl, rfl, trivial⟩
    clear hφ ξ
    refine nk ?_
    exact aI ⟨_, (by have := Nat.mod_lt u (show v > 0 by omega); omega), v, (u % v), rfl, (by rw [oz]; exact hgu), zv, (fe zu (Nat.mod_le _ _)), ⟨hul.2, by have := Nat.mod_lt u (show v > 0 by omega); omega⟩, (h.pick [0, 1, 2] (by decide)).sub ⟨rfl, rfl, rfl, trivial⟩⟩
   ·
    have hv : v = 0 := by have := hc3; simp at this; omega
    subst hv
    have c1 := bN false (bg u) k (by omega) zu
    have s1 := az (c1 w0)
    refine gz h <| gE <| gx hK9 <| gr fun K12 hK12 => g0 (ah rfl) rfl <| gl Tryz.call173 rfl (cv u hul.1) rfl <| gl cc172 rfl c1 rfl <| gs 0 (cI (ay false (bg u))) rfl zz38 rfl rfl rfl rfl rfl rfl rfl <| gn hK12 <| gT ?_; clear h ac wo; intro ac wo h
    have hd : au a b = (ay false (bg u)) := (by rw [Nat.gcd_zero_right] at hgu; unfold au; rw [← hgu]; rfl)
    exact ret h rfl (.cell (v := (vI (ay false (bg u)))) rfl (i := 0) rfl aa38 zz38 rfl rfl rfl .nil) rfl (h.retP (by rw [hd] <;> rfl) (by rw [hd]; exact s1))
  ·
   have c2 := fN x y k (by omega) zx zy (by omega)
   have s2 := az (c2 w0)
   refine gz h <| gS <| gx hK6 <| gr fun K13 hK13 => g0 (ah rfl) rfl <| g0 (ah rfl) rfl <| gl Tryz.call194 rfl c2 rfl <| g0 (ah rfl) rfl <| g0 (bh rfl rfl) rfl <| g0 (bh rfl rfl) rfl <| g0 (ag rfl) rfl <| g0 (ag rfl) rfl <| gn hK13 <| gR <| g0 (ah rfl) rfl <| g0 (ah rfl) rfl <| g0 (ag rfl) rfl <| g0 (ag rfl) rfl <| gx (fun _ _ => bG) <| gN ?_; clear h ac wo; intro ac wo h
   exact aI ⟨_, (by have := Nat.mod_lt x (show y > 0 by omega); omega), y, (x % y), rfl, (by rw [oz]; exact hg), zy, (fe zx (Nat.mod_le _ _)), (h.pick [0, 1, 2] (by decide)).sub ⟨rfl, rfl, rfl, trivial⟩⟩
 ·
  have hy : y = 0 := by simpa using hc1
  subst hy
  have c3 := bN false x k (by omega) zx
  have s3 := az (c3 w0)
  refine gz h <| gE <| gx hK3 <| gr fun K14 hK14 => g0 (ah rfl) rfl <| gl cc172 rfl c3 rfl <| gs 0 (cI (ay false x)) rfl zz38 rfl rfl rfl rfl rfl rfl rfl <| gn hK14 <| gT ?_; clear h ac wo; intro ac wo h
  have hd : au a b = (ay false x) := (by rw [Nat.gcd_zero_right] at hg; unfold au; rw [← hg])
  exact ret h rfl (.cell (v := (vI (ay false x))) rfl (i := 0) rfl aa38 zz38 rfl rfl rfl .nil) rfl (h.retP (by rw [hd] <;> rfl) (by rw [hd]; exact s3))
def cp (a : GI) (b : GI) : GI × GI × Int :=
 bif (decide (b.mag = 0)) then
  ((⟨false, 0⟩ : GI), (⟨false, 0⟩ : GI), 6)
 else
  bif (a.neg && (!(decide (((aQ a.mag b.mag).2) = 0)))) then
   ((ay (a.neg != b.neg) (bV ((aQ a.mag b.mag).1) 1)), (ay false (bY b.mag ((aQ a.mag b.mag).2))), 0)
  else
   ((ay (a.neg != b.neg) ((aQ a.mag b.mag).1)), (ay false ((aQ a.mag b.mag).2)), 0)
theorem j8 (a : GI) (b : GI) (k : Nat) (hk : (k + 1) ≤ 40) (za : SzI (k + 1) a) (zb : SzI (k + 1) b) (w0 : World) : Calls Tryz.prog 212 #[(vI a), (vI b)] w0 (dZ w0 (.tuple #[(vI ((cp a b).1)), (vI ((cp a b).2.1)), (.int .i64 ((cp a b).2.2))]) (SzI k ((cp a b).1) ∧ SzI k ((cp a b).2.1))) := by
 refine enter (N := 43) (args := [(vI a), (vI b)]) Tryz.func212 rfl rfl ?_; intro ac h
 refine dL fun K1 hK1 => ?_
 refine bx h (cI a) rfl rfl rfl fun b1 => gb (cI b) rfl rfl rfl fun b2 => ga (cI (⟨false, 0⟩ : GI)) vv38 rfl rfl fun b3 => ga (cI (⟨false, 0⟩ : GI)) vv38 rfl rfl fun b4 => g0 (ag rfl) rfl <| gn hK1 <| gq fun K2 hK2 => gr fun K3 hK3 => g0 (fa uu38 rfl zz9 rfl rfl rfl (k' := 1)) rfl <| g1 2 rfl (aX aa9 zz9 rfl rfl rfl (v := (.string (bs b.mag))) rfl) rfl <| g0 (lW rfl rfl (m := b.mag) (n := 0)) rfl <| gn hK3 ?_; clear h ac; intro ac wo h
 refine cr h rfl (fun hc1 => ?_) (fun hc1 => ?_)
 ·
  have hd1 := of_decide_eq_true hc1
  refine gz h <| gr fun K4 hK4 => g0 (bp mu rfl rfl (v := (vI (⟨false, 0⟩ : GI))) rfl) rfl <| g0 (bp mu rfl rfl (v := (vI (⟨false, 0⟩ : GI))) rfl) rfl <| gs 1 (cI (⟨false, 0⟩ : GI)) rfl zz38 rfl rfl rfl rfl rfl rfl rfl <| gs 0 (cI (⟨false, 0⟩ : GI)) rfl zz38 rfl rfl rfl rfl rfl rfl rfl <| g0 (ag rfl) rfl <| gn hK4 <| gT ?_; clear h ac wo; intro ac wo h
  have hd : cp a b = ((⟨false, 0⟩ : GI), (⟨false, 0⟩ : GI), 6) := (cT hc1)
  exact ret h rfl (.cell (v := (vI (⟨false, 0⟩ : GI))) rfl (i := 1) rfl aa38 zz38 rfl rfl rfl (.cell (v := (vI (⟨false, 0⟩ : GI))) rfl (i := 0) rfl aa38 zz38 rfl rfl rfl (.tmp rfl .nil))) rfl (h.retP (by rw [hd] <;> rfl) (by rw [hd]; exact ⟨(bZ 0 (by decide) (by omega)), (bZ 0 (by decide) (by omega))⟩))
 ·
  have hd1 := of_decide_eq_false hc1
  have c1 := fN a.mag b.mag (k + 1) (by omega) za zb (by omega)
  have s1 := az (c1 w0)
  refine gz h <| gS <| gx hK2 <| gr fun K5 hK5 => g0 (fa uu38 rfl zz9 rfl rfl rfl (k' := 1)) rfl <| g1 3 rfl (aX aa9 zz9 rfl rfl rfl (v := (.string (bs a.mag))) rfl) rfl <| g0 (fa uu38 rfl zz9 rfl rfl rfl (k' := 1)) rfl <| g1 2 rfl (aX aa9 zz9 rfl rfl rfl (v := (.string (bs b.mag))) rfl) rfl <| gl Tryz.call194 rfl c1 rfl <| g0 (ah rfl) rfl <| g0 (bh rfl rfl) rfl <| g0 (bh rfl rfl) rfl <| g0 (ag rfl) rfl <| g0 (ag rfl) rfl <| gn hK5 <| gq fun K6 hK6 => gr fun K7 hK7 => g0 (fa uu38 rfl zz4 rfl rfl rfl (k' := 0)) rfl <| g1 3 rfl (aX aa4 zz4 rfl rfl rfl (v := (.bool a.neg)) rfl) rfl <| g0 (ah rfl) rfl <| ge1 rfl rfl (fun hg => (Rd.of_nil (ah rfl)).step) rfl <| ge1 rfl rfl (fun hg => (Rd.of_nil (kR (ar rfl hg) rfl (m := ((aQ a.mag b.mag).2)) (n := 0))).step) rfl <| g0 (dQ rfl (fun e => (ar rfl e))) rfl <| gn hK7 ?_; clear h ac wo; intro ac wo h
  refine cr h rfl (fun hc2 => ?_) (fun hc2 => ?_)
  ·
   have s2 := az ((fd ((aQ a.mag b.mag).1) 1 k (by omega) s1.1 (bZ 1 (by decide) (by omega))) w0)
   have s3 := az ((eM b.mag ((aQ a.mag b.mag).2) (k + 1) (by omega) zb s1.2 (Nat.le_of_lt (Nat.mod_lt _ (by omega)))) w0)
   refine cj mixed [dv _, dv _, dv _, dw _ [2], dv _, dv _, dv _, dv _] [⟨_, []⟩, ⟨_, []⟩, ⟨_, []⟩, ⟨_, []⟩] h rfl (by kernel_rfl) ⟨fun _ _ => om rfl, fun _ _ => dU (cB Tryz.call190 rfl (fd ((aQ a.mag b.mag).1) 1 k (by omega) s1.1 (bZ 1 (by decide) (by omega)))), fun _ _ => ax (fa uu38 rfl zz9 rfl rfl rfl (k' := 1)), fun _ _ => cq _ rfl rfl (aX aa9 zz9 rfl rfl rfl (v := (.string (bs b.mag))) rfl), fun _ _ => om rfl, fun _ _ => dU (cB cc192 rfl (eM b.mag ((aQ a.mag b.mag).2) (k + 1) (by omega) zb s1.2 (Nat.le_of_lt (Nat.mod_lt _ (by omega))))), fun _ _ => ax (ag rfl), fun _ _ => ax (ag rfl), trivial⟩ ?_
   clear h ac wo; intro ξ ac wo hφ h
   replace h : St w0 43 [(2, (ptr b1 0)), (3, (ptr b2 0)), (4, (ptr b3 0)), (5, (ptr b4 0)), (7, (.string (bs (bV ((aQ a.mag b.mag).1) 1)))), (8, (.string (bs (bY b.mag ((aQ a.mag b.mag).2)))))] [.blk b4 (cI (⟨false, 0⟩ : GI)) 38, .blk b3 (cI (⟨false, 0⟩ : GI)) 38, .blk b2 (cI b) 38, .blk b1 (cI a) 38] ac wo := h.sub ⟨rfl, rfl, rfl, rfl, rfl, rfl, trivial⟩
   clear hφ ξ
   have c4 := bN (a.neg != b.neg) (bV ((aQ a.mag b.mag).1) 1) k (by omega) s2
   have s4 := az (c4 w0)
   have c5 := bN false (bY b.mag ((aQ a.mag b.mag).2)) (k + 1) (by omega) s3
   have s5 := az (c5 w0)
   refine gz h <| gx hK6 <| gr fun K8 hK8 => g0 (fa uu38 rfl zz4 rfl rfl rfl (k' := 0)) rfl <| g1 3 rfl (aX aa4 zz4 rfl rfl rfl (v := (.bool a.neg)) rfl) rfl <| g0 (fa uu38 rfl zz4 rfl rfl rfl (k' := 0)) rfl <| g1 2 rfl (aX aa4 zz4 rfl rfl rfl (v := (.bool b.neg)) rfl) rfl <| g0 (n7 nn4 rfl rfl) rfl <| g0 (ah rfl) rfl <| gl cc172 rfl c4 rfl <| g0 (ah rfl) rfl <| gl cc172 rfl c5 rfl <| gs 1 (cI (ay (a.neg != b.neg) (bV ((aQ a.mag b.mag).1) 1))) rfl zz38 rfl rfl rfl rfl rfl rfl rfl <| gs 0 (cI (ay false (bY b.mag ((aQ a.mag b.mag).2)))) rfl zz38 rfl rfl rfl rfl rfl rfl rfl <| g0 (ag rfl) rfl <| gn hK8 <| gT ?_; clear h ac wo; intro ac wo h
   have hd : cp a b = ((ay (a.neg != b.neg) (bV ((aQ a.mag b.mag).1) 1)), (ay false (bY b.mag ((aQ a.mag b.mag).2))), 0) := (Eq.trans (cF hc1) (cT hc2))
   exact ret h rfl (.cell (v := (vI (ay (a.neg != b.neg) (bV ((aQ a.mag b.mag).1) 1)))) rfl (i := 1) rfl aa38 zz38 rfl rfl rfl (.cell (v := (vI (ay false (bY b.mag ((aQ a.mag b.mag).2))))) rfl (i := 0) rfl aa38 zz38 rfl rfl rfl (.tmp rfl .nil))) rfl (h.retP (by rw [hd] <;> rfl) (by rw [hd]; exact ⟨s4, (im s5 (by omega))⟩))
  ·
   have c6 := bN (a.neg != b.neg) ((aQ a.mag b.mag).1) (k + 1) (by omega) s1.1
   have s6 := az (c6 w0)
   have c7 := bN false ((aQ a.mag b.mag).2) (k + 1) (by omega) s1.2
   have s7 := az (c7 w0)
   refine gz h <| gS <| gx hK6 <| gr fun K9 hK9 => g0 (fa uu38 rfl zz4 rfl rfl rfl (k' := 0)) rfl <| g1 3 rfl (aX aa4 zz4 rfl rfl rfl (v := (.bool a.neg)) rfl) rfl <| g0 (fa uu38 rfl zz4 rfl rfl rfl (k' := 0)) rfl <| g1 2 rfl (aX aa4 zz4 rfl rfl rfl (v := (.bool b.neg)) rfl) rfl <| g0 (n7 nn4 rfl rfl) rfl <| g0 (ah rfl) rfl <| gl cc172 rfl c6 rfl <| g0 (ah rfl) rfl <| gl cc172 rfl c7 rfl <| gs 1 (cI (ay (a.neg != b.neg) ((aQ a.mag b.mag).1))) rfl zz38 rfl rfl rfl rfl rfl rfl rfl <| gs 0 (cI (ay false ((aQ a.mag b.mag).2))) rfl zz38 rfl rfl rfl rfl rfl rfl rfl <| g0 (ag rfl) rfl <| gn hK9 <| gT ?_; clear h ac wo; intro ac wo h
   have hd : cp a b = ((ay (a.neg != b.neg) ((aQ a.mag b.mag).1)), (ay false ((aQ a.mag b.mag).2)), 0) := (Eq.trans (cF hc1) (cF hc2))
   exact ret h rfl (.cell (v := (vI (ay (a.neg != b.neg) ((aQ a.mag b.mag).1)))) rfl (i := 1) rfl aa38 zz38 rfl rfl rfl (.cell (v := (vI (ay false ((aQ a.mag b.mag).2)))) rfl (i := 0) rfl aa38 zz38 rfl rfl rfl (.tmp rfl .nil))) rfl (h.retP (by rw [hd] <;> rfl) (by rw [hd]; exact ⟨(im s6 (by omega)), (im s7 (by omega))⟩))
def rational_one  : GI :=
 (bO 1)
theorem dM (k : Nat) (hk : k ≤ 40) (w0 : World) : Calls Tryz.prog 164 #[] w0 (dZ w0 (vI rational_one) (SzI k rational_one)) := by
 refine enter (N := 2) (args := []) Tryz.func164 rfl rfl ?_; intro ac h
 have c1 := gY 1 k (by omega)  (by omega)
 have s1 := az (c1 w0)
 refine dL fun K1 hK1 => ?_
 refine al h (cI (⟨false, 0⟩ : GI)) vv38 rfl rfl fun b1 => gn hK1 <| gr fun K2 hK2 => gl Tryz.call113 rfl c1 rfl <| gs 0 (cI (bO 1)) rfl zz38 rfl rfl rfl rfl rfl rfl rfl <| gn hK2 <| gT ?_; clear h ac; intro ac wo h
 exact ret h rfl (.cell (v := (vI (bO 1))) rfl (i := 0) rfl aa38 zz38 rfl rfl rfl .nil) rfl (h.retP (by unfold rational_one; rfl) (by unfold rational_one; exact s1))
def ak (n : Int) : GQ :=
 (⟨(bO n), (⟨false, 0⟩ : GI)⟩ : GQ)
theorem bo (n : Int) (k : Nat) (hk : k ≤ 40) (hn : -9223372036854775808 ≤ n ∧ n ≤ 9223372036854775807) (w0 : World) : Calls Tryz.prog 45 #[(.int .i64 n)] w0 (dZ w0 (vQ (ak n)) (SzQ k (ak n))) := by
 refine enter (N := 6) (args := [(.int .i64 n)]) Tryz.func45 rfl rfl ?_; intro ac h
 have c1 := gY n k (by omega)  (by omega)
 have s1 := az (c1 w0)
 refine dL fun K1 hK1 => ?_
 refine al h (cQ oQ) vv40 rfl rfl fun b1 => gn hK1 <| gr fun K2 hK2 => g0 (ah rfl) rfl <| gl Tryz.call113 rfl c1 rfl <| g0 (bp lx rfl rfl (v := (vQ (⟨(bO n), (⟨false, 0⟩ : GI)⟩ : GQ))) rfl) rfl <| gs 0 (cQ (⟨(bO n), (⟨false, 0⟩ : GI)⟩ : GQ)) rfl zz40 rfl rfl rfl rfl rfl rfl rfl <| gn hK2 <| gT ?_; clear h ac; intro ac wo h
 exact ret h rfl (.cell (v := (vQ (⟨(bO n), (⟨false, 0⟩ : GI)⟩ : GQ))) rfl (i := 0) rfl aa40 zz40 rfl rfl rfl .nil) rfl (h.retP (by unfold ak; rfl) (by unfold ak; exact ⟨s1, (bZ 0 (by decide) (by omega))⟩))
def aC (a : GQ) : GI :=
 bif (decide (a.den = (⟨false, 0⟩ : GI))) then
  rational_one
 else
  a.den
theorem cd (a : GQ) (k : Nat) (hk : k ≤ 40) (za : SzQ k a) (w0 : World) : Calls Tryz.prog 159 #[(vQ a)] w0 (dZ w0 (vI (aC a)) (SzI k (aC a))) := by
 refine enter (N := 10) (args := [(vQ a)]) Tryz.func159 rfl rfl ?_; intro ac h
 refine dL fun K1 hK1 => ?_
 refine bx h (cQ a) rfl rfl rfl fun b1 => ga (cI (⟨false, 0⟩ : GI)) vv38 rfl rfl fun b2 => gn hK1 <| gq fun K2 hK2 => gr fun K3 hK3 => g0 (fa uu40 rfl zz38 rfl rfl rfl (k' := 2)) rfl <| g1 1 rfl (aX aa38 zz38 rfl rfl rfl (v := (vI a.den)) rfl) rfl <| g0 (bp mu rfl rfl (v := (vI (⟨false, 0⟩ : GI))) rfl) rfl <| g0 (fq pi rfl rfl) rfl <| gn hK3 ?_; clear h ac; intro ac wo h
 refine cr h rfl (fun hc1 => ?_) (fun hc1 => ?_)
 ·
  have hd1 := of_decide_eq_true hc1
  have c1 := dM  k (by omega) 
  have s1 := az (c1 w0)
  refine gz h <| gr fun K4 hK4 => gl cc164 rfl c1 rfl <| gs 0 (cI rational_one) rfl zz38 rfl rfl rfl rfl rfl rfl rfl <| gn hK4 <| gT ?_; clear h ac wo; intro ac wo h
  have hd : aC a = rational_one := (cT hc1)
  exact ret h rfl (.cell (v := (vI rational_one)) rfl (i := 0) rfl aa38 zz38 rfl rfl rfl .nil) rfl (h.retP (by rw [hd] <;> rfl) (by rw [hd]; exact s1))
 ·
  have hd1 := of_decide_eq_false hc1
  refine gz h <| gS <| gx hK2 <| gr fun K5 hK5 => g0 (fa uu40 rfl zz38 rfl rfl rfl (k' := 2)) rfl <| g1 1 rfl (aX aa38 zz38 rfl rfl rfl (v := (vI a.den)) rfl) rfl <| gs 0 (cI a.den) rfl zz38 rfl rfl rfl rfl rfl rfl rfl <| gn hK5 <| gT ?_; clear h ac wo; intro ac wo h
  have hd : aC a = a.den := (cF hc1)
  exact ret h rfl (.cell (v := (vI a.den)) rfl (i := 0) rfl aa38 zz38 rfl rfl rfl .nil) rfl (h.retP (by rw [hd] <;> rfl) (by rw [hd]; exact za.2))
def ao (a : GI) (b : GI) : GI :=
 (cp a b).1
theorem cH (a : GI) (b : GI) (k : Nat) (hk : (k + 1) ≤ 40) (za : SzI (k + 1) a) (zb : SzI (k + 1) b) (w0 : World) : Calls Tryz.prog 188 #[(vI a), (vI b)] w0 (dZ w0 (vI (ao a b)) (SzI k (ao a b))) := by
 refine enter (N := 16) (args := [(vI a), (vI b)]) Tryz.func188 rfl rfl ?_; intro ac h
 have c1 := j8 a b k (by omega) za zb
 have s1 := az (c1 w0)
 refine dL fun K1 hK1 => ?_
 refine bx h (cI a) rfl rfl rfl fun b1 => gb (cI b) rfl rfl rfl fun b2 => ga (cI (⟨false, 0⟩ : GI)) vv38 rfl rfl fun b3 => gn hK1 <| gr fun K2 hK2 => g1 2 rfl (aX aa38 zz38 rfl rfl rfl (v := (vI a)) rfl) rfl <| g1 1 rfl (aX aa38 zz38 rfl rfl rfl (v := (vI b)) rfl) rfl <| gl Tryz.call212 rfl c1 rfl <| g0 (ah rfl) rfl <| g0 (bh rfl rfl) rfl <| g0 (bh rfl rfl) rfl <| g0 (bh rfl rfl) rfl <| ga (cI (⟨false, 0⟩ : GI)) vv38 rfl rfl fun b4 => ga (cI (⟨false, 0⟩ : GI)) vv38 rfl rfl fun b5 => gs 1 (cI ((cp a b).1)) rfl zz38 rfl rfl rfl rfl rfl rfl rfl <| gs 0 (cI ((cp a b).2.1)) rfl zz38 rfl rfl rfl rfl rfl rfl rfl <| g0 (ag rfl) rfl <| gn hK2 <| gr fun K3 hK3 => g1 1 rfl (aX aa38 zz38 rfl rfl rfl (v := (vI ((cp a b).1))) rfl) rfl <| gs 2 (cI ((cp a b).1)) rfl zz38 rfl rfl rfl rfl rfl rfl rfl <| gn hK3 <| gT ?_; clear h ac; intro ac wo h
 exact ret h rfl (.cell (v := (vI ((cp a b).1))) rfl (i := 2) rfl aa38 zz38 rfl rfl rfl .nil) rfl (h.retP (by unfold ao; rfl) (by unfold ao; exact s1.1))
def be (num : GI) (den : GI) : GQ :=
 bif (decide ((cg den) < 0)) then
  bif (decide ((ao (am den) (au (am num) (am den))) = rational_one)) then
   (⟨(ao (am num) (au (am num) (am den))), (⟨false, 0⟩ : GI)⟩ : GQ)
  else
   (⟨(ao (am num) (au (am num) (am den))), (ao (am den) (au (am num) (am den)))⟩ : GQ)
 else
  bif (decide ((ao den (au num den)) = rational_one)) then
   (⟨(ao num (au num den)), (⟨false, 0⟩ : GI)⟩ : GQ)
  else
   (⟨(ao num (au num den)), (ao den (au num den))⟩ : GQ)
theorem dN (num : GI) (den : GI) (k : Nat) (hk : (k + 1) ≤ 40) (znum : SzI (k + 1) num) (zden : SzI (k + 1) den) (w0 : World) : Calls Tryz.prog 157 #[(vI num), (vI den)] w0 (dZ w0 (vQ (be num den)) (SzQ k (be num den))) := by
 refine enter (N := 29) (args := [(vI num), (vI den)]) Tryz.func157 rfl rfl ?_; intro ac h
 have p2 := az ((dO den) w0)
 refine dL fun K1 hK1 => ?_
 refine bx h (cI num) rfl rfl rfl fun b1 => gb (cI den) rfl rfl rfl fun b2 => ga (cQ oQ) vv40 rfl rfl fun b3 => gn hK1 <| gq fun K2 hK2 => gr fun K3 hK3 => g1 1 rfl (aX aa38 zz38 rfl rfl rfl (v := (vI den)) rfl) rfl <| gl cc124 rfl (dO den) rfl <| g0 (dJ rfl rfl) rfl <| gn hK3 ?_; clear h ac; intro ac wo h
 refine cr h rfl (fun hc1 => ?_) (fun hc1 => ?_)
 ·
  have hd1 := of_decide_eq_true hc1
  have s3 := az ((d3 num (k + 1) (by omega) znum) w0)
  have s4 := az ((d3 den (k + 1) (by omega) zden) w0)
  refine cj mixed [dw _ [2], dv _, dw _ [1], dv _, dw _ [2], dw _ [1]] [⟨_, []⟩, ⟨.blk b2 (cI den) 38, [(5, .con _)]⟩, ⟨.blk b1 (cI num) 38, [(4, .con _)]⟩] h rfl (by kernel_rfl) ⟨fun _ _ => cq _ rfl rfl (aX aa38 zz38 rfl rfl rfl (v := (vI num)) rfl), fun _ _ => dU (cB cc118 rfl (d3 num (k + 1) (by omega) znum)), fun _ _ => cq _ rfl rfl (aX aa38 zz38 rfl rfl rfl (v := (vI den)) rfl), fun _ _ => dU (cB cc118 rfl (d3 den (k + 1) (by omega) zden)), fun _ _ => fM _ [.blk b1 (cI (am num)) 38] rfl rfl (gK zz38 rfl rfl rfl rfl rfl rfl rfl), fun _ _ => fM _ [.blk b2 (cI (am den)) 38] rfl rfl (gK zz38 rfl rfl rfl rfl rfl rfl rfl), trivial⟩ ?_
  clear h ac wo; intro ξ ac wo hφ h
  replace h : St w0 29 [(2, (ptr b1 0)), (3, (ptr b2 0)), (4, (ptr b3 0))] [.blk b3 (cQ oQ) 40, .blk b2 (cI (am den)) 38, .blk b1 (cI (am num)) 38] ac wo := h.sub ⟨rfl, rfl, rfl, trivial⟩
  clear hφ ξ
  have c5 := fO (am num) (am den) (k + 1) (by omega) s3 s4
  have s5 := az (c5 w0)
  have s6 := az ((cH (am num) (au (am num) (am den)) k (by omega) s3 s5) w0)
  have s7 := az ((cH (am den) (au (am num) (am den)) k (by omega) s4 s5) w0)
  refine gz h <| gx hK2 <| gr fun K4 hK4 => g1 2 rfl (aX aa38 zz38 rfl rfl rfl (v := (vI (am num))) rfl) rfl <| g1 1 rfl (aX aa38 zz38 rfl rfl rfl (v := (vI (am den))) rfl) rfl <| gl Tryz.call165 rfl c5 rfl <| ga (cI (⟨false, 0⟩ : GI)) vv38 rfl rfl fun b4 => gs 0 (cI (au (am num) (am den))) rfl zz38 rfl rfl rfl rfl rfl rfl rfl <| gn hK4 <| gq fun K5 hK5 => ?_; clear h ac wo; intro ac wo h
  refine cj mixed [dw _ [3], dw _ [0], dv _, dw _ [2], dw _ [0], dv _, dw _ [3], dw _ [2]] [⟨_, []⟩, ⟨_, []⟩, ⟨.blk b2 (cI (am den)) 38, [(7, .con _)]⟩, ⟨.blk b1 (cI (am num)) 38, [(6, .con _)]⟩] h rfl (by kernel_rfl) ⟨fun _ _ => cq _ rfl rfl (aX aa38 zz38 rfl rfl rfl (v := (vI (am num))) rfl), fun _ _ => cq _ rfl rfl (aX aa38 zz38 rfl rfl rfl (v := (vI (au (am num) (am den)))) rfl), fun _ _ => dU (cB cc188 rfl (cH (am num) (au (am num) (am den)) k (by omega) s3 s5)), fun _ _ => cq _ rfl rfl (aX aa38 zz38 rfl rfl rfl (v := (vI (am den))) rfl), fun _ _ => cq _ rfl rfl (aX aa38 zz38 rfl rfl rfl (v := (vI (au (am num) (am den)))) rfl), fun _ _ => dU (cB cc188 rfl (cH (am den) (au (am num) (am den)) k (by omega) s4 s5)), fun _ _ => fM _ [.blk b1 (cI (ao (am num) (au (am num) (am den)))) 38] rfl rfl (gK zz38 rfl rfl rfl rfl rfl rfl rfl), fun _ _ => fM _ [.blk b2 (cI (ao (am den) (au (am num) (am den)))) 38] rfl rfl (gK zz38 rfl rfl rfl rfl rfl rfl rfl), trivial⟩ ?_
  clear h ac wo; intro ξ ac wo hφ h
  replace h : St w0 29 [(2, (ptr b1 0)), (3, (ptr b2 0)), (4, (ptr b3 0))] [.blk b4 (cI (au (am num) (am den))) 38, .blk b3 (cQ oQ) 40, .blk b2 (cI (ao (am den) (au (am num) (am den)))) 38, .blk b1 (cI (ao (am num) (au (am num) (am den)))) 38] ac wo := h.sub ⟨rfl, rfl, rfl, trivial⟩
  clear hφ ξ
  refine hK5 _ _ ?_
  refine dg fun K6 hK6 => ?_
  refine dg fun K7 hK7 => ?_
  have s8 := az ((dM  (k + 1) (by omega) ) w0)
  refine cj mixed [dw _ [2], dv _, dv _] [⟨_, []⟩, ⟨_, []⟩, ⟨_, []⟩, ⟨_, []⟩] h rfl (by kernel_rfl) ⟨fun _ _ => cq _ rfl rfl (aX aa38 zz38 rfl rfl rfl (v := (vI (ao (am den) (au (am num) (am den))))) rfl), fun _ _ => dU (cB cc164 rfl (dM  (k + 1) (by omega) )), fun _ _ => ax (fq pi rfl rfl), trivial⟩ ?_
  clear h ac wo; intro ξ ac wo hφ h
  replace h : St w0 29 [(2, (ptr b1 0)), (3, (ptr b2 0)), (4, (ptr b3 0)), (24, (.bool (decide ((ao (am den) (au (am num) (am den))) = rational_one))))] [.blk b4 (cI (au (am num) (am den))) 38, .blk b3 (cQ oQ) 40, .blk b2 (cI (ao (am den) (au (am num) (am den)))) 38, .blk b1 (cI (ao (am num) (au (am num) (am den)))) 38] ac wo := h.sub ⟨rfl, rfl, rfl, rfl, trivial⟩
  clear hφ ξ
  refine hK7 _ _ ?_
  refine cr h rfl (fun hc2 => ?_) (fun hc2 => ?_)
  ·
   have hd2 := of_decide_eq_true hc2
   refine gz h <| gR <| g0 (bp mu rfl rfl (v := (vI (⟨false, 0⟩ : GI))) rfl) rfl <| gs 2 (cI (⟨false, 0⟩ : GI)) rfl zz38 rfl rfl rfl rfl rfl rfl rfl <| gn hK6 <| gr fun K8 hK8 => g1 3 rfl (aX aa38 zz38 rfl rfl rfl (v := (vI (ao (am num) (au (am num) (am den))))) rfl) rfl <| g1 2 rfl (aX aa38 zz38 rfl rfl rfl (v := (vI (⟨false, 0⟩ : GI))) rfl) rfl <| g0 (bp lx rfl rfl (v := (vQ (⟨(ao (am num) (au (am num) (am den))), (⟨false, 0⟩ : GI)⟩ : GQ))) rfl) rfl <| gs 1 (cQ (⟨(ao (am num) (au (am num) (am den))), (⟨false, 0⟩ : GI)⟩ : GQ)) rfl zz40 rfl rfl rfl rfl rfl rfl rfl <| gn hK8 <| gT ?_; clear h ac wo; intro ac wo h
   have hd : be num den = (⟨(ao (am num) (au (am num) (am den))), (⟨false, 0⟩ : GI)⟩ : GQ) := (Eq.trans (cT hc1) (cT hc2))
   exact ret h rfl (.cell (v := (vQ (⟨(ao (am num) (au (am num) (am den))), (⟨false, 0⟩ : GI)⟩ : GQ))) rfl (i := 1) rfl aa40 zz40 rfl rfl rfl .nil) rfl (h.retP (by rw [hd] <;> rfl) (by rw [hd]; exact ⟨s6, (bZ 0 (by decide) (by omega))⟩))
  ·
   have hd2 := of_decide_eq_false hc2
   refine gz h <| gS <| gx hK6 <| gr fun K9 hK9 => g1 3 rfl (aX aa38 zz38 rfl rfl rfl (v := (vI (ao (am num) (au (am num) (am den))))) rfl) rfl <| g1 2 rfl (aX aa38 zz38 rfl rfl rfl (v := (vI (ao (am den) (au (am num) (am den))))) rfl) rfl <| g0 (bp lx rfl rfl (v := (vQ (⟨(ao (am num) (au (am num) (am den))), (ao (am den) (au (am num) (am den)))⟩ : GQ))) rfl) rfl <| gs 1 (cQ (⟨(ao (am num) (au (am num) (am den))), (ao (am den) (au (am num) (am den)))⟩ : GQ)) rfl zz40 rfl rfl rfl rfl rfl rfl rfl <| gn hK9 <| gT ?_; clear h ac wo; intro ac wo h
   have hd : be num den = (⟨(ao (am num) (au (am num) (am den))), (ao (am den) (au (am num) (am den)))⟩ : GQ) := (Eq.trans (cT hc1) (cF hc2))
   exact ret h rfl (.cell (v := (vQ (⟨(ao (am num) (au (am num) (am den))), (ao (am den) (au (am num) (am den)))⟩ : GQ))) rfl (i := 1) rfl aa40 zz40 rfl rfl rfl .nil) rfl (h.retP (by rw [hd] <;> rfl) (by rw [hd]; exact ⟨s6, s7⟩))
 ·
  have hd1 := of_decide_eq_false hc1
  have c9 := fO num den (k + 1) (by omega) znum zden
  have s9 := az (c9 w0)
  have s10 := az ((cH num (au num den) k (by omega) znum s9) w0)
  have s11 := az ((cH den (au num den) k (by omega) zden s9) w0)
  refine gz h <| gS <| gx hK2 <| gr fun K10 hK10 => g1 2 rfl (aX aa38 zz38 rfl rfl rfl (v := (vI num)) rfl) rfl <| g1 1 rfl (aX aa38 zz38 rfl rfl rfl (v := (vI den)) rfl) rfl <| gl Tryz.call165 rfl c9 rfl <| ga (cI (⟨false, 0⟩ : GI)) vv38 rfl rfl fun b5 => gs 0 (cI (au num den)) rfl zz38 rfl rfl rfl rfl rfl rfl rfl <| gn hK10 <| gq fun K11 hK11 => ?_; clear h ac wo; intro ac wo h
  refine cj mixed [dw _ [3], dw _ [0], dv _, dw _ [2], dw _ [0], dv _, dw _ [3], dw _ [2]] [⟨_, []⟩, ⟨_, []⟩, ⟨.blk b2 (cI den) 38, [(7, .con _)]⟩, ⟨.blk b1 (cI num) 38, [(6, .con _)]⟩] h rfl (by kernel_rfl) ⟨fun _ _ => cq _ rfl rfl (aX aa38 zz38 rfl rfl rfl (v := (vI num)) rfl), fun _ _ => cq _ rfl rfl (aX aa38 zz38 rfl rfl rfl (v := (vI (au num den))) rfl), fun _ _ => dU (cB cc188 rfl (cH num (au num den) k (by omega) znum s9)), fun _ _ => cq _ rfl rfl (aX aa38 zz38 rfl rfl rfl (v := (vI den)) rfl), fun _ _ => cq _ rfl rfl (aX aa38 zz38 rfl rfl rfl (v := (vI (au num den))) rfl), fun _ _ => dU (cB cc188 rfl (cH den (au num den) k (by omega) zden s9)), fun _ _ => fM _ [.blk b1 (cI (ao num (au num den))) 38] rfl rfl (gK zz38 rfl rfl rfl rfl rfl rfl rfl), fun _ _ => fM _ [.blk b2 (cI (ao den (au num den))) 38] rfl rfl (gK zz38 rfl rfl rfl rfl rfl rfl rfl), trivial⟩ ?_
  clear h ac wo; intro ξ ac wo hφ h
  replace h : St w0 29 [(2, (ptr b1 0)), (3, (ptr b2 0)), (4, (ptr b3 0))] [.blk b5 (cI (au num den)) 38, .blk b3 (cQ oQ) 40, .blk b2 (cI (ao den (au num den))) 38, .blk b1 (cI (ao num (au num den))) 38] ac wo := h.sub ⟨rfl, rfl, rfl, trivial⟩
  clear hφ ξ
  refine hK11 _ _ ?_
  refine dg fun K12 hK12 => ?_
  refine dg fun K13 hK13 => ?_
  have s12 := az ((dM  (k + 1) (by omega) ) w0)
  refine cj mixed [dw _ [2], dv _, dv _] [⟨_, []⟩, ⟨_, []⟩, ⟨_, []⟩, ⟨_, []⟩] h rfl (by kernel_rfl) ⟨fun _ _ => cq _ rfl rfl (aX aa38 zz38 rfl rfl rfl (v := (vI (ao den (au num den)))) rfl), fun _ _ => dU (cB cc164 rfl (dM  (k + 1) (by omega) )), fun _ _ => ax (fq pi rfl rfl), trivial⟩ ?_
  clear h ac wo; intro ξ ac wo hφ h
  replace h : St w0 29 [(2, (ptr b1 0)), (3, (ptr b2 0)), (4, (ptr b3 0)), (24, (.bool (decide ((ao den (au num den)) = rational_one))))] [.blk b5 (cI (au num den)) 38, .blk b3 (cQ oQ) 40, .blk b2 (cI (ao den (au num den))) 38, .blk b1 (cI (ao num (au num den))) 38] ac wo := h.sub ⟨rfl, rfl, rfl, rfl, trivial⟩
  clear hφ ξ
  refine hK13 _ _ ?_
  refine cr h rfl (fun hc3 => ?_) (fun hc3 => ?_)
  ·
   have hd3 := of_decide_eq_true hc3
   refine gz h <| gR <| g0 (bp mu rfl rfl (v := (vI (⟨false, 0⟩ : GI))) rfl) rfl <| gs 2 (cI (⟨false, 0⟩ : GI)) rfl zz38 rfl rfl rfl rfl rfl rfl rfl <| gn hK12 <| gr fun K14 hK14 => g1 3 rfl (aX aa38 zz38 rfl rfl rfl (v := (vI (ao num (au num den)))) rfl) rfl <| g1 2 rfl (aX aa38 zz38 rfl rfl rfl (v := (vI (⟨false, 0⟩ : GI))) rfl) rfl <| g0 (bp lx rfl rfl (v := (vQ (⟨(ao num (au num den)), (⟨false, 0⟩ : GI)⟩ : GQ))) rfl) rfl <| gs 1 (cQ (⟨(ao num (au num den)), (⟨false, 0⟩ : GI)⟩ : GQ)) rfl zz40 rfl rfl rfl rfl rfl rfl rfl <| gn hK14 <| gT ?_; clear h ac wo; intro ac wo h
   have hd : be num den = (⟨(ao num (au num den)), (⟨false, 0⟩ : GI)⟩ : GQ) := (Eq.trans (cF hc1) (cT hc3))
   exact ret h rfl (.cell (v := (vQ (⟨(ao num (au num den)), (⟨false, 0⟩ : GI)⟩ : GQ))) rfl (i := 1) rfl aa40 zz40 rfl rfl rfl .nil) rfl (h.retP (by rw [hd] <;> rfl) (by rw [hd]; exact ⟨s10, (bZ 0 (by decide) (by omega))⟩))
  ·
   have hd3 := of_decide_eq_false hc3
   refine gz h <| gS <| gx hK12 <| gr fun K15 hK15 => g1 3 rfl (aX aa38 zz38 rfl rfl rfl (v := (vI (ao num (au num den)))) rfl) rfl <| g1 2 rfl (aX aa38 zz38 rfl rfl rfl (v := (vI (ao den (au num den)))) rfl) rfl <| g0 (bp lx rfl rfl (v := (vQ (⟨(ao num (au num den)), (ao den (au num den))⟩ : GQ))) rfl) rfl <| gs 1 (cQ (⟨(ao num (au num den)), (ao den (au num den))⟩ : GQ)) rfl zz40 rfl rfl rfl rfl rfl rfl rfl <| gn hK15 <| gT ?_; clear h ac wo; intro ac wo h
   have hd : be num den = (⟨(ao num (au num den)), (ao den (au num den))⟩ : GQ) := (Eq.trans (cF hc1) (cF hc3))
   exact ret h rfl (.cell (v := (vQ (⟨(ao num (au num den)), (ao den (au num den))⟩ : GQ))) rfl (i := 1) rfl aa40 zz40 rfl rfl rfl .nil) rfl (h.retP (by rw [hd] <;> rfl) (by rw [hd]; exact ⟨s10, s11⟩))
def aD (a : GQ) (b : GQ) : GI × GI × GI :=
 bif (decide (a.den = b.den)) then
  (a.num, b.num, (aC a))
 else
  ((bj a.num (aC b)), (bj b.num (aC a)), (bj (aC a) (aC b)))
theorem ie (a : GQ) (b : GQ) (k : Nat) (hk : (k + 1) ≤ 40) (za : SzQ (k + 1) a) (zb : SzQ (k + 1) b) (w0 : World) : Calls Tryz.prog 160 #[(vQ a), (vQ b)] w0 (dZ w0 (.tuple #[(vI ((aD a b).1)), (vI ((aD a b).2.1)), (vI ((aD a b).2.2))]) (SzI k ((aD a b).1) ∧ SzI k ((aD a b).2.1) ∧ SzI k ((aD a b).2.2))) := by
 refine enter (N := 33) (args := [(vQ a), (vQ b)]) Tryz.func160 rfl rfl ?_; intro ac h
 refine dL fun K1 hK1 => ?_
 refine bx h (cQ a) rfl rfl rfl fun b1 => gb (cQ b) rfl rfl rfl fun b2 => ga (cI (⟨false, 0⟩ : GI)) vv38 rfl rfl fun b3 => ga (cI (⟨false, 0⟩ : GI)) vv38 rfl rfl fun b4 => ga (cI (⟨false, 0⟩ : GI)) vv38 rfl rfl fun b5 => gn hK1 <| gq fun K2 hK2 => gr fun K3 hK3 => g0 (fa uu40 rfl zz38 rfl rfl rfl (k' := 2)) rfl <| g1 4 rfl (aX aa38 zz38 rfl rfl rfl (v := (vI a.den)) rfl) rfl <| g0 (fa uu40 rfl zz38 rfl rfl rfl (k' := 2)) rfl <| g1 3 rfl (aX aa38 zz38 rfl rfl rfl (v := (vI b.den)) rfl) rfl <| g0 (fq pi rfl rfl) rfl <| gn hK3 ?_; clear h ac; intro ac wo h
 refine cr h rfl (fun hc1 => ?_) (fun hc1 => ?_)
 ·
  have hd1 := of_decide_eq_true hc1
  refine dg fun K4 hK4 => ?_
  have s1 := az ((cd a (k + 1) (by omega) za) w0)
  refine cj mixed [dv _, dw _ [4], dv _, dw _ [3], dw _ [4], dv _, dw _ [2], dw _ [1], dw _ [0]] [⟨.blk b5 (cI (⟨false, 0⟩ : GI)) 38, [(8, .con _)]⟩, ⟨.blk b4 (cI (⟨false, 0⟩ : GI)) 38, [(7, .con _)]⟩, ⟨.blk b3 (cI (⟨false, 0⟩ : GI)) 38, [(6, .con _)]⟩, ⟨_, []⟩, ⟨_, []⟩] h rfl (by kernel_rfl) ⟨fun _ _ => ax (fa uu40 rfl zz38 rfl rfl rfl (k' := 0)), fun _ _ => cq _ rfl rfl (aX aa38 zz38 rfl rfl rfl (v := (vI a.num)) rfl), fun _ _ => ax (fa uu40 rfl zz38 rfl rfl rfl (k' := 0)), fun _ _ => cq _ rfl rfl (aX aa38 zz38 rfl rfl rfl (v := (vI b.num)) rfl), fun _ _ => cq _ rfl rfl (aX aa40 zz40 rfl rfl rfl (v := (vQ a)) rfl), fun _ _ => dU (cB cc159 rfl (cd a (k + 1) (by omega) za)), fun _ _ => fM _ [.blk b3 (cI a.num) 38] rfl rfl (gK zz38 rfl rfl rfl rfl rfl rfl rfl), fun _ _ => fM _ [.blk b4 (cI b.num) 38] rfl rfl (gK zz38 rfl rfl rfl rfl rfl rfl rfl), fun _ _ => fM _ [.blk b5 (cI (aC a)) 38] rfl rfl (gK zz38 rfl rfl rfl rfl rfl rfl rfl), trivial⟩ ?_
  clear h ac wo; intro ξ ac wo hφ h
  replace h : St w0 33 [(4, (ptr b3 0)), (5, (ptr b4 0)), (6, (ptr b5 0))] [.blk b5 (cI (aC a)) 38, .blk b4 (cI b.num) 38, .blk b3 (cI a.num) 38, .blk b2 (cQ b) 40, .blk b1 (cQ a) 40] ac wo := h.sub ⟨rfl, rfl, rfl, trivial⟩
  clear hφ ξ
  refine hK4 _ _ ?_
  refine e8 ?_
  have hd : aD a b = (a.num, b.num, (aC a)) := (cT hc1)
  exact ret h rfl (.cell (v := (vI a.num)) rfl (i := 2) rfl aa38 zz38 rfl rfl rfl (.cell (v := (vI b.num)) rfl (i := 1) rfl aa38 zz38 rfl rfl rfl (.cell (v := (vI (aC a))) rfl (i := 0) rfl aa38 zz38 rfl rfl rfl .nil))) rfl (h.retP (by rw [hd] <;> rfl) (by rw [hd]; exact ⟨(d8 za (by omega)).1, (d8 zb (by omega)).1, (im s1 (by omega))⟩))
 ·
  have hd1 := of_decide_eq_false hc1
  refine dF ?_
  refine hK2 _ _ ?_
  refine dg fun K5 hK5 => ?_
  have s2 := az ((cd b (k + 1) (by omega) zb) w0)
  have s3 := az ((dy a.num (aC b) k (by omega) za.1 s2) w0)
  have s4 := az ((cd a (k + 1) (by omega) za) w0)
  have s5 := az ((dy b.num (aC a) k (by omega) zb.1 s4) w0)
  have s6 := az ((cd a (k + 1) (by omega) za) w0)
  have s7 := az ((cd b (k + 1) (by omega) zb) w0)
  have s8 := az ((dy (aC a) (aC b) k (by omega) s6 s7) w0)
  refine cj mixed [dv _, dw _ [4], dw _ [3], dv _, dv _, dv _, dw _ [3], dw _ [4], dv _, dv _, dw _ [4], dv _, dw _ [3], dv _, dv _, dw _ [2], dw _ [1], dw _ [0]] [⟨.blk b5 (cI (⟨false, 0⟩ : GI)) 38, [(17, .con _)]⟩, ⟨.blk b4 (cI (⟨false, 0⟩ : GI)) 38, [(16, .con _)]⟩, ⟨.blk b3 (cI (⟨false, 0⟩ : GI)) 38, [(15, .con _)]⟩, ⟨_, []⟩, ⟨_, []⟩] h rfl (by kernel_rfl) ⟨fun _ _ => ax (fa uu40 rfl zz38 rfl rfl rfl (k' := 0)), fun _ _ => cq _ rfl rfl (aX aa38 zz38 rfl rfl rfl (v := (vI a.num)) rfl), fun _ _ => cq _ rfl rfl (aX aa40 zz40 rfl rfl rfl (v := (vQ b)) rfl), fun _ _ => dU (cB cc159 rfl (cd b (k + 1) (by omega) zb)), fun _ _ => dU (cB cc158 rfl (dy a.num (aC b) k (by omega) za.1 s2)), fun _ _ => ax (fa uu40 rfl zz38 rfl rfl rfl (k' := 0)), fun _ _ => cq _ rfl rfl (aX aa38 zz38 rfl rfl rfl (v := (vI b.num)) rfl), fun _ _ => cq _ rfl rfl (aX aa40 zz40 rfl rfl rfl (v := (vQ a)) rfl), fun _ _ => dU (cB cc159 rfl (cd a (k + 1) (by omega) za)), fun _ _ => dU (cB cc158 rfl (dy b.num (aC a) k (by omega) zb.1 s4)), fun _ _ => cq _ rfl rfl (aX aa40 zz40 rfl rfl rfl (v := (vQ a)) rfl), fun _ _ => dU (cB cc159 rfl (cd a (k + 1) (by omega) za)), fun _ _ => cq _ rfl rfl (aX aa40 zz40 rfl rfl rfl (v := (vQ b)) rfl), fun _ _ => dU (cB cc159 rfl (cd b (k + 1) (by omega) zb)), fun _ _ => dU (cB cc158 rfl (dy (aC a) (aC b) k (by omega) s6 s7)), fun _ _ => fM _ [.blk b3 (cI (bj a.num (aC b))) 38] rfl rfl (gK zz38 rfl rfl rfl rfl rfl rfl rfl), fun _ _ => fM _ [.blk b4 (cI (bj b.num (aC a))) 38] rfl rfl (gK zz38 rfl rfl rfl rfl rfl rfl rfl), fun _ _ => fM _ [.blk b5 (cI (bj (aC a) (aC b))) 38] rfl rfl (gK zz38 rfl rfl rfl rfl rfl rfl rfl), trivial⟩ ?_
  clear h ac wo; intro ξ ac wo hφ h
  replace h : St w0 33 [(4, (ptr b3 0)), (5, (ptr b4 0)), (6, (ptr b5 0))] [.blk b5 (cI (bj (aC a) (aC b))) 38, .blk b4 (cI (bj b.num (aC a))) 38, .blk b3 (cI (bj a.num (aC b))) 38, .blk b2 (cQ b) 40, .blk b1 (cQ a) 40] ac wo := h.sub ⟨rfl, rfl, rfl, trivial⟩
  clear hφ ξ
  refine hK5 _ _ ?_
  refine e8 ?_
  have hd : aD a b = ((bj a.num (aC b)), (bj b.num (aC a)), (bj (aC a) (aC b))) := (cF hc1)
  exact ret h rfl (.cell (v := (vI (bj a.num (aC b)))) rfl (i := 2) rfl aa38 zz38 rfl rfl rfl (.cell (v := (vI (bj b.num (aC a)))) rfl (i := 1) rfl aa38 zz38 rfl rfl rfl (.cell (v := (vI (bj (aC a) (aC b)))) rfl (i := 0) rfl aa38 zz38 rfl rfl rfl .nil))) rfl (h.retP (by rw [hd] <;> rfl) (by rw [hd]; exact ⟨s3, s5, s8⟩))
def aK (a : GQ) (b : GQ) : GQ :=
 (be (dp ((aD a b).1) ((aD a b).2.1)) ((aD a b).2.2))
theorem cm (a : GQ) (b : GQ) (k : Nat) (hk : (k + 3) ≤ 40) (za : SzQ (k + 3) a) (zb : SzQ (k + 3) b) (w0 : World) : Calls Tryz.prog 102 #[(vQ a), (vQ b)] w0 (dZ w0 (vQ (aK a b)) (SzQ k (aK a b))) := by
 refine enter (N := 20) (args := [(vQ a), (vQ b)]) Tryz.func102 rfl rfl ?_; intro ac h
 have c1 := ie a b (k + 2) (by omega) za zb
 have s1 := az (c1 w0)
 have s2 := az ((jl ((aD a b).1) ((aD a b).2.1) (k + 1) (by omega) s1.1 s1.2.1) w0)
 have s3 := az ((dN (dp ((aD a b).1) ((aD a b).2.1)) ((aD a b).2.2) k (by omega) s2 (im s1.2.2 (by omega))) w0)
 refine dL fun K1 hK1 => ?_
 refine bx h (cQ a) rfl rfl rfl fun b1 => gb (cQ b) rfl rfl rfl fun b2 => ga (cQ oQ) vv40 rfl rfl fun b3 => gn hK1 <| gr fun K2 hK2 => g1 2 rfl (aX aa40 zz40 rfl rfl rfl (v := (vQ a)) rfl) rfl <| g1 1 rfl (aX aa40 zz40 rfl rfl rfl (v := (vQ b)) rfl) rfl <| gl Tryz.call160 rfl c1 rfl <| g0 (ah rfl) rfl <| g0 (bh rfl rfl) rfl <| g0 (bh rfl rfl) rfl <| g0 (bh rfl rfl) rfl <| ga (cI (⟨false, 0⟩ : GI)) vv38 rfl rfl fun b4 => ga (cI (⟨false, 0⟩ : GI)) vv38 rfl rfl fun b5 => ga (cI (⟨false, 0⟩ : GI)) vv38 rfl rfl fun b6 => gs 2 (cI ((aD a b).1)) rfl zz38 rfl rfl rfl rfl rfl rfl rfl <| gs 1 (cI ((aD a b).2.1)) rfl zz38 rfl rfl rfl rfl rfl rfl rfl <| gs 0 (cI ((aD a b).2.2)) rfl zz38 rfl rfl rfl rfl rfl rfl rfl <| gn hK2 <| gq fun K3 hK3 => ?_; clear h ac; intro ac wo h
 refine cj mixed [dw _ [2], dw _ [1], dv _, dw _ [0], dv _, dw _ [3]] [⟨_, []⟩, ⟨_, []⟩, ⟨_, []⟩, ⟨.blk b3 (cQ oQ) 40, [(5, .con _)]⟩, ⟨_, []⟩, ⟨_, []⟩] h rfl (by kernel_rfl) ⟨fun _ _ => cq _ rfl rfl (aX aa38 zz38 rfl rfl rfl (v := (vI ((aD a b).1))) rfl), fun _ _ => cq _ rfl rfl (aX aa38 zz38 rfl rfl rfl (v := (vI ((aD a b).2.1))) rfl), fun _ _ => dU (cB Tryz.call161 rfl (jl ((aD a b).1) ((aD a b).2.1) (k + 1) (by omega) s1.1 s1.2.1)), fun _ _ => cq _ rfl rfl (aX aa38 zz38 rfl rfl rfl (v := (vI ((aD a b).2.2))) rfl), fun _ _ => dU (cB Tryz.call157 rfl (dN (dp ((aD a b).1) ((aD a b).2.1)) ((aD a b).2.2) k (by omega) s2 (im s1.2.2 (by omega)))), fun _ _ => fM _ [.blk b3 (cQ (be (dp ((aD a b).1) ((aD a b).2.1)) ((aD a b).2.2))) 40] rfl rfl (gK zz40 rfl rfl rfl rfl rfl rfl rfl), trivial⟩ ?_
 clear h ac wo; intro ξ ac wo hφ h
 replace h : St w0 20 [(4, (ptr b3 0))] [.blk b6 (cI ((aD a b).2.2)) 38, .blk b5 (cI ((aD a b).2.1)) 38, .blk b4 (cI ((aD a b).1)) 38, .blk b3 (cQ (be (dp ((aD a b).1) ((aD a b).2.1)) ((aD a b).2.2))) 40, .blk b2 (cQ b) 40, .blk b1 (cQ a) 40] ac wo := h.sub ⟨rfl, trivial⟩
 clear hφ ξ
 refine hK3 _ _ ?_
 refine e8 ?_
 exact ret h rfl (.cell (v := (vQ (be (dp ((aD a b).1) ((aD a b).2.1)) ((aD a b).2.2)))) rfl (i := 3) rfl aa40 zz40 rfl rfl rfl .nil) rfl (h.retP (by unfold aK; rfl) (by unfold aK; exact s3))
def bA (a : GQ) : GQ :=
 (⟨(am a.num), a.den⟩ : GQ)
theorem fp (a : GQ) (k : Nat) (hk : k ≤ 40) (za : SzQ k a) (w0 : World) : Calls Tryz.prog 52 #[(vQ a)] w0 (dZ w0 (vQ (bA a)) (SzQ k (bA a))) := by
 refine enter (N := 9) (args := [(vQ a)]) Tryz.func52 rfl rfl ?_; intro ac h
 have s1 := az ((d3 a.num k (by omega) za.1) w0)
 refine dL fun K1 hK1 => ?_
 refine bx h (cQ a) rfl rfl rfl fun b1 => ga (cQ oQ) vv40 rfl rfl fun b2 => gn hK1 <| gq fun K2 hK2 => ?_; clear h ac; intro ac wo h
 refine cj mixed [dv _, dw _ [1], dv _, dv _, dw _ [1], dv _, dw _ [0]] [⟨.blk b2 (cQ oQ) 40, [(6, .con _)]⟩, ⟨_, []⟩] h rfl (by kernel_rfl) ⟨fun _ _ => ax (fa uu40 rfl zz38 rfl rfl rfl (k' := 0)), fun _ _ => cq _ rfl rfl (aX aa38 zz38 rfl rfl rfl (v := (vI a.num)) rfl), fun _ _ => dU (cB cc118 rfl (d3 a.num k (by omega) za.1)), fun _ _ => ax (fa uu40 rfl zz38 rfl rfl rfl (k' := 2)), fun _ _ => cq _ rfl rfl (aX aa38 zz38 rfl rfl rfl (v := (vI a.den)) rfl), fun _ _ => ax (bp lx rfl rfl (v := (vQ (⟨(am a.num), a.den⟩ : GQ))) rfl), fun _ _ => fM _ [.blk b2 (cQ (⟨(am a.num), a.den⟩ : GQ)) 40] rfl rfl (gK zz40 rfl rfl rfl rfl rfl rfl rfl), trivial⟩ ?_
 clear h ac wo; intro ξ ac wo hφ h
 replace h : St w0 9 [(2, (ptr b2 0))] [.blk b2 (cQ (⟨(am a.num), a.den⟩ : GQ)) 40, .blk b1 (cQ a) 40] ac wo := h.sub ⟨rfl, trivial⟩
 clear hφ ξ
 refine hK2 _ _ ?_
 refine e8 ?_
 exact ret h rfl (.cell (v := (vQ (⟨(am a.num), a.den⟩ : GQ))) rfl (i := 0) rfl aa40 zz40 rfl rfl rfl .nil) rfl (h.retP (by unfold bA; rfl) (by unfold bA; exact ⟨s1, za.2⟩))
def an (a : GQ) (b : GQ) : GQ :=
 (aK a (bA b))
theorem cG (a : GQ) (b : GQ) (k : Nat) (hk : (k + 3) ≤ 40) (za : SzQ (k + 3) a) (zb : SzQ (k + 3) b) (w0 : World) : Calls Tryz.prog 100 #[(vQ a), (vQ b)] w0 (dZ w0 (vQ (an a b)) (SzQ k (an a b))) := by
 refine enter (N := 9) (args := [(vQ a), (vQ b)]) Tryz.func100 rfl rfl ?_; intro ac h
 have s1 := az ((fp b (k + 3) (by omega) zb) w0)
 have s2 := az ((cm a (bA b) k (by omega) za s1) w0)
 refine dL fun K1 hK1 => ?_
 refine bx h (cQ a) rfl rfl rfl fun b1 => gb (cQ b) rfl rfl rfl fun b2 => ga (cQ oQ) vv40 rfl rfl fun b3 => gn hK1 <| gq fun K2 hK2 => ?_; clear h ac; intro ac wo h
 refine cj mixed [dw _ [2], dw _ [1], dv _, dv _, dw _ [0]] [⟨.blk b3 (cQ oQ) 40, [(4, .con _)]⟩, ⟨_, []⟩, ⟨_, []⟩] h rfl (by kernel_rfl) ⟨fun _ _ => cq _ rfl rfl (aX aa40 zz40 rfl rfl rfl (v := (vQ a)) rfl), fun _ _ => cq _ rfl rfl (aX aa40 zz40 rfl rfl rfl (v := (vQ b)) rfl), fun _ _ => dU (cB Tryz.call52 rfl (fp b (k + 3) (by omega) zb)), fun _ _ => dU (cB cc102 rfl (cm a (bA b) k (by omega) za s1)), fun _ _ => fM _ [.blk b3 (cQ (aK a (bA b))) 40] rfl rfl (gK zz40 rfl rfl rfl rfl rfl rfl rfl), trivial⟩ ?_
 clear h ac wo; intro ξ ac wo hφ h
 replace h : St w0 9 [(4, (ptr b3 0))] [.blk b3 (cQ (aK a (bA b))) 40, .blk b2 (cQ b) 40, .blk b1 (cQ a) 40] ac wo := h.sub ⟨rfl, trivial⟩
 clear hφ ξ
 refine hK2 _ _ ?_
 refine e8 ?_
 exact ret h rfl (.cell (v := (vQ (aK a (bA b)))) rfl (i := 0) rfl aa40 zz40 rfl rfl rfl .nil) rfl (h.retP (by unfold an; rfl) (by unfold an; exact s2))
def aq (a : GQ) (b : GQ) : GQ :=
 (be (bj a.num b.num) (bj (aC a) (aC b)))
theorem br (a : GQ) (b : GQ) (k : Nat) (hk : (k + 2) ≤ 40) (za : SzQ (k + 2) a) (zb : SzQ (k + 2) b) (w0 : World) : Calls Tryz.prog 101 #[(vQ a), (vQ b)] w0 (dZ w0 (vQ (aq a b)) (SzQ k (aq a b))) := by
 refine enter (N := 16) (args := [(vQ a), (vQ b)]) Tryz.func101 rfl rfl ?_; intro ac h
 have s1 := az ((dy a.num b.num (k + 1) (by omega) za.1 zb.1) w0)
 have s2 := az ((cd a (k + 2) (by omega) za) w0)
 have s3 := az ((cd b (k + 2) (by omega) zb) w0)
 have s4 := az ((dy (aC a) (aC b) (k + 1) (by omega) s2 s3) w0)
 have s5 := az ((dN (bj a.num b.num) (bj (aC a) (aC b)) k (by omega) s1 s4) w0)
 refine dL fun K1 hK1 => ?_
 refine bx h (cQ a) rfl rfl rfl fun b1 => gb (cQ b) rfl rfl rfl fun b2 => ga (cQ oQ) vv40 rfl rfl fun b3 => gn hK1 <| gq fun K2 hK2 => ?_; clear h ac; intro ac wo h
 refine cj mixed [dv _, dw _ [2], dv _, dw _ [1], dv _, dw _ [2], dv _, dw _ [1], dv _, dv _, dv _, dw _ [0]] [⟨.blk b3 (cQ oQ) 40, [(11, .con _)]⟩, ⟨_, []⟩, ⟨_, []⟩] h rfl (by kernel_rfl) ⟨fun _ _ => ax (fa uu40 rfl zz38 rfl rfl rfl (k' := 0)), fun _ _ => cq _ rfl rfl (aX aa38 zz38 rfl rfl rfl (v := (vI a.num)) rfl), fun _ _ => ax (fa uu40 rfl zz38 rfl rfl rfl (k' := 0)), fun _ _ => cq _ rfl rfl (aX aa38 zz38 rfl rfl rfl (v := (vI b.num)) rfl), fun _ _ => dU (cB cc158 rfl (dy a.num b.num (k + 1) (by omega) za.1 zb.1)), fun _ _ => cq _ rfl rfl (aX aa40 zz40 rfl rfl rfl (v := (vQ a)) rfl), fun _ _ => dU (cB cc159 rfl (cd a (k + 2) (by omega) za)), fun _ _ => cq _ rfl rfl (aX aa40 zz40 rfl rfl rfl (v := (vQ b)) rfl), fun _ _ => dU (cB cc159 rfl (cd b (k + 2) (by omega) zb)), fun _ _ => dU (cB cc158 rfl (dy (aC a) (aC b) (k + 1) (by omega) s2 s3)), fun _ _ => dU (cB Tryz.call157 rfl (dN (bj a.num b.num) (bj (aC a) (aC b)) k (by omega) s1 s4)), fun _ _ => fM _ [.blk b3 (cQ (be (bj a.num b.num) (bj (aC a) (aC b)))) 40] rfl rfl (gK zz40 rfl rfl rfl rfl rfl rfl rfl), trivial⟩ ?_
 clear h ac wo; intro ξ ac wo hφ h
 replace h : St w0 16 [(4, (ptr b3 0))] [.blk b3 (cQ (be (bj a.num b.num) (bj (aC a) (aC b)))) 40, .blk b2 (cQ b) 40, .blk b1 (cQ a) 40] ac wo := h.sub ⟨rfl, trivial⟩
 clear hφ ξ
 refine hK2 _ _ ?_
 refine e8 ?_
 exact ret h rfl (.cell (v := (vQ (be (bj a.num b.num) (bj (aC a) (aC b))))) rfl (i := 0) rfl aa40 zz40 rfl rfl rfl .nil) rfl (h.retP (by unfold aq; rfl) (by unfold aq; exact s5))
def aH (a : GQ) : Int :=
 (cg a.num)
theorem cw (a : GQ) (w0 : World) : Calls Tryz.prog 58 #[(vQ a)] w0 (dZ w0 (.int .i64 (aH a)) ((-1 ≤ (aH a) ∧ (aH a) ≤ 1))) := by
 refine enter (N := 6) (args := [(vQ a)]) Tryz.func58 rfl rfl ?_; intro ac h
 have p2 := az ((dO a.num) w0)
 refine dL fun K1 hK1 => ?_
 refine bx h (cQ a) rfl rfl rfl fun b1 => g0 (ag rfl) rfl <| gn hK1 <| gr fun K2 hK2 => g0 (fa uu40 rfl zz38 rfl rfl rfl (k' := 0)) rfl <| g1 0 rfl (aX aa38 zz38 rfl rfl rfl (v := (vI a.num)) rfl) rfl <| gl cc124 rfl (dO a.num) rfl <| g0 (ag rfl) rfl <| gn hK2 <| gT ?_; clear h ac; intro ac wo h
 exact ret h rfl (.tmp rfl .nil) rfl (h.retP (by unfold aH; rfl) (by unfold aH; exact by first | omega | exact d9 (by omega) (by omega)))
def di (a : GQ) (b : GQ) : Int :=
 bif (decide (a = b)) then
  0
 else
  (aO ((aD a b).1) ((aD a b).2.1))
theorem gy (a : GQ) (b : GQ) (k : Nat) (hk : (k + 1) ≤ 40) (za : SzQ (k + 1) a) (zb : SzQ (k + 1) b) (w0 : World) : Calls Tryz.prog 198 #[(vQ a), (vQ b)] w0 (dZ w0 (.int .i64 (di a b)) ((-1 ≤ (di a b) ∧ (di a b) ≤ 1))) := by
 refine enter (N := 21) (args := [(vQ a), (vQ b)]) Tryz.func198 rfl rfl ?_; intro ac h
 refine dL fun K1 hK1 => ?_
 refine bx h (cQ a) rfl rfl rfl fun b1 => gb (cQ b) rfl rfl rfl fun b2 => g0 (ag rfl) rfl <| gn hK1 <| gq fun K2 hK2 => gr fun K3 hK3 => g1 1 rfl (aX aa40 zz40 rfl rfl rfl (v := (vQ a)) rfl) rfl <| g1 0 rfl (aX aa40 zz40 rfl rfl rfl (v := (vQ b)) rfl) rfl <| g0 (fq eqp40 rfl rfl) rfl <| gn hK3 ?_; clear h ac; intro ac wo h
 refine cr h rfl (fun hc1 => ?_) (fun hc1 => ?_)
 ·
  have hd1 := of_decide_eq_true hc1
  refine gz h <| gr fun K4 hK4 => g0 (ag rfl) rfl <| gn hK4 <| gT ?_; clear h ac wo; intro ac wo h
  have hd : di a b = 0 := (cT hc1)
  exact ret h rfl (.tmp rfl .nil) rfl (h.retP (by rw [hd] <;> rfl) (by rw [hd]; exact by first | omega | exact d9 (by omega) (by omega)))
 ·
  have hd1 := of_decide_eq_false hc1
  have c1 := ie a b k (by omega) za zb
  have s1 := az (c1 w0)
  have p3 := az ((eP ((aD a b).1) ((aD a b).2.1) k (by omega) s1.1 s1.2.1) w0)
  refine gz h <| gS <| gx hK2 <| gr fun K5 hK5 => g1 1 rfl (aX aa40 zz40 rfl rfl rfl (v := (vQ a)) rfl) rfl <| g1 0 rfl (aX aa40 zz40 rfl rfl rfl (v := (vQ b)) rfl) rfl <| gl Tryz.call160 rfl c1 rfl <| g0 (ah rfl) rfl <| g0 (bh rfl rfl) rfl <| g0 (bh rfl rfl) rfl <| g0 (bh rfl rfl) rfl <| ga (cI (⟨false, 0⟩ : GI)) vv38 rfl rfl fun b3 => ga (cI (⟨false, 0⟩ : GI)) vv38 rfl rfl fun b4 => ga (cI (⟨false, 0⟩ : GI)) vv38 rfl rfl fun b5 => gs 2 (cI ((aD a b).1)) rfl zz38 rfl rfl rfl rfl rfl rfl rfl <| gs 1 (cI ((aD a b).2.1)) rfl zz38 rfl rfl rfl rfl rfl rfl rfl <| gs 0 (cI ((aD a b).2.2)) rfl zz38 rfl rfl rfl rfl rfl rfl rfl <| gn hK5 <| gr fun K6 hK6 => g1 2 rfl (aX aa38 zz38 rfl rfl rfl (v := (vI ((aD a b).1))) rfl) rfl <| g1 1 rfl (aX aa38 zz38 rfl rfl rfl (v := (vI ((aD a b).2.1))) rfl) rfl <| gl Tryz.call163 rfl (eP ((aD a b).1) ((aD a b).2.1) k (by omega) s1.1 s1.2.1) rfl <| g0 (ag rfl) rfl <| gn hK6 <| gT ?_; clear h ac wo; intro ac wo h
  have hd : di a b = (aO ((aD a b).1) ((aD a b).2.1)) := (cF hc1)
  exact ret h rfl (.tmp rfl .nil) rfl (h.retP (by rw [hd] <;> rfl) (by rw [hd]; exact by first | omega | exact d9 (by omega) (by omega)))
def aF (c0 : GQ) (c1 : GQ) : Qd :=
 (⟨c0, c1, (⟨(⟨false, 0⟩ : GI), (⟨false, 0⟩ : GI)⟩ : GQ)⟩ : Qd)
theorem eF (c0 : GQ) (c1 : GQ) (k : Nat) (hk : k ≤ 40) (zc0 : SzQ k c0) (zc1 : SzQ k c1) (w0 : World) : Calls Tryz.prog 31 #[(vQ c0), (vQ c1)] w0 (dZ w0 (vD (aF c0 c1)) (SzD k (aF c0 c1))) := by
 refine enter (N := 8) (args := [(vQ c0), (vQ c1)]) Tryz.func31 rfl rfl ?_; intro ac h
 refine dL fun K1 hK1 => ?_
 refine bx h (cQ c0) rfl rfl rfl fun b1 => gb (cQ c1) rfl rfl rfl fun b2 => ga (cD oD) vv69 rfl rfl fun b3 => gn hK1 <| gr fun K2 hK2 => g1 2 rfl (aX aa40 zz40 rfl rfl rfl (v := (vQ c0)) rfl) rfl <| g1 1 rfl (aX aa40 zz40 rfl rfl rfl (v := (vQ c1)) rfl) rfl <| g0 (bp qX rfl rfl (v := (vD (⟨c0, c1, oQ⟩ : Qd))) rfl) rfl <| gs 0 (cD (⟨c0, c1, oQ⟩ : Qd)) rfl zz69 rfl rfl rfl rfl rfl rfl rfl <| gn hK2 <| gT ?_; clear h ac; intro ac wo h
 exact ret h rfl (.cell (v := (vD (⟨c0, c1, oQ⟩ : Qd))) rfl (i := 0) rfl aa69 zz69 rfl rfl rfl .nil) rfl (h.retP (by unfold aF; rfl) (by unfold aF; exact ⟨zc0, zc1, ⟨(bZ 0 (by decide) (by omega)), (bZ 0 (by decide) (by omega))⟩⟩))
def aE (c : GQ) : Qd :=
 (⟨c, (⟨(⟨false, 0⟩ : GI), (⟨false, 0⟩ : GI)⟩ : GQ), (⟨(⟨false, 0⟩ : GI), (⟨false, 0⟩ : GI)⟩ : GQ)⟩ : Qd)
theorem eT (c : GQ) (k : Nat) (hk : k ≤ 40) (zc : SzQ k c) (w0 : World) : Calls Tryz.prog 79 #[(vQ c)] w0 (dZ w0 (vD (aE c)) (SzD k (aE c))) := by
 refine enter (N := 5) (args := [(vQ c)]) Tryz.func79 rfl rfl ?_; intro ac h
 refine dL fun K1 hK1 => ?_
 refine bx h (cQ c) rfl rfl rfl fun b1 => ga (cD oD) vv69 rfl rfl fun b2 => gn hK1 <| gr fun K2 hK2 => g1 1 rfl (aX aa40 zz40 rfl rfl rfl (v := (vQ c)) rfl) rfl <| g0 (bp qX rfl rfl (v := (vD (⟨c, oQ, oQ⟩ : Qd))) rfl) rfl <| gs 0 (cD (⟨c, oQ, oQ⟩ : Qd)) rfl zz69 rfl rfl rfl rfl rfl rfl rfl <| gn hK2 <| gT ?_; clear h ac; intro ac wo h
 exact ret h rfl (.cell (v := (vD (⟨c, oQ, oQ⟩ : Qd))) rfl (i := 0) rfl aa69 zz69 rfl rfl rfl .nil) rfl (h.retP (by unfold aE; rfl) (by unfold aE; exact ⟨zc, ⟨(bZ 0 (by decide) (by omega)), (bZ 0 (by decide) (by omega))⟩, ⟨(bZ 0 (by decide) (by omega)), (bZ 0 (by decide) (by omega))⟩⟩))
def cM (p : Qd) (q : Qd) : Qd :=
 (⟨(an p.c0 q.c0), (an p.c1 q.c1), (an p.c2 q.c2)⟩ : Qd)
theorem iD (p : Qd) (q : Qd) (k : Nat) (hk : (k + 3) ≤ 40) (zp : SzD (k + 3) p) (zq : SzD (k + 3) q) (w0 : World) : Calls Tryz.prog 96 #[(vD p), (vD q)] w0 (dZ w0 (vD (cM p q)) (SzD k (cM p q))) := by
 refine enter (N := 21) (args := [(vD p), (vD q)]) Tryz.func96 rfl rfl ?_; intro ac h
 have s1 := az ((cG p.c0 q.c0 k (by omega) zp.1 zq.1) w0)
 have s2 := az ((cG p.c1 q.c1 k (by omega) zp.2.1 zq.2.1) w0)
 have s3 := az ((cG p.c2 q.c2 k (by omega) zp.2.2 zq.2.2) w0)
 refine dL fun K1 hK1 => ?_
 refine bx h (cD p) rfl rfl rfl fun b1 => gb (cD q) rfl rfl rfl fun b2 => ga (cD oD) vv69 rfl rfl fun b3 => gn hK1 <| gq fun K2 hK2 => ?_; clear h ac; intro ac wo h
 refine cj mixed [dv _, dw _ [2], dv _, dw _ [1], dv _, dv _, dw _ [2], dv _, dw _ [1], dv _, dv _, dw _ [2], dv _, dw _ [1], dv _, dv _, dw _ [0]] [⟨.blk b3 (cD oD) 69, [(16, .con _)]⟩, ⟨_, []⟩, ⟨_, []⟩] h rfl (by kernel_rfl) ⟨fun _ _ => ax (fa uu69 rfl zz40 rfl rfl rfl (k' := 0)), fun _ _ => cq _ rfl rfl (aX aa40 zz40 rfl rfl rfl (v := (vQ p.c0)) rfl), fun _ _ => ax (fa uu69 rfl zz40 rfl rfl rfl (k' := 0)), fun _ _ => cq _ rfl rfl (aX aa40 zz40 rfl rfl rfl (v := (vQ q.c0)) rfl), fun _ _ => dU (cB cc100 rfl (cG p.c0 q.c0 k (by omega) zp.1 zq.1)), fun _ _ => ax (fa uu69 rfl zz40 rfl rfl rfl (k' := 4)), fun _ _ => cq _ rfl rfl (aX aa40 zz40 rfl rfl rfl (v := (vQ p.c1)) rfl), fun _ _ => ax (fa uu69 rfl zz40 rfl rfl rfl (k' := 4)), fun _ _ => cq _ rfl rfl (aX aa40 zz40 rfl rfl rfl (v := (vQ q.c1)) rfl), fun _ _ => dU (cB cc100 rfl (cG p.c1 q.c1 k (by omega) zp.2.1 zq.2.1)), fun _ _ => ax (fa uu69 rfl zz40 rfl rfl rfl (k' := 8)), fun _ _ => cq _ rfl rfl (aX aa40 zz40 rfl rfl rfl (v := (vQ p.c2)) rfl), fun _ _ => ax (fa uu69 rfl zz40 rfl rfl rfl (k' := 8)), fun _ _ => cq _ rfl rfl (aX aa40 zz40 rfl rfl rfl (v := (vQ q.c2)) rfl), fun _ _ => dU (cB cc100 rfl (cG p.c2 q.c2 k (by omega) zp.2.2 zq.2.2)), fun _ _ => ax (bp qX rfl rfl (v := (vD (⟨(an p.c0 q.c0), (an p.c1 q.c1), (an p.c2 q.c2)⟩ : Qd))) rfl), fun _ _ => fM _ [.blk b3 (cD (⟨(an p.c0 q.c0), (an p.c1 q.c1), (an p.c2 q.c2)⟩ : Qd)) 69] rfl rfl (gK zz69 rfl rfl rfl rfl rfl rfl rfl), trivial⟩ ?_
 clear h ac wo; intro ξ ac wo hφ h
 replace h : St w0 21 [(4, (ptr b3 0))] [.blk b3 (cD (⟨(an p.c0 q.c0), (an p.c1 q.c1), (an p.c2 q.c2)⟩ : Qd)) 69, .blk b2 (cD q) 69, .blk b1 (cD p) 69] ac wo := h.sub ⟨rfl, trivial⟩
 clear hφ ξ
 refine hK2 _ _ ?_
 refine e8 ?_
 exact ret h rfl (.cell (v := (vD (⟨(an p.c0 q.c0), (an p.c1 q.c1), (an p.c2 q.c2)⟩ : Qd))) rfl (i := 0) rfl aa69 zz69 rfl rfl rfl .nil) rfl (h.retP (by unfold cM; rfl) (by unfold cM; exact ⟨s1, s2, s3⟩))
def cX (q : Qd) (t : GQ) : GQ :=
 (aK q.c0 (aq t (aK q.c1 (aq t q.c2))))
theorem j0 (q : Qd) (t : GQ) (k : Nat) (hk : (k + 10) ≤ 40) (zq : SzD (k + 10) q) (zt : SzQ (k + 10) t) (w0 : World) : Calls Tryz.prog 99 #[(vD q), (vQ t)] w0 (dZ w0 (vQ (cX q t)) (SzQ k (cX q t))) := by
 refine enter (N := 17) (args := [(vD q), (vQ t)]) Tryz.func99 rfl rfl ?_; intro ac h
 have s1 := az ((br t q.c2 (k + 8) (by omega) zt zq.2.2) w0)
 have s2 := az ((cm q.c1 (aq t q.c2) (k + 5) (by omega) (ch zq (by omega)).2.1 s1) w0)
 have s3 := az ((br t (aK q.c1 (aq t q.c2)) (k + 3) (by omega) (d8 zt (by omega)) s2) w0)
 have s4 := az ((cm q.c0 (aq t (aK q.c1 (aq t q.c2))) k (by omega) (ch zq (by omega)).1 s3) w0)
 refine dL fun K1 hK1 => ?_
 refine bx h (cD q) rfl rfl rfl fun b1 => gb (cQ t) rfl rfl rfl fun b2 => ga (cQ oQ) vv40 rfl rfl fun b3 => gn hK1 <| gq fun K2 hK2 => ?_; clear h ac; intro ac wo h
 refine cj mixed [dv _, dw _ [2], dw _ [1], dv _, dw _ [2], dw _ [1], dv _, dw _ [2], dv _, dv _, dv _, dv _, dw _ [0]] [⟨.blk b3 (cQ oQ) 40, [(12, .con _)]⟩, ⟨_, []⟩, ⟨_, []⟩] h rfl (by kernel_rfl) ⟨fun _ _ => ax (fa uu69 rfl zz40 rfl rfl rfl (k' := 0)), fun _ _ => cq _ rfl rfl (aX aa40 zz40 rfl rfl rfl (v := (vQ q.c0)) rfl), fun _ _ => cq _ rfl rfl (aX aa40 zz40 rfl rfl rfl (v := (vQ t)) rfl), fun _ _ => ax (fa uu69 rfl zz40 rfl rfl rfl (k' := 4)), fun _ _ => cq _ rfl rfl (aX aa40 zz40 rfl rfl rfl (v := (vQ q.c1)) rfl), fun _ _ => cq _ rfl rfl (aX aa40 zz40 rfl rfl rfl (v := (vQ t)) rfl), fun _ _ => ax (fa uu69 rfl zz40 rfl rfl rfl (k' := 8)), fun _ _ => cq _ rfl rfl (aX aa40 zz40 rfl rfl rfl (v := (vQ q.c2)) rfl), fun _ _ => dU (cB cc101 rfl (br t q.c2 (k + 8) (by omega) zt zq.2.2)), fun _ _ => dU (cB cc102 rfl (cm q.c1 (aq t q.c2) (k + 5) (by omega) (ch zq (by omega)).2.1 s1)), fun _ _ => dU (cB cc101 rfl (br t (aK q.c1 (aq t q.c2)) (k + 3) (by omega) (d8 zt (by omega)) s2)), fun _ _ => dU (cB cc102 rfl (cm q.c0 (aq t (aK q.c1 (aq t q.c2))) k (by omega) (ch zq (by omega)).1 s3)), fun _ _ => fM _ [.blk b3 (cQ (aK q.c0 (aq t (aK q.c1 (aq t q.c2))))) 40] rfl rfl (gK zz40 rfl rfl rfl rfl rfl rfl rfl), trivial⟩ ?_
 clear h ac wo; intro ξ ac wo hφ h
 replace h : St w0 17 [(4, (ptr b3 0))] [.blk b3 (cQ (aK q.c0 (aq t (aK q.c1 (aq t q.c2))))) 40, .blk b2 (cQ t) 40, .blk b1 (cD q) 69] ac wo := h.sub ⟨rfl, trivial⟩
 clear hφ ξ
 refine hK2 _ _ ?_
 refine e8 ?_
 exact ret h rfl (.cell (v := (vQ (aK q.c0 (aq t (aK q.c1 (aq t q.c2)))))) rfl (i := 0) rfl aa40 zz40 rfl rfl rfl .nil) rfl (h.retP (by unfold cX; rfl) (by unfold cX; exact s4))
def cn (q : Qd) (t : GQ) : GQ :=
 (aK q.c1 (aq (aK q.c2 q.c2) t))
theorem gV (q : Qd) (t : GQ) (k : Nat) (hk : (k + 8) ≤ 40) (zq : SzD (k + 8) q) (zt : SzQ (k + 8) t) (w0 : World) : Calls Tryz.prog 103 #[(vD q), (vQ t)] w0 (dZ w0 (vQ (cn q t)) (SzQ k (cn q t))) := by
 refine enter (N := 15) (args := [(vD q), (vQ t)]) Tryz.func103 rfl rfl ?_; intro ac h
 have s1 := az ((cm q.c2 q.c2 (k + 5) (by omega) zq.2.2 zq.2.2) w0)
 have s2 := az ((br (aK q.c2 q.c2) t (k + 3) (by omega) s1 (d8 zt (by omega))) w0)
 have s3 := az ((cm q.c1 (aq (aK q.c2 q.c2) t) k (by omega) (ch zq (by omega)).2.1 s2) w0)
 refine dL fun K1 hK1 => ?_
 refine bx h (cD q) rfl rfl rfl fun b1 => gb (cQ t) rfl rfl rfl fun b2 => ga (cQ oQ) vv40 rfl rfl fun b3 => gn hK1 <| gq fun K2 hK2 => ?_; clear h ac; intro ac wo h
 refine cj mixed [dv _, dw _ [2], dv _, dw _ [2], dv _, dw _ [2], dv _, dw _ [1], dv _, dv _, dw _ [0]] [⟨.blk b3 (cQ oQ) 40, [(10, .con _)]⟩, ⟨_, []⟩, ⟨_, []⟩] h rfl (by kernel_rfl) ⟨fun _ _ => ax (fa uu69 rfl zz40 rfl rfl rfl (k' := 4)), fun _ _ => cq _ rfl rfl (aX aa40 zz40 rfl rfl rfl (v := (vQ q.c1)) rfl), fun _ _ => ax (fa uu69 rfl zz40 rfl rfl rfl (k' := 8)), fun _ _ => cq _ rfl rfl (aX aa40 zz40 rfl rfl rfl (v := (vQ q.c2)) rfl), fun _ _ => ax (fa uu69 rfl zz40 rfl rfl rfl (k' := 8)), fun _ _ => cq _ rfl rfl (aX aa40 zz40 rfl rfl rfl (v := (vQ q.c2)) rfl), fun _ _ => dU (cB cc102 rfl (cm q.c2 q.c2 (k + 5) (by omega) zq.2.2 zq.2.2)), fun _ _ => cq _ rfl rfl (aX aa40 zz40 rfl rfl rfl (v := (vQ t)) rfl), fun _ _ => dU (cB cc101 rfl (br (aK q.c2 q.c2) t (k + 3) (by omega) s1 (d8 zt (by omega)))), fun _ _ => dU (cB cc102 rfl (cm q.c1 (aq (aK q.c2 q.c2) t) k (by omega) (ch zq (by omega)).2.1 s2)), fun _ _ => fM _ [.blk b3 (cQ (aK q.c1 (aq (aK q.c2 q.c2) t))) 40] rfl rfl (gK zz40 rfl rfl rfl rfl rfl rfl rfl), trivial⟩ ?_
 clear h ac wo; intro ξ ac wo hφ h
 replace h : St w0 15 [(4, (ptr b3 0))] [.blk b3 (cQ (aK q.c1 (aq (aK q.c2 q.c2) t))) 40, .blk b2 (cQ t) 40, .blk b1 (cD q) 69] ac wo := h.sub ⟨rfl, trivial⟩
 clear hφ ξ
 refine hK2 _ _ ?_
 refine e8 ?_
 exact ret h rfl (.cell (v := (vQ (aK q.c1 (aq (aK q.c2 q.c2) t)))) rfl (i := 0) rfl aa40 zz40 rfl rfl rfl .nil) rfl (h.retP (by unfold cn; rfl) (by unfold cn; exact s3))
def ck (x : GR) : GQ × Bool :=
 bif (!(decide (x.r = (⟨(⟨false, 0⟩ : GI), (⟨false, 0⟩ : GI)⟩ : GQ)))) then
  ((⟨(⟨false, 0⟩ : GI), (⟨false, 0⟩ : GI)⟩ : GQ), false)
 else
  (x.p, true)
theorem kq (x : GR) (k : Nat) (hk : k ≤ 40) (zx : SzR k x) (w0 : World) : Calls Tryz.prog 98 #[(vR x)] w0 (dZ w0 (.tuple #[(vQ ((ck x).1)), (.bool ((ck x).2))]) (SzQ k ((ck x).1))) := by
 refine enter (N := 11) (args := [(vR x)]) Tryz.func98 rfl rfl ?_; intro ac h
 refine dL fun K1 hK1 => ?_
 refine bx h (cR x) rfl rfl rfl fun b1 => ga (cQ oQ) vv40 rfl rfl fun b2 => g0 (ag rfl) rfl <| gn hK1 <| gq fun K2 hK2 => gr fun K3 hK3 => g0 (fa uu53 rfl zz40 rfl rfl rfl (k' := 4)) rfl <| g1 1 rfl (aX aa40 zz40 rfl rfl rfl (v := (vQ x.r)) rfl) rfl <| g0 (bp lx rfl rfl (v := (vQ oQ)) rfl) rfl <| g0 (nZ eqp40 rfl rfl) rfl <| gn hK3 ?_; clear h ac; intro ac wo h
 refine cr h rfl (fun hc1 => ?_) (fun hc1 => ?_)
 ·
  refine gz h <| gr fun K4 hK4 => g0 (bp lx rfl rfl (v := (vQ oQ)) rfl) rfl <| gs 0 (cQ oQ) rfl zz40 rfl rfl rfl rfl rfl rfl rfl <| g0 (ag rfl) rfl <| gn hK4 <| gT ?_; clear h ac wo; intro ac wo h
  have hd : ck x = (oQ, false) := (cT hc1)
  exact ret h rfl (.cell (v := (vQ oQ)) rfl (i := 0) rfl aa40 zz40 rfl rfl rfl (.tmp rfl .nil)) rfl (h.retP (by rw [hd] <;> rfl) (by rw [hd]; exact ⟨(bZ 0 (by decide) (by omega)), (bZ 0 (by decide) (by omega))⟩))
 ·
  refine gz h <| gS <| gx hK2 <| gr fun K5 hK5 => g0 (fa uu53 rfl zz40 rfl rfl rfl (k' := 0)) rfl <| g1 1 rfl (aX aa40 zz40 rfl rfl rfl (v := (vQ x.p)) rfl) rfl <| gs 0 (cQ x.p) rfl zz40 rfl rfl rfl rfl rfl rfl rfl <| g0 (ag rfl) rfl <| gn hK5 <| gT ?_; clear h ac wo; intro ac wo h
  have hd : ck x = (x.p, true) := (cF hc1)
  exact ret h rfl (.cell (v := (vQ x.p)) rfl (i := 0) rfl aa40 zz40 rfl rfl rfl (.tmp rfl .nil)) rfl (h.retP (by rw [hd] <;> rfl) (by rw [hd]; exact zx.1))
def aP (q : Qd) (t : GR) : Qd :=
 bif (ck t).2 then
  (aE (cX q ((ck t).1)))
 else
  (aF (aK q.c0 (aq q.c2 (an t.r (aq t.p t.p)))) (cn q t.p))
theorem fi (q : Qd) (t : GR) (k : Nat) (hk : (k + 10) ≤ 40) (zq : SzD (k + 10) q) (zt : SzR (k + 10) t) (w0 : World) : Calls Tryz.prog 37 #[(vD q), (vR t)] w0 (dZ w0 (vD (aP q t)) (SzD k (aP q t))) := by
 refine enter (N := 38) (args := [(vD q), (vR t)]) Tryz.func37 rfl rfl ?_; intro ac h
 have c1 := kq t (k + 10) (by omega) zt
 have s1 := az (c1 w0)
 refine dL fun K1 hK1 => ?_
 refine bx h (cD q) rfl rfl rfl fun b1 => gb (cR t) rfl rfl rfl fun b2 => ga (cD oD) vv69 rfl rfl fun b3 => gn hK1 <| gq fun K2 hK2 => gr fun K3 hK3 => g1 1 rfl (aX aa53 zz53 rfl rfl rfl (v := (vR t)) rfl) rfl <| gl Tryz.call98 rfl c1 rfl <| g0 (ah rfl) rfl <| g0 (bh rfl rfl) rfl <| g0 (bh rfl rfl) rfl <| ga (cQ oQ) vv40 rfl rfl fun b4 => gs 0 (cQ ((ck t).1)) rfl zz40 rfl rfl rfl rfl rfl rfl rfl <| g0 (ag rfl) rfl <| gn hK3 <| gr fun K4 hK4 => g0 (ah rfl) rfl <| gn hK4 ?_; clear h ac; intro ac wo h
 refine cr h rfl (fun hc1 => ?_) (fun hc1 => ?_)
 ·
  have c2 := j0 q ((ck t).1) k (by omega) zq s1
  have s2 := az (c2 w0)
  have c3 := eT (cX q ((ck t).1)) k (by omega) s2
  have s3 := az (c3 w0)
  refine gz h <| gr fun K5 hK5 => g1 3 rfl (aX aa69 zz69 rfl rfl rfl (v := (vD q)) rfl) rfl <| g1 0 rfl (aX aa40 zz40 rfl rfl rfl (v := (vQ ((ck t).1))) rfl) rfl <| gl Tryz.call99 rfl c2 rfl <| gl Tryz.call79 rfl c3 rfl <| gs 1 (cD (aE (cX q ((ck t).1)))) rfl zz69 rfl rfl rfl rfl rfl rfl rfl <| gn hK5 <| gT ?_; clear h ac wo; intro ac wo h
  have hd : aP q t = (aE (cX q ((ck t).1))) := (cT hc1)
  exact ret h rfl (.cell (v := (vD (aE (cX q ((ck t).1))))) rfl (i := 1) rfl aa69 zz69 rfl rfl rfl .nil) rfl (h.retP (by rw [hd] <;> rfl) (by rw [hd]; exact s3))
 ·
  refine dF ?_
  refine hK2 _ _ ?_
  refine dg fun K6 hK6 => ?_
  have s4 := az ((br t.p t.p (k + 8) (by omega) zt.1 zt.1) w0)
  have s5 := az ((cG t.r (aq t.p t.p) (k + 5) (by omega) (cx zt (by omega)).2 s4) w0)
  replace h := h.emps 1
  refine cj mixed [dv _, dw _ [2], dv _, dw _ [2], dv _, dw _ [2], dv _, dv _, ⟨.nd (.one 8 fun v => ∃ b, v = ptr b 0), [4]⟩, ⟨.det undef, [4]⟩] [⟨_, []⟩, ⟨_, []⟩, ⟨_, []⟩, ⟨_, []⟩, ⟨.emp, [(8, .one 8 fun v => .blk (eo v) (cQ oQ) 40), (9, .one 8 fun v => .blk (eo v) (cQ (an t.r (aq t.p t.p))) 40)]⟩] h rfl (by kernel_rfl) ⟨fun _ _ => ax (fa uu53 rfl zz40 rfl rfl rfl (k' := 4)), fun _ _ => cq _ rfl rfl (aX aa40 zz40 rfl rfl rfl (v := (vQ t.r)) rfl), fun _ _ => ax (fa uu53 rfl zz40 rfl rfl rfl (k' := 0)), fun _ _ => cq _ rfl rfl (aX aa40 zz40 rfl rfl rfl (v := (vQ t.p)) rfl), fun _ _ => ax (fa uu53 rfl zz40 rfl rfl rfl (k' := 0)), fun _ _ => cq _ rfl rfl (aX aa40 zz40 rfl rfl rfl (v := (vQ t.p)) rfl), fun _ _ => dU (cB cc101 rfl (br t.p t.p (k + 8) (by omega) zt.1 zt.1)), fun _ _ => dU (cB cc100 rfl (cG t.r (aq t.p t.p) (k + 5) (by omega) (cx zt (by omega)).2 s4)), fun _ _ => ky (ψ := fun v => ∃ b, v = ptr b 0) (B := fun v => [.blk (eo v) (cQ oQ) 40]) [.emp] rfl (fun v _ => by simp only [ec, bD] <;> rfl) (fun v hv => by simpa [DF.one, bD] using hv) (jn (iN vv40 rfl)), (fun ξ hφ => by obtain ⟨b5, hb8⟩ := hφ 8 rfl; exact fM [.blk b5 (cQ oQ) 40] [.blk b5 (cQ (an t.r (aq t.p t.p))) 40] (congrArg (fun v => [Asn.blk (eo v) (cQ oQ) 40]) hb8) (congrArg (fun v => [Asn.blk (eo v) (cQ (an t.r (aq t.p t.p))) 40]) hb8) (gK zz40 (Eq.trans rfl (congrArg some hb8)) rfl rfl rfl rfl rfl rfl)), trivial⟩ ?_
  clear h ac wo; intro ξ ac wo hφ h
  replace h : St w0 38 [(2, (ptr b1 0)), (3, (ptr b2 0)), (4, (ptr b3 0)), (7, ξ 8)] [.blk b4 (cQ ((ck t).1)) 40, .blk b3 (cD oD) 69, .blk b2 (cR t) 53, .blk b1 (cD q) 69, .blk (eo (ξ 8)) (cQ (an t.r (aq t.p t.p))) 40] ac wo := h.sub ⟨rfl, rfl, rfl, rfl, trivial⟩
  revert h
  obtain ⟨b5, hb8⟩ : ∃ b, ξ 8 = ptr b 0 := hφ 8
  rw [hb8]; intro h
  clear hb8 hφ ξ
  refine hK6 _ _ ?_
  refine dg fun K7 hK7 => ?_
  have s6 := az ((br q.c2 (an t.r (aq t.p t.p)) (k + 3) (by omega) (ch zq (by omega)).2.2 s5) w0)
  have s7 := az ((cm q.c0 (aq q.c2 (an t.r (aq t.p t.p))) k (by omega) (ch zq (by omega)).1 s6) w0)
  have s8 := az ((gV q t.p (k + 2) (by omega) zq zt.1) w0)
  have s9 := az ((eF (aK q.c0 (aq q.c2 (an t.r (aq t.p t.p)))) (cn q t.p) k (by omega) s7 (d8 s8 (by omega))) w0)
  refine cj mixed [dv _, dw _ [3], dv _, dw _ [3], dw _ [4], dv _, dv _, dw _ [3], dv _, dw _ [2], dv _, dv _, dw _ [1]] [⟨_, []⟩, ⟨.blk b3 (cD oD) 69, [(12, .con _)]⟩, ⟨_, []⟩, ⟨_, []⟩, ⟨_, []⟩] h rfl (by kernel_rfl) ⟨fun _ _ => ax (fa uu69 rfl zz40 rfl rfl rfl (k' := 0)), fun _ _ => cq _ rfl rfl (aX aa40 zz40 rfl rfl rfl (v := (vQ q.c0)) rfl), fun _ _ => ax (fa uu69 rfl zz40 rfl rfl rfl (k' := 8)), fun _ _ => cq _ rfl rfl (aX aa40 zz40 rfl rfl rfl (v := (vQ q.c2)) rfl), fun _ _ => cq _ rfl rfl (aX aa40 zz40 rfl rfl rfl (v := (vQ (an t.r (aq t.p t.p)))) rfl), fun _ _ => dU (cB cc101 rfl (br q.c2 (an t.r (aq t.p t.p)) (k + 3) (by omega) (ch zq (by omega)).2.2 s5)), fun _ _ => dU (cB cc102 rfl (cm q.c0 (aq q.c2 (an t.r (aq t.p t.p))) k (by omega) (ch zq (by omega)).1 s6)), fun _ _ => cq _ rfl rfl (aX aa69 zz69 rfl rfl rfl (v := (vD q)) rfl), fun _ _ => ax (fa uu53 rfl zz40 rfl rfl rfl (k' := 0)), fun _ _ => cq _ rfl rfl (aX aa40 zz40 rfl rfl rfl (v := (vQ t.p)) rfl), fun _ _ => dU (cB Tryz.call103 rfl (gV q t.p (k + 2) (by omega) zq zt.1)), fun _ _ => dU (cB Tryz.call31 rfl (eF (aK q.c0 (aq q.c2 (an t.r (aq t.p t.p)))) (cn q t.p) k (by omega) s7 (d8 s8 (by omega)))), fun _ _ => fM _ [.blk b3 (cD (aF (aK q.c0 (aq q.c2 (an t.r (aq t.p t.p)))) (cn q t.p))) 69] rfl rfl (gK zz69 rfl rfl rfl rfl rfl rfl rfl), trivial⟩ ?_
  clear h ac wo; intro ξ ac wo hφ h
  replace h : St w0 38 [(4, (ptr b3 0))] [.blk b4 (cQ ((ck t).1)) 40, .blk b3 (cD (aF (aK q.c0 (aq q.c2 (an t.r (aq t.p t.p)))) (cn q t.p))) 69, .blk b2 (cR t) 53, .blk b1 (cD q) 69, .blk b5 (cQ (an t.r (aq t.p t.p))) 40] ac wo := h.sub ⟨rfl, trivial⟩
  clear hφ ξ
  refine hK7 _ _ ?_
  refine e8 ?_
  have hd : aP q t = (aF (aK q.c0 (aq q.c2 (an t.r (aq t.p t.p)))) (cn q t.p)) := (cF hc1)
  exact ret h rfl (.cell (v := (vD (aF (aK q.c0 (aq q.c2 (an t.r (aq t.p t.p)))) (cn q t.p)))) rfl (i := 1) rfl aa69 zz69 rfl rfl rfl .nil) rfl (h.retP (by rw [hd] <;> rfl) (by rw [hd]; exact s9))
def bJ (p : Qd) (q : Qd) (t : GR) : Bool :=
 (decide ((aP (cM p q) t) = (⟨(⟨(⟨false, 0⟩ : GI), (⟨false, 0⟩ : GI)⟩ : GQ), (⟨(⟨false, 0⟩ : GI), (⟨false, 0⟩ : GI)⟩ : GQ), (⟨(⟨false, 0⟩ : GI), (⟨false, 0⟩ : GI)⟩ : GQ)⟩ : Qd)))
theorem jZ (p : Qd) (q : Qd) (t : GR) (k : Nat) (hk : (k + 14) ≤ 40) (zp : SzD (k + 14) p) (zq : SzD (k + 14) q) (zt : SzR (k + 14) t) (w0 : World) : Calls Tryz.prog 30 #[(vD p), (vD q), (vR t)] w0 (dZ w0 (.bool (bJ p q t)) (True)) := by
 refine enter (N := 14) (args := [(vD p), (vD q), (vR t)]) Tryz.func30 rfl rfl ?_; intro ac h
 have s1 := az ((iD p q (k + 11) (by omega) zp zq) w0)
 have s2 := az ((fi (cM p q) t (k + 1) (by omega) s1 (cx zt (by omega))) w0)
 refine dL fun K1 hK1 => ?_
 refine bx h (cD p) rfl rfl rfl fun b1 => gb (cD q) rfl rfl rfl fun b2 => gb (cR t) rfl rfl rfl fun b3 => g0 (ag rfl) rfl <| gn hK1 <| gq fun K2 hK2 => ?_; clear h ac; intro ac wo h
 refine cj mixed [dw _ [2], dw _ [1], dv _, dw _ [0], dv _, dv _, dv _, dv _] [⟨_, []⟩, ⟨_, []⟩, ⟨_, []⟩] h rfl (by kernel_rfl) ⟨fun _ _ => cq _ rfl rfl (aX aa69 zz69 rfl rfl rfl (v := (vD p)) rfl), fun _ _ => cq _ rfl rfl (aX aa69 zz69 rfl rfl rfl (v := (vD q)) rfl), fun _ _ => dU (cB Tryz.call96 rfl (iD p q (k + 11) (by omega) zp zq)), fun _ _ => cq _ rfl rfl (aX aa53 zz53 rfl rfl rfl (v := (vR t)) rfl), fun _ _ => dU (cB Tryz.call37 rfl (fi (cM p q) t (k + 1) (by omega) s1 (cx zt (by omega)))), fun _ _ => ax (bp qX rfl rfl (v := (vD oD)) rfl), fun _ _ => ax (fq qy rfl rfl), fun _ _ => ax (ag rfl), trivial⟩ ?_
 clear h ac wo; intro ξ ac wo hφ h
 replace h : St w0 14 [(6, (.bool (decide ((aP (cM p q) t) = oD))))] [.blk b3 (cR t) 53, .blk b2 (cD q) 69, .blk b1 (cD p) 69] ac wo := h.sub ⟨rfl, trivial⟩
 clear hφ ξ
 refine hK2 _ _ ?_
 refine e8 ?_
 exact ret h rfl (.tmp rfl .nil) rfl (h.retP (by unfold bJ; rfl) trivial)
def aT (x : GR) : GQ :=
 bif x.neg then
  (ak (-1))
 else
  (ak 1)
theorem fK (x : GR) (k : Nat) (hk : k ≤ 40) (zx : SzR k x) (w0 : World) : Calls Tryz.prog 174 #[(vR x)] w0 (dZ w0 (vQ (aT x)) (SzQ k (aT x))) := by
 refine enter (N := 7) (args := [(vR x)]) Tryz.func174 rfl rfl ?_; intro ac h
 refine dL fun K1 hK1 => ?_
 refine bx h (cR x) rfl rfl rfl fun b1 => ga (cQ oQ) vv40 rfl rfl fun b2 => gn hK1 <| gq fun K2 hK2 => gr fun K3 hK3 => g0 (fa uu53 rfl zz4 rfl rfl rfl (k' := 8)) rfl <| g1 1 rfl (aX aa4 zz4 rfl rfl rfl (v := (.bool x.neg)) rfl) rfl <| gn hK3 ?_; clear h ac; intro ac wo h
 refine cr h rfl (fun hc1 => ?_) (fun hc1 => ?_)
 ·
  have c1 := bo (-1) k (by omega)  (by omega)
  have s1 := az (c1 w0)
  refine gz h <| gr fun K4 hK4 => gl cc45 rfl c1 rfl <| gs 0 (cQ (ak (-1))) rfl zz40 rfl rfl rfl rfl rfl rfl rfl <| gn hK4 <| gT ?_; clear h ac wo; intro ac wo h
  have hd : aT x = (ak (-1)) := (cT hc1)
  exact ret h rfl (.cell (v := (vQ (ak (-1)))) rfl (i := 0) rfl aa40 zz40 rfl rfl rfl .nil) rfl (h.retP (by rw [hd] <;> rfl) (by rw [hd]; exact s1))
 ·
  have c2 := bo 1 k (by omega)  (by omega)
  have s2 := az (c2 w0)
  refine gz h <| gS <| gx hK2 <| gr fun K5 hK5 => gl cc45 rfl c2 rfl <| gs 0 (cQ (ak 1)) rfl zz40 rfl rfl rfl rfl rfl rfl rfl <| gn hK5 <| gT ?_; clear h ac wo; intro ac wo h
  have hd : aT x = (ak 1) := (cF hc1)
  exact ret h rfl (.cell (v := (vQ (ak 1))) rfl (i := 0) rfl aa40 zz40 rfl rfl rfl .nil) rfl (h.retP (by rw [hd] <;> rfl) (by rw [hd]; exact s2))
def dq (a : GQ) (b : GQ) (r : GQ) : Int :=
 bif ((((aH b) * (aH r)) == 0) || ((aH a) == ((aH b) * (aH r)))) then
  (aH a)
 else
  bif ((aH a) == 0) then
   ((aH b) * (aH r))
  else
   ((aH a) * (di (aq a a) (aq (aq b b) r)))
theorem gU (a : GQ) (b : GQ) (r : GQ) (k : Nat) (hk : (k + 8) ≤ 40) (za : SzQ (k + 8) a) (zb : SzQ (k + 8) b) (zr : SzQ (k + 8) r) (w0 : World) : Calls Tryz.prog 175 #[(vQ a), (vQ b), (vQ r)] w0 (dZ w0 (.int .i64 (dq a b r)) ((-1 ≤ (dq a b r) ∧ (dq a b r) ≤ 1))) := by
 refine enter (N := 40) (args := [(vQ a), (vQ b), (vQ r)]) Tryz.func175 rfl rfl ?_; intro ac h
 have p2 := az ((cw a) w0)
 have p4 := az ((cw b) w0)
 have p6 := az ((cw r) w0)
 refine dL fun K1 hK1 => ?_
 refine bx h (cQ a) rfl rfl rfl fun b1 => gb (cQ b) rfl rfl rfl fun b2 => gb (cQ r) rfl rfl rfl fun b3 => g0 (ag rfl) rfl <| gn hK1 <| gq fun K2 hK2 => ?_; clear h ac; intro ac wo h
 refine cj mixed [dw _ [2], dv _, dw _ [1], dv _, dw _ [0], dv _, dv _, dv _, dv _] [⟨_, []⟩, ⟨_, []⟩, ⟨_, []⟩] h rfl (by kernel_rfl) ⟨fun _ _ => cq _ rfl rfl (aX aa40 zz40 rfl rfl rfl (v := (vQ a)) rfl), fun _ _ => dU (cB cc58 rfl (cw a)), fun _ _ => cq _ rfl rfl (aX aa40 zz40 rfl rfl rfl (v := (vQ b)) rfl), fun _ _ => dU (cB cc58 rfl (cw b)), fun _ _ => cq _ rfl rfl (aX aa40 zz40 rfl rfl rfl (v := (vQ r)) rfl), fun _ _ => dU (cB cc58 rfl (cw r)), fun _ _ => ax (jY rfl rfl (r := ((aH b) * (aH r))) (by first | (rw [IntKind.wrap_i64]; omega) | exact gQ (by omega) (by omega))), fun _ _ => ax (ag rfl), fun _ _ => ax (ag rfl), trivial⟩ ?_
 clear h ac wo; intro ξ ac wo hφ h
 replace h : St w0 40 [(3, (ptr b1 0)), (4, (ptr b2 0)), (5, (ptr b3 0)), (7, (.int .i64 (aH a))), (8, (.int .i64 ((aH b) * (aH r))))] [.blk b3 (cQ r) 40, .blk b2 (cQ b) 40, .blk b1 (cQ a) 40] ac wo := h.sub ⟨rfl, rfl, rfl, rfl, rfl, trivial⟩
 clear hφ ξ
 refine gz h <| gx hK2 <| gq fun K3 hK3 => gB <| gr fun K4 hK4 => g0 (ah rfl) rfl <| g0 (dP rfl rfl) rfl <| g0 (ah rfl) rfl <| ge2 rfl rfl (fun hg => (Rd.of_nil (ah rfl)).step) rfl <| ge2 rfl rfl (fun hg => (Rd.of_nil (ah rfl)).step) rfl <| ge2 rfl rfl (fun hg => (Rd.of_nil (dP (ar rfl hg) (ar rfl hg))).step) rfl <| g0 (nr rfl (fun e => (ar rfl (ns e)))) rfl <| g0 (ag rfl) rfl <| gn hK4 ?_; clear h ac wo; intro ac wo h
 refine cr h rfl (fun hc1 => ?_) (fun hc1 => ?_)
 ·
  refine gz h <| gr fun K5 hK5 => g0 (ah rfl) rfl <| g0 (ag rfl) rfl <| gn hK5 <| gT ?_; clear h ac wo; intro ac wo h
  have hd : dq a b r = (aH a) := (cT hc1)
  exact ret h rfl (.tmp rfl .nil) rfl (h.retP (by rw [hd] <;> rfl) (by rw [hd]; exact by first | omega | exact d9 (by omega) (by omega)))
 ·
  refine gz h <| gr fun K6 hK6 => g0 (ah rfl) rfl <| g0 (dP rfl rfl) rfl <| g0 (ag rfl) rfl <| gn hK6 ?_; clear h ac wo; intro ac wo h
  refine cr h rfl (fun hc2 => ?_) (fun hc2 => ?_)
  ·
   have hd2 := eq_of_beq hc2
   refine gz h <| gr fun K7 hK7 => g0 (ah rfl) rfl <| g0 (ag rfl) rfl <| gn hK7 <| gT ?_; clear h ac wo; intro ac wo h
   have hd : dq a b r = ((aH b) * (aH r)) := (Eq.trans (cF hc1) (cT hc2))
   exact ret h rfl (.tmp rfl .nil) rfl (h.retP (by rw [hd] <;> rfl) (by rw [hd]; exact by first | omega | exact d9 (by omega) (by omega)))
  ·
   have hd2 := ne_of_beq_false hc2
   refine dF ?_
   refine nk ?_
   refine hK3 _ _ ?_
   refine dg fun K8 hK8 => ?_
   have s7 := az ((br a a (k + 6) (by omega) za za) w0)
   have s8 := az ((br b b (k + 6) (by omega) zb zb) w0)
   have s9 := az ((br (aq b b) r (k + 4) (by omega) s8 (d8 zr (by omega))) w0)
   have p11 := az ((gy (aq a a) (aq (aq b b) r) (k + 3) (by omega) (d8 s7 (by omega)) s9) w0)
   refine cj mixed [dv _, dw _ [2], dw _ [2], dv _, dw _ [1], dw _ [1], dv _, dw _ [0], dv _, dv _, dv _, dv _] [⟨_, []⟩, ⟨_, []⟩, ⟨_, []⟩] h rfl (by kernel_rfl) ⟨fun _ _ => om rfl, fun _ _ => cq _ rfl rfl (aX aa40 zz40 rfl rfl rfl (v := (vQ a)) rfl), fun _ _ => cq _ rfl rfl (aX aa40 zz40 rfl rfl rfl (v := (vQ a)) rfl), fun _ _ => dU (cB cc101 rfl (br a a (k + 6) (by omega) za za)), fun _ _ => cq _ rfl rfl (aX aa40 zz40 rfl rfl rfl (v := (vQ b)) rfl), fun _ _ => cq _ rfl rfl (aX aa40 zz40 rfl rfl rfl (v := (vQ b)) rfl), fun _ _ => dU (cB cc101 rfl (br b b (k + 6) (by omega) zb zb)), fun _ _ => cq _ rfl rfl (aX aa40 zz40 rfl rfl rfl (v := (vQ r)) rfl), fun _ _ => dU (cB cc101 rfl (br (aq b b) r (k + 4) (by omega) s8 (d8 zr (by omega)))), fun _ _ => dU (cB Tryz.call198 rfl (gy (aq a a) (aq (aq b b) r) (k + 3) (by omega) (d8 s7 (by omega)) s9)), fun _ _ => ax (jY rfl rfl (r := ((aH a) * (di (aq a a) (aq (aq b b) r)))) (by first | (rw [IntKind.wrap_i64]; omega) | exact gQ (by omega) (by omega))), fun _ _ => ax (ag rfl), trivial⟩ ?_
   clear h ac wo; intro ξ ac wo hφ h
   replace h : St w0 40 [(6, (.int .i64 ((aH a) * (di (aq a a) (aq (aq b b) r)))))] [.blk b3 (cQ r) 40, .blk b2 (cQ b) 40, .blk b1 (cQ a) 40] ac wo := h.sub ⟨rfl, trivial⟩
   clear hφ ξ
   refine hK8 _ _ ?_
   refine e8 ?_
   have hd : dq a b r = ((aH a) * (di (aq a a) (aq (aq b b) r))) := (Eq.trans (cF hc1) (cF hc2))
   exact ret h rfl (.tmp rfl .nil) rfl (h.retP (by rw [hd] <;> rfl) (by rw [hd]; exact by first | omega | exact d9 (by omega) (by omega)))
def aA (x : GR) (y : GR) : Int :=
 bif ((((aH (bA (aT y))) * (aH y.r)) == 0) || ((dq (an x.p y.p) (aT x) x.r) == ((aH (bA (aT y))) * (aH y.r)))) then
  (dq (an x.p y.p) (aT x) x.r)
 else
  bif ((dq (an x.p y.p) (aT x) x.r) == 0) then
   ((aH (bA (aT y))) * (aH y.r))
  else
   ((dq (an x.p y.p) (aT x) x.r) * (dq (an (aK (aq (an x.p y.p) (an x.p y.p)) x.r) y.r) (aq (ak 2) (aq (an x.p y.p) (aT x))) x.r))
theorem b0 (x : GR) (y : GR) (k : Nat) (hk : (k + 20) ≤ 40) (zx : SzR (k + 20) x) (zy : SzR (k + 20) y) (w0 : World) : Calls Tryz.prog 115 #[(vR x), (vR y)] w0 (dZ w0 (.int .i64 (aA x y)) ((-1 ≤ (aA x y) ∧ (aA x y) ≤ 1))) := by
 refine enter (N := 65) (args := [(vR x), (vR y)]) Tryz.func115 rfl rfl ?_; intro ac h
 have s1 := az ((cG x.p y.p (k + 17) (by omega) zx.1 zy.1) w0)
 have s2 := az ((fK x (k + 20) (by omega) zx) w0)
 have s3 := az ((fK y (k + 20) (by omega) zy) w0)
 have s4 := az ((fp (aT y) (k + 20) (by omega) s3) w0)
 refine dL fun K1 hK1 => ?_
 refine bx h (cR x) rfl rfl rfl fun b1 => gb (cR y) rfl rfl rfl fun b2 => g0 (ag rfl) rfl <| gn hK1 <| gq fun K2 hK2 => ?_; clear h ac; intro ac wo h
 replace h := h.emps 3
 refine cj mixed [dv _, dw _ [1], dv _, dw _ [0], dv _, dw _ [1], dv _, dw _ [0], dv _, dv _, ⟨.nd (.one 10 fun v => ∃ b, v = ptr b 0), [2]⟩, ⟨.nd (.one 11 fun v => ∃ b, v = ptr b 0), [3]⟩, ⟨.nd (.one 12 fun v => ∃ b, v = ptr b 0), [4]⟩, ⟨.det undef, [2]⟩, ⟨.det undef, [3]⟩, ⟨.det undef, [4]⟩] [⟨_, []⟩, ⟨_, []⟩, ⟨.emp, [(10, .one 10 fun v => .blk (eo v) (cQ oQ) 40), (13, .one 10 fun v => .blk (eo v) (cQ (an x.p y.p)) 40)]⟩, ⟨.emp, [(11, .one 11 fun v => .blk (eo v) (cQ oQ) 40), (14, .one 11 fun v => .blk (eo v) (cQ (aT x)) 40)]⟩, ⟨.emp, [(12, .one 12 fun v => .blk (eo v) (cQ oQ) 40), (15, .one 12 fun v => .blk (eo v) (cQ (bA (aT y))) 40)]⟩] h rfl (by kernel_rfl) ⟨fun _ _ => ax (fa uu53 rfl zz40 rfl rfl rfl (k' := 0)), fun _ _ => cq _ rfl rfl (aX aa40 zz40 rfl rfl rfl (v := (vQ x.p)) rfl), fun _ _ => ax (fa uu53 rfl zz40 rfl rfl rfl (k' := 0)), fun _ _ => cq _ rfl rfl (aX aa40 zz40 rfl rfl rfl (v := (vQ y.p)) rfl), fun _ _ => dU (cB cc100 rfl (cG x.p y.p (k + 17) (by omega) zx.1 zy.1)), fun _ _ => cq _ rfl rfl (aX aa53 zz53 rfl rfl rfl (v := (vR x)) rfl), fun _ _ => dU (cB Tryz.call174 rfl (fK x (k + 20) (by omega) zx)), fun _ _ => cq _ rfl rfl (aX aa53 zz53 rfl rfl rfl (v := (vR y)) rfl), fun _ _ => dU (cB Tryz.call174 rfl (fK y (k + 20) (by omega) zy)), fun _ _ => dU (cB Tryz.call52 rfl (fp (aT y) (k + 20) (by omega) s3)), fun _ _ => ky (ψ := fun v => ∃ b, v = ptr b 0) (B := fun v => [.blk (eo v) (cQ oQ) 40]) [.emp] rfl (fun v _ => by simp only [ec, bD] <;> rfl) (fun v hv => by simpa [DF.one, bD] using hv) (jn (iN vv40 rfl)), fun _ _ => ky (ψ := fun v => ∃ b, v = ptr b 0) (B := fun v => [.blk (eo v) (cQ oQ) 40]) [.emp] rfl (fun v _ => by simp only [ec, bD] <;> rfl) (fun v hv => by simpa [DF.one, bD] using hv) (jn (iN vv40 rfl)), fun _ _ => ky (ψ := fun v => ∃ b, v = ptr b 0) (B := fun v => [.blk (eo v) (cQ oQ) 40]) [.emp] rfl (fun v _ => by simp only [ec, bD] <;> rfl) (fun v hv => by simpa [DF.one, bD] using hv) (jn (iN vv40 rfl)), (fun ξ hφ => by obtain ⟨b3, hb10⟩ := hφ 10 rfl; exact fM [.blk b3 (cQ oQ) 40] [.blk b3 (cQ (an x.p y.p)) 40] (congrArg (fun v => [Asn.blk (eo v) (cQ oQ) 40]) hb10) (congrArg (fun v => [Asn.blk (eo v) (cQ (an x.p y.p)) 40]) hb10) (gK zz40 (Eq.trans rfl (congrArg some hb10)) rfl rfl rfl rfl rfl rfl)), (fun ξ hφ => by obtain ⟨b4, hb11⟩ := hφ 11 rfl; exact fM [.blk b4 (cQ oQ) 40] [.blk b4 (cQ (aT x)) 40] (congrArg (fun v => [Asn.blk (eo v) (cQ oQ) 40]) hb11) (congrArg (fun v => [Asn.blk (eo v) (cQ (aT x)) 40]) hb11) (gK zz40 (Eq.trans rfl (congrArg some hb11)) rfl rfl rfl rfl rfl rfl)), (fun ξ hφ => by obtain ⟨b5, hb12⟩ := hφ 12 rfl; exact fM [.blk b5 (cQ oQ) 40] [.blk b5 (cQ (bA (aT y))) 40] (congrArg (fun v => [Asn.blk (eo v) (cQ oQ) 40]) hb12) (congrArg (fun v => [Asn.blk (eo v) (cQ (bA (aT y))) 40]) hb12) (gK zz40 (Eq.trans rfl (congrArg some hb12)) rfl rfl rfl rfl rfl rfl)), trivial⟩ ?_
 clear h ac wo; intro ξ ac wo hφ h
 replace h : St w0 65 [(2, (ptr b1 0)), (3, (ptr b2 0)), (5, ξ 10), (6, ξ 11), (7, ξ 12)] [.blk b2 (cR y) 53, .blk b1 (cR x) 53, .blk (eo (ξ 10)) (cQ (an x.p y.p)) 40, .blk (eo (ξ 11)) (cQ (aT x)) 40, .blk (eo (ξ 12)) (cQ (bA (aT y))) 40] ac wo := h.sub ⟨rfl, rfl, rfl, rfl, rfl, trivial⟩
 revert h
 obtain ⟨b3, hb10⟩ : ∃ b, ξ 10 = ptr b 0 := hφ 10
 obtain ⟨b4, hb11⟩ : ∃ b, ξ 11 = ptr b 0 := hφ 11
 obtain ⟨b5, hb12⟩ : ∃ b, ξ 12 = ptr b 0 := hφ 12
 rw [hb10, hb11, hb12]; intro h
 clear hb10 hb11 hb12 hφ ξ
 refine hK2 _ _ ?_
 refine dg fun K3 hK3 => ?_
 have p6 := az ((gU (an x.p y.p) (aT x) x.r (k + 9) (by omega) s1 (d8 s2 (by omega)) (cx zx (by omega)).2) w0)
 have p8 := az ((cw (bA (aT y))) w0)
 have p10 := az ((cw y.r) w0)
 refine cj mixed [dw _ [2], dw _ [3], dv _, dw _ [1], dv _, dw _ [4], dv _, dv _, dw _ [0], dv _, dv _, dv _, dv _] [⟨_, []⟩, ⟨_, []⟩, ⟨_, []⟩, ⟨_, []⟩, ⟨_, []⟩] h rfl (by kernel_rfl) ⟨fun _ _ => cq _ rfl rfl (aX aa40 zz40 rfl rfl rfl (v := (vQ (an x.p y.p))) rfl), fun _ _ => cq _ rfl rfl (aX aa40 zz40 rfl rfl rfl (v := (vQ (aT x))) rfl), fun _ _ => ax (fa uu53 rfl zz40 rfl rfl rfl (k' := 4)), fun _ _ => cq _ rfl rfl (aX aa40 zz40 rfl rfl rfl (v := (vQ x.r)) rfl), fun _ _ => dU (cB Tryz.call175 rfl (gU (an x.p y.p) (aT x) x.r (k + 9) (by omega) s1 (d8 s2 (by omega)) (cx zx (by omega)).2)), fun _ _ => cq _ rfl rfl (aX aa40 zz40 rfl rfl rfl (v := (vQ (bA (aT y)))) rfl), fun _ _ => dU (cB cc58 rfl (cw (bA (aT y)))), fun _ _ => ax (fa uu53 rfl zz40 rfl rfl rfl (k' := 4)), fun _ _ => cq _ rfl rfl (aX aa40 zz40 rfl rfl rfl (v := (vQ y.r)) rfl), fun _ _ => dU (cB cc58 rfl (cw y.r)), fun _ _ => ax (jY rfl rfl (r := ((aH (bA (aT y))) * (aH y.r))) (by first | (rw [IntKind.wrap_i64]; omega) | exact gQ (by omega) (by omega))), fun _ _ => ax (ag rfl), fun _ _ => ax (ag rfl), trivial⟩ ?_
 clear h ac wo; intro ξ ac wo hφ h
 replace h : St w0 65 [(2, (ptr b1 0)), (3, (ptr b2 0)), (5, (ptr b3 0)), (6, (ptr b4 0)), (8, (.int .i64 (dq (an x.p y.p) (aT x) x.r))), (9, (.int .i64 ((aH (bA (aT y))) * (aH y.r))))] [.blk b2 (cR y) 53, .blk b1 (cR x) 53, .blk b3 (cQ (an x.p y.p)) 40, .blk b4 (cQ (aT x)) 40, .blk b5 (cQ (bA (aT y))) 40] ac wo := h.sub ⟨rfl, rfl, rfl, rfl, rfl, rfl, trivial⟩
 clear hφ ξ
 refine gz h <| gx hK3 <| gq fun K4 hK4 => gB <| gr fun K5 hK5 => g0 (ah rfl) rfl <| g0 (dP rfl rfl) rfl <| g0 (ah rfl) rfl <| ge2 rfl rfl (fun hg => (Rd.of_nil (ah rfl)).step) rfl <| ge2 rfl rfl (fun hg => (Rd.of_nil (ah rfl)).step) rfl <| ge2 rfl rfl (fun hg => (Rd.of_nil (dP (ar rfl hg) (ar rfl hg))).step) rfl <| g0 (nr rfl (fun e => (ar rfl (ns e)))) rfl <| g0 (ag rfl) rfl <| gn hK5 ?_; clear h ac wo; intro ac wo h
 refine cr h rfl (fun hc1 => ?_) (fun hc1 => ?_)
 ·
  refine gz h <| gr fun K6 hK6 => g0 (ah rfl) rfl <| g0 (ag rfl) rfl <| gn hK6 <| gT ?_; clear h ac wo; intro ac wo h
  have hd : aA x y = (dq (an x.p y.p) (aT x) x.r) := (cT hc1)
  exact ret h rfl (.tmp rfl .nil) rfl (h.retP (by rw [hd] <;> rfl) (by rw [hd]; exact by first | omega | exact d9 (by omega) (by omega)))
 ·
  refine gz h <| gr fun K7 hK7 => g0 (ah rfl) rfl <| g0 (dP rfl rfl) rfl <| g0 (ag rfl) rfl <| gn hK7 ?_; clear h ac wo; intro ac wo h
  refine cr h rfl (fun hc2 => ?_) (fun hc2 => ?_)
  ·
   have hd2 := eq_of_beq hc2
   refine gz h <| gr fun K8 hK8 => g0 (ah rfl) rfl <| g0 (ag rfl) rfl <| gn hK8 <| gT ?_; clear h ac wo; intro ac wo h
   have hd : aA x y = ((aH (bA (aT y))) * (aH y.r)) := (Eq.trans (cF hc1) (cT hc2))
   exact ret h rfl (.tmp rfl .nil) rfl (h.retP (by rw [hd] <;> rfl) (by rw [hd]; exact by first | omega | exact d9 (by omega) (by omega)))
  ·
   have hd2 := ne_of_beq_false hc2
   refine dF ?_
   refine nk ?_
   refine hK4 _ _ ?_
   refine dg fun K9 hK9 => ?_
   have s11 := az ((br (an x.p y.p) (an x.p y.p) (k + 15) (by omega) s1 s1) w0)
   have s12 := az ((cm (aq (an x.p y.p) (an x.p y.p)) x.r (k + 12) (by omega) s11 (cx zx (by omega)).2) w0)
   have s13 := az ((cG (aK (aq (an x.p y.p) (an x.p y.p)) x.r) y.r (k + 9) (by omega) s12 (cx zy (by omega)).2) w0)
   replace h := h.emps 1
   refine cj mixed [dw _ [2], dw _ [2], dv _, dv _, dw _ [1], dv _, dv _, dw _ [0], dv _, ⟨.nd (.one 9 fun v => ∃ b, v = ptr b 0), [5]⟩, ⟨.det undef, [5]⟩] [⟨_, []⟩, ⟨_, []⟩, ⟨_, []⟩, ⟨_, []⟩, ⟨_, []⟩, ⟨.emp, [(9, .one 9 fun v => .blk (eo v) (cQ oQ) 40), (10, .one 9 fun v => .blk (eo v) (cQ (an (aK (aq (an x.p y.p) (an x.p y.p)) x.r) y.r)) 40)]⟩] h rfl (by kernel_rfl) ⟨fun _ _ => cq _ rfl rfl (aX aa40 zz40 rfl rfl rfl (v := (vQ (an x.p y.p))) rfl), fun _ _ => cq _ rfl rfl (aX aa40 zz40 rfl rfl rfl (v := (vQ (an x.p y.p))) rfl), fun _ _ => dU (cB cc101 rfl (br (an x.p y.p) (an x.p y.p) (k + 15) (by omega) s1 s1)), fun _ _ => ax (fa uu53 rfl zz40 rfl rfl rfl (k' := 4)), fun _ _ => cq _ rfl rfl (aX aa40 zz40 rfl rfl rfl (v := (vQ x.r)) rfl), fun _ _ => dU (cB cc102 rfl (cm (aq (an x.p y.p) (an x.p y.p)) x.r (k + 12) (by omega) s11 (cx zx (by omega)).2)), fun _ _ => ax (fa uu53 rfl zz40 rfl rfl rfl (k' := 4)), fun _ _ => cq _ rfl rfl (aX aa40 zz40 rfl rfl rfl (v := (vQ y.r)) rfl), fun _ _ => dU (cB cc100 rfl (cG (aK (aq (an x.p y.p) (an x.p y.p)) x.r) y.r (k + 9) (by omega) s12 (cx zy (by omega)).2)), fun _ _ => ky (ψ := fun v => ∃ b, v = ptr b 0) (B := fun v => [.blk (eo v) (cQ oQ) 40]) [.emp] rfl (fun v _ => by simp only [ec, bD] <;> rfl) (fun v hv => by simpa [DF.one, bD] using hv) (jn (iN vv40 rfl)), (fun ξ hφ => by obtain ⟨b6, hb9⟩ := hφ 9 rfl; exact fM [.blk b6 (cQ oQ) 40] [.blk b6 (cQ (an (aK (aq (an x.p y.p) (an x.p y.p)) x.r) y.r)) 40] (congrArg (fun v => [Asn.blk (eo v) (cQ oQ) 40]) hb9) (congrArg (fun v => [Asn.blk (eo v) (cQ (an (aK (aq (an x.p y.p) (an x.p y.p)) x.r) y.r)) 40]) hb9) (gK zz40 (Eq.trans rfl (congrArg some hb9)) rfl rfl rfl rfl rfl rfl)), trivial⟩ ?_
   clear h ac wo; intro ξ ac wo hφ h
   replace h : St w0 65 [(2, (ptr b1 0)), (5, (ptr b3 0)), (6, (ptr b4 0)), (8, (.int .i64 (dq (an x.p y.p) (aT x) x.r))), (10, ξ 9)] [.blk b2 (cR y) 53, .blk b1 (cR x) 53, .blk b3 (cQ (an x.p y.p)) 40, .blk b4 (cQ (aT x)) 40, .blk b5 (cQ (bA (aT y))) 40, .blk (eo (ξ 9)) (cQ (an (aK (aq (an x.p y.p) (an x.p y.p)) x.r) y.r)) 40] ac wo := h.sub ⟨rfl, rfl, rfl, rfl, rfl, trivial⟩
   revert h
   obtain ⟨b6, hb9⟩ : ∃ b, ξ 9 = ptr b 0 := hφ 9
   rw [hb9]; intro h
   clear hb9 hφ ξ
   refine hK9 _ _ ?_
   refine dg fun K10 hK10 => ?_
   have s14 := az ((bo 2 (k + 20) (by omega)  (by omega)) w0)
   have s15 := az ((br (an x.p y.p) (aT x) (k + 15) (by omega) s1 (d8 s2 (by omega))) w0)
   have s16 := az ((br (ak 2) (aq (an x.p y.p) (aT x)) (k + 13) (by omega) (d8 s14 (by omega)) s15) w0)
   have p18 := az ((gU (an (aK (aq (an x.p y.p) (an x.p y.p)) x.r) y.r) (aq (ak 2) (aq (an x.p y.p) (aT x))) x.r (k + 1) (by omega) s13 (d8 s16 (by omega)) (cx zx (by omega)).2) w0)
   refine cj mixed [dv _, dw _ [5], dv _, dw _ [2], dw _ [3], dv _, dv _, dv _, dw _ [1], dv _, dv _, dv _] [⟨_, []⟩, ⟨_, []⟩, ⟨_, []⟩, ⟨_, []⟩, ⟨_, []⟩, ⟨_, []⟩] h rfl (by kernel_rfl) ⟨fun _ _ => om rfl, fun _ _ => cq _ rfl rfl (aX aa40 zz40 rfl rfl rfl (v := (vQ (an (aK (aq (an x.p y.p) (an x.p y.p)) x.r) y.r))) rfl), fun _ _ => dU (cB cc45 rfl (bo 2 (k + 20) (by omega)  (by omega))), fun _ _ => cq _ rfl rfl (aX aa40 zz40 rfl rfl rfl (v := (vQ (an x.p y.p))) rfl), fun _ _ => cq _ rfl rfl (aX aa40 zz40 rfl rfl rfl (v := (vQ (aT x))) rfl), fun _ _ => dU (cB cc101 rfl (br (an x.p y.p) (aT x) (k + 15) (by omega) s1 (d8 s2 (by omega)))), fun _ _ => dU (cB cc101 rfl (br (ak 2) (aq (an x.p y.p) (aT x)) (k + 13) (by omega) (d8 s14 (by omega)) s15)), fun _ _ => ax (fa uu53 rfl zz40 rfl rfl rfl (k' := 4)), fun _ _ => cq _ rfl rfl (aX aa40 zz40 rfl rfl rfl (v := (vQ x.r)) rfl), fun _ _ => dU (cB Tryz.call175 rfl (gU (an (aK (aq (an x.p y.p) (an x.p y.p)) x.r) y.r) (aq (ak 2) (aq (an x.p y.p) (aT x))) x.r (k + 1) (by omega) s13 (d8 s16 (by omega)) (cx zx (by omega)).2)), fun _ _ => ax (jY rfl rfl (r := ((dq (an x.p y.p) (aT x) x.r) * (dq (an (aK (aq (an x.p y.p) (an x.p y.p)) x.r) y.r) (aq (ak 2) (aq (an x.p y.p) (aT x))) x.r))) (by first | (rw [IntKind.wrap_i64]; omega) | exact gQ (by omega) (by omega))), fun _ _ => ax (ag rfl), trivial⟩ ?_
   clear h ac wo; intro ξ ac wo hφ h
   replace h : St w0 65 [(4, (.int .i64 ((dq (an x.p y.p) (aT x) x.r) * (dq (an (aK (aq (an x.p y.p) (an x.p y.p)) x.r) y.r) (aq (ak 2) (aq (an x.p y.p) (aT x))) x.r))))] [.blk b2 (cR y) 53, .blk b1 (cR x) 53, .blk b3 (cQ (an x.p y.p)) 40, .blk b4 (cQ (aT x)) 40, .blk b5 (cQ (bA (aT y))) 40, .blk b6 (cQ (an (aK (aq (an x.p y.p) (an x.p y.p)) x.r) y.r)) 40] ac wo := h.sub ⟨rfl, trivial⟩
   clear hφ ξ
   refine hK10 _ _ ?_
   refine e8 ?_
   have hd : aA x y = ((dq (an x.p y.p) (aT x) x.r) * (dq (an (aK (aq (an x.p y.p) (an x.p y.p)) x.r) y.r) (aq (ak 2) (aq (an x.p y.p) (aT x))) x.r)) := (Eq.trans (cF hc1) (cF hc2))
   exact ret h rfl (.tmp rfl .nil) rfl (h.retP (by rw [hd] <;> rfl) (by rw [hd]; exact by first | omega | exact d9 (by omega) (by omega)))
def bT (n : Int) : GR :=
 (⟨(ak n), (⟨(⟨false, 0⟩ : GI), (⟨false, 0⟩ : GI)⟩ : GQ), false⟩ : GR)
theorem kO (n : Int) (k : Nat) (hk : k ≤ 40) (hn : -9223372036854775808 ≤ n ∧ n ≤ 9223372036854775807) (w0 : World) : Calls Tryz.prog 156 #[(.int .i64 n)] w0 (dZ w0 (vR (bT n)) (SzR k (bT n))) := by
 refine enter (N := 6) (args := [(.int .i64 n)]) Tryz.func156 rfl rfl ?_; intro ac h
 have c1 := bo n k (by omega)  (by omega)
 have s1 := az (c1 w0)
 refine dL fun K1 hK1 => ?_
 refine al h (cR (⟨oQ, oQ, false⟩ : GR)) Tryz.zeroValue53 rfl rfl fun b1 => gn hK1 <| gr fun K2 hK2 => g0 (ah rfl) rfl <| gl cc45 rfl c1 rfl <| g0 (bp bld53 rfl rfl (v := (vR (⟨(ak n), oQ, false⟩ : GR))) rfl) rfl <| gs 0 (cR (⟨(ak n), oQ, false⟩ : GR)) rfl zz53 rfl rfl rfl rfl rfl rfl rfl <| gn hK2 <| gT ?_; clear h ac; intro ac wo h
 exact ret h rfl (.cell (v := (vR (⟨(ak n), oQ, false⟩ : GR))) rfl (i := 0) rfl aa53 zz53 rfl rfl rfl .nil) rfl (h.retP (by unfold bT; rfl) (by unfold bT; exact ⟨s1, ⟨(bZ 0 (by decide) (by omega)), (bZ 0 (by decide) (by omega))⟩⟩))
def aw (i : Iv) : Bool :=
 (decide (i.lo = i.hi))
theorem dI (i : Iv) (w0 : World) : Calls Tryz.prog 83 #[(vV i)] w0 (dZ w0 (.bool (aw i)) (True)) := by
 refine enter (N := 8) (args := [(vV i)]) Tryz.func83 rfl rfl ?_; intro ac h
 refine dL fun K1 hK1 => ?_
 refine bx h (cV i) rfl rfl rfl fun b1 => g0 (ag rfl) rfl <| gn hK1 <| gr fun K2 hK2 => g0 (fa uu55 rfl zz53 rfl rfl rfl (k' := 0)) rfl <| g1 0 rfl (aX aa53 zz53 rfl rfl rfl (v := (vR i.lo)) rfl) rfl <| g0 (fa uu55 rfl zz53 rfl rfl rfl (k' := 9)) rfl <| g1 0 rfl (aX aa53 zz53 rfl rfl rfl (v := (vR i.hi)) rfl) rfl <| g0 (fq nI rfl rfl) rfl <| g0 (ag rfl) rfl <| gn hK2 <| gT ?_; clear h ac; intro ac wo h
 exact ret h rfl (.tmp rfl .nil) rfl (h.retP (by unfold aw; rfl) trivial)
def bm (a : Iv) (b : Iv) : Bool :=
 ((decide ((aA a.hi b.lo) < 0)) || (((aA a.hi b.lo) == 0) && (a.openHi || b.openLo)))
theorem iO (a : Iv) (b : Iv) (k : Nat) (hk : (k + 20) ≤ 40) (za : SzV (k + 20) a) (zb : SzV (k + 20) b) (w0 : World) : Calls Tryz.prog 81 #[(vV a), (vV b)] w0 (dZ w0 (.bool (bm a b)) (True)) := by
 refine enter (N := 25) (args := [(vV a), (vV b)]) Tryz.func81 rfl rfl ?_; intro ac h
 have p2 := az ((b0 a.hi b.lo k (by omega) za.2 zb.1) w0)
 refine dL fun K1 hK1 => ?_
 refine bx h (cV a) rfl rfl rfl fun b1 => gb (cV b) rfl rfl rfl fun b2 => g0 (ag rfl) rfl <| gn hK1 <| gr fun K2 hK2 => g0 (fa uu55 rfl zz53 rfl rfl rfl (k' := 9)) rfl <| g1 1 rfl (aX aa53 zz53 rfl rfl rfl (v := (vR a.hi)) rfl) rfl <| g0 (fa uu55 rfl zz53 rfl rfl rfl (k' := 0)) rfl <| g1 0 rfl (aX aa53 zz53 rfl rfl rfl (v := (vR b.lo)) rfl) rfl <| gl Tryz.call115 rfl (b0 a.hi b.lo k (by omega) za.2 zb.1) rfl <| g0 (ag rfl) rfl <| gn hK2 <| gr fun K3 hK3 => g0 (ah rfl) rfl <| g0 (dJ rfl rfl) rfl <| g0 (ah rfl) rfl <| ge2 rfl rfl (fun hg => (Rd.of_nil (ah rfl)).step) rfl <| ge2 rfl rfl (fun hg => (Rd.of_nil (dP (ar rfl hg) rfl)).step) rfl <| ge2 rfl rfl (fun hg => (Rd.of_nil (ah (ar rfl hg))).step) rfl <| ge3 rfl rfl (fun hg => (Rd.of_nil (fa uu55 rfl zz4 rfl rfl rfl (k' := 19))).step) rfl <| ge3 rfl rfl (fun hg => (Rd.of_mem (i := 1) (aX aa4 zz4 (ar rfl hg) rfl rfl (v := (.bool a.openHi)) rfl) rfl).step) rfl <| ge3 rfl rfl (fun hg => (Rd.of_nil (ah (ar rfl hg))).step) rfl <| ge4 rfl rfl (fun hg => (Rd.of_nil (fa uu55 rfl zz4 rfl rfl rfl (k' := 18))).step) rfl <| ge4 rfl rfl (fun hg => (Rd.of_mem (i := 0) (aX aa4 zz4 (ar rfl hg) rfl rfl (v := (.bool b.openLo)) rfl) rfl).step) rfl <| ge3 rfl rfl (fun hg => (Rd.of_nil (nr (ar rfl hg) (fun e => (ar rfl (andI hg (ns e)))))).step) rfl <| ge2 rfl rfl (fun hg => (Rd.of_nil (dQ (ar rfl hg) (fun e => (ar rfl (andI hg e))))).step) rfl <| g0 (nr rfl (fun e => (ar rfl (ns e)))) rfl <| g0 (ag rfl) rfl <| gn hK3 <| gT ?_; clear h ac; intro ac wo h
 exact ret h rfl (.tmp rfl .nil) rfl (h.retP (by unfold bm; rfl) trivial)
end Go.Sx
