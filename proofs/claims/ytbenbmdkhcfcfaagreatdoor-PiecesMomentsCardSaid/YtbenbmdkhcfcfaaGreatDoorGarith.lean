/- A part of the proof of piecesMoments. -/
import Derived.Test.YtbenbmdkhcfcfaaGreatDoorProg
import Derived.Test.YtbenbmdkhcfcfaaGreatDoorGdiv
set_option linter.unusedVariables false
set_option linter.unusedSimpArgs false
open Go.Proofs.Tryz renaming isAgg4 → aa4, underlying4 → nn4, isAgg9 → aa9, isAgg25 → aa25, sizeOf25 → zz25, isAgg27 → aa27, sizeOf27 → zz27, runUnderlying25 → uu25, sizeOf9 → zz9, sizeOf4 → zz4, zeroValue25 → vv25, call190 → cc190, call115 → cc115, call195 → cc195, zeroValue27 → vv27, runUnderlying27 → uu27, call159 → cc159, call161 → cc161, call192 → cc192, call98 → cc98, call97 → cc97, call20 → cc20, zeroValue53 → vv53, sizeOf53 → zz53, isAgg53 → aa53, runUnderlying71 → uu71, call85 → cc85, call30 → cc30, call21 → cc21, call22 → cc22, isAgg71 → aa71, sizeOf71 → zz71, zeroValue71 → vv71, runUnderlying53 → uu53, runUnderlying86 → uu86
open Go.IntKind renaming wrap_i64 → wI
namespace Go.Sx
open Go Go.RowKit Go.Proofs
set_option maxRecDepth 100000
theorem eqi25 : EqIn Tryz.prog 2 25 vI := eqS (c := cI) (fun _ => rfl) Tryz.underlying25 Tryz.stoodInHeld25 fun d x y w hd => by
 refine Eq.trans (eqF (by decide) (gi aa4 rfl w) (gi aa4 rfl w) (eqB nn4 d (by omega) _ _ w) (eqF (by decide) (gi aa9 rfl w) (gi aa9 rfl w) (eqBs Tryz.underlying9 d (by omega) _ _ w) eqF0)) ?_
 congr 1
 rw [decide_eq_decide]
 cases x; cases y; simp
theorem r6 : EqP Tryz.prog 25 vI := EqIn.p (k := 2) rfl (c := fun x => (cI x).toArray) (fun _ => rfl) Tryz.eqGuardType25 eqi25
theorem r7 : EqIn Tryz.prog 3 27 vQ := eqS (c := cQ) (fun _ => rfl) Tryz.underlying27 Tryz.stoodInHeld27 fun d x y w hd => by
 refine Eq.trans (eqF (by decide) (eJ aa25 zz25 (v := vI (x.num)) rfl w) (eJ aa25 zz25 (v := vI (y.num)) rfl w) (eqi25 d _ _ w (by omega)) (eqF (by decide) (eJ aa25 zz25 (v := vI (x.den)) rfl w) (eJ aa25 zz25 (v := vI (y.den)) rfl w) (eqi25 d _ _ w (by omega)) eqF0)) ?_
 congr 1
 rw [decide_eq_decide]
 cases x; cases y; simp
theorem eqp27 : EqP Tryz.prog 27 vQ := EqIn.p (k := 3) rfl (c := fun x => (cQ x).toArray) (fun _ => rfl) Tryz.eqGuardType27 r7
theorem eqi53 : EqIn Tryz.prog 4 53 vD := eqS (c := cD) (fun _ => rfl) Tryz.underlying53 Tryz.stoodInHeld53 fun d x y w hd => by
 refine Eq.trans (eqF (by decide) (eJ aa27 zz27 (v := vQ (x.c0)) rfl w) (eJ aa27 zz27 (v := vQ (y.c0)) rfl w) (r7 d _ _ w (by omega)) (eqF (by decide) (eJ aa27 zz27 (v := vQ (x.c1)) rfl w) (eJ aa27 zz27 (v := vQ (y.c1)) rfl w) (r7 d _ _ w (by omega)) (eqF (by decide) (eJ aa27 zz27 (v := vQ (x.c2)) rfl w) (eJ aa27 zz27 (v := vQ (y.c2)) rfl w) (r7 d _ _ w (by omega)) eqF0))) ?_
 congr 1
 rw [decide_eq_decide]
 cases x; cases y; simp
theorem tK : EqP Tryz.prog 53 vD := EqIn.p (k := 4) rfl (c := fun x => (cD x).toArray) (fun _ => rfl) Tryz.eqGuardType53 eqi53
theorem tL : EqIn Tryz.prog 4 71 vR := eqS (c := cR) (fun _ => rfl) Tryz.underlying71 Tryz.stoodInHeld71 fun d x y w hd => by
 refine Eq.trans (eqF (by decide) (eJ aa27 zz27 (v := vQ (x.p)) rfl w) (eJ aa27 zz27 (v := vQ (y.p)) rfl w) (r7 d _ _ w (by omega)) (eqF (by decide) (eJ aa27 zz27 (v := vQ (x.r)) rfl w) (eJ aa27 zz27 (v := vQ (y.r)) rfl w) (r7 d _ _ w (by omega)) (eqF (by decide) (gi aa4 rfl w) (gi aa4 rfl w) (eqB nn4 d (by omega) _ _ w) eqF0))) ?_
 congr 1
 rw [decide_eq_decide]
 cases x; cases y; simp
theorem nk : EqP Tryz.prog 71 vR := EqIn.p (k := 4) rfl (c := fun x => (cR x).toArray) (fun _ => rfl) Tryz.eqGuardType71 tL
def df (a : GI) : Int :=
 bif (decide (a.mag = 0)) then
  0
 else
  bif a.neg then
   (-1)
  else
   1
theorem en (a : GI) (w0 : World) : Calls Tryz.prog 115 #[(vI a)] w0 (RetP w0 (.int .i64 (df a)) ((-1 ≤ (df a) ∧ (df a) ≤ 1))) := by
 refine enter (N := 10) (args := [(vI a)]) Tryz.func115 rfl rfl ?_; intro ac h
 refine ej fun K1 hK1 => ?_
 refine bx h (cI a) rfl rfl rfl fun b1 => g0 (aj rfl) rfl <| gn hK1 <| gq fun K2 hK2 => gB <| gr fun K3 hK3 => g0 (fa uu25 rfl zz9 rfl rfl rfl (k' := 1)) rfl <| g1 0 rfl (ba aa9 zz9 rfl rfl rfl (v := (.string (bs a.mag))) rfl) rfl <| g0 (oE rfl rfl (m := a.mag) (n := 0)) rfl <| g0 (aj rfl) rfl <| gn hK3 ?_; clear h ac; intro ac wo h
 refine dA h rfl (fun hc1 => ?_) (fun hc1 => ?_)
 ·
  have hd1 := of_decide_eq_true hc1
  refine gz h <| gr fun K4 hK4 => g0 (aj rfl) rfl <| gn hK4 <| gT ?_; clear h ac wo; intro ac wo h
  have hd : df a = 0 := (cT hc1)
  exact ret h rfl (.tmp rfl .nil) rfl (h.retP (by rw [hd] <;> rfl) (by rw [hd]; exact by first | omega | exact fu (by omega) (by omega)))
 ·
  have hd1 := of_decide_eq_false hc1
  refine gz h <| gr fun K5 hK5 => g0 (fa uu25 rfl zz4 rfl rfl rfl (k' := 0)) rfl <| g1 0 rfl (ba aa4 zz4 rfl rfl rfl (v := (.bool a.neg)) rfl) rfl <| g0 (aj rfl) rfl <| gn hK5 ?_; clear h ac wo; intro ac wo h
  refine dA h rfl (fun hc2 => ?_) (fun hc2 => ?_)
  ·
   refine gz h <| gr fun K6 hK6 => g0 (aj rfl) rfl <| gn hK6 <| gT ?_; clear h ac wo; intro ac wo h
   have hd : df a = (-1) := (Eq.trans (cF hc1) (cT hc2))
   exact ret h rfl (.tmp rfl .nil) rfl (h.retP (by rw [hd] <;> rfl) (by rw [hd]; exact by first | omega | exact fu (by omega) (by omega)))
  ·
   refine gz h <| gS <| gN <| gx hK2 <| gr fun K7 hK7 => g0 (aj rfl) rfl <| gn hK7 <| gT ?_; clear h ac wo; intro ac wo h
   have hd : df a = 1 := (Eq.trans (cF hc1) (cF hc2))
   exact ret h rfl (.tmp rfl .nil) rfl (h.retP (by rw [hd] <;> rfl) (by rw [hd]; exact by first | omega | exact fu (by omega) (by omega)))
def ar (a : GI) : GI :=
 (aM (!a.neg) a.mag)
theorem eO (a : GI) (k : Nat) (hk : k ≤ 40) (za : SzI k a) (w0 : World) : Calls Tryz.prog 161 #[(vI a)] w0 (RetP w0 (vI (ar a)) (SzI k (ar a))) := by
 refine enter (N := 9) (args := [(vI a)]) Tryz.func161 rfl rfl ?_; intro ac h
 have c1 := cx (!a.neg) a.mag k (by omega) za
 have s1 := aF (c1 w0)
 refine ej fun K1 hK1 => ?_
 refine bx h (cI a) rfl rfl rfl fun b1 => ga (cI (⟨false, 0⟩ : GI)) vv25 rfl rfl fun b2 => gn hK1 <| gr fun K2 hK2 => g0 (fa uu25 rfl zz4 rfl rfl rfl (k' := 0)) rfl <| g1 1 rfl (ba aa4 zz4 rfl rfl rfl (v := (.bool a.neg)) rfl) rfl <| g0 (gG rfl) rfl <| g0 (fa uu25 rfl zz9 rfl rfl rfl (k' := 1)) rfl <| g1 1 rfl (ba aa9 zz9 rfl rfl rfl (v := (.string (bs a.mag))) rfl) rfl <| gl cc190 rfl c1 rfl <| gs 0 (cI (aM (!a.neg) a.mag)) rfl zz25 rfl rfl rfl rfl rfl rfl rfl <| gn hK2 <| gT ?_; clear h ac; intro ac wo h
 exact ret h rfl (.cell (v := (vI (aM (!a.neg) a.mag))) rfl (i := 0) rfl aa25 zz25 rfl rfl rfl .nil) rfl (h.retP (by unfold ar; rfl) (by unfold ar; exact s1))
def bk (a : GI) (b : GI) : Int :=
 bif (a.neg != b.neg) then
  (dF (df a) (df b))
 else
  bif a.neg then
   -(bp a.mag b.mag)
  else
   (bp a.mag b.mag)
theorem gk (a : GI) (b : GI) (k : Nat) (hk : k ≤ 40) (za : SzI k a) (zb : SzI k b) (w0 : World) : Calls Tryz.prog 158 #[(vI a), (vI b)] w0 (RetP w0 (.int .i64 (bk a b)) ((-1 ≤ (bk a b) ∧ (bk a b) ≤ 1))) := by
 refine enter (N := 26) (args := [(vI a), (vI b)]) Tryz.func158 rfl rfl ?_; intro ac h
 refine ej fun K1 hK1 => ?_
 refine bx h (cI a) rfl rfl rfl fun b1 => gb (cI b) rfl rfl rfl fun b2 => g0 (aj rfl) rfl <| gn hK1 <| gq fun K2 hK2 => gr fun K3 hK3 => g0 (fa uu25 rfl zz4 rfl rfl rfl (k' := 0)) rfl <| g1 1 rfl (ba aa4 zz4 rfl rfl rfl (v := (.bool a.neg)) rfl) rfl <| g0 (fa uu25 rfl zz4 rfl rfl rfl (k' := 0)) rfl <| g1 0 rfl (ba aa4 zz4 rfl rfl rfl (v := (.bool b.neg)) rfl) rfl <| g0 (pJ nn4 rfl rfl) rfl <| gn hK3 ?_; clear h ac; intro ac wo h
 refine dA h rfl (fun hc1 => ?_) (fun hc1 => ?_)
 ·
  refine dV fun K4 hK4 => ?_
  have p2 := aF ((en a) w0)
  have p4 := aF ((en b) w0)
  have p6 := aF ((jT (df a) (df b)) w0)
  refine cZ mixed [dw _ [1], dv _, dw _ [0], dv _, dv _, dv _] [⟨_, []⟩, ⟨_, []⟩] h rfl (by kernel_rfl) ⟨fun _ _ => cY _ rfl rfl (ba aa25 zz25 rfl rfl rfl (v := (vI a)) rfl), fun _ _ => d7 (dH cc115 rfl (en a)), fun _ _ => cY _ rfl rfl (ba aa25 zz25 rfl rfl rfl (v := (vI b)) rfl), fun _ _ => d7 (dH cc115 rfl (en b)), fun _ _ => d7 (dH Tryz.call228 rfl (jT (df a) (df b))), fun _ _ => aL (aj rfl), trivial⟩ ?_
  clear h ac wo; intro ξ ac wo hφ h
  replace h : St w0 26 [(4, (.int .i64 (dF (df a) (df b))))] [.blk b2 (cI b) 25, .blk b1 (cI a) 25] ac wo := h.sub ⟨rfl, trivial⟩
  clear hφ ξ
  refine hK4 _ _ ?_
  refine gu ?_
  have hd : bk a b = (dF (df a) (df b)) := (cT hc1)
  exact ret h rfl (.tmp rfl .nil) rfl (h.retP (by rw [hd] <;> rfl) (by rw [hd]; exact by first | omega | exact fu (by omega) (by omega)))
 ·
  have p8 := aF ((ef a.mag b.mag) w0)
  refine gz h <| gS <| gx hK2 <| gr fun K5 hK5 => g0 (fa uu25 rfl zz9 rfl rfl rfl (k' := 1)) rfl <| g1 1 rfl (ba aa9 zz9 rfl rfl rfl (v := (.string (bs a.mag))) rfl) rfl <| g0 (fa uu25 rfl zz9 rfl rfl rfl (k' := 1)) rfl <| g1 0 rfl (ba aa9 zz9 rfl rfl rfl (v := (.string (bs b.mag))) rfl) rfl <| gl Tryz.call194 rfl (ef a.mag b.mag) rfl <| g0 (aj rfl) rfl <| gn hK5 <| gq fun K6 hK6 => gr fun K7 hK7 => g0 (fa uu25 rfl zz4 rfl rfl rfl (k' := 0)) rfl <| g1 1 rfl (ba aa4 zz4 rfl rfl rfl (v := (.bool a.neg)) rfl) rfl <| gn hK7 ?_; clear h ac wo; intro ac wo h
  refine dA h rfl (fun hc2 => ?_) (fun hc2 => ?_)
  ·
   refine gz h <| gr fun K8 hK8 => g0 (ak rfl) rfl <| g0 (r_neg rfl (r := -(bp a.mag b.mag)) (by rw [wI]; omega)) rfl <| g0 (aj rfl) rfl <| gn hK8 <| gT ?_; clear h ac wo; intro ac wo h
   have hd : bk a b = -(bp a.mag b.mag) := (Eq.trans (cF hc1) (cT hc2))
   exact ret h rfl (.tmp rfl .nil) rfl (h.retP (by rw [hd] <;> rfl) (by rw [hd]; exact by first | omega | exact fu (by omega) (by omega)))
  ·
   refine gz h <| gS <| gx hK6 <| gr fun K9 hK9 => g0 (ak rfl) rfl <| g0 (aj rfl) rfl <| gn hK9 <| gT ?_; clear h ac wo; intro ac wo h
   have hd : bk a b = (bp a.mag b.mag) := (Eq.trans (cF hc1) (cF hc2))
   exact ret h rfl (.tmp rfl .nil) rfl (h.retP (by rw [hd] <;> rfl) (by rw [hd]; exact by first | omega | exact fu (by omega) (by omega)))
def aH (a : GI) (b : GI) : GI :=
 bif (a.neg == b.neg) then
  (aM a.neg (cX a.mag b.mag))
 else
  bif (decide ((bp a.mag b.mag) ≥ 0)) then
   (aM a.neg (c8 a.mag b.mag))
  else
   (aM b.neg (c8 b.mag a.mag))
theorem eU (a : GI) (b : GI) (k : Nat) (hk : (k + 1) ≤ 40) (za : SzI (k + 1) a) (zb : SzI (k + 1) b) (w0 : World) : Calls Tryz.prog 96 #[(vI a), (vI b)] w0 (RetP w0 (vI (aH a b)) (SzI k (aH a b))) := by
 refine enter (N := 42) (args := [(vI a), (vI b)]) Tryz.func96 rfl rfl ?_; intro ac h
 refine ej fun K1 hK1 => ?_
 refine bx h (cI a) rfl rfl rfl fun b1 => gb (cI b) rfl rfl rfl fun b2 => ga (cI (⟨false, 0⟩ : GI)) vv25 rfl rfl fun b3 => gn hK1 <| gq fun K2 hK2 => gB <| gr fun K3 hK3 => g0 (fa uu25 rfl zz4 rfl rfl rfl (k' := 0)) rfl <| g1 2 rfl (ba aa4 zz4 rfl rfl rfl (v := (.bool a.neg)) rfl) rfl <| g0 (fa uu25 rfl zz4 rfl rfl rfl (k' := 0)) rfl <| g1 1 rfl (ba aa4 zz4 rfl rfl rfl (v := (.bool b.neg)) rfl) rfl <| g0 (sT nn4 rfl rfl) rfl <| g0 (aj rfl) rfl <| gn hK3 ?_; clear h ac; intro ac wo h
 refine dA h rfl (fun hc1 => ?_) (fun hc1 => ?_)
 ·
  have hd1 := eq_of_beq hc1
  refine dV fun K4 hK4 => ?_
  have s1 := aF ((gU a.mag b.mag k (by omega) za zb) w0)
  have s2 := aF ((cx a.neg (cX a.mag b.mag) k (by omega) s1) w0)
  refine cZ mixed [dv _, dw _ [2], dv _, dw _ [2], dv _, dw _ [1], dv _, dv _, dw _ [0]] [⟨.blk b3 (cI (⟨false, 0⟩ : GI)) 25, [(8, .con _)]⟩, ⟨_, []⟩, ⟨_, []⟩] h rfl (by kernel_rfl) ⟨fun _ _ => aL (fa uu25 rfl zz4 rfl rfl rfl (k' := 0)), fun _ _ => cY _ rfl rfl (ba aa4 zz4 rfl rfl rfl (v := (.bool a.neg)) rfl), fun _ _ => aL (fa uu25 rfl zz9 rfl rfl rfl (k' := 1)), fun _ _ => cY _ rfl rfl (ba aa9 zz9 rfl rfl rfl (v := (.string (bs a.mag))) rfl), fun _ _ => aL (fa uu25 rfl zz9 rfl rfl rfl (k' := 1)), fun _ _ => cY _ rfl rfl (ba aa9 zz9 rfl rfl rfl (v := (.string (bs b.mag))) rfl), fun _ _ => d7 (dH Tryz.call193 rfl (gU a.mag b.mag k (by omega) za zb)), fun _ _ => d7 (dH cc190 rfl (cx a.neg (cX a.mag b.mag) k (by omega) s1)), fun _ _ => gF _ [.blk b3 (cI (aM a.neg (cX a.mag b.mag))) 25] rfl rfl (gW zz25 rfl rfl rfl rfl rfl rfl rfl), trivial⟩ ?_
  clear h ac wo; intro ξ ac wo hφ h
  replace h : St w0 42 [(4, (ptr b3 0))] [.blk b3 (cI (aM a.neg (cX a.mag b.mag))) 25, .blk b2 (cI b) 25, .blk b1 (cI a) 25] ac wo := h.sub ⟨rfl, trivial⟩
  clear hφ ξ
  refine hK4 _ _ ?_
  refine gu ?_
  have hd : aH a b = (aM a.neg (cX a.mag b.mag)) := (cT hc1)
  exact ret h rfl (.cell (v := (vI (aM a.neg (cX a.mag b.mag)))) rfl (i := 0) rfl aa25 zz25 rfl rfl rfl .nil) rfl (h.retP (by rw [hd] <;> rfl) (by rw [hd]; exact s2))
 ·
  have hd1 := ne_of_beq_false hc1
  have p4 := aF ((ef a.mag b.mag) w0)
  refine gz h <| gr fun K5 hK5 => g0 (fa uu25 rfl zz9 rfl rfl rfl (k' := 1)) rfl <| g1 2 rfl (ba aa9 zz9 rfl rfl rfl (v := (.string (bs a.mag))) rfl) rfl <| g0 (fa uu25 rfl zz9 rfl rfl rfl (k' := 1)) rfl <| g1 1 rfl (ba aa9 zz9 rfl rfl rfl (v := (.string (bs b.mag))) rfl) rfl <| gl Tryz.call194 rfl (ef a.mag b.mag) rfl <| g0 (oC rfl rfl) rfl <| g0 (aj rfl) rfl <| gn hK5 ?_; clear h ac wo; intro ac wo h
  refine dA h rfl (fun hc2 => ?_) (fun hc2 => ?_)
  ·
   have hd2 := of_decide_eq_true hc2
   refine dV fun K6 hK6 => ?_
   have s5 := aF ((f9 a.mag b.mag (k + 1) (by omega) za zb (by first | exact rr ‹_› | exact rq ‹_›)) w0)
   have s6 := aF ((cx a.neg (c8 a.mag b.mag) (k + 1) (by omega) s5) w0)
   refine cZ mixed [dv _, dw _ [2], dv _, dw _ [2], dv _, dw _ [1], dv _, dv _, dw _ [0]] [⟨.blk b3 (cI (⟨false, 0⟩ : GI)) 25, [(8, .con _)]⟩, ⟨_, []⟩, ⟨_, []⟩] h rfl (by kernel_rfl) ⟨fun _ _ => aL (fa uu25 rfl zz4 rfl rfl rfl (k' := 0)), fun _ _ => cY _ rfl rfl (ba aa4 zz4 rfl rfl rfl (v := (.bool a.neg)) rfl), fun _ _ => aL (fa uu25 rfl zz9 rfl rfl rfl (k' := 1)), fun _ _ => cY _ rfl rfl (ba aa9 zz9 rfl rfl rfl (v := (.string (bs a.mag))) rfl), fun _ _ => aL (fa uu25 rfl zz9 rfl rfl rfl (k' := 1)), fun _ _ => cY _ rfl rfl (ba aa9 zz9 rfl rfl rfl (v := (.string (bs b.mag))) rfl), fun _ _ => d7 (dH cc195 rfl (f9 a.mag b.mag (k + 1) (by omega) za zb (by first | exact rr ‹_› | exact rq ‹_›))), fun _ _ => d7 (dH cc190 rfl (cx a.neg (c8 a.mag b.mag) (k + 1) (by omega) s5)), fun _ _ => gF _ [.blk b3 (cI (aM a.neg (c8 a.mag b.mag))) 25] rfl rfl (gW zz25 rfl rfl rfl rfl rfl rfl rfl), trivial⟩ ?_
   clear h ac wo; intro ξ ac wo hφ h
   replace h : St w0 42 [(4, (ptr b3 0))] [.blk b3 (cI (aM a.neg (c8 a.mag b.mag))) 25, .blk b2 (cI b) 25, .blk b1 (cI a) 25] ac wo := h.sub ⟨rfl, trivial⟩
   clear hφ ξ
   refine hK6 _ _ ?_
   refine gu ?_
   have hd : aH a b = (aM a.neg (c8 a.mag b.mag)) := (Eq.trans (cF hc1) (cT hc2))
   exact ret h rfl (.cell (v := (vI (aM a.neg (c8 a.mag b.mag)))) rfl (i := 0) rfl aa25 zz25 rfl rfl rfl .nil) rfl (h.retP (by rw [hd] <;> rfl) (by rw [hd]; exact (fH s6 (by omega))))
  ·
   have hd2 := of_decide_eq_false hc2
   refine eL ?_
   refine qq ?_
   refine hK2 _ _ ?_
   refine dV fun K7 hK7 => ?_
   have s7 := aF ((f9 b.mag a.mag (k + 1) (by omega) zb za (by first | exact rr ‹_› | exact rq ‹_›)) w0)
   have s8 := aF ((cx b.neg (c8 b.mag a.mag) (k + 1) (by omega) s7) w0)
   refine cZ mixed [dv _, dw _ [1], dv _, dw _ [1], dv _, dw _ [2], dv _, dv _, dw _ [0]] [⟨.blk b3 (cI (⟨false, 0⟩ : GI)) 25, [(8, .con _)]⟩, ⟨_, []⟩, ⟨_, []⟩] h rfl (by kernel_rfl) ⟨fun _ _ => aL (fa uu25 rfl zz4 rfl rfl rfl (k' := 0)), fun _ _ => cY _ rfl rfl (ba aa4 zz4 rfl rfl rfl (v := (.bool b.neg)) rfl), fun _ _ => aL (fa uu25 rfl zz9 rfl rfl rfl (k' := 1)), fun _ _ => cY _ rfl rfl (ba aa9 zz9 rfl rfl rfl (v := (.string (bs b.mag))) rfl), fun _ _ => aL (fa uu25 rfl zz9 rfl rfl rfl (k' := 1)), fun _ _ => cY _ rfl rfl (ba aa9 zz9 rfl rfl rfl (v := (.string (bs a.mag))) rfl), fun _ _ => d7 (dH cc195 rfl (f9 b.mag a.mag (k + 1) (by omega) zb za (by first | exact rr ‹_› | exact rq ‹_›))), fun _ _ => d7 (dH cc190 rfl (cx b.neg (c8 b.mag a.mag) (k + 1) (by omega) s7)), fun _ _ => gF _ [.blk b3 (cI (aM b.neg (c8 b.mag a.mag))) 25] rfl rfl (gW zz25 rfl rfl rfl rfl rfl rfl rfl), trivial⟩ ?_
   clear h ac wo; intro ξ ac wo hφ h
   replace h : St w0 42 [(4, (ptr b3 0))] [.blk b3 (cI (aM b.neg (c8 b.mag a.mag))) 25, .blk b2 (cI b) 25, .blk b1 (cI a) 25] ac wo := h.sub ⟨rfl, trivial⟩
   clear hφ ξ
   refine hK7 _ _ ?_
   refine gu ?_
   have hd : aH a b = (aM b.neg (c8 b.mag a.mag)) := (Eq.trans (cF hc1) (cF hc2))
   exact ret h rfl (.cell (v := (vI (aM b.neg (c8 b.mag a.mag)))) rfl (i := 0) rfl aa25 zz25 rfl rfl rfl .nil) rfl (h.retP (by rw [hd] <;> rfl) (by rw [hd]; exact (fH s8 (by omega))))
def ag (a : GI) (b : GI) : GI :=
 (aM (a.neg != b.neg) (ec a.mag b.mag))
theorem cO (a : GI) (b : GI) (k : Nat) (hk : (k + 1) ≤ 40) (za : SzI (k + 1) a) (zb : SzI (k + 1) b) (w0 : World) : Calls Tryz.prog 97 #[(vI a), (vI b)] w0 (RetP w0 (vI (ag a b)) (SzI k (ag a b))) := by
 refine enter (N := 16) (args := [(vI a), (vI b)]) Tryz.func97 rfl rfl ?_; intro ac h
 have s1 := aF ((jF a.mag b.mag k (by omega) za zb) w0)
 have s2 := aF ((cx (a.neg != b.neg) (ec a.mag b.mag) k (by omega) s1) w0)
 refine ej fun K1 hK1 => ?_
 refine bx h (cI a) rfl rfl rfl fun b1 => gb (cI b) rfl rfl rfl fun b2 => ga (cI (⟨false, 0⟩ : GI)) vv25 rfl rfl fun b3 => gn hK1 <| gq fun K2 hK2 => ?_; clear h ac; intro ac wo h
 refine cZ mixed [dv _, dw _ [2], dv _, dw _ [1], dv _, dv _, dw _ [2], dv _, dw _ [1], dv _, dv _, dw _ [0]] [⟨.blk b3 (cI (⟨false, 0⟩ : GI)) 25, [(11, .con _)]⟩, ⟨_, []⟩, ⟨_, []⟩] h rfl (by kernel_rfl) ⟨fun _ _ => aL (fa uu25 rfl zz4 rfl rfl rfl (k' := 0)), fun _ _ => cY _ rfl rfl (ba aa4 zz4 rfl rfl rfl (v := (.bool a.neg)) rfl), fun _ _ => aL (fa uu25 rfl zz4 rfl rfl rfl (k' := 0)), fun _ _ => cY _ rfl rfl (ba aa4 zz4 rfl rfl rfl (v := (.bool b.neg)) rfl), fun _ _ => aL (pJ nn4 rfl rfl), fun _ _ => aL (fa uu25 rfl zz9 rfl rfl rfl (k' := 1)), fun _ _ => cY _ rfl rfl (ba aa9 zz9 rfl rfl rfl (v := (.string (bs a.mag))) rfl), fun _ _ => aL (fa uu25 rfl zz9 rfl rfl rfl (k' := 1)), fun _ _ => cY _ rfl rfl (ba aa9 zz9 rfl rfl rfl (v := (.string (bs b.mag))) rfl), fun _ _ => d7 (dH Tryz.call196 rfl (jF a.mag b.mag k (by omega) za zb)), fun _ _ => d7 (dH cc190 rfl (cx (a.neg != b.neg) (ec a.mag b.mag) k (by omega) s1)), fun _ _ => gF _ [.blk b3 (cI (aM (a.neg != b.neg) (ec a.mag b.mag))) 25] rfl rfl (gW zz25 rfl rfl rfl rfl rfl rfl rfl), trivial⟩ ?_
 clear h ac wo; intro ξ ac wo hφ h
 replace h : St w0 16 [(4, (ptr b3 0))] [.blk b3 (cI (aM (a.neg != b.neg) (ec a.mag b.mag))) 25, .blk b2 (cI b) 25, .blk b1 (cI a) 25] ac wo := h.sub ⟨rfl, trivial⟩
 clear hφ ξ
 refine hK2 _ _ ?_
 refine gu ?_
 exact ret h rfl (.cell (v := (vI (aM (a.neg != b.neg) (ec a.mag b.mag)))) rfl (i := 0) rfl aa25 zz25 rfl rfl rfl .nil) rfl (h.retP (by unfold ag; rfl) (by unfold ag; exact s2))
def aP (a b : GI) : GI := aM false (Nat.gcd a.mag b.mag)
theorem rh (x y : Nat) : Nat.gcd y (x % y) = Nat.gcd x y := by rw [Nat.gcd_comm x y, Nat.gcd_rec y x, Nat.gcd_comm]
theorem iL (a : GI) (b : GI) (k : Nat) (hk : k ≤ 40) (za : SzI k a) (zb : SzI k b) (w0 : World) : Calls Tryz.prog 160 #[(vI a), (vI b)] w0 (RetP w0 (vI (aP a b)) (SzI k (aP a b))) := by
 refine enter (N := 45) (args := [(vI a), (vI b)]) Tryz.func160 rfl rfl ?_; intro ac h
 refine ej fun K1 hK1 => ?_
 refine bx h (cI a) rfl rfl rfl fun b1 => gb (cI b) rfl rfl rfl fun b2 => ga (cI (⟨false, 0⟩ : GI)) vv25 rfl rfl fun b3 => gn hK1 <| gq fun K2 hK2 => ?_; clear h ac; intro ac wo h
 refine cZ mixed [dv _, dw _ [2], dv _, dw _ [1], dv _, dv _] [⟨_, []⟩, ⟨_, []⟩, ⟨_, []⟩] h rfl (by kernel_rfl) ⟨fun _ _ => aL (fa uu25 rfl zz9 rfl rfl rfl (k' := 1)), fun _ _ => cY _ rfl rfl (ba aa9 zz9 rfl rfl rfl (v := (.string (bs a.mag))) rfl), fun _ _ => aL (fa uu25 rfl zz9 rfl rfl rfl (k' := 1)), fun _ _ => cY _ rfl rfl (ba aa9 zz9 rfl rfl rfl (v := (.string (bs b.mag))) rfl), fun _ _ => aL (aj rfl), fun _ _ => aL (aj rfl), trivial⟩ ?_
 clear h ac wo; intro ξ ac wo hφ h
 replace h : St w0 45 [(4, (ptr b3 0)), (5, (.string (bs a.mag))), (6, (.string (bs b.mag)))] [.blk b3 (cI (⟨false, 0⟩ : GI)) 25, .blk b2 (cI b) 25, .blk b1 (cI a) 25] ac wo := h.sub ⟨rfl, rfl, rfl, trivial⟩
 clear hφ ξ
 refine hK2 _ _ ?_
 refine dV fun K3 hK3 => ?_
 refine gg ?_
 refine wp_loop_ghost (fun n_ a_ w_ => ∃ (x : Nat) (y : Nat), n_ = 1 * y ∧ (Nat.gcd x y = Nat.gcd a.mag b.mag) ∧ (SzB k x) ∧ (SzB k y) ∧ St w0 45 [(4, (ptr b3 0)), (5, (.string (bs x))), (6, (.string (bs y)))] [.blk b3 (cI (⟨false, 0⟩ : GI)) 25, .blk b2 (cI b) 25, .blk b1 (cI a) 25] a_ w_) _ ⟨a.mag, b.mag, rfl, rfl, za, zb, (h.pick [0, 1, 2] (by decide)).sub ⟨rfl, rfl, rfl, trivial⟩⟩ ?_
 clear h ac wo; rintro _ ac wo ⟨x, y, rfl, hg, zx, zy, h⟩
 refine gz h <| gq fun K4 hK4 => gr fun K5 hK5 => g0 (ak rfl) rfl <| g0 (mV rfl rfl (m := y) (n := 0)) rfl <| gn hK5 ?_; clear h ac wo; intro ac wo h
 refine dA h rfl (fun hc1 => ?_) (fun hc1 => ?_)
 ·
  have hy : y ≠ 0 := by simpa using hc1
  refine gz h <| gS <| gx hK4 <| gB <| gq fun K6 hK6 => gr fun K7 hK7 => g0 (ak rfl) rfl <| g0 (ak rfl) rfl <| gl Tryz.call231 rfl (f5 x y) rfl <| g0 (ak rfl) rfl <| g0 (bf rfl rfl) rfl <| g0 (bf rfl rfl) rfl <| g0 (bf rfl rfl) rfl <| g0 (aj rfl) rfl <| g0 (aj rfl) rfl <| g0 (aj rfl) rfl <| gn hK7 <| gr fun K8 hK8 => g0 (ak rfl) rfl <| gn hK8 ?_; clear h ac wo; intro ac wo h
  refine dA h rfl (fun hc2 => ?_) (fun hc2 => ?_)
  ·
   obtain ⟨ha6, hb6, hw⟩ := ks hc2
   simp only [hw] at h
   refine dV fun K9 hK9 => ?_
   refine gg ?_
   refine wp_loop_ghost (fun n_ a_ w_ => ∃ (u : Nat) (v : Nat), n_ = 1 * v ∧ (Nat.gcd u v = Nat.gcd a.mag b.mag) ∧ (SzB k u) ∧ (SzB k v) ∧ (u < 18446744073709551616 ∧ v < 18446744073709551616) ∧ St w0 45 [(4, (ptr b3 0)), (7, (.int .u64 ((u : Nat) : Int))), (8, (.int .u64 ((v : Nat) : Int)))] [.blk b3 (cI (⟨false, 0⟩ : GI)) 25, .blk b2 (cI b) 25, .blk b1 (cI a) 25] a_ w_) _ ⟨x, y, rfl, hg, zx, zy, ⟨ha6, hb6⟩, (h.pick [0, 1, 2] (by decide)).sub ⟨rfl, rfl, rfl, trivial⟩⟩ ?_
   clear h ac wo; rintro _ ac wo ⟨u, v, rfl, hgu, zu, zv, hul, h⟩
   refine gz h <| gq fun K10 hK10 => gr fun K11 hK11 => g0 (ak rfl) rfl <| g0 (jB rfl rfl) rfl <| gn hK11 ?_; clear h ac wo; intro ac wo h
   refine dA h rfl (fun hc3 => ?_) (fun hc3 => ?_)
   ·
    have hv : v ≠ 0 := by have := hc3; simp at this; omega
    refine eL ?_
    refine hK10 _ _ ?_
    refine gg ?_
    refine cZ mixed [dv _, dv _, dv _, dv _, dv _, dv _] [⟨_, []⟩, ⟨_, []⟩, ⟨_, []⟩] h rfl (by kernel_rfl) ⟨fun _ _ => om rfl, fun _ _ => om rfl, fun _ _ => om rfl, fun _ _ => aL (iW rfl rfl (r := ((u % v : Nat) : Int)) (by omega) (by rw [Int.tmod_eq_emod_of_nonneg (by omega)]; rfl)), fun _ _ => aL (aj rfl), fun _ _ => aL (aj rfl), trivial⟩ ?_
    clear h ac wo; intro ξ ac wo hφ h
    replace h : St w0 45 [(4, (ptr b3 0)), (7, (.int .u64 ((v : Nat) : Int))), (8, (.int .u64 ((u % v : Nat) : Int)))] [.blk b3 (cI (⟨false, 0⟩ : GI)) 25, .blk b2 (cI b) 25, .blk b1 (cI a) 25] ac wo := h.sub ⟨rfl, rfl, rfl, trivial⟩
    clear hφ ξ
    refine qq ?_
    exact aU ⟨_, (by have := Nat.mod_lt u (show v > 0 by omega); omega), v, (u % v), rfl, (by rw [rh]; exact hgu), zv, (gY zu (Nat.mod_le _ _)), ⟨hul.2, by have := Nat.mod_lt u (show v > 0 by omega); omega⟩, (h.pick [0, 1, 2] (by decide)).sub ⟨rfl, rfl, rfl, trivial⟩⟩
   ·
    have hv : v = 0 := by have := hc3; simp at this; omega
    subst hv
    have c1 := cx false (bJ u) k (by omega) zu
    have s1 := aF (c1 w0)
    refine gz h <| gE <| gx hK9 <| gr fun K12 hK12 => g0 (ak rfl) rfl <| gl Tryz.call191 rfl (dB u hul.1) rfl <| gl cc190 rfl c1 rfl <| gs 0 (cI (aM false (bJ u))) rfl zz25 rfl rfl rfl rfl rfl rfl rfl <| gn hK12 <| gT ?_; clear h ac wo; intro ac wo h
    have hd : aP a b = (aM false (bJ u)) := (by rw [Nat.gcd_zero_right] at hgu; unfold aP; rw [← hgu]; rfl)
    exact ret h rfl (.cell (v := (vI (aM false (bJ u)))) rfl (i := 0) rfl aa25 zz25 rfl rfl rfl .nil) rfl (h.retP (by rw [hd] <;> rfl) (by rw [hd]; exact s1))
  ·
   have c2 := iK x y k (by omega) zx zy (by omega)
   have s2 := aF (c2 w0)
   refine gz h <| gS <| gx hK6 <| gr fun K13 hK13 => g0 (ak rfl) rfl <| g0 (ak rfl) rfl <| gl Tryz.call232 rfl c2 rfl <| g0 (ak rfl) rfl <| g0 (bf rfl rfl) rfl <| g0 (bf rfl rfl) rfl <| g0 (aj rfl) rfl <| g0 (aj rfl) rfl <| gn hK13 <| gR <| g0 (ak rfl) rfl <| g0 (ak rfl) rfl <| g0 (aj rfl) rfl <| g0 (aj rfl) rfl <| gx (fun _ _ => bV) <| gN ?_; clear h ac wo; intro ac wo h
   exact aU ⟨_, (by have := Nat.mod_lt x (show y > 0 by omega); omega), y, (x % y), rfl, (by rw [rh]; exact hg), zy, (gY zx (Nat.mod_le _ _)), (h.pick [0, 1, 2] (by decide)).sub ⟨rfl, rfl, rfl, trivial⟩⟩
 ·
  have hy : y = 0 := by simpa using hc1
  subst hy
  have c3 := cx false x k (by omega) zx
  have s3 := aF (c3 w0)
  refine gz h <| gE <| gx hK3 <| gr fun K14 hK14 => g0 (ak rfl) rfl <| gl cc190 rfl c3 rfl <| gs 0 (cI (aM false x)) rfl zz25 rfl rfl rfl rfl rfl rfl rfl <| gn hK14 <| gT ?_; clear h ac wo; intro ac wo h
  have hd : aP a b = (aM false x) := (by rw [Nat.gcd_zero_right] at hg; unfold aP; rw [← hg])
  exact ret h rfl (.cell (v := (vI (aM false x))) rfl (i := 0) rfl aa25 zz25 rfl rfl rfl .nil) rfl (h.retP (by rw [hd] <;> rfl) (by rw [hd]; exact s3))
def aS (a : GI) (b : GI) : GI × GI × Int :=
 bif (decide (b.mag = 0)) then
  ((⟨false, 0⟩ : GI), (⟨false, 0⟩ : GI), 6)
 else
  bif (a.neg && (!(decide (((be a.mag b.mag).2) = 0)))) then
   ((aM (a.neg != b.neg) (cX ((be a.mag b.mag).1) 1)), (aM false (c8 b.mag ((be a.mag b.mag).2))), 0)
  else
   ((aM (a.neg != b.neg) ((be a.mag b.mag).1)), (aM false ((be a.mag b.mag).2)), 0)
theorem fS (a : GI) (b : GI) (k : Nat) (hk : (k + 1) ≤ 40) (za : SzI (k + 1) a) (zb : SzI (k + 1) b) (w0 : World) : Calls Tryz.prog 253 #[(vI a), (vI b)] w0 (RetP w0 (.tuple #[(vI ((aS a b).1)), (vI ((aS a b).2.1)), (.int .i64 ((aS a b).2.2))]) (SzI k ((aS a b).1) ∧ SzI k ((aS a b).2.1))) := by
 refine enter (N := 43) (args := [(vI a), (vI b)]) Tryz.func253 rfl rfl ?_; intro ac h
 refine ej fun K1 hK1 => ?_
 refine bx h (cI a) rfl rfl rfl fun b1 => gb (cI b) rfl rfl rfl fun b2 => ga (cI (⟨false, 0⟩ : GI)) vv25 rfl rfl fun b3 => ga (cI (⟨false, 0⟩ : GI)) vv25 rfl rfl fun b4 => g0 (aj rfl) rfl <| gn hK1 <| gq fun K2 hK2 => gr fun K3 hK3 => g0 (fa uu25 rfl zz9 rfl rfl rfl (k' := 1)) rfl <| g1 2 rfl (ba aa9 zz9 rfl rfl rfl (v := (.string (bs b.mag))) rfl) rfl <| g0 (oE rfl rfl (m := b.mag) (n := 0)) rfl <| gn hK3 ?_; clear h ac; intro ac wo h
 refine dA h rfl (fun hc1 => ?_) (fun hc1 => ?_)
 ·
  have hd1 := of_decide_eq_true hc1
  refine gz h <| gr fun K4 hK4 => g0 (cg nQ rfl rfl (v := (vI (⟨false, 0⟩ : GI))) rfl) rfl <| g0 (cg nQ rfl rfl (v := (vI (⟨false, 0⟩ : GI))) rfl) rfl <| gs 1 (cI (⟨false, 0⟩ : GI)) rfl zz25 rfl rfl rfl rfl rfl rfl rfl <| gs 0 (cI (⟨false, 0⟩ : GI)) rfl zz25 rfl rfl rfl rfl rfl rfl rfl <| g0 (aj rfl) rfl <| gn hK4 <| gT ?_; clear h ac wo; intro ac wo h
  have hd : aS a b = ((⟨false, 0⟩ : GI), (⟨false, 0⟩ : GI), 6) := (cT hc1)
  exact ret h rfl (.cell (v := (vI (⟨false, 0⟩ : GI))) rfl (i := 1) rfl aa25 zz25 rfl rfl rfl (.cell (v := (vI (⟨false, 0⟩ : GI))) rfl (i := 0) rfl aa25 zz25 rfl rfl rfl (.tmp rfl .nil))) rfl (h.retP (by rw [hd] <;> rfl) (by rw [hd]; exact ⟨(bY 0 (by decide) (by omega)), (bY 0 (by decide) (by omega))⟩))
 ·
  have hd1 := of_decide_eq_false hc1
  have c1 := iK a.mag b.mag (k + 1) (by omega) za zb (by omega)
  have s1 := aF (c1 w0)
  refine gz h <| gS <| gx hK2 <| gr fun K5 hK5 => g0 (fa uu25 rfl zz9 rfl rfl rfl (k' := 1)) rfl <| g1 3 rfl (ba aa9 zz9 rfl rfl rfl (v := (.string (bs a.mag))) rfl) rfl <| g0 (fa uu25 rfl zz9 rfl rfl rfl (k' := 1)) rfl <| g1 2 rfl (ba aa9 zz9 rfl rfl rfl (v := (.string (bs b.mag))) rfl) rfl <| gl Tryz.call232 rfl c1 rfl <| g0 (ak rfl) rfl <| g0 (bf rfl rfl) rfl <| g0 (bf rfl rfl) rfl <| g0 (aj rfl) rfl <| g0 (aj rfl) rfl <| gn hK5 <| gq fun K6 hK6 => gr fun K7 hK7 => g0 (fa uu25 rfl zz4 rfl rfl rfl (k' := 0)) rfl <| g1 3 rfl (ba aa4 zz4 rfl rfl rfl (v := (.bool a.neg)) rfl) rfl <| g0 (ak rfl) rfl <| ge1 rfl rfl (fun hg => (Rd.of_nil (ak rfl)).step) rfl <| ge1 rfl rfl (fun hg => (Rd.of_nil (mV (aN rfl hg) rfl (m := ((be a.mag b.mag).2)) (n := 0))).step) rfl <| g0 (fw rfl (fun e => (aN rfl e))) rfl <| gn hK7 ?_; clear h ac wo; intro ac wo h
  refine dA h rfl (fun hc2 => ?_) (fun hc2 => ?_)
  ·
   have s2 := aF ((gU ((be a.mag b.mag).1) 1 k (by omega) s1.1 (bY 1 (by decide) (by omega))) w0)
   have s3 := aF ((f9 b.mag ((be a.mag b.mag).2) (k + 1) (by omega) zb s1.2 (Nat.le_of_lt (Nat.mod_lt _ (by omega)))) w0)
   refine cZ mixed [dv _, dv _, dv _, dw _ [2], dv _, dv _, dv _, dv _] [⟨_, []⟩, ⟨_, []⟩, ⟨_, []⟩, ⟨_, []⟩] h rfl (by kernel_rfl) ⟨fun _ _ => om rfl, fun _ _ => d7 (dH Tryz.call193 rfl (gU ((be a.mag b.mag).1) 1 k (by omega) s1.1 (bY 1 (by decide) (by omega)))), fun _ _ => aL (fa uu25 rfl zz9 rfl rfl rfl (k' := 1)), fun _ _ => cY _ rfl rfl (ba aa9 zz9 rfl rfl rfl (v := (.string (bs b.mag))) rfl), fun _ _ => om rfl, fun _ _ => d7 (dH cc195 rfl (f9 b.mag ((be a.mag b.mag).2) (k + 1) (by omega) zb s1.2 (Nat.le_of_lt (Nat.mod_lt _ (by omega))))), fun _ _ => aL (aj rfl), fun _ _ => aL (aj rfl), trivial⟩ ?_
   clear h ac wo; intro ξ ac wo hφ h
   replace h : St w0 43 [(2, (ptr b1 0)), (3, (ptr b2 0)), (4, (ptr b3 0)), (5, (ptr b4 0)), (7, (.string (bs (cX ((be a.mag b.mag).1) 1)))), (8, (.string (bs (c8 b.mag ((be a.mag b.mag).2)))))] [.blk b4 (cI (⟨false, 0⟩ : GI)) 25, .blk b3 (cI (⟨false, 0⟩ : GI)) 25, .blk b2 (cI b) 25, .blk b1 (cI a) 25] ac wo := h.sub ⟨rfl, rfl, rfl, rfl, rfl, rfl, trivial⟩
   clear hφ ξ
   have c4 := cx (a.neg != b.neg) (cX ((be a.mag b.mag).1) 1) k (by omega) s2
   have s4 := aF (c4 w0)
   have c5 := cx false (c8 b.mag ((be a.mag b.mag).2)) (k + 1) (by omega) s3
   have s5 := aF (c5 w0)
   refine gz h <| gx hK6 <| gr fun K8 hK8 => g0 (fa uu25 rfl zz4 rfl rfl rfl (k' := 0)) rfl <| g1 3 rfl (ba aa4 zz4 rfl rfl rfl (v := (.bool a.neg)) rfl) rfl <| g0 (fa uu25 rfl zz4 rfl rfl rfl (k' := 0)) rfl <| g1 2 rfl (ba aa4 zz4 rfl rfl rfl (v := (.bool b.neg)) rfl) rfl <| g0 (pJ nn4 rfl rfl) rfl <| g0 (ak rfl) rfl <| gl cc190 rfl c4 rfl <| g0 (ak rfl) rfl <| gl cc190 rfl c5 rfl <| gs 1 (cI (aM (a.neg != b.neg) (cX ((be a.mag b.mag).1) 1))) rfl zz25 rfl rfl rfl rfl rfl rfl rfl <| gs 0 (cI (aM false (c8 b.mag ((be a.mag b.mag).2)))) rfl zz25 rfl rfl rfl rfl rfl rfl rfl <| g0 (aj rfl) rfl <| gn hK8 <| gT ?_; clear h ac wo; intro ac wo h
   have hd : aS a b = ((aM (a.neg != b.neg) (cX ((be a.mag b.mag).1) 1)), (aM false (c8 b.mag ((be a.mag b.mag).2))), 0) := (Eq.trans (cF hc1) (cT hc2))
   exact ret h rfl (.cell (v := (vI (aM (a.neg != b.neg) (cX ((be a.mag b.mag).1) 1)))) rfl (i := 1) rfl aa25 zz25 rfl rfl rfl (.cell (v := (vI (aM false (c8 b.mag ((be a.mag b.mag).2))))) rfl (i := 0) rfl aa25 zz25 rfl rfl rfl (.tmp rfl .nil))) rfl (h.retP (by rw [hd] <;> rfl) (by rw [hd]; exact ⟨s4, (fH s5 (by omega))⟩))
  ·
   have c6 := cx (a.neg != b.neg) ((be a.mag b.mag).1) (k + 1) (by omega) s1.1
   have s6 := aF (c6 w0)
   have c7 := cx false ((be a.mag b.mag).2) (k + 1) (by omega) s1.2
   have s7 := aF (c7 w0)
   refine gz h <| gS <| gx hK6 <| gr fun K9 hK9 => g0 (fa uu25 rfl zz4 rfl rfl rfl (k' := 0)) rfl <| g1 3 rfl (ba aa4 zz4 rfl rfl rfl (v := (.bool a.neg)) rfl) rfl <| g0 (fa uu25 rfl zz4 rfl rfl rfl (k' := 0)) rfl <| g1 2 rfl (ba aa4 zz4 rfl rfl rfl (v := (.bool b.neg)) rfl) rfl <| g0 (pJ nn4 rfl rfl) rfl <| g0 (ak rfl) rfl <| gl cc190 rfl c6 rfl <| g0 (ak rfl) rfl <| gl cc190 rfl c7 rfl <| gs 1 (cI (aM (a.neg != b.neg) ((be a.mag b.mag).1))) rfl zz25 rfl rfl rfl rfl rfl rfl rfl <| gs 0 (cI (aM false ((be a.mag b.mag).2))) rfl zz25 rfl rfl rfl rfl rfl rfl rfl <| g0 (aj rfl) rfl <| gn hK9 <| gT ?_; clear h ac wo; intro ac wo h
   have hd : aS a b = ((aM (a.neg != b.neg) ((be a.mag b.mag).1)), (aM false ((be a.mag b.mag).2)), 0) := (Eq.trans (cF hc1) (cF hc2))
   exact ret h rfl (.cell (v := (vI (aM (a.neg != b.neg) ((be a.mag b.mag).1)))) rfl (i := 1) rfl aa25 zz25 rfl rfl rfl (.cell (v := (vI (aM false ((be a.mag b.mag).2)))) rfl (i := 0) rfl aa25 zz25 rfl rfl rfl (.tmp rfl .nil))) rfl (h.retP (by rw [hd] <;> rfl) (by rw [hd]; exact ⟨(fH s6 (by omega)), (fH s7 (by omega))⟩))
def rational_one  : GI :=
 (aw 1)
theorem e8 (k : Nat) (hk : k ≤ 40) (w0 : World) : Calls Tryz.prog 159 #[] w0 (RetP w0 (vI rational_one) (SzI k rational_one)) := by
 refine enter (N := 2) (args := []) Tryz.func159 rfl rfl ?_; intro ac h
 have c1 := eh 1 k (by omega)  (by omega)
 have s1 := aF (c1 w0)
 refine ej fun K1 hK1 => ?_
 refine al h (cI (⟨false, 0⟩ : GI)) vv25 rfl rfl fun b1 => gn hK1 <| gr fun K2 hK2 => gl Tryz.call93 rfl c1 rfl <| gs 0 (cI (aw 1)) rfl zz25 rfl rfl rfl rfl rfl rfl rfl <| gn hK2 <| gT ?_; clear h ac; intro ac wo h
 exact ret h rfl (.cell (v := (vI (aw 1))) rfl (i := 0) rfl aa25 zz25 rfl rfl rfl .nil) rfl (h.retP (by unfold rational_one; rfl) (by unfold rational_one; exact s1))
def ap (n : Int) : GQ :=
 (⟨(aw n), (⟨false, 0⟩ : GI)⟩ : GQ)
theorem bW (n : Int) (k : Nat) (hk : k ≤ 40) (hn : -9223372036854775808 ≤ n ∧ n ≤ 9223372036854775807) (w0 : World) : Calls Tryz.prog 85 #[(.int .i64 n)] w0 (RetP w0 (vQ (ap n)) (SzQ k (ap n))) := by
 refine enter (N := 6) (args := [(.int .i64 n)]) Tryz.func85 rfl rfl ?_; intro ac h
 have c1 := eh n k (by omega)  (by omega)
 have s1 := aF (c1 w0)
 refine ej fun K1 hK1 => ?_
 refine al h (cQ oQ) vv27 rfl rfl fun b1 => gn hK1 <| gr fun K2 hK2 => g0 (ak rfl) rfl <| gl Tryz.call93 rfl c1 rfl <| g0 (cg nz rfl rfl (v := (vQ (⟨(aw n), (⟨false, 0⟩ : GI)⟩ : GQ))) rfl) rfl <| gs 0 (cQ (⟨(aw n), (⟨false, 0⟩ : GI)⟩ : GQ)) rfl zz27 rfl rfl rfl rfl rfl rfl rfl <| gn hK2 <| gT ?_; clear h ac; intro ac wo h
 exact ret h rfl (.cell (v := (vQ (⟨(aw n), (⟨false, 0⟩ : GI)⟩ : GQ))) rfl (i := 0) rfl aa27 zz27 rfl rfl rfl .nil) rfl (h.retP (by unfold ap; rfl) (by unfold ap; exact ⟨s1, (bY 0 (by decide) (by omega))⟩))
def aa (a : GQ) : GI :=
 bif (decide (a.den = (⟨false, 0⟩ : GI))) then
  rational_one
 else
  a.den
theorem cw (a : GQ) (k : Nat) (hk : k ≤ 40) (za : SzQ k a) (w0 : World) : Calls Tryz.prog 98 #[(vQ a)] w0 (RetP w0 (vI (aa a)) (SzI k (aa a))) := by
 refine enter (N := 10) (args := [(vQ a)]) Tryz.func98 rfl rfl ?_; intro ac h
 refine ej fun K1 hK1 => ?_
 refine bx h (cQ a) rfl rfl rfl fun b1 => ga (cI (⟨false, 0⟩ : GI)) vv25 rfl rfl fun b2 => gn hK1 <| gq fun K2 hK2 => gr fun K3 hK3 => g0 (fa uu27 rfl zz25 rfl rfl rfl (k' := 2)) rfl <| g1 1 rfl (ba aa25 zz25 rfl rfl rfl (v := (vI a.den)) rfl) rfl <| g0 (cg nQ rfl rfl (v := (vI (⟨false, 0⟩ : GI))) rfl) rfl <| g0 (il r6 rfl rfl) rfl <| gn hK3 ?_; clear h ac; intro ac wo h
 refine dA h rfl (fun hc1 => ?_) (fun hc1 => ?_)
 ·
  have hd1 := of_decide_eq_true hc1
  have c1 := e8  k (by omega) 
  have s1 := aF (c1 w0)
  refine gz h <| gr fun K4 hK4 => gl cc159 rfl c1 rfl <| gs 0 (cI rational_one) rfl zz25 rfl rfl rfl rfl rfl rfl rfl <| gn hK4 <| gT ?_; clear h ac wo; intro ac wo h
  have hd : aa a = rational_one := (cT hc1)
  exact ret h rfl (.cell (v := (vI rational_one)) rfl (i := 0) rfl aa25 zz25 rfl rfl rfl .nil) rfl (h.retP (by rw [hd] <;> rfl) (by rw [hd]; exact s1))
 ·
  have hd1 := of_decide_eq_false hc1
  refine gz h <| gS <| gx hK2 <| gr fun K5 hK5 => g0 (fa uu27 rfl zz25 rfl rfl rfl (k' := 2)) rfl <| g1 1 rfl (ba aa25 zz25 rfl rfl rfl (v := (vI a.den)) rfl) rfl <| gs 0 (cI a.den) rfl zz25 rfl rfl rfl rfl rfl rfl rfl <| gn hK5 <| gT ?_; clear h ac wo; intro ac wo h
  have hd : aa a = a.den := (cF hc1)
  exact ret h rfl (.cell (v := (vI a.den)) rfl (i := 0) rfl aa25 zz25 rfl rfl rfl .nil) rfl (h.retP (by rw [hd] <;> rfl) (by rw [hd]; exact za.2))
def az (a : GI) (b : GI) : GI :=
 (aS a b).1
theorem dP (a : GI) (b : GI) (k : Nat) (hk : (k + 1) ≤ 40) (za : SzI (k + 1) a) (zb : SzI (k + 1) b) (w0 : World) : Calls Tryz.prog 192 #[(vI a), (vI b)] w0 (RetP w0 (vI (az a b)) (SzI k (az a b))) := by
 refine enter (N := 16) (args := [(vI a), (vI b)]) Tryz.func192 rfl rfl ?_; intro ac h
 have c1 := fS a b k (by omega) za zb
 have s1 := aF (c1 w0)
 refine ej fun K1 hK1 => ?_
 refine bx h (cI a) rfl rfl rfl fun b1 => gb (cI b) rfl rfl rfl fun b2 => ga (cI (⟨false, 0⟩ : GI)) vv25 rfl rfl fun b3 => gn hK1 <| gr fun K2 hK2 => g1 2 rfl (ba aa25 zz25 rfl rfl rfl (v := (vI a)) rfl) rfl <| g1 1 rfl (ba aa25 zz25 rfl rfl rfl (v := (vI b)) rfl) rfl <| gl Tryz.call253 rfl c1 rfl <| g0 (ak rfl) rfl <| g0 (bf rfl rfl) rfl <| g0 (bf rfl rfl) rfl <| g0 (bf rfl rfl) rfl <| ga (cI (⟨false, 0⟩ : GI)) vv25 rfl rfl fun b4 => ga (cI (⟨false, 0⟩ : GI)) vv25 rfl rfl fun b5 => gs 1 (cI ((aS a b).1)) rfl zz25 rfl rfl rfl rfl rfl rfl rfl <| gs 0 (cI ((aS a b).2.1)) rfl zz25 rfl rfl rfl rfl rfl rfl rfl <| g0 (aj rfl) rfl <| gn hK2 <| gr fun K3 hK3 => g1 1 rfl (ba aa25 zz25 rfl rfl rfl (v := (vI ((aS a b).1))) rfl) rfl <| gs 2 (cI ((aS a b).1)) rfl zz25 rfl rfl rfl rfl rfl rfl rfl <| gn hK3 <| gT ?_; clear h ac; intro ac wo h
 exact ret h rfl (.cell (v := (vI ((aS a b).1))) rfl (i := 2) rfl aa25 zz25 rfl rfl rfl .nil) rfl (h.retP (by unfold az; rfl) (by unfold az; exact s1.1))
def br (num : GI) (den : GI) : GQ :=
 bif (decide ((df den) < 0)) then
  bif (decide ((az (ar den) (aP (ar num) (ar den))) = rational_one)) then
   (⟨(az (ar num) (aP (ar num) (ar den))), (⟨false, 0⟩ : GI)⟩ : GQ)
  else
   (⟨(az (ar num) (aP (ar num) (ar den))), (az (ar den) (aP (ar num) (ar den)))⟩ : GQ)
 else
  bif (decide ((az den (aP num den)) = rational_one)) then
   (⟨(az num (aP num den)), (⟨false, 0⟩ : GI)⟩ : GQ)
  else
   (⟨(az num (aP num den)), (az den (aP num den))⟩ : GQ)
theorem ew (num : GI) (den : GI) (k : Nat) (hk : (k + 1) ≤ 40) (znum : SzI (k + 1) num) (zden : SzI (k + 1) den) (w0 : World) : Calls Tryz.prog 95 #[(vI num), (vI den)] w0 (RetP w0 (vQ (br num den)) (SzQ k (br num den))) := by
 refine enter (N := 29) (args := [(vI num), (vI den)]) Tryz.func95 rfl rfl ?_; intro ac h
 have p2 := aF ((en den) w0)
 refine ej fun K1 hK1 => ?_
 refine bx h (cI num) rfl rfl rfl fun b1 => gb (cI den) rfl rfl rfl fun b2 => ga (cQ oQ) vv27 rfl rfl fun b3 => gn hK1 <| gq fun K2 hK2 => gr fun K3 hK3 => g1 1 rfl (ba aa25 zz25 rfl rfl rfl (v := (vI den)) rfl) rfl <| gl cc115 rfl (en den) rfl <| g0 (d5 rfl rfl) rfl <| gn hK3 ?_; clear h ac; intro ac wo h
 refine dA h rfl (fun hc1 => ?_) (fun hc1 => ?_)
 ·
  have hd1 := of_decide_eq_true hc1
  have s3 := aF ((eO num (k + 1) (by omega) znum) w0)
  have s4 := aF ((eO den (k + 1) (by omega) zden) w0)
  refine cZ mixed [dw _ [2], dv _, dw _ [1], dv _, dw _ [2], dw _ [1]] [⟨_, []⟩, ⟨.blk b2 (cI den) 25, [(5, .con _)]⟩, ⟨.blk b1 (cI num) 25, [(4, .con _)]⟩] h rfl (by kernel_rfl) ⟨fun _ _ => cY _ rfl rfl (ba aa25 zz25 rfl rfl rfl (v := (vI num)) rfl), fun _ _ => d7 (dH cc161 rfl (eO num (k + 1) (by omega) znum)), fun _ _ => cY _ rfl rfl (ba aa25 zz25 rfl rfl rfl (v := (vI den)) rfl), fun _ _ => d7 (dH cc161 rfl (eO den (k + 1) (by omega) zden)), fun _ _ => gF _ [.blk b1 (cI (ar num)) 25] rfl rfl (gW zz25 rfl rfl rfl rfl rfl rfl rfl), fun _ _ => gF _ [.blk b2 (cI (ar den)) 25] rfl rfl (gW zz25 rfl rfl rfl rfl rfl rfl rfl), trivial⟩ ?_
  clear h ac wo; intro ξ ac wo hφ h
  replace h : St w0 29 [(2, (ptr b1 0)), (3, (ptr b2 0)), (4, (ptr b3 0))] [.blk b3 (cQ oQ) 27, .blk b2 (cI (ar den)) 25, .blk b1 (cI (ar num)) 25] ac wo := h.sub ⟨rfl, rfl, rfl, trivial⟩
  clear hφ ξ
  have c5 := iL (ar num) (ar den) (k + 1) (by omega) s3 s4
  have s5 := aF (c5 w0)
  have s6 := aF ((dP (ar num) (aP (ar num) (ar den)) k (by omega) s3 s5) w0)
  have s7 := aF ((dP (ar den) (aP (ar num) (ar den)) k (by omega) s4 s5) w0)
  refine gz h <| gx hK2 <| gr fun K4 hK4 => g1 2 rfl (ba aa25 zz25 rfl rfl rfl (v := (vI (ar num))) rfl) rfl <| g1 1 rfl (ba aa25 zz25 rfl rfl rfl (v := (vI (ar den))) rfl) rfl <| gl Tryz.call160 rfl c5 rfl <| ga (cI (⟨false, 0⟩ : GI)) vv25 rfl rfl fun b4 => gs 0 (cI (aP (ar num) (ar den))) rfl zz25 rfl rfl rfl rfl rfl rfl rfl <| gn hK4 <| gq fun K5 hK5 => ?_; clear h ac wo; intro ac wo h
  refine cZ mixed [dw _ [3], dw _ [0], dv _, dw _ [2], dw _ [0], dv _, dw _ [3], dw _ [2]] [⟨_, []⟩, ⟨_, []⟩, ⟨.blk b2 (cI (ar den)) 25, [(7, .con _)]⟩, ⟨.blk b1 (cI (ar num)) 25, [(6, .con _)]⟩] h rfl (by kernel_rfl) ⟨fun _ _ => cY _ rfl rfl (ba aa25 zz25 rfl rfl rfl (v := (vI (ar num))) rfl), fun _ _ => cY _ rfl rfl (ba aa25 zz25 rfl rfl rfl (v := (vI (aP (ar num) (ar den)))) rfl), fun _ _ => d7 (dH cc192 rfl (dP (ar num) (aP (ar num) (ar den)) k (by omega) s3 s5)), fun _ _ => cY _ rfl rfl (ba aa25 zz25 rfl rfl rfl (v := (vI (ar den))) rfl), fun _ _ => cY _ rfl rfl (ba aa25 zz25 rfl rfl rfl (v := (vI (aP (ar num) (ar den)))) rfl), fun _ _ => d7 (dH cc192 rfl (dP (ar den) (aP (ar num) (ar den)) k (by omega) s4 s5)), fun _ _ => gF _ [.blk b1 (cI (az (ar num) (aP (ar num) (ar den)))) 25] rfl rfl (gW zz25 rfl rfl rfl rfl rfl rfl rfl), fun _ _ => gF _ [.blk b2 (cI (az (ar den) (aP (ar num) (ar den)))) 25] rfl rfl (gW zz25 rfl rfl rfl rfl rfl rfl rfl), trivial⟩ ?_
  clear h ac wo; intro ξ ac wo hφ h
  replace h : St w0 29 [(2, (ptr b1 0)), (3, (ptr b2 0)), (4, (ptr b3 0))] [.blk b4 (cI (aP (ar num) (ar den))) 25, .blk b3 (cQ oQ) 27, .blk b2 (cI (az (ar den) (aP (ar num) (ar den)))) 25, .blk b1 (cI (az (ar num) (aP (ar num) (ar den)))) 25] ac wo := h.sub ⟨rfl, rfl, rfl, trivial⟩
  clear hφ ξ
  refine hK5 _ _ ?_
  refine dV fun K6 hK6 => ?_
  refine dV fun K7 hK7 => ?_
  have s8 := aF ((e8  (k + 1) (by omega) ) w0)
  refine cZ mixed [dw _ [2], dv _, dv _] [⟨_, []⟩, ⟨_, []⟩, ⟨_, []⟩, ⟨_, []⟩] h rfl (by kernel_rfl) ⟨fun _ _ => cY _ rfl rfl (ba aa25 zz25 rfl rfl rfl (v := (vI (az (ar den) (aP (ar num) (ar den))))) rfl), fun _ _ => d7 (dH cc159 rfl (e8  (k + 1) (by omega) )), fun _ _ => aL (il r6 rfl rfl), trivial⟩ ?_
  clear h ac wo; intro ξ ac wo hφ h
  replace h : St w0 29 [(2, (ptr b1 0)), (3, (ptr b2 0)), (4, (ptr b3 0)), (24, (.bool (decide ((az (ar den) (aP (ar num) (ar den))) = rational_one))))] [.blk b4 (cI (aP (ar num) (ar den))) 25, .blk b3 (cQ oQ) 27, .blk b2 (cI (az (ar den) (aP (ar num) (ar den)))) 25, .blk b1 (cI (az (ar num) (aP (ar num) (ar den)))) 25] ac wo := h.sub ⟨rfl, rfl, rfl, rfl, trivial⟩
  clear hφ ξ
  refine hK7 _ _ ?_
  refine dA h rfl (fun hc2 => ?_) (fun hc2 => ?_)
  ·
   have hd2 := of_decide_eq_true hc2
   refine gz h <| gR <| g0 (cg nQ rfl rfl (v := (vI (⟨false, 0⟩ : GI))) rfl) rfl <| gs 2 (cI (⟨false, 0⟩ : GI)) rfl zz25 rfl rfl rfl rfl rfl rfl rfl <| gn hK6 <| gr fun K8 hK8 => g1 3 rfl (ba aa25 zz25 rfl rfl rfl (v := (vI (az (ar num) (aP (ar num) (ar den))))) rfl) rfl <| g1 2 rfl (ba aa25 zz25 rfl rfl rfl (v := (vI (⟨false, 0⟩ : GI))) rfl) rfl <| g0 (cg nz rfl rfl (v := (vQ (⟨(az (ar num) (aP (ar num) (ar den))), (⟨false, 0⟩ : GI)⟩ : GQ))) rfl) rfl <| gs 1 (cQ (⟨(az (ar num) (aP (ar num) (ar den))), (⟨false, 0⟩ : GI)⟩ : GQ)) rfl zz27 rfl rfl rfl rfl rfl rfl rfl <| gn hK8 <| gT ?_; clear h ac wo; intro ac wo h
   have hd : br num den = (⟨(az (ar num) (aP (ar num) (ar den))), (⟨false, 0⟩ : GI)⟩ : GQ) := (Eq.trans (cT hc1) (cT hc2))
   exact ret h rfl (.cell (v := (vQ (⟨(az (ar num) (aP (ar num) (ar den))), (⟨false, 0⟩ : GI)⟩ : GQ))) rfl (i := 1) rfl aa27 zz27 rfl rfl rfl .nil) rfl (h.retP (by rw [hd] <;> rfl) (by rw [hd]; exact ⟨s6, (bY 0 (by decide) (by omega))⟩))
  ·
   have hd2 := of_decide_eq_false hc2
   refine gz h <| gS <| gx hK6 <| gr fun K9 hK9 => g1 3 rfl (ba aa25 zz25 rfl rfl rfl (v := (vI (az (ar num) (aP (ar num) (ar den))))) rfl) rfl <| g1 2 rfl (ba aa25 zz25 rfl rfl rfl (v := (vI (az (ar den) (aP (ar num) (ar den))))) rfl) rfl <| g0 (cg nz rfl rfl (v := (vQ (⟨(az (ar num) (aP (ar num) (ar den))), (az (ar den) (aP (ar num) (ar den)))⟩ : GQ))) rfl) rfl <| gs 1 (cQ (⟨(az (ar num) (aP (ar num) (ar den))), (az (ar den) (aP (ar num) (ar den)))⟩ : GQ)) rfl zz27 rfl rfl rfl rfl rfl rfl rfl <| gn hK9 <| gT ?_; clear h ac wo; intro ac wo h
   have hd : br num den = (⟨(az (ar num) (aP (ar num) (ar den))), (az (ar den) (aP (ar num) (ar den)))⟩ : GQ) := (Eq.trans (cT hc1) (cF hc2))
   exact ret h rfl (.cell (v := (vQ (⟨(az (ar num) (aP (ar num) (ar den))), (az (ar den) (aP (ar num) (ar den)))⟩ : GQ))) rfl (i := 1) rfl aa27 zz27 rfl rfl rfl .nil) rfl (h.retP (by rw [hd] <;> rfl) (by rw [hd]; exact ⟨s6, s7⟩))
 ·
  have hd1 := of_decide_eq_false hc1
  have c9 := iL num den (k + 1) (by omega) znum zden
  have s9 := aF (c9 w0)
  have s10 := aF ((dP num (aP num den) k (by omega) znum s9) w0)
  have s11 := aF ((dP den (aP num den) k (by omega) zden s9) w0)
  refine gz h <| gS <| gx hK2 <| gr fun K10 hK10 => g1 2 rfl (ba aa25 zz25 rfl rfl rfl (v := (vI num)) rfl) rfl <| g1 1 rfl (ba aa25 zz25 rfl rfl rfl (v := (vI den)) rfl) rfl <| gl Tryz.call160 rfl c9 rfl <| ga (cI (⟨false, 0⟩ : GI)) vv25 rfl rfl fun b5 => gs 0 (cI (aP num den)) rfl zz25 rfl rfl rfl rfl rfl rfl rfl <| gn hK10 <| gq fun K11 hK11 => ?_; clear h ac wo; intro ac wo h
  refine cZ mixed [dw _ [3], dw _ [0], dv _, dw _ [2], dw _ [0], dv _, dw _ [3], dw _ [2]] [⟨_, []⟩, ⟨_, []⟩, ⟨.blk b2 (cI den) 25, [(7, .con _)]⟩, ⟨.blk b1 (cI num) 25, [(6, .con _)]⟩] h rfl (by kernel_rfl) ⟨fun _ _ => cY _ rfl rfl (ba aa25 zz25 rfl rfl rfl (v := (vI num)) rfl), fun _ _ => cY _ rfl rfl (ba aa25 zz25 rfl rfl rfl (v := (vI (aP num den))) rfl), fun _ _ => d7 (dH cc192 rfl (dP num (aP num den) k (by omega) znum s9)), fun _ _ => cY _ rfl rfl (ba aa25 zz25 rfl rfl rfl (v := (vI den)) rfl), fun _ _ => cY _ rfl rfl (ba aa25 zz25 rfl rfl rfl (v := (vI (aP num den))) rfl), fun _ _ => d7 (dH cc192 rfl (dP den (aP num den) k (by omega) zden s9)), fun _ _ => gF _ [.blk b1 (cI (az num (aP num den))) 25] rfl rfl (gW zz25 rfl rfl rfl rfl rfl rfl rfl), fun _ _ => gF _ [.blk b2 (cI (az den (aP num den))) 25] rfl rfl (gW zz25 rfl rfl rfl rfl rfl rfl rfl), trivial⟩ ?_
  clear h ac wo; intro ξ ac wo hφ h
  replace h : St w0 29 [(2, (ptr b1 0)), (3, (ptr b2 0)), (4, (ptr b3 0))] [.blk b5 (cI (aP num den)) 25, .blk b3 (cQ oQ) 27, .blk b2 (cI (az den (aP num den))) 25, .blk b1 (cI (az num (aP num den))) 25] ac wo := h.sub ⟨rfl, rfl, rfl, trivial⟩
  clear hφ ξ
  refine hK11 _ _ ?_
  refine dV fun K12 hK12 => ?_
  refine dV fun K13 hK13 => ?_
  have s12 := aF ((e8  (k + 1) (by omega) ) w0)
  refine cZ mixed [dw _ [2], dv _, dv _] [⟨_, []⟩, ⟨_, []⟩, ⟨_, []⟩, ⟨_, []⟩] h rfl (by kernel_rfl) ⟨fun _ _ => cY _ rfl rfl (ba aa25 zz25 rfl rfl rfl (v := (vI (az den (aP num den)))) rfl), fun _ _ => d7 (dH cc159 rfl (e8  (k + 1) (by omega) )), fun _ _ => aL (il r6 rfl rfl), trivial⟩ ?_
  clear h ac wo; intro ξ ac wo hφ h
  replace h : St w0 29 [(2, (ptr b1 0)), (3, (ptr b2 0)), (4, (ptr b3 0)), (24, (.bool (decide ((az den (aP num den)) = rational_one))))] [.blk b5 (cI (aP num den)) 25, .blk b3 (cQ oQ) 27, .blk b2 (cI (az den (aP num den))) 25, .blk b1 (cI (az num (aP num den))) 25] ac wo := h.sub ⟨rfl, rfl, rfl, rfl, trivial⟩
  clear hφ ξ
  refine hK13 _ _ ?_
  refine dA h rfl (fun hc3 => ?_) (fun hc3 => ?_)
  ·
   have hd3 := of_decide_eq_true hc3
   refine gz h <| gR <| g0 (cg nQ rfl rfl (v := (vI (⟨false, 0⟩ : GI))) rfl) rfl <| gs 2 (cI (⟨false, 0⟩ : GI)) rfl zz25 rfl rfl rfl rfl rfl rfl rfl <| gn hK12 <| gr fun K14 hK14 => g1 3 rfl (ba aa25 zz25 rfl rfl rfl (v := (vI (az num (aP num den)))) rfl) rfl <| g1 2 rfl (ba aa25 zz25 rfl rfl rfl (v := (vI (⟨false, 0⟩ : GI))) rfl) rfl <| g0 (cg nz rfl rfl (v := (vQ (⟨(az num (aP num den)), (⟨false, 0⟩ : GI)⟩ : GQ))) rfl) rfl <| gs 1 (cQ (⟨(az num (aP num den)), (⟨false, 0⟩ : GI)⟩ : GQ)) rfl zz27 rfl rfl rfl rfl rfl rfl rfl <| gn hK14 <| gT ?_; clear h ac wo; intro ac wo h
   have hd : br num den = (⟨(az num (aP num den)), (⟨false, 0⟩ : GI)⟩ : GQ) := (Eq.trans (cF hc1) (cT hc3))
   exact ret h rfl (.cell (v := (vQ (⟨(az num (aP num den)), (⟨false, 0⟩ : GI)⟩ : GQ))) rfl (i := 1) rfl aa27 zz27 rfl rfl rfl .nil) rfl (h.retP (by rw [hd] <;> rfl) (by rw [hd]; exact ⟨s10, (bY 0 (by decide) (by omega))⟩))
  ·
   have hd3 := of_decide_eq_false hc3
   refine gz h <| gS <| gx hK12 <| gr fun K15 hK15 => g1 3 rfl (ba aa25 zz25 rfl rfl rfl (v := (vI (az num (aP num den)))) rfl) rfl <| g1 2 rfl (ba aa25 zz25 rfl rfl rfl (v := (vI (az den (aP num den)))) rfl) rfl <| g0 (cg nz rfl rfl (v := (vQ (⟨(az num (aP num den)), (az den (aP num den))⟩ : GQ))) rfl) rfl <| gs 1 (cQ (⟨(az num (aP num den)), (az den (aP num den))⟩ : GQ)) rfl zz27 rfl rfl rfl rfl rfl rfl rfl <| gn hK15 <| gT ?_; clear h ac wo; intro ac wo h
   have hd : br num den = (⟨(az num (aP num den)), (az den (aP num den))⟩ : GQ) := (Eq.trans (cF hc1) (cF hc3))
   exact ret h rfl (.cell (v := (vQ (⟨(az num (aP num den)), (az den (aP num den))⟩ : GQ))) rfl (i := 1) rfl aa27 zz27 rfl rfl rfl .nil) rfl (h.retP (by rw [hd] <;> rfl) (by rw [hd]; exact ⟨s10, s11⟩))
def aQ (a : GQ) (b : GQ) : GI × GI × GI :=
 bif (decide (a.den = b.den)) then
  (a.num, b.num, (aa a))
 else
  ((ag a.num (aa b)), (ag b.num (aa a)), (ag (aa a) (aa b)))
theorem jK (a : GQ) (b : GQ) (k : Nat) (hk : (k + 1) ≤ 40) (za : SzQ (k + 1) a) (zb : SzQ (k + 1) b) (w0 : World) : Calls Tryz.prog 94 #[(vQ a), (vQ b)] w0 (RetP w0 (.tuple #[(vI ((aQ a b).1)), (vI ((aQ a b).2.1)), (vI ((aQ a b).2.2))]) (SzI k ((aQ a b).1) ∧ SzI k ((aQ a b).2.1) ∧ SzI k ((aQ a b).2.2))) := by
 refine enter (N := 33) (args := [(vQ a), (vQ b)]) Tryz.func94 rfl rfl ?_; intro ac h
 refine ej fun K1 hK1 => ?_
 refine bx h (cQ a) rfl rfl rfl fun b1 => gb (cQ b) rfl rfl rfl fun b2 => ga (cI (⟨false, 0⟩ : GI)) vv25 rfl rfl fun b3 => ga (cI (⟨false, 0⟩ : GI)) vv25 rfl rfl fun b4 => ga (cI (⟨false, 0⟩ : GI)) vv25 rfl rfl fun b5 => gn hK1 <| gq fun K2 hK2 => gr fun K3 hK3 => g0 (fa uu27 rfl zz25 rfl rfl rfl (k' := 2)) rfl <| g1 4 rfl (ba aa25 zz25 rfl rfl rfl (v := (vI a.den)) rfl) rfl <| g0 (fa uu27 rfl zz25 rfl rfl rfl (k' := 2)) rfl <| g1 3 rfl (ba aa25 zz25 rfl rfl rfl (v := (vI b.den)) rfl) rfl <| g0 (il r6 rfl rfl) rfl <| gn hK3 ?_; clear h ac; intro ac wo h
 refine dA h rfl (fun hc1 => ?_) (fun hc1 => ?_)
 ·
  have hd1 := of_decide_eq_true hc1
  refine dV fun K4 hK4 => ?_
  have s1 := aF ((cw a (k + 1) (by omega) za) w0)
  refine cZ mixed [dv _, dw _ [4], dv _, dw _ [3], dw _ [4], dv _, dw _ [2], dw _ [1], dw _ [0]] [⟨.blk b5 (cI (⟨false, 0⟩ : GI)) 25, [(8, .con _)]⟩, ⟨.blk b4 (cI (⟨false, 0⟩ : GI)) 25, [(7, .con _)]⟩, ⟨.blk b3 (cI (⟨false, 0⟩ : GI)) 25, [(6, .con _)]⟩, ⟨_, []⟩, ⟨_, []⟩] h rfl (by kernel_rfl) ⟨fun _ _ => aL (fa uu27 rfl zz25 rfl rfl rfl (k' := 0)), fun _ _ => cY _ rfl rfl (ba aa25 zz25 rfl rfl rfl (v := (vI a.num)) rfl), fun _ _ => aL (fa uu27 rfl zz25 rfl rfl rfl (k' := 0)), fun _ _ => cY _ rfl rfl (ba aa25 zz25 rfl rfl rfl (v := (vI b.num)) rfl), fun _ _ => cY _ rfl rfl (ba aa27 zz27 rfl rfl rfl (v := (vQ a)) rfl), fun _ _ => d7 (dH cc98 rfl (cw a (k + 1) (by omega) za)), fun _ _ => gF _ [.blk b3 (cI a.num) 25] rfl rfl (gW zz25 rfl rfl rfl rfl rfl rfl rfl), fun _ _ => gF _ [.blk b4 (cI b.num) 25] rfl rfl (gW zz25 rfl rfl rfl rfl rfl rfl rfl), fun _ _ => gF _ [.blk b5 (cI (aa a)) 25] rfl rfl (gW zz25 rfl rfl rfl rfl rfl rfl rfl), trivial⟩ ?_
  clear h ac wo; intro ξ ac wo hφ h
  replace h : St w0 33 [(4, (ptr b3 0)), (5, (ptr b4 0)), (6, (ptr b5 0))] [.blk b5 (cI (aa a)) 25, .blk b4 (cI b.num) 25, .blk b3 (cI a.num) 25, .blk b2 (cQ b) 27, .blk b1 (cQ a) 27] ac wo := h.sub ⟨rfl, rfl, rfl, trivial⟩
  clear hφ ξ
  refine hK4 _ _ ?_
  refine gu ?_
  have hd : aQ a b = (a.num, b.num, (aa a)) := (cT hc1)
  exact ret h rfl (.cell (v := (vI a.num)) rfl (i := 2) rfl aa25 zz25 rfl rfl rfl (.cell (v := (vI b.num)) rfl (i := 1) rfl aa25 zz25 rfl rfl rfl (.cell (v := (vI (aa a))) rfl (i := 0) rfl aa25 zz25 rfl rfl rfl .nil))) rfl (h.retP (by rw [hd] <;> rfl) (by rw [hd]; exact ⟨(ft za (by omega)).1, (ft zb (by omega)).1, (fH s1 (by omega))⟩))
 ·
  have hd1 := of_decide_eq_false hc1
  refine eL ?_
  refine hK2 _ _ ?_
  refine dV fun K5 hK5 => ?_
  have s2 := aF ((cw b (k + 1) (by omega) zb) w0)
  have s3 := aF ((cO a.num (aa b) k (by omega) za.1 s2) w0)
  have s4 := aF ((cw a (k + 1) (by omega) za) w0)
  have s5 := aF ((cO b.num (aa a) k (by omega) zb.1 s4) w0)
  have s6 := aF ((cw a (k + 1) (by omega) za) w0)
  have s7 := aF ((cw b (k + 1) (by omega) zb) w0)
  have s8 := aF ((cO (aa a) (aa b) k (by omega) s6 s7) w0)
  refine cZ mixed [dv _, dw _ [4], dw _ [3], dv _, dv _, dv _, dw _ [3], dw _ [4], dv _, dv _, dw _ [4], dv _, dw _ [3], dv _, dv _, dw _ [2], dw _ [1], dw _ [0]] [⟨.blk b5 (cI (⟨false, 0⟩ : GI)) 25, [(17, .con _)]⟩, ⟨.blk b4 (cI (⟨false, 0⟩ : GI)) 25, [(16, .con _)]⟩, ⟨.blk b3 (cI (⟨false, 0⟩ : GI)) 25, [(15, .con _)]⟩, ⟨_, []⟩, ⟨_, []⟩] h rfl (by kernel_rfl) ⟨fun _ _ => aL (fa uu27 rfl zz25 rfl rfl rfl (k' := 0)), fun _ _ => cY _ rfl rfl (ba aa25 zz25 rfl rfl rfl (v := (vI a.num)) rfl), fun _ _ => cY _ rfl rfl (ba aa27 zz27 rfl rfl rfl (v := (vQ b)) rfl), fun _ _ => d7 (dH cc98 rfl (cw b (k + 1) (by omega) zb)), fun _ _ => d7 (dH cc97 rfl (cO a.num (aa b) k (by omega) za.1 s2)), fun _ _ => aL (fa uu27 rfl zz25 rfl rfl rfl (k' := 0)), fun _ _ => cY _ rfl rfl (ba aa25 zz25 rfl rfl rfl (v := (vI b.num)) rfl), fun _ _ => cY _ rfl rfl (ba aa27 zz27 rfl rfl rfl (v := (vQ a)) rfl), fun _ _ => d7 (dH cc98 rfl (cw a (k + 1) (by omega) za)), fun _ _ => d7 (dH cc97 rfl (cO b.num (aa a) k (by omega) zb.1 s4)), fun _ _ => cY _ rfl rfl (ba aa27 zz27 rfl rfl rfl (v := (vQ a)) rfl), fun _ _ => d7 (dH cc98 rfl (cw a (k + 1) (by omega) za)), fun _ _ => cY _ rfl rfl (ba aa27 zz27 rfl rfl rfl (v := (vQ b)) rfl), fun _ _ => d7 (dH cc98 rfl (cw b (k + 1) (by omega) zb)), fun _ _ => d7 (dH cc97 rfl (cO (aa a) (aa b) k (by omega) s6 s7)), fun _ _ => gF _ [.blk b3 (cI (ag a.num (aa b))) 25] rfl rfl (gW zz25 rfl rfl rfl rfl rfl rfl rfl), fun _ _ => gF _ [.blk b4 (cI (ag b.num (aa a))) 25] rfl rfl (gW zz25 rfl rfl rfl rfl rfl rfl rfl), fun _ _ => gF _ [.blk b5 (cI (ag (aa a) (aa b))) 25] rfl rfl (gW zz25 rfl rfl rfl rfl rfl rfl rfl), trivial⟩ ?_
  clear h ac wo; intro ξ ac wo hφ h
  replace h : St w0 33 [(4, (ptr b3 0)), (5, (ptr b4 0)), (6, (ptr b5 0))] [.blk b5 (cI (ag (aa a) (aa b))) 25, .blk b4 (cI (ag b.num (aa a))) 25, .blk b3 (cI (ag a.num (aa b))) 25, .blk b2 (cQ b) 27, .blk b1 (cQ a) 27] ac wo := h.sub ⟨rfl, rfl, rfl, trivial⟩
  clear hφ ξ
  refine hK5 _ _ ?_
  refine gu ?_
  have hd : aQ a b = ((ag a.num (aa b)), (ag b.num (aa a)), (ag (aa a) (aa b))) := (cF hc1)
  exact ret h rfl (.cell (v := (vI (ag a.num (aa b)))) rfl (i := 2) rfl aa25 zz25 rfl rfl rfl (.cell (v := (vI (ag b.num (aa a)))) rfl (i := 1) rfl aa25 zz25 rfl rfl rfl (.cell (v := (vI (ag (aa a) (aa b)))) rfl (i := 0) rfl aa25 zz25 rfl rfl rfl .nil))) rfl (h.retP (by rw [hd] <;> rfl) (by rw [hd]; exact ⟨s3, s5, s8⟩))
def aZ (a : GQ) (b : GQ) : GQ :=
 (br (aH ((aQ a b).1) ((aQ a b).2.1)) ((aQ a b).2.2))
theorem du (a : GQ) (b : GQ) (k : Nat) (hk : (k + 3) ≤ 40) (za : SzQ (k + 3) a) (zb : SzQ (k + 3) b) (w0 : World) : Calls Tryz.prog 20 #[(vQ a), (vQ b)] w0 (RetP w0 (vQ (aZ a b)) (SzQ k (aZ a b))) := by
 refine enter (N := 20) (args := [(vQ a), (vQ b)]) Tryz.func20 rfl rfl ?_; intro ac h
 have c1 := jK a b (k + 2) (by omega) za zb
 have s1 := aF (c1 w0)
 have s2 := aF ((eU ((aQ a b).1) ((aQ a b).2.1) (k + 1) (by omega) s1.1 s1.2.1) w0)
 have s3 := aF ((ew (aH ((aQ a b).1) ((aQ a b).2.1)) ((aQ a b).2.2) k (by omega) s2 (fH s1.2.2 (by omega))) w0)
 refine ej fun K1 hK1 => ?_
 refine bx h (cQ a) rfl rfl rfl fun b1 => gb (cQ b) rfl rfl rfl fun b2 => ga (cQ oQ) vv27 rfl rfl fun b3 => gn hK1 <| gr fun K2 hK2 => g1 2 rfl (ba aa27 zz27 rfl rfl rfl (v := (vQ a)) rfl) rfl <| g1 1 rfl (ba aa27 zz27 rfl rfl rfl (v := (vQ b)) rfl) rfl <| gl Tryz.call94 rfl c1 rfl <| g0 (ak rfl) rfl <| g0 (bf rfl rfl) rfl <| g0 (bf rfl rfl) rfl <| g0 (bf rfl rfl) rfl <| ga (cI (⟨false, 0⟩ : GI)) vv25 rfl rfl fun b4 => ga (cI (⟨false, 0⟩ : GI)) vv25 rfl rfl fun b5 => ga (cI (⟨false, 0⟩ : GI)) vv25 rfl rfl fun b6 => gs 2 (cI ((aQ a b).1)) rfl zz25 rfl rfl rfl rfl rfl rfl rfl <| gs 1 (cI ((aQ a b).2.1)) rfl zz25 rfl rfl rfl rfl rfl rfl rfl <| gs 0 (cI ((aQ a b).2.2)) rfl zz25 rfl rfl rfl rfl rfl rfl rfl <| gn hK2 <| gq fun K3 hK3 => ?_; clear h ac; intro ac wo h
 refine cZ mixed [dw _ [2], dw _ [1], dv _, dw _ [0], dv _, dw _ [3]] [⟨_, []⟩, ⟨_, []⟩, ⟨_, []⟩, ⟨.blk b3 (cQ oQ) 27, [(5, .con _)]⟩, ⟨_, []⟩, ⟨_, []⟩] h rfl (by kernel_rfl) ⟨fun _ _ => cY _ rfl rfl (ba aa25 zz25 rfl rfl rfl (v := (vI ((aQ a b).1))) rfl), fun _ _ => cY _ rfl rfl (ba aa25 zz25 rfl rfl rfl (v := (vI ((aQ a b).2.1))) rfl), fun _ _ => d7 (dH Tryz.call96 rfl (eU ((aQ a b).1) ((aQ a b).2.1) (k + 1) (by omega) s1.1 s1.2.1)), fun _ _ => cY _ rfl rfl (ba aa25 zz25 rfl rfl rfl (v := (vI ((aQ a b).2.2))) rfl), fun _ _ => d7 (dH Tryz.call95 rfl (ew (aH ((aQ a b).1) ((aQ a b).2.1)) ((aQ a b).2.2) k (by omega) s2 (fH s1.2.2 (by omega)))), fun _ _ => gF _ [.blk b3 (cQ (br (aH ((aQ a b).1) ((aQ a b).2.1)) ((aQ a b).2.2))) 27] rfl rfl (gW zz27 rfl rfl rfl rfl rfl rfl rfl), trivial⟩ ?_
 clear h ac wo; intro ξ ac wo hφ h
 replace h : St w0 20 [(4, (ptr b3 0))] [.blk b6 (cI ((aQ a b).2.2)) 25, .blk b5 (cI ((aQ a b).2.1)) 25, .blk b4 (cI ((aQ a b).1)) 25, .blk b3 (cQ (br (aH ((aQ a b).1) ((aQ a b).2.1)) ((aQ a b).2.2))) 27, .blk b2 (cQ b) 27, .blk b1 (cQ a) 27] ac wo := h.sub ⟨rfl, trivial⟩
 clear hφ ξ
 refine hK3 _ _ ?_
 refine gu ?_
 exact ret h rfl (.cell (v := (vQ (br (aH ((aQ a b).1) ((aQ a b).2.1)) ((aQ a b).2.2)))) rfl (i := 3) rfl aa27 zz27 rfl rfl rfl .nil) rfl (h.retP (by unfold aZ; rfl) (by unfold aZ; exact s3))
def ca (a : GQ) : GQ :=
 (⟨(ar a.num), a.den⟩ : GQ)
theorem ik (a : GQ) (k : Nat) (hk : k ≤ 40) (za : SzQ k a) (w0 : World) : Calls Tryz.prog 63 #[(vQ a)] w0 (RetP w0 (vQ (ca a)) (SzQ k (ca a))) := by
 refine enter (N := 9) (args := [(vQ a)]) Tryz.func63 rfl rfl ?_; intro ac h
 have s1 := aF ((eO a.num k (by omega) za.1) w0)
 refine ej fun K1 hK1 => ?_
 refine bx h (cQ a) rfl rfl rfl fun b1 => ga (cQ oQ) vv27 rfl rfl fun b2 => gn hK1 <| gq fun K2 hK2 => ?_; clear h ac; intro ac wo h
 refine cZ mixed [dv _, dw _ [1], dv _, dv _, dw _ [1], dv _, dw _ [0]] [⟨.blk b2 (cQ oQ) 27, [(6, .con _)]⟩, ⟨_, []⟩] h rfl (by kernel_rfl) ⟨fun _ _ => aL (fa uu27 rfl zz25 rfl rfl rfl (k' := 0)), fun _ _ => cY _ rfl rfl (ba aa25 zz25 rfl rfl rfl (v := (vI a.num)) rfl), fun _ _ => d7 (dH cc161 rfl (eO a.num k (by omega) za.1)), fun _ _ => aL (fa uu27 rfl zz25 rfl rfl rfl (k' := 2)), fun _ _ => cY _ rfl rfl (ba aa25 zz25 rfl rfl rfl (v := (vI a.den)) rfl), fun _ _ => aL (cg nz rfl rfl (v := (vQ (⟨(ar a.num), a.den⟩ : GQ))) rfl), fun _ _ => gF _ [.blk b2 (cQ (⟨(ar a.num), a.den⟩ : GQ)) 27] rfl rfl (gW zz27 rfl rfl rfl rfl rfl rfl rfl), trivial⟩ ?_
 clear h ac wo; intro ξ ac wo hφ h
 replace h : St w0 9 [(2, (ptr b2 0))] [.blk b2 (cQ (⟨(ar a.num), a.den⟩ : GQ)) 27, .blk b1 (cQ a) 27] ac wo := h.sub ⟨rfl, trivial⟩
 clear hφ ξ
 refine hK2 _ _ ?_
 refine gu ?_
 exact ret h rfl (.cell (v := (vQ (⟨(ar a.num), a.den⟩ : GQ))) rfl (i := 0) rfl aa27 zz27 rfl rfl rfl .nil) rfl (h.retP (by unfold ca; rfl) (by unfold ca; exact ⟨s1, za.2⟩))
def ax (a : GQ) (b : GQ) : GQ :=
 (aZ a (ca b))
theorem dJ (a : GQ) (b : GQ) (k : Nat) (hk : (k + 3) ≤ 40) (za : SzQ (k + 3) a) (zb : SzQ (k + 3) b) (w0 : World) : Calls Tryz.prog 22 #[(vQ a), (vQ b)] w0 (RetP w0 (vQ (ax a b)) (SzQ k (ax a b))) := by
 refine enter (N := 9) (args := [(vQ a), (vQ b)]) Tryz.func22 rfl rfl ?_; intro ac h
 have s1 := aF ((ik b (k + 3) (by omega) zb) w0)
 have s2 := aF ((du a (ca b) k (by omega) za s1) w0)
 refine ej fun K1 hK1 => ?_
 refine bx h (cQ a) rfl rfl rfl fun b1 => gb (cQ b) rfl rfl rfl fun b2 => ga (cQ oQ) vv27 rfl rfl fun b3 => gn hK1 <| gq fun K2 hK2 => ?_; clear h ac; intro ac wo h
 refine cZ mixed [dw _ [2], dw _ [1], dv _, dv _, dw _ [0]] [⟨.blk b3 (cQ oQ) 27, [(4, .con _)]⟩, ⟨_, []⟩, ⟨_, []⟩] h rfl (by kernel_rfl) ⟨fun _ _ => cY _ rfl rfl (ba aa27 zz27 rfl rfl rfl (v := (vQ a)) rfl), fun _ _ => cY _ rfl rfl (ba aa27 zz27 rfl rfl rfl (v := (vQ b)) rfl), fun _ _ => d7 (dH Tryz.call63 rfl (ik b (k + 3) (by omega) zb)), fun _ _ => d7 (dH cc20 rfl (du a (ca b) k (by omega) za s1)), fun _ _ => gF _ [.blk b3 (cQ (aZ a (ca b))) 27] rfl rfl (gW zz27 rfl rfl rfl rfl rfl rfl rfl), trivial⟩ ?_
 clear h ac wo; intro ξ ac wo hφ h
 replace h : St w0 9 [(4, (ptr b3 0))] [.blk b3 (cQ (aZ a (ca b))) 27, .blk b2 (cQ b) 27, .blk b1 (cQ a) 27] ac wo := h.sub ⟨rfl, trivial⟩
 clear hφ ξ
 refine hK2 _ _ ?_
 refine gu ?_
 exact ret h rfl (.cell (v := (vQ (aZ a (ca b)))) rfl (i := 0) rfl aa27 zz27 rfl rfl rfl .nil) rfl (h.retP (by unfold ax; rfl) (by unfold ax; exact s2))
def aB (a : GQ) (b : GQ) : GQ :=
 (br (ag a.num b.num) (ag (aa a) (aa b)))
theorem bT (a : GQ) (b : GQ) (k : Nat) (hk : (k + 2) ≤ 40) (za : SzQ (k + 2) a) (zb : SzQ (k + 2) b) (w0 : World) : Calls Tryz.prog 21 #[(vQ a), (vQ b)] w0 (RetP w0 (vQ (aB a b)) (SzQ k (aB a b))) := by
 refine enter (N := 16) (args := [(vQ a), (vQ b)]) Tryz.func21 rfl rfl ?_; intro ac h
 have s1 := aF ((cO a.num b.num (k + 1) (by omega) za.1 zb.1) w0)
 have s2 := aF ((cw a (k + 2) (by omega) za) w0)
 have s3 := aF ((cw b (k + 2) (by omega) zb) w0)
 have s4 := aF ((cO (aa a) (aa b) (k + 1) (by omega) s2 s3) w0)
 have s5 := aF ((ew (ag a.num b.num) (ag (aa a) (aa b)) k (by omega) s1 s4) w0)
 refine ej fun K1 hK1 => ?_
 refine bx h (cQ a) rfl rfl rfl fun b1 => gb (cQ b) rfl rfl rfl fun b2 => ga (cQ oQ) vv27 rfl rfl fun b3 => gn hK1 <| gq fun K2 hK2 => ?_; clear h ac; intro ac wo h
 refine cZ mixed [dv _, dw _ [2], dv _, dw _ [1], dv _, dw _ [2], dv _, dw _ [1], dv _, dv _, dv _, dw _ [0]] [⟨.blk b3 (cQ oQ) 27, [(11, .con _)]⟩, ⟨_, []⟩, ⟨_, []⟩] h rfl (by kernel_rfl) ⟨fun _ _ => aL (fa uu27 rfl zz25 rfl rfl rfl (k' := 0)), fun _ _ => cY _ rfl rfl (ba aa25 zz25 rfl rfl rfl (v := (vI a.num)) rfl), fun _ _ => aL (fa uu27 rfl zz25 rfl rfl rfl (k' := 0)), fun _ _ => cY _ rfl rfl (ba aa25 zz25 rfl rfl rfl (v := (vI b.num)) rfl), fun _ _ => d7 (dH cc97 rfl (cO a.num b.num (k + 1) (by omega) za.1 zb.1)), fun _ _ => cY _ rfl rfl (ba aa27 zz27 rfl rfl rfl (v := (vQ a)) rfl), fun _ _ => d7 (dH cc98 rfl (cw a (k + 2) (by omega) za)), fun _ _ => cY _ rfl rfl (ba aa27 zz27 rfl rfl rfl (v := (vQ b)) rfl), fun _ _ => d7 (dH cc98 rfl (cw b (k + 2) (by omega) zb)), fun _ _ => d7 (dH cc97 rfl (cO (aa a) (aa b) (k + 1) (by omega) s2 s3)), fun _ _ => d7 (dH Tryz.call95 rfl (ew (ag a.num b.num) (ag (aa a) (aa b)) k (by omega) s1 s4)), fun _ _ => gF _ [.blk b3 (cQ (br (ag a.num b.num) (ag (aa a) (aa b)))) 27] rfl rfl (gW zz27 rfl rfl rfl rfl rfl rfl rfl), trivial⟩ ?_
 clear h ac wo; intro ξ ac wo hφ h
 replace h : St w0 16 [(4, (ptr b3 0))] [.blk b3 (cQ (br (ag a.num b.num) (ag (aa a) (aa b)))) 27, .blk b2 (cQ b) 27, .blk b1 (cQ a) 27] ac wo := h.sub ⟨rfl, trivial⟩
 clear hφ ξ
 refine hK2 _ _ ?_
 refine gu ?_
 exact ret h rfl (.cell (v := (vQ (br (ag a.num b.num) (ag (aa a) (aa b))))) rfl (i := 0) rfl aa27 zz27 rfl rfl rfl .nil) rfl (h.retP (by unfold aB; rfl) (by unfold aB; exact s5))
def aT (a : GQ) : Int :=
 (df a.num)
theorem dC (a : GQ) (w0 : World) : Calls Tryz.prog 30 #[(vQ a)] w0 (RetP w0 (.int .i64 (aT a)) ((-1 ≤ (aT a) ∧ (aT a) ≤ 1))) := by
 refine enter (N := 6) (args := [(vQ a)]) Tryz.func30 rfl rfl ?_; intro ac h
 have p2 := aF ((en a.num) w0)
 refine ej fun K1 hK1 => ?_
 refine bx h (cQ a) rfl rfl rfl fun b1 => g0 (aj rfl) rfl <| gn hK1 <| gr fun K2 hK2 => g0 (fa uu27 rfl zz25 rfl rfl rfl (k' := 0)) rfl <| g1 0 rfl (ba aa25 zz25 rfl rfl rfl (v := (vI a.num)) rfl) rfl <| gl cc115 rfl (en a.num) rfl <| g0 (aj rfl) rfl <| gn hK2 <| gT ?_; clear h ac; intro ac wo h
 exact ret h rfl (.tmp rfl .nil) rfl (h.retP (by unfold aT; rfl) (by unfold aT; exact by first | omega | exact fu (by omega) (by omega)))
def es (a : GQ) (b : GQ) : Int :=
 bif (decide (a = b)) then
  0
 else
  (bk ((aQ a b).1) ((aQ a b).2.1))
theorem jf (a : GQ) (b : GQ) (k : Nat) (hk : (k + 1) ≤ 40) (za : SzQ (k + 1) a) (zb : SzQ (k + 1) b) (w0 : World) : Calls Tryz.prog 87 #[(vQ a), (vQ b)] w0 (RetP w0 (.int .i64 (es a b)) ((-1 ≤ (es a b) ∧ (es a b) ≤ 1))) := by
 refine enter (N := 21) (args := [(vQ a), (vQ b)]) Tryz.func87 rfl rfl ?_; intro ac h
 refine ej fun K1 hK1 => ?_
 refine bx h (cQ a) rfl rfl rfl fun b1 => gb (cQ b) rfl rfl rfl fun b2 => g0 (aj rfl) rfl <| gn hK1 <| gq fun K2 hK2 => gr fun K3 hK3 => g1 1 rfl (ba aa27 zz27 rfl rfl rfl (v := (vQ a)) rfl) rfl <| g1 0 rfl (ba aa27 zz27 rfl rfl rfl (v := (vQ b)) rfl) rfl <| g0 (il eqp27 rfl rfl) rfl <| gn hK3 ?_; clear h ac; intro ac wo h
 refine dA h rfl (fun hc1 => ?_) (fun hc1 => ?_)
 ·
  have hd1 := of_decide_eq_true hc1
  refine gz h <| gr fun K4 hK4 => g0 (aj rfl) rfl <| gn hK4 <| gT ?_; clear h ac wo; intro ac wo h
  have hd : es a b = 0 := (cT hc1)
  exact ret h rfl (.tmp rfl .nil) rfl (h.retP (by rw [hd] <;> rfl) (by rw [hd]; exact by first | omega | exact fu (by omega) (by omega)))
 ·
  have hd1 := of_decide_eq_false hc1
  have c1 := jK a b k (by omega) za zb
  have s1 := aF (c1 w0)
  have p3 := aF ((gk ((aQ a b).1) ((aQ a b).2.1) k (by omega) s1.1 s1.2.1) w0)
  refine gz h <| gS <| gx hK2 <| gr fun K5 hK5 => g1 1 rfl (ba aa27 zz27 rfl rfl rfl (v := (vQ a)) rfl) rfl <| g1 0 rfl (ba aa27 zz27 rfl rfl rfl (v := (vQ b)) rfl) rfl <| gl Tryz.call94 rfl c1 rfl <| g0 (ak rfl) rfl <| g0 (bf rfl rfl) rfl <| g0 (bf rfl rfl) rfl <| g0 (bf rfl rfl) rfl <| ga (cI (⟨false, 0⟩ : GI)) vv25 rfl rfl fun b3 => ga (cI (⟨false, 0⟩ : GI)) vv25 rfl rfl fun b4 => ga (cI (⟨false, 0⟩ : GI)) vv25 rfl rfl fun b5 => gs 2 (cI ((aQ a b).1)) rfl zz25 rfl rfl rfl rfl rfl rfl rfl <| gs 1 (cI ((aQ a b).2.1)) rfl zz25 rfl rfl rfl rfl rfl rfl rfl <| gs 0 (cI ((aQ a b).2.2)) rfl zz25 rfl rfl rfl rfl rfl rfl rfl <| gn hK5 <| gr fun K6 hK6 => g1 2 rfl (ba aa25 zz25 rfl rfl rfl (v := (vI ((aQ a b).1))) rfl) rfl <| g1 1 rfl (ba aa25 zz25 rfl rfl rfl (v := (vI ((aQ a b).2.1))) rfl) rfl <| gl Tryz.call158 rfl (gk ((aQ a b).1) ((aQ a b).2.1) k (by omega) s1.1 s1.2.1) rfl <| g0 (aj rfl) rfl <| gn hK6 <| gT ?_; clear h ac wo; intro ac wo h
  have hd : es a b = (bk ((aQ a b).1) ((aQ a b).2.1)) := (cF hc1)
  exact ret h rfl (.tmp rfl .nil) rfl (h.retP (by rw [hd] <;> rfl) (by rw [hd]; exact by first | omega | exact fu (by omega) (by omega)))
def aJ (c : GQ) : Qd :=
 (⟨c, (⟨(⟨false, 0⟩ : GI), (⟨false, 0⟩ : GI)⟩ : GQ), (⟨(⟨false, 0⟩ : GI), (⟨false, 0⟩ : GI)⟩ : GQ)⟩ : Qd)
theorem gA (c : GQ) (k : Nat) (hk : k ≤ 40) (zc : SzQ k c) (w0 : World) : Calls Tryz.prog 113 #[(vQ c)] w0 (RetP w0 (vD (aJ c)) (SzD k (aJ c))) := by
 refine enter (N := 5) (args := [(vQ c)]) Tryz.func113 rfl rfl ?_; intro ac h
 refine ej fun K1 hK1 => ?_
 refine bx h (cQ c) rfl rfl rfl fun b1 => ga (cD oD) vv53 rfl rfl fun b2 => gn hK1 <| gr fun K2 hK2 => g1 1 rfl (ba aa27 zz27 rfl rfl rfl (v := (vQ c)) rfl) rfl <| g0 (cg um rfl rfl (v := (vD (⟨c, oQ, oQ⟩ : Qd))) rfl) rfl <| gs 0 (cD (⟨c, oQ, oQ⟩ : Qd)) rfl zz53 rfl rfl rfl rfl rfl rfl rfl <| gn hK2 <| gT ?_; clear h ac; intro ac wo h
 exact ret h rfl (.cell (v := (vD (⟨c, oQ, oQ⟩ : Qd))) rfl (i := 0) rfl aa53 zz53 rfl rfl rfl .nil) rfl (h.retP (by unfold aJ; rfl) (by unfold aJ; exact ⟨zc, ⟨(bY 0 (by decide) (by omega)), (bY 0 (by decide) (by omega))⟩, ⟨(bY 0 (by decide) (by omega)), (bY 0 (by decide) (by omega))⟩⟩))
def a7 (x : GR) : GQ :=
 bif x.neg then
  (ap (-1))
 else
  (ap 1)
theorem gQ (x : GR) (k : Nat) (hk : k ≤ 40) (zx : SzR k x) (w0 : World) : Calls Tryz.prog 210 #[(vR x)] w0 (RetP w0 (vQ (a7 x)) (SzQ k (a7 x))) := by
 refine enter (N := 7) (args := [(vR x)]) Tryz.func210 rfl rfl ?_; intro ac h
 refine ej fun K1 hK1 => ?_
 refine bx h (cR x) rfl rfl rfl fun b1 => ga (cQ oQ) vv27 rfl rfl fun b2 => gn hK1 <| gq fun K2 hK2 => gr fun K3 hK3 => g0 (fa uu71 rfl zz4 rfl rfl rfl (k' := 8)) rfl <| g1 1 rfl (ba aa4 zz4 rfl rfl rfl (v := (.bool x.neg)) rfl) rfl <| gn hK3 ?_; clear h ac; intro ac wo h
 refine dA h rfl (fun hc1 => ?_) (fun hc1 => ?_)
 ·
  have c1 := bW (-1) k (by omega)  (by omega)
  have s1 := aF (c1 w0)
  refine gz h <| gr fun K4 hK4 => gl cc85 rfl c1 rfl <| gs 0 (cQ (ap (-1))) rfl zz27 rfl rfl rfl rfl rfl rfl rfl <| gn hK4 <| gT ?_; clear h ac wo; intro ac wo h
  have hd : a7 x = (ap (-1)) := (cT hc1)
  exact ret h rfl (.cell (v := (vQ (ap (-1)))) rfl (i := 0) rfl aa27 zz27 rfl rfl rfl .nil) rfl (h.retP (by rw [hd] <;> rfl) (by rw [hd]; exact s1))
 ·
  have c2 := bW 1 k (by omega)  (by omega)
  have s2 := aF (c2 w0)
  refine gz h <| gS <| gx hK2 <| gr fun K5 hK5 => gl cc85 rfl c2 rfl <| gs 0 (cQ (ap 1)) rfl zz27 rfl rfl rfl rfl rfl rfl rfl <| gn hK5 <| gT ?_; clear h ac wo; intro ac wo h
  have hd : a7 x = (ap 1) := (cF hc1)
  exact ret h rfl (.cell (v := (vQ (ap 1))) rfl (i := 0) rfl aa27 zz27 rfl rfl rfl .nil) rfl (h.retP (by rw [hd] <;> rfl) (by rw [hd]; exact s2))
def dS (a : GQ) (b : GQ) (r : GQ) : Int :=
 bif ((((aT b) * (aT r)) == 0) || ((aT a) == ((aT b) * (aT r)))) then
  (aT a)
 else
  bif ((aT a) == 0) then
   ((aT b) * (aT r))
  else
   ((aT a) * (es (aB a a) (aB (aB b b) r)))
theorem ie (a : GQ) (b : GQ) (r : GQ) (k : Nat) (hk : (k + 8) ≤ 40) (za : SzQ (k + 8) a) (zb : SzQ (k + 8) b) (zr : SzQ (k + 8) r) (w0 : World) : Calls Tryz.prog 211 #[(vQ a), (vQ b), (vQ r)] w0 (RetP w0 (.int .i64 (dS a b r)) ((-1 ≤ (dS a b r) ∧ (dS a b r) ≤ 1))) := by
 refine enter (N := 40) (args := [(vQ a), (vQ b), (vQ r)]) Tryz.func211 rfl rfl ?_; intro ac h
 have p2 := aF ((dC a) w0)
 have p4 := aF ((dC b) w0)
 have p6 := aF ((dC r) w0)
 refine ej fun K1 hK1 => ?_
 refine bx h (cQ a) rfl rfl rfl fun b1 => gb (cQ b) rfl rfl rfl fun b2 => gb (cQ r) rfl rfl rfl fun b3 => g0 (aj rfl) rfl <| gn hK1 <| gq fun K2 hK2 => ?_; clear h ac; intro ac wo h
 refine cZ mixed [dw _ [2], dv _, dw _ [1], dv _, dw _ [0], dv _, dv _, dv _, dv _] [⟨_, []⟩, ⟨_, []⟩, ⟨_, []⟩] h rfl (by kernel_rfl) ⟨fun _ _ => cY _ rfl rfl (ba aa27 zz27 rfl rfl rfl (v := (vQ a)) rfl), fun _ _ => d7 (dH cc30 rfl (dC a)), fun _ _ => cY _ rfl rfl (ba aa27 zz27 rfl rfl rfl (v := (vQ b)) rfl), fun _ _ => d7 (dH cc30 rfl (dC b)), fun _ _ => cY _ rfl rfl (ba aa27 zz27 rfl rfl rfl (v := (vQ r)) rfl), fun _ _ => d7 (dH cc30 rfl (dC r)), fun _ _ => aL (lW rfl rfl (r := ((aT b) * (aT r))) (by first | (rw [wI]; omega) | exact jq (by omega) (by omega))), fun _ _ => aL (aj rfl), fun _ _ => aL (aj rfl), trivial⟩ ?_
 clear h ac wo; intro ξ ac wo hφ h
 replace h : St w0 40 [(3, (ptr b1 0)), (4, (ptr b2 0)), (5, (ptr b3 0)), (7, (.int .i64 (aT a))), (8, (.int .i64 ((aT b) * (aT r))))] [.blk b3 (cQ r) 27, .blk b2 (cQ b) 27, .blk b1 (cQ a) 27] ac wo := h.sub ⟨rfl, rfl, rfl, rfl, rfl, trivial⟩
 clear hφ ξ
 refine gz h <| gx hK2 <| gq fun K3 hK3 => gB <| gr fun K4 hK4 => g0 (ak rfl) rfl <| g0 (fV rfl rfl) rfl <| g0 (ak rfl) rfl <| ge2 rfl rfl (fun hg => (Rd.of_nil (ak rfl)).step) rfl <| ge2 rfl rfl (fun hg => (Rd.of_nil (ak rfl)).step) rfl <| ge2 rfl rfl (fun hg => (Rd.of_nil (fV (aN rfl hg) (aN rfl hg))).step) rfl <| g0 (nU rfl (fun e => (aN rfl (n7 e)))) rfl <| g0 (aj rfl) rfl <| gn hK4 ?_; clear h ac wo; intro ac wo h
 refine dA h rfl (fun hc1 => ?_) (fun hc1 => ?_)
 ·
  refine gz h <| gr fun K5 hK5 => g0 (ak rfl) rfl <| g0 (aj rfl) rfl <| gn hK5 <| gT ?_; clear h ac wo; intro ac wo h
  have hd : dS a b r = (aT a) := (cT hc1)
  exact ret h rfl (.tmp rfl .nil) rfl (h.retP (by rw [hd] <;> rfl) (by rw [hd]; exact by first | omega | exact fu (by omega) (by omega)))
 ·
  refine gz h <| gr fun K6 hK6 => g0 (ak rfl) rfl <| g0 (fV rfl rfl) rfl <| g0 (aj rfl) rfl <| gn hK6 ?_; clear h ac wo; intro ac wo h
  refine dA h rfl (fun hc2 => ?_) (fun hc2 => ?_)
  ·
   have hd2 := eq_of_beq hc2
   refine gz h <| gr fun K7 hK7 => g0 (ak rfl) rfl <| g0 (aj rfl) rfl <| gn hK7 <| gT ?_; clear h ac wo; intro ac wo h
   have hd : dS a b r = ((aT b) * (aT r)) := (Eq.trans (cF hc1) (cT hc2))
   exact ret h rfl (.tmp rfl .nil) rfl (h.retP (by rw [hd] <;> rfl) (by rw [hd]; exact by first | omega | exact fu (by omega) (by omega)))
  ·
   have hd2 := ne_of_beq_false hc2
   refine eL ?_
   refine qq ?_
   refine hK3 _ _ ?_
   refine dV fun K8 hK8 => ?_
   have s7 := aF ((bT a a (k + 6) (by omega) za za) w0)
   have s8 := aF ((bT b b (k + 6) (by omega) zb zb) w0)
   have s9 := aF ((bT (aB b b) r (k + 4) (by omega) s8 (ft zr (by omega))) w0)
   have p11 := aF ((jf (aB a a) (aB (aB b b) r) (k + 3) (by omega) (ft s7 (by omega)) s9) w0)
   refine cZ mixed [dv _, dw _ [2], dw _ [2], dv _, dw _ [1], dw _ [1], dv _, dw _ [0], dv _, dv _, dv _, dv _] [⟨_, []⟩, ⟨_, []⟩, ⟨_, []⟩] h rfl (by kernel_rfl) ⟨fun _ _ => om rfl, fun _ _ => cY _ rfl rfl (ba aa27 zz27 rfl rfl rfl (v := (vQ a)) rfl), fun _ _ => cY _ rfl rfl (ba aa27 zz27 rfl rfl rfl (v := (vQ a)) rfl), fun _ _ => d7 (dH cc21 rfl (bT a a (k + 6) (by omega) za za)), fun _ _ => cY _ rfl rfl (ba aa27 zz27 rfl rfl rfl (v := (vQ b)) rfl), fun _ _ => cY _ rfl rfl (ba aa27 zz27 rfl rfl rfl (v := (vQ b)) rfl), fun _ _ => d7 (dH cc21 rfl (bT b b (k + 6) (by omega) zb zb)), fun _ _ => cY _ rfl rfl (ba aa27 zz27 rfl rfl rfl (v := (vQ r)) rfl), fun _ _ => d7 (dH cc21 rfl (bT (aB b b) r (k + 4) (by omega) s8 (ft zr (by omega)))), fun _ _ => d7 (dH Tryz.call87 rfl (jf (aB a a) (aB (aB b b) r) (k + 3) (by omega) (ft s7 (by omega)) s9)), fun _ _ => aL (lW rfl rfl (r := ((aT a) * (es (aB a a) (aB (aB b b) r)))) (by first | (rw [wI]; omega) | exact jq (by omega) (by omega))), fun _ _ => aL (aj rfl), trivial⟩ ?_
   clear h ac wo; intro ξ ac wo hφ h
   replace h : St w0 40 [(6, (.int .i64 ((aT a) * (es (aB a a) (aB (aB b b) r)))))] [.blk b3 (cQ r) 27, .blk b2 (cQ b) 27, .blk b1 (cQ a) 27] ac wo := h.sub ⟨rfl, trivial⟩
   clear hφ ξ
   refine hK8 _ _ ?_
   refine gu ?_
   have hd : dS a b r = ((aT a) * (es (aB a a) (aB (aB b b) r))) := (Eq.trans (cF hc1) (cF hc2))
   exact ret h rfl (.tmp rfl .nil) rfl (h.retP (by rw [hd] <;> rfl) (by rw [hd]; exact by first | omega | exact fu (by omega) (by omega)))
def aE (x : GR) (y : GR) : Int :=
 bif ((((aT (ca (a7 y))) * (aT y.r)) == 0) || ((dS (ax x.p y.p) (a7 x) x.r) == ((aT (ca (a7 y))) * (aT y.r)))) then
  (dS (ax x.p y.p) (a7 x) x.r)
 else
  bif ((dS (ax x.p y.p) (a7 x) x.r) == 0) then
   ((aT (ca (a7 y))) * (aT y.r))
  else
   ((dS (ax x.p y.p) (a7 x) x.r) * (dS (ax (aZ (aB (ax x.p y.p) (ax x.p y.p)) x.r) y.r) (aB (ap 2) (aB (ax x.p y.p) (a7 x))) x.r))
theorem bQ (x : GR) (y : GR) (k : Nat) (hk : (k + 20) ≤ 40) (zx : SzR (k + 20) x) (zy : SzR (k + 20) y) (w0 : World) : Calls Tryz.prog 127 #[(vR x), (vR y)] w0 (RetP w0 (.int .i64 (aE x y)) ((-1 ≤ (aE x y) ∧ (aE x y) ≤ 1))) := by
 refine enter (N := 65) (args := [(vR x), (vR y)]) Tryz.func127 rfl rfl ?_; intro ac h
 have s1 := aF ((dJ x.p y.p (k + 17) (by omega) zx.1 zy.1) w0)
 have s2 := aF ((gQ x (k + 20) (by omega) zx) w0)
 have s3 := aF ((gQ y (k + 20) (by omega) zy) w0)
 have s4 := aF ((ik (a7 y) (k + 20) (by omega) s3) w0)
 refine ej fun K1 hK1 => ?_
 refine bx h (cR x) rfl rfl rfl fun b1 => gb (cR y) rfl rfl rfl fun b2 => g0 (aj rfl) rfl <| gn hK1 <| gq fun K2 hK2 => ?_; clear h ac; intro ac wo h
 replace h := h.emps 3
 refine cZ mixed [dv _, dw _ [1], dv _, dw _ [0], dv _, dw _ [1], dv _, dw _ [0], dv _, dv _, ⟨.nd (.one 10 fun v => ∃ b, v = ptr b 0), [2]⟩, ⟨.nd (.one 11 fun v => ∃ b, v = ptr b 0), [3]⟩, ⟨.nd (.one 12 fun v => ∃ b, v = ptr b 0), [4]⟩, ⟨.det undef, [2]⟩, ⟨.det undef, [3]⟩, ⟨.det undef, [4]⟩] [⟨_, []⟩, ⟨_, []⟩, ⟨.emp, [(10, .one 10 fun v => .blk (ck v) (cQ oQ) 27), (13, .one 10 fun v => .blk (ck v) (cQ (ax x.p y.p)) 27)]⟩, ⟨.emp, [(11, .one 11 fun v => .blk (ck v) (cQ oQ) 27), (14, .one 11 fun v => .blk (ck v) (cQ (a7 x)) 27)]⟩, ⟨.emp, [(12, .one 12 fun v => .blk (ck v) (cQ oQ) 27), (15, .one 12 fun v => .blk (ck v) (cQ (ca (a7 y))) 27)]⟩] h rfl (by kernel_rfl) ⟨fun _ _ => aL (fa uu71 rfl zz27 rfl rfl rfl (k' := 0)), fun _ _ => cY _ rfl rfl (ba aa27 zz27 rfl rfl rfl (v := (vQ x.p)) rfl), fun _ _ => aL (fa uu71 rfl zz27 rfl rfl rfl (k' := 0)), fun _ _ => cY _ rfl rfl (ba aa27 zz27 rfl rfl rfl (v := (vQ y.p)) rfl), fun _ _ => d7 (dH cc22 rfl (dJ x.p y.p (k + 17) (by omega) zx.1 zy.1)), fun _ _ => cY _ rfl rfl (ba aa71 zz71 rfl rfl rfl (v := (vR x)) rfl), fun _ _ => d7 (dH Tryz.call210 rfl (gQ x (k + 20) (by omega) zx)), fun _ _ => cY _ rfl rfl (ba aa71 zz71 rfl rfl rfl (v := (vR y)) rfl), fun _ _ => d7 (dH Tryz.call210 rfl (gQ y (k + 20) (by omega) zy)), fun _ _ => d7 (dH Tryz.call63 rfl (ik (a7 y) (k + 20) (by omega) s3)), fun _ _ => k7 (ψ := fun v => ∃ b, v = ptr b 0) (B := fun v => [.blk (ck v) (cQ oQ) 27]) [.emp] rfl (fun v _ => by simp only [fc, bE] <;> rfl) (fun v hv => by simpa [DF.one, bE] using hv) (iQ (fv vv27 rfl)), fun _ _ => k7 (ψ := fun v => ∃ b, v = ptr b 0) (B := fun v => [.blk (ck v) (cQ oQ) 27]) [.emp] rfl (fun v _ => by simp only [fc, bE] <;> rfl) (fun v hv => by simpa [DF.one, bE] using hv) (iQ (fv vv27 rfl)), fun _ _ => k7 (ψ := fun v => ∃ b, v = ptr b 0) (B := fun v => [.blk (ck v) (cQ oQ) 27]) [.emp] rfl (fun v _ => by simp only [fc, bE] <;> rfl) (fun v hv => by simpa [DF.one, bE] using hv) (iQ (fv vv27 rfl)), (fun ξ hφ => by obtain ⟨b3, hb10⟩ := hφ 10 rfl; exact gF [.blk b3 (cQ oQ) 27] [.blk b3 (cQ (ax x.p y.p)) 27] (congrArg (fun v => [Asn.blk (ck v) (cQ oQ) 27]) hb10) (congrArg (fun v => [Asn.blk (ck v) (cQ (ax x.p y.p)) 27]) hb10) (gW zz27 (Eq.trans rfl (congrArg some hb10)) rfl rfl rfl rfl rfl rfl)), (fun ξ hφ => by obtain ⟨b4, hb11⟩ := hφ 11 rfl; exact gF [.blk b4 (cQ oQ) 27] [.blk b4 (cQ (a7 x)) 27] (congrArg (fun v => [Asn.blk (ck v) (cQ oQ) 27]) hb11) (congrArg (fun v => [Asn.blk (ck v) (cQ (a7 x)) 27]) hb11) (gW zz27 (Eq.trans rfl (congrArg some hb11)) rfl rfl rfl rfl rfl rfl)), (fun ξ hφ => by obtain ⟨b5, hb12⟩ := hφ 12 rfl; exact gF [.blk b5 (cQ oQ) 27] [.blk b5 (cQ (ca (a7 y))) 27] (congrArg (fun v => [Asn.blk (ck v) (cQ oQ) 27]) hb12) (congrArg (fun v => [Asn.blk (ck v) (cQ (ca (a7 y))) 27]) hb12) (gW zz27 (Eq.trans rfl (congrArg some hb12)) rfl rfl rfl rfl rfl rfl)), trivial⟩ ?_
 clear h ac wo; intro ξ ac wo hφ h
 replace h : St w0 65 [(2, (ptr b1 0)), (3, (ptr b2 0)), (5, ξ 10), (6, ξ 11), (7, ξ 12)] [.blk b2 (cR y) 71, .blk b1 (cR x) 71, .blk (ck (ξ 10)) (cQ (ax x.p y.p)) 27, .blk (ck (ξ 11)) (cQ (a7 x)) 27, .blk (ck (ξ 12)) (cQ (ca (a7 y))) 27] ac wo := h.sub ⟨rfl, rfl, rfl, rfl, rfl, trivial⟩
 revert h
 obtain ⟨b3, hb10⟩ : ∃ b, ξ 10 = ptr b 0 := hφ 10
 obtain ⟨b4, hb11⟩ : ∃ b, ξ 11 = ptr b 0 := hφ 11
 obtain ⟨b5, hb12⟩ : ∃ b, ξ 12 = ptr b 0 := hφ 12
 rw [hb10, hb11, hb12]; intro h
 clear hb10 hb11 hb12 hφ ξ
 refine hK2 _ _ ?_
 refine dV fun K3 hK3 => ?_
 have p6 := aF ((ie (ax x.p y.p) (a7 x) x.r (k + 9) (by omega) s1 (ft s2 (by omega)) (dg zx (by omega)).2) w0)
 have p8 := aF ((dC (ca (a7 y))) w0)
 have p10 := aF ((dC y.r) w0)
 refine cZ mixed [dw _ [2], dw _ [3], dv _, dw _ [1], dv _, dw _ [4], dv _, dv _, dw _ [0], dv _, dv _, dv _, dv _] [⟨_, []⟩, ⟨_, []⟩, ⟨_, []⟩, ⟨_, []⟩, ⟨_, []⟩] h rfl (by kernel_rfl) ⟨fun _ _ => cY _ rfl rfl (ba aa27 zz27 rfl rfl rfl (v := (vQ (ax x.p y.p))) rfl), fun _ _ => cY _ rfl rfl (ba aa27 zz27 rfl rfl rfl (v := (vQ (a7 x))) rfl), fun _ _ => aL (fa uu71 rfl zz27 rfl rfl rfl (k' := 4)), fun _ _ => cY _ rfl rfl (ba aa27 zz27 rfl rfl rfl (v := (vQ x.r)) rfl), fun _ _ => d7 (dH Tryz.call211 rfl (ie (ax x.p y.p) (a7 x) x.r (k + 9) (by omega) s1 (ft s2 (by omega)) (dg zx (by omega)).2)), fun _ _ => cY _ rfl rfl (ba aa27 zz27 rfl rfl rfl (v := (vQ (ca (a7 y)))) rfl), fun _ _ => d7 (dH cc30 rfl (dC (ca (a7 y)))), fun _ _ => aL (fa uu71 rfl zz27 rfl rfl rfl (k' := 4)), fun _ _ => cY _ rfl rfl (ba aa27 zz27 rfl rfl rfl (v := (vQ y.r)) rfl), fun _ _ => d7 (dH cc30 rfl (dC y.r)), fun _ _ => aL (lW rfl rfl (r := ((aT (ca (a7 y))) * (aT y.r))) (by first | (rw [wI]; omega) | exact jq (by omega) (by omega))), fun _ _ => aL (aj rfl), fun _ _ => aL (aj rfl), trivial⟩ ?_
 clear h ac wo; intro ξ ac wo hφ h
 replace h : St w0 65 [(2, (ptr b1 0)), (3, (ptr b2 0)), (5, (ptr b3 0)), (6, (ptr b4 0)), (8, (.int .i64 (dS (ax x.p y.p) (a7 x) x.r))), (9, (.int .i64 ((aT (ca (a7 y))) * (aT y.r))))] [.blk b2 (cR y) 71, .blk b1 (cR x) 71, .blk b3 (cQ (ax x.p y.p)) 27, .blk b4 (cQ (a7 x)) 27, .blk b5 (cQ (ca (a7 y))) 27] ac wo := h.sub ⟨rfl, rfl, rfl, rfl, rfl, rfl, trivial⟩
 clear hφ ξ
 refine gz h <| gx hK3 <| gq fun K4 hK4 => gB <| gr fun K5 hK5 => g0 (ak rfl) rfl <| g0 (fV rfl rfl) rfl <| g0 (ak rfl) rfl <| ge2 rfl rfl (fun hg => (Rd.of_nil (ak rfl)).step) rfl <| ge2 rfl rfl (fun hg => (Rd.of_nil (ak rfl)).step) rfl <| ge2 rfl rfl (fun hg => (Rd.of_nil (fV (aN rfl hg) (aN rfl hg))).step) rfl <| g0 (nU rfl (fun e => (aN rfl (n7 e)))) rfl <| g0 (aj rfl) rfl <| gn hK5 ?_; clear h ac wo; intro ac wo h
 refine dA h rfl (fun hc1 => ?_) (fun hc1 => ?_)
 ·
  refine gz h <| gr fun K6 hK6 => g0 (ak rfl) rfl <| g0 (aj rfl) rfl <| gn hK6 <| gT ?_; clear h ac wo; intro ac wo h
  have hd : aE x y = (dS (ax x.p y.p) (a7 x) x.r) := (cT hc1)
  exact ret h rfl (.tmp rfl .nil) rfl (h.retP (by rw [hd] <;> rfl) (by rw [hd]; exact by first | omega | exact fu (by omega) (by omega)))
 ·
  refine gz h <| gr fun K7 hK7 => g0 (ak rfl) rfl <| g0 (fV rfl rfl) rfl <| g0 (aj rfl) rfl <| gn hK7 ?_; clear h ac wo; intro ac wo h
  refine dA h rfl (fun hc2 => ?_) (fun hc2 => ?_)
  ·
   have hd2 := eq_of_beq hc2
   refine gz h <| gr fun K8 hK8 => g0 (ak rfl) rfl <| g0 (aj rfl) rfl <| gn hK8 <| gT ?_; clear h ac wo; intro ac wo h
   have hd : aE x y = ((aT (ca (a7 y))) * (aT y.r)) := (Eq.trans (cF hc1) (cT hc2))
   exact ret h rfl (.tmp rfl .nil) rfl (h.retP (by rw [hd] <;> rfl) (by rw [hd]; exact by first | omega | exact fu (by omega) (by omega)))
  ·
   have hd2 := ne_of_beq_false hc2
   refine eL ?_
   refine qq ?_
   refine hK4 _ _ ?_
   refine dV fun K9 hK9 => ?_
   have s11 := aF ((bT (ax x.p y.p) (ax x.p y.p) (k + 15) (by omega) s1 s1) w0)
   have s12 := aF ((du (aB (ax x.p y.p) (ax x.p y.p)) x.r (k + 12) (by omega) s11 (dg zx (by omega)).2) w0)
   have s13 := aF ((dJ (aZ (aB (ax x.p y.p) (ax x.p y.p)) x.r) y.r (k + 9) (by omega) s12 (dg zy (by omega)).2) w0)
   replace h := h.emps 1
   refine cZ mixed [dw _ [2], dw _ [2], dv _, dv _, dw _ [1], dv _, dv _, dw _ [0], dv _, ⟨.nd (.one 9 fun v => ∃ b, v = ptr b 0), [5]⟩, ⟨.det undef, [5]⟩] [⟨_, []⟩, ⟨_, []⟩, ⟨_, []⟩, ⟨_, []⟩, ⟨_, []⟩, ⟨.emp, [(9, .one 9 fun v => .blk (ck v) (cQ oQ) 27), (10, .one 9 fun v => .blk (ck v) (cQ (ax (aZ (aB (ax x.p y.p) (ax x.p y.p)) x.r) y.r)) 27)]⟩] h rfl (by kernel_rfl) ⟨fun _ _ => cY _ rfl rfl (ba aa27 zz27 rfl rfl rfl (v := (vQ (ax x.p y.p))) rfl), fun _ _ => cY _ rfl rfl (ba aa27 zz27 rfl rfl rfl (v := (vQ (ax x.p y.p))) rfl), fun _ _ => d7 (dH cc21 rfl (bT (ax x.p y.p) (ax x.p y.p) (k + 15) (by omega) s1 s1)), fun _ _ => aL (fa uu71 rfl zz27 rfl rfl rfl (k' := 4)), fun _ _ => cY _ rfl rfl (ba aa27 zz27 rfl rfl rfl (v := (vQ x.r)) rfl), fun _ _ => d7 (dH cc20 rfl (du (aB (ax x.p y.p) (ax x.p y.p)) x.r (k + 12) (by omega) s11 (dg zx (by omega)).2)), fun _ _ => aL (fa uu71 rfl zz27 rfl rfl rfl (k' := 4)), fun _ _ => cY _ rfl rfl (ba aa27 zz27 rfl rfl rfl (v := (vQ y.r)) rfl), fun _ _ => d7 (dH cc22 rfl (dJ (aZ (aB (ax x.p y.p) (ax x.p y.p)) x.r) y.r (k + 9) (by omega) s12 (dg zy (by omega)).2)), fun _ _ => k7 (ψ := fun v => ∃ b, v = ptr b 0) (B := fun v => [.blk (ck v) (cQ oQ) 27]) [.emp] rfl (fun v _ => by simp only [fc, bE] <;> rfl) (fun v hv => by simpa [DF.one, bE] using hv) (iQ (fv vv27 rfl)), (fun ξ hφ => by obtain ⟨b6, hb9⟩ := hφ 9 rfl; exact gF [.blk b6 (cQ oQ) 27] [.blk b6 (cQ (ax (aZ (aB (ax x.p y.p) (ax x.p y.p)) x.r) y.r)) 27] (congrArg (fun v => [Asn.blk (ck v) (cQ oQ) 27]) hb9) (congrArg (fun v => [Asn.blk (ck v) (cQ (ax (aZ (aB (ax x.p y.p) (ax x.p y.p)) x.r) y.r)) 27]) hb9) (gW zz27 (Eq.trans rfl (congrArg some hb9)) rfl rfl rfl rfl rfl rfl)), trivial⟩ ?_
   clear h ac wo; intro ξ ac wo hφ h
   replace h : St w0 65 [(2, (ptr b1 0)), (5, (ptr b3 0)), (6, (ptr b4 0)), (8, (.int .i64 (dS (ax x.p y.p) (a7 x) x.r))), (10, ξ 9)] [.blk b2 (cR y) 71, .blk b1 (cR x) 71, .blk b3 (cQ (ax x.p y.p)) 27, .blk b4 (cQ (a7 x)) 27, .blk b5 (cQ (ca (a7 y))) 27, .blk (ck (ξ 9)) (cQ (ax (aZ (aB (ax x.p y.p) (ax x.p y.p)) x.r) y.r)) 27] ac wo := h.sub ⟨rfl, rfl, rfl, rfl, rfl, trivial⟩
   revert h
   obtain ⟨b6, hb9⟩ : ∃ b, ξ 9 = ptr b 0 := hφ 9
   rw [hb9]; intro h
   clear hb9 hφ ξ
   refine hK9 _ _ ?_
   refine dV fun K10 hK10 => ?_
   have s14 := aF ((bW 2 (k + 20) (by omega)  (by omega)) w0)
   have s15 := aF ((bT (ax x.p y.p) (a7 x) (k + 15) (by omega) s1 (ft s2 (by omega))) w0)
   have s16 := aF ((bT (ap 2) (aB (ax x.p y.p) (a7 x)) (k + 13) (by omega) (ft s14 (by omega)) s15) w0)
   have p18 := aF ((ie (ax (aZ (aB (ax x.p y.p) (ax x.p y.p)) x.r) y.r) (aB (ap 2) (aB (ax x.p y.p) (a7 x))) x.r (k + 1) (by omega) s13 (ft s16 (by omega)) (dg zx (by omega)).2) w0)
   refine cZ mixed [dv _, dw _ [5], dv _, dw _ [2], dw _ [3], dv _, dv _, dv _, dw _ [1], dv _, dv _, dv _] [⟨_, []⟩, ⟨_, []⟩, ⟨_, []⟩, ⟨_, []⟩, ⟨_, []⟩, ⟨_, []⟩] h rfl (by kernel_rfl) ⟨fun _ _ => om rfl, fun _ _ => cY _ rfl rfl (ba aa27 zz27 rfl rfl rfl (v := (vQ (ax (aZ (aB (ax x.p y.p) (ax x.p y.p)) x.r) y.r))) rfl), fun _ _ => d7 (dH cc85 rfl (bW 2 (k + 20) (by omega)  (by omega))), fun _ _ => cY _ rfl rfl (ba aa27 zz27 rfl rfl rfl (v := (vQ (ax x.p y.p))) rfl), fun _ _ => cY _ rfl rfl (ba aa27 zz27 rfl rfl rfl (v := (vQ (a7 x))) rfl), fun _ _ => d7 (dH cc21 rfl (bT (ax x.p y.p) (a7 x) (k + 15) (by omega) s1 (ft s2 (by omega)))), fun _ _ => d7 (dH cc21 rfl (bT (ap 2) (aB (ax x.p y.p) (a7 x)) (k + 13) (by omega) (ft s14 (by omega)) s15)), fun _ _ => aL (fa uu71 rfl zz27 rfl rfl rfl (k' := 4)), fun _ _ => cY _ rfl rfl (ba aa27 zz27 rfl rfl rfl (v := (vQ x.r)) rfl), fun _ _ => d7 (dH Tryz.call211 rfl (ie (ax (aZ (aB (ax x.p y.p) (ax x.p y.p)) x.r) y.r) (aB (ap 2) (aB (ax x.p y.p) (a7 x))) x.r (k + 1) (by omega) s13 (ft s16 (by omega)) (dg zx (by omega)).2)), fun _ _ => aL (lW rfl rfl (r := ((dS (ax x.p y.p) (a7 x) x.r) * (dS (ax (aZ (aB (ax x.p y.p) (ax x.p y.p)) x.r) y.r) (aB (ap 2) (aB (ax x.p y.p) (a7 x))) x.r))) (by first | (rw [wI]; omega) | exact jq (by omega) (by omega))), fun _ _ => aL (aj rfl), trivial⟩ ?_
   clear h ac wo; intro ξ ac wo hφ h
   replace h : St w0 65 [(4, (.int .i64 ((dS (ax x.p y.p) (a7 x) x.r) * (dS (ax (aZ (aB (ax x.p y.p) (ax x.p y.p)) x.r) y.r) (aB (ap 2) (aB (ax x.p y.p) (a7 x))) x.r))))] [.blk b2 (cR y) 71, .blk b1 (cR x) 71, .blk b3 (cQ (ax x.p y.p)) 27, .blk b4 (cQ (a7 x)) 27, .blk b5 (cQ (ca (a7 y))) 27, .blk b6 (cQ (ax (aZ (aB (ax x.p y.p) (ax x.p y.p)) x.r) y.r)) 27] ac wo := h.sub ⟨rfl, trivial⟩
   clear hφ ξ
   refine hK10 _ _ ?_
   refine gu ?_
   have hd : aE x y = ((dS (ax x.p y.p) (a7 x) x.r) * (dS (ax (aZ (aB (ax x.p y.p) (ax x.p y.p)) x.r) y.r) (aB (ap 2) (aB (ax x.p y.p) (a7 x))) x.r)) := (Eq.trans (cF hc1) (cF hc2))
   exact ret h rfl (.tmp rfl .nil) rfl (h.retP (by rw [hd] <;> rfl) (by rw [hd]; exact by first | omega | exact fu (by omega) (by omega)))
def bM (n : Int) : GR :=
 (⟨(ap n), (⟨(⟨false, 0⟩ : GI), (⟨false, 0⟩ : GI)⟩ : GQ), false⟩ : GR)
theorem mS (n : Int) (k : Nat) (hk : k ≤ 40) (hn : -9223372036854775808 ≤ n ∧ n ≤ 9223372036854775807) (w0 : World) : Calls Tryz.prog 86 #[(.int .i64 n)] w0 (RetP w0 (vR (bM n)) (SzR k (bM n))) := by
 refine enter (N := 6) (args := [(.int .i64 n)]) Tryz.func86 rfl rfl ?_; intro ac h
 have c1 := bW n k (by omega)  (by omega)
 have s1 := aF (c1 w0)
 refine ej fun K1 hK1 => ?_
 refine al h (cR (⟨oQ, oQ, false⟩ : GR)) vv71 rfl rfl fun b1 => gn hK1 <| gr fun K2 hK2 => g0 (ak rfl) rfl <| gl cc85 rfl c1 rfl <| g0 (cg bld71 rfl rfl (v := (vR (⟨(ap n), oQ, false⟩ : GR))) rfl) rfl <| gs 0 (cR (⟨(ap n), oQ, false⟩ : GR)) rfl zz71 rfl rfl rfl rfl rfl rfl rfl <| gn hK2 <| gT ?_; clear h ac; intro ac wo h
 exact ret h rfl (.cell (v := (vR (⟨(ap n), oQ, false⟩ : GR))) rfl (i := 0) rfl aa71 zz71 rfl rfl rfl .nil) rfl (h.retP (by unfold bM; rfl) (by unfold bM; exact ⟨s1, ⟨(bY 0 (by decide) (by omega)), (bY 0 (by decide) (by omega))⟩⟩))
def dm (r : GQ) : GR :=
 (⟨r, (⟨(⟨false, 0⟩ : GI), (⟨false, 0⟩ : GI)⟩ : GQ), false⟩ : GR)
theorem kx (r : GQ) (k : Nat) (hk : k ≤ 40) (zr : SzQ k r) (w0 : World) : Calls Tryz.prog 88 #[(vQ r)] w0 (RetP w0 (vR (dm r)) (SzR k (dm r))) := by
 refine enter (N := 5) (args := [(vQ r)]) Tryz.func88 rfl rfl ?_; intro ac h
 refine ej fun K1 hK1 => ?_
 refine bx h (cQ r) rfl rfl rfl fun b1 => ga (cR (⟨oQ, oQ, false⟩ : GR)) vv71 rfl rfl fun b2 => gn hK1 <| gr fun K2 hK2 => g1 1 rfl (ba aa27 zz27 rfl rfl rfl (v := (vQ r)) rfl) rfl <| g0 (cg bld71 rfl rfl (v := (vR (⟨r, oQ, false⟩ : GR))) rfl) rfl <| gs 0 (cR (⟨r, oQ, false⟩ : GR)) rfl zz71 rfl rfl rfl rfl rfl rfl rfl <| gn hK2 <| gT ?_; clear h ac; intro ac wo h
 exact ret h rfl (.cell (v := (vR (⟨r, oQ, false⟩ : GR))) rfl (i := 0) rfl aa71 zz71 rfl rfl rfl .nil) rfl (h.retP (by unfold dm; rfl) (by unfold dm; exact ⟨zr, ⟨(bY 0 (by decide) (by omega)), (bY 0 (by decide) (by omega))⟩⟩))
def bm (c0 : GQ) (c1 : GQ) : Qd :=
 (⟨c0, c1, (⟨(⟨false, 0⟩ : GI), (⟨false, 0⟩ : GI)⟩ : GQ)⟩ : Qd)
theorem fW (c0 : GQ) (c1 : GQ) (k : Nat) (hk : k ≤ 40) (zc0 : SzQ k c0) (zc1 : SzQ k c1) (w0 : World) : Calls Tryz.prog 107 #[(vQ c0), (vQ c1)] w0 (RetP w0 (vD (bm c0 c1)) (SzD k (bm c0 c1))) := by
 refine enter (N := 8) (args := [(vQ c0), (vQ c1)]) Tryz.func107 rfl rfl ?_; intro ac h
 refine ej fun K1 hK1 => ?_
 refine bx h (cQ c0) rfl rfl rfl fun b1 => gb (cQ c1) rfl rfl rfl fun b2 => ga (cD oD) vv53 rfl rfl fun b3 => gn hK1 <| gr fun K2 hK2 => g1 2 rfl (ba aa27 zz27 rfl rfl rfl (v := (vQ c0)) rfl) rfl <| g1 1 rfl (ba aa27 zz27 rfl rfl rfl (v := (vQ c1)) rfl) rfl <| g0 (cg um rfl rfl (v := (vD (⟨c0, c1, oQ⟩ : Qd))) rfl) rfl <| gs 0 (cD (⟨c0, c1, oQ⟩ : Qd)) rfl zz53 rfl rfl rfl rfl rfl rfl rfl <| gn hK2 <| gT ?_; clear h ac; intro ac wo h
 exact ret h rfl (.cell (v := (vD (⟨c0, c1, oQ⟩ : Qd))) rfl (i := 0) rfl aa53 zz53 rfl rfl rfl .nil) rfl (h.retP (by unfold bm; rfl) (by unfold bm; exact ⟨zc0, zc1, ⟨(bY 0 (by decide) (by omega)), (bY 0 (by decide) (by omega))⟩⟩))
def d3 (q : Qd) (t : GQ) : GQ :=
 (aZ q.c0 (aB t (aZ q.c1 (aB t q.c2))))
theorem lX (q : Qd) (t : GQ) (k : Nat) (hk : (k + 10) ≤ 40) (zq : SzD (k + 10) q) (zt : SzQ (k + 10) t) (w0 : World) : Calls Tryz.prog 101 #[(vD q), (vQ t)] w0 (RetP w0 (vQ (d3 q t)) (SzQ k (d3 q t))) := by
 refine enter (N := 17) (args := [(vD q), (vQ t)]) Tryz.func101 rfl rfl ?_; intro ac h
 have s1 := aF ((bT t q.c2 (k + 8) (by omega) zt zq.2.2) w0)
 have s2 := aF ((du q.c1 (aB t q.c2) (k + 5) (by omega) (d6 zq (by omega)).2.1 s1) w0)
 have s3 := aF ((bT t (aZ q.c1 (aB t q.c2)) (k + 3) (by omega) (ft zt (by omega)) s2) w0)
 have s4 := aF ((du q.c0 (aB t (aZ q.c1 (aB t q.c2))) k (by omega) (d6 zq (by omega)).1 s3) w0)
 refine ej fun K1 hK1 => ?_
 refine bx h (cD q) rfl rfl rfl fun b1 => gb (cQ t) rfl rfl rfl fun b2 => ga (cQ oQ) vv27 rfl rfl fun b3 => gn hK1 <| gq fun K2 hK2 => ?_; clear h ac; intro ac wo h
 refine cZ mixed [dv _, dw _ [2], dw _ [1], dv _, dw _ [2], dw _ [1], dv _, dw _ [2], dv _, dv _, dv _, dv _, dw _ [0]] [⟨.blk b3 (cQ oQ) 27, [(12, .con _)]⟩, ⟨_, []⟩, ⟨_, []⟩] h rfl (by kernel_rfl) ⟨fun _ _ => aL (fa uu53 rfl zz27 rfl rfl rfl (k' := 0)), fun _ _ => cY _ rfl rfl (ba aa27 zz27 rfl rfl rfl (v := (vQ q.c0)) rfl), fun _ _ => cY _ rfl rfl (ba aa27 zz27 rfl rfl rfl (v := (vQ t)) rfl), fun _ _ => aL (fa uu53 rfl zz27 rfl rfl rfl (k' := 4)), fun _ _ => cY _ rfl rfl (ba aa27 zz27 rfl rfl rfl (v := (vQ q.c1)) rfl), fun _ _ => cY _ rfl rfl (ba aa27 zz27 rfl rfl rfl (v := (vQ t)) rfl), fun _ _ => aL (fa uu53 rfl zz27 rfl rfl rfl (k' := 8)), fun _ _ => cY _ rfl rfl (ba aa27 zz27 rfl rfl rfl (v := (vQ q.c2)) rfl), fun _ _ => d7 (dH cc21 rfl (bT t q.c2 (k + 8) (by omega) zt zq.2.2)), fun _ _ => d7 (dH cc20 rfl (du q.c1 (aB t q.c2) (k + 5) (by omega) (d6 zq (by omega)).2.1 s1)), fun _ _ => d7 (dH cc21 rfl (bT t (aZ q.c1 (aB t q.c2)) (k + 3) (by omega) (ft zt (by omega)) s2)), fun _ _ => d7 (dH cc20 rfl (du q.c0 (aB t (aZ q.c1 (aB t q.c2))) k (by omega) (d6 zq (by omega)).1 s3)), fun _ _ => gF _ [.blk b3 (cQ (aZ q.c0 (aB t (aZ q.c1 (aB t q.c2))))) 27] rfl rfl (gW zz27 rfl rfl rfl rfl rfl rfl rfl), trivial⟩ ?_
 clear h ac wo; intro ξ ac wo hφ h
 replace h : St w0 17 [(4, (ptr b3 0))] [.blk b3 (cQ (aZ q.c0 (aB t (aZ q.c1 (aB t q.c2))))) 27, .blk b2 (cQ t) 27, .blk b1 (cD q) 53] ac wo := h.sub ⟨rfl, trivial⟩
 clear hφ ξ
 refine hK2 _ _ ?_
 refine gu ?_
 exact ret h rfl (.cell (v := (vQ (aZ q.c0 (aB t (aZ q.c1 (aB t q.c2)))))) rfl (i := 0) rfl aa27 zz27 rfl rfl rfl .nil) rfl (h.retP (by unfold d3; rfl) (by unfold d3; exact s4))
def dx (q : Qd) (t : GQ) : GQ :=
 (aZ q.c1 (aB (aZ q.c2 q.c2) t))
theorem js (q : Qd) (t : GQ) (k : Nat) (hk : (k + 8) ≤ 40) (zq : SzD (k + 8) q) (zt : SzQ (k + 8) t) (w0 : World) : Calls Tryz.prog 213 #[(vD q), (vQ t)] w0 (RetP w0 (vQ (dx q t)) (SzQ k (dx q t))) := by
 refine enter (N := 15) (args := [(vD q), (vQ t)]) Tryz.func213 rfl rfl ?_; intro ac h
 have s1 := aF ((du q.c2 q.c2 (k + 5) (by omega) zq.2.2 zq.2.2) w0)
 have s2 := aF ((bT (aZ q.c2 q.c2) t (k + 3) (by omega) s1 (ft zt (by omega))) w0)
 have s3 := aF ((du q.c1 (aB (aZ q.c2 q.c2) t) k (by omega) (d6 zq (by omega)).2.1 s2) w0)
 refine ej fun K1 hK1 => ?_
 refine bx h (cD q) rfl rfl rfl fun b1 => gb (cQ t) rfl rfl rfl fun b2 => ga (cQ oQ) vv27 rfl rfl fun b3 => gn hK1 <| gq fun K2 hK2 => ?_; clear h ac; intro ac wo h
 refine cZ mixed [dv _, dw _ [2], dv _, dw _ [2], dv _, dw _ [2], dv _, dw _ [1], dv _, dv _, dw _ [0]] [⟨.blk b3 (cQ oQ) 27, [(10, .con _)]⟩, ⟨_, []⟩, ⟨_, []⟩] h rfl (by kernel_rfl) ⟨fun _ _ => aL (fa uu53 rfl zz27 rfl rfl rfl (k' := 4)), fun _ _ => cY _ rfl rfl (ba aa27 zz27 rfl rfl rfl (v := (vQ q.c1)) rfl), fun _ _ => aL (fa uu53 rfl zz27 rfl rfl rfl (k' := 8)), fun _ _ => cY _ rfl rfl (ba aa27 zz27 rfl rfl rfl (v := (vQ q.c2)) rfl), fun _ _ => aL (fa uu53 rfl zz27 rfl rfl rfl (k' := 8)), fun _ _ => cY _ rfl rfl (ba aa27 zz27 rfl rfl rfl (v := (vQ q.c2)) rfl), fun _ _ => d7 (dH cc20 rfl (du q.c2 q.c2 (k + 5) (by omega) zq.2.2 zq.2.2)), fun _ _ => cY _ rfl rfl (ba aa27 zz27 rfl rfl rfl (v := (vQ t)) rfl), fun _ _ => d7 (dH cc21 rfl (bT (aZ q.c2 q.c2) t (k + 3) (by omega) s1 (ft zt (by omega)))), fun _ _ => d7 (dH cc20 rfl (du q.c1 (aB (aZ q.c2 q.c2) t) k (by omega) (d6 zq (by omega)).2.1 s2)), fun _ _ => gF _ [.blk b3 (cQ (aZ q.c1 (aB (aZ q.c2 q.c2) t))) 27] rfl rfl (gW zz27 rfl rfl rfl rfl rfl rfl rfl), trivial⟩ ?_
 clear h ac wo; intro ξ ac wo hφ h
 replace h : St w0 15 [(4, (ptr b3 0))] [.blk b3 (cQ (aZ q.c1 (aB (aZ q.c2 q.c2) t))) 27, .blk b2 (cQ t) 27, .blk b1 (cD q) 53] ac wo := h.sub ⟨rfl, trivial⟩
 clear hφ ξ
 refine hK2 _ _ ?_
 refine gu ?_
 exact ret h rfl (.cell (v := (vQ (aZ q.c1 (aB (aZ q.c2 q.c2) t)))) rfl (i := 0) rfl aa27 zz27 rfl rfl rfl .nil) rfl (h.retP (by unfold dx; rfl) (by unfold dx; exact s3))
def dT (p : Qd) (q : Qd) : Qd :=
 (⟨(ax p.c0 q.c0), (ax p.c1 q.c1), (ax p.c2 q.c2)⟩ : Qd)
theorem kf (p : Qd) (q : Qd) (k : Nat) (hk : (k + 3) ≤ 40) (zp : SzD (k + 3) p) (zq : SzD (k + 3) q) (w0 : World) : Calls Tryz.prog 131 #[(vD p), (vD q)] w0 (RetP w0 (vD (dT p q)) (SzD k (dT p q))) := by
 refine enter (N := 21) (args := [(vD p), (vD q)]) Tryz.func131 rfl rfl ?_; intro ac h
 have s1 := aF ((dJ p.c0 q.c0 k (by omega) zp.1 zq.1) w0)
 have s2 := aF ((dJ p.c1 q.c1 k (by omega) zp.2.1 zq.2.1) w0)
 have s3 := aF ((dJ p.c2 q.c2 k (by omega) zp.2.2 zq.2.2) w0)
 refine ej fun K1 hK1 => ?_
 refine bx h (cD p) rfl rfl rfl fun b1 => gb (cD q) rfl rfl rfl fun b2 => ga (cD oD) vv53 rfl rfl fun b3 => gn hK1 <| gq fun K2 hK2 => ?_; clear h ac; intro ac wo h
 refine cZ mixed [dv _, dw _ [2], dv _, dw _ [1], dv _, dv _, dw _ [2], dv _, dw _ [1], dv _, dv _, dw _ [2], dv _, dw _ [1], dv _, dv _, dw _ [0]] [⟨.blk b3 (cD oD) 53, [(16, .con _)]⟩, ⟨_, []⟩, ⟨_, []⟩] h rfl (by kernel_rfl) ⟨fun _ _ => aL (fa uu53 rfl zz27 rfl rfl rfl (k' := 0)), fun _ _ => cY _ rfl rfl (ba aa27 zz27 rfl rfl rfl (v := (vQ p.c0)) rfl), fun _ _ => aL (fa uu53 rfl zz27 rfl rfl rfl (k' := 0)), fun _ _ => cY _ rfl rfl (ba aa27 zz27 rfl rfl rfl (v := (vQ q.c0)) rfl), fun _ _ => d7 (dH cc22 rfl (dJ p.c0 q.c0 k (by omega) zp.1 zq.1)), fun _ _ => aL (fa uu53 rfl zz27 rfl rfl rfl (k' := 4)), fun _ _ => cY _ rfl rfl (ba aa27 zz27 rfl rfl rfl (v := (vQ p.c1)) rfl), fun _ _ => aL (fa uu53 rfl zz27 rfl rfl rfl (k' := 4)), fun _ _ => cY _ rfl rfl (ba aa27 zz27 rfl rfl rfl (v := (vQ q.c1)) rfl), fun _ _ => d7 (dH cc22 rfl (dJ p.c1 q.c1 k (by omega) zp.2.1 zq.2.1)), fun _ _ => aL (fa uu53 rfl zz27 rfl rfl rfl (k' := 8)), fun _ _ => cY _ rfl rfl (ba aa27 zz27 rfl rfl rfl (v := (vQ p.c2)) rfl), fun _ _ => aL (fa uu53 rfl zz27 rfl rfl rfl (k' := 8)), fun _ _ => cY _ rfl rfl (ba aa27 zz27 rfl rfl rfl (v := (vQ q.c2)) rfl), fun _ _ => d7 (dH cc22 rfl (dJ p.c2 q.c2 k (by omega) zp.2.2 zq.2.2)), fun _ _ => aL (cg um rfl rfl (v := (vD (⟨(ax p.c0 q.c0), (ax p.c1 q.c1), (ax p.c2 q.c2)⟩ : Qd))) rfl), fun _ _ => gF _ [.blk b3 (cD (⟨(ax p.c0 q.c0), (ax p.c1 q.c1), (ax p.c2 q.c2)⟩ : Qd)) 53] rfl rfl (gW zz53 rfl rfl rfl rfl rfl rfl rfl), trivial⟩ ?_
 clear h ac wo; intro ξ ac wo hφ h
 replace h : St w0 21 [(4, (ptr b3 0))] [.blk b3 (cD (⟨(ax p.c0 q.c0), (ax p.c1 q.c1), (ax p.c2 q.c2)⟩ : Qd)) 53, .blk b2 (cD q) 53, .blk b1 (cD p) 53] ac wo := h.sub ⟨rfl, trivial⟩
 clear hφ ξ
 refine hK2 _ _ ?_
 refine gu ?_
 exact ret h rfl (.cell (v := (vD (⟨(ax p.c0 q.c0), (ax p.c1 q.c1), (ax p.c2 q.c2)⟩ : Qd))) rfl (i := 0) rfl aa53 zz53 rfl rfl rfl .nil) rfl (h.retP (by unfold dT; rfl) (by unfold dT; exact ⟨s1, s2, s3⟩))
def dr (x : GR) : GQ × Bool :=
 bif (!(decide (x.r = (⟨(⟨false, 0⟩ : GI), (⟨false, 0⟩ : GI)⟩ : GQ)))) then
  ((⟨(⟨false, 0⟩ : GI), (⟨false, 0⟩ : GI)⟩ : GQ), false)
 else
  (x.p, true)
theorem mu (x : GR) (k : Nat) (hk : k ≤ 40) (zx : SzR k x) (w0 : World) : Calls Tryz.prog 212 #[(vR x)] w0 (RetP w0 (.tuple #[(vQ ((dr x).1)), (.bool ((dr x).2))]) (SzQ k ((dr x).1))) := by
 refine enter (N := 11) (args := [(vR x)]) Tryz.func212 rfl rfl ?_; intro ac h
 refine ej fun K1 hK1 => ?_
 refine bx h (cR x) rfl rfl rfl fun b1 => ga (cQ oQ) vv27 rfl rfl fun b2 => g0 (aj rfl) rfl <| gn hK1 <| gq fun K2 hK2 => gr fun K3 hK3 => g0 (fa uu71 rfl zz27 rfl rfl rfl (k' := 4)) rfl <| g1 1 rfl (ba aa27 zz27 rfl rfl rfl (v := (vQ x.r)) rfl) rfl <| g0 (cg nz rfl rfl (v := (vQ oQ)) rfl) rfl <| g0 (nW eqp27 rfl rfl) rfl <| gn hK3 ?_; clear h ac; intro ac wo h
 refine dA h rfl (fun hc1 => ?_) (fun hc1 => ?_)
 ·
  refine gz h <| gr fun K4 hK4 => g0 (cg nz rfl rfl (v := (vQ oQ)) rfl) rfl <| gs 0 (cQ oQ) rfl zz27 rfl rfl rfl rfl rfl rfl rfl <| g0 (aj rfl) rfl <| gn hK4 <| gT ?_; clear h ac wo; intro ac wo h
  have hd : dr x = (oQ, false) := (cT hc1)
  exact ret h rfl (.cell (v := (vQ oQ)) rfl (i := 0) rfl aa27 zz27 rfl rfl rfl (.tmp rfl .nil)) rfl (h.retP (by rw [hd] <;> rfl) (by rw [hd]; exact ⟨(bY 0 (by decide) (by omega)), (bY 0 (by decide) (by omega))⟩))
 ·
  refine gz h <| gS <| gx hK2 <| gr fun K5 hK5 => g0 (fa uu71 rfl zz27 rfl rfl rfl (k' := 0)) rfl <| g1 1 rfl (ba aa27 zz27 rfl rfl rfl (v := (vQ x.p)) rfl) rfl <| gs 0 (cQ x.p) rfl zz27 rfl rfl rfl rfl rfl rfl rfl <| g0 (aj rfl) rfl <| gn hK5 <| gT ?_; clear h ac wo; intro ac wo h
  have hd : dr x = (x.p, true) := (cF hc1)
  exact ret h rfl (.cell (v := (vQ x.p)) rfl (i := 0) rfl aa27 zz27 rfl rfl rfl (.tmp rfl .nil)) rfl (h.retP (by rw [hd] <;> rfl) (by rw [hd]; exact zx.1))
def cj (q : Qd) (t : GR) : Qd :=
 bif (dr t).2 then
  (aJ (d3 q ((dr t).1)))
 else
  (bm (aZ q.c0 (aB q.c2 (ax t.r (aB t.p t.p)))) (dx q t.p))
theorem g9 (q : Qd) (t : GR) (k : Nat) (hk : (k + 10) ≤ 40) (zq : SzD (k + 10) q) (zt : SzR (k + 10) t) (w0 : World) : Calls Tryz.prog 130 #[(vD q), (vR t)] w0 (RetP w0 (vD (cj q t)) (SzD k (cj q t))) := by
 refine enter (N := 38) (args := [(vD q), (vR t)]) Tryz.func130 rfl rfl ?_; intro ac h
 have c1 := mu t (k + 10) (by omega) zt
 have s1 := aF (c1 w0)
 refine ej fun K1 hK1 => ?_
 refine bx h (cD q) rfl rfl rfl fun b1 => gb (cR t) rfl rfl rfl fun b2 => ga (cD oD) vv53 rfl rfl fun b3 => gn hK1 <| gq fun K2 hK2 => gr fun K3 hK3 => g1 1 rfl (ba aa71 zz71 rfl rfl rfl (v := (vR t)) rfl) rfl <| gl Tryz.call212 rfl c1 rfl <| g0 (ak rfl) rfl <| g0 (bf rfl rfl) rfl <| g0 (bf rfl rfl) rfl <| ga (cQ oQ) vv27 rfl rfl fun b4 => gs 0 (cQ ((dr t).1)) rfl zz27 rfl rfl rfl rfl rfl rfl rfl <| g0 (aj rfl) rfl <| gn hK3 <| gr fun K4 hK4 => g0 (ak rfl) rfl <| gn hK4 ?_; clear h ac; intro ac wo h
 refine dA h rfl (fun hc1 => ?_) (fun hc1 => ?_)
 ·
  have c2 := lX q ((dr t).1) k (by omega) zq s1
  have s2 := aF (c2 w0)
  have c3 := gA (d3 q ((dr t).1)) k (by omega) s2
  have s3 := aF (c3 w0)
  refine gz h <| gr fun K5 hK5 => g1 3 rfl (ba aa53 zz53 rfl rfl rfl (v := (vD q)) rfl) rfl <| g1 0 rfl (ba aa27 zz27 rfl rfl rfl (v := (vQ ((dr t).1))) rfl) rfl <| gl Tryz.call101 rfl c2 rfl <| gl Tryz.call113 rfl c3 rfl <| gs 1 (cD (aJ (d3 q ((dr t).1)))) rfl zz53 rfl rfl rfl rfl rfl rfl rfl <| gn hK5 <| gT ?_; clear h ac wo; intro ac wo h
  have hd : cj q t = (aJ (d3 q ((dr t).1))) := (cT hc1)
  exact ret h rfl (.cell (v := (vD (aJ (d3 q ((dr t).1))))) rfl (i := 1) rfl aa53 zz53 rfl rfl rfl .nil) rfl (h.retP (by rw [hd] <;> rfl) (by rw [hd]; exact s3))
 ·
  refine eL ?_
  refine hK2 _ _ ?_
  refine dV fun K6 hK6 => ?_
  have s4 := aF ((bT t.p t.p (k + 8) (by omega) zt.1 zt.1) w0)
  have s5 := aF ((dJ t.r (aB t.p t.p) (k + 5) (by omega) (dg zt (by omega)).2 s4) w0)
  replace h := h.emps 1
  refine cZ mixed [dv _, dw _ [2], dv _, dw _ [2], dv _, dw _ [2], dv _, dv _, ⟨.nd (.one 8 fun v => ∃ b, v = ptr b 0), [4]⟩, ⟨.det undef, [4]⟩] [⟨_, []⟩, ⟨_, []⟩, ⟨_, []⟩, ⟨_, []⟩, ⟨.emp, [(8, .one 8 fun v => .blk (ck v) (cQ oQ) 27), (9, .one 8 fun v => .blk (ck v) (cQ (ax t.r (aB t.p t.p))) 27)]⟩] h rfl (by kernel_rfl) ⟨fun _ _ => aL (fa uu71 rfl zz27 rfl rfl rfl (k' := 4)), fun _ _ => cY _ rfl rfl (ba aa27 zz27 rfl rfl rfl (v := (vQ t.r)) rfl), fun _ _ => aL (fa uu71 rfl zz27 rfl rfl rfl (k' := 0)), fun _ _ => cY _ rfl rfl (ba aa27 zz27 rfl rfl rfl (v := (vQ t.p)) rfl), fun _ _ => aL (fa uu71 rfl zz27 rfl rfl rfl (k' := 0)), fun _ _ => cY _ rfl rfl (ba aa27 zz27 rfl rfl rfl (v := (vQ t.p)) rfl), fun _ _ => d7 (dH cc21 rfl (bT t.p t.p (k + 8) (by omega) zt.1 zt.1)), fun _ _ => d7 (dH cc22 rfl (dJ t.r (aB t.p t.p) (k + 5) (by omega) (dg zt (by omega)).2 s4)), fun _ _ => k7 (ψ := fun v => ∃ b, v = ptr b 0) (B := fun v => [.blk (ck v) (cQ oQ) 27]) [.emp] rfl (fun v _ => by simp only [fc, bE] <;> rfl) (fun v hv => by simpa [DF.one, bE] using hv) (iQ (fv vv27 rfl)), (fun ξ hφ => by obtain ⟨b5, hb8⟩ := hφ 8 rfl; exact gF [.blk b5 (cQ oQ) 27] [.blk b5 (cQ (ax t.r (aB t.p t.p))) 27] (congrArg (fun v => [Asn.blk (ck v) (cQ oQ) 27]) hb8) (congrArg (fun v => [Asn.blk (ck v) (cQ (ax t.r (aB t.p t.p))) 27]) hb8) (gW zz27 (Eq.trans rfl (congrArg some hb8)) rfl rfl rfl rfl rfl rfl)), trivial⟩ ?_
  clear h ac wo; intro ξ ac wo hφ h
  replace h : St w0 38 [(2, (ptr b1 0)), (3, (ptr b2 0)), (4, (ptr b3 0)), (7, ξ 8)] [.blk b4 (cQ ((dr t).1)) 27, .blk b3 (cD oD) 53, .blk b2 (cR t) 71, .blk b1 (cD q) 53, .blk (ck (ξ 8)) (cQ (ax t.r (aB t.p t.p))) 27] ac wo := h.sub ⟨rfl, rfl, rfl, rfl, trivial⟩
  revert h
  obtain ⟨b5, hb8⟩ : ∃ b, ξ 8 = ptr b 0 := hφ 8
  rw [hb8]; intro h
  clear hb8 hφ ξ
  refine hK6 _ _ ?_
  refine dV fun K7 hK7 => ?_
  have s6 := aF ((bT q.c2 (ax t.r (aB t.p t.p)) (k + 3) (by omega) (d6 zq (by omega)).2.2 s5) w0)
  have s7 := aF ((du q.c0 (aB q.c2 (ax t.r (aB t.p t.p))) k (by omega) (d6 zq (by omega)).1 s6) w0)
  have s8 := aF ((js q t.p (k + 2) (by omega) zq zt.1) w0)
  have s9 := aF ((fW (aZ q.c0 (aB q.c2 (ax t.r (aB t.p t.p)))) (dx q t.p) k (by omega) s7 (ft s8 (by omega))) w0)
  refine cZ mixed [dv _, dw _ [3], dv _, dw _ [3], dw _ [4], dv _, dv _, dw _ [3], dv _, dw _ [2], dv _, dv _, dw _ [1]] [⟨_, []⟩, ⟨.blk b3 (cD oD) 53, [(12, .con _)]⟩, ⟨_, []⟩, ⟨_, []⟩, ⟨_, []⟩] h rfl (by kernel_rfl) ⟨fun _ _ => aL (fa uu53 rfl zz27 rfl rfl rfl (k' := 0)), fun _ _ => cY _ rfl rfl (ba aa27 zz27 rfl rfl rfl (v := (vQ q.c0)) rfl), fun _ _ => aL (fa uu53 rfl zz27 rfl rfl rfl (k' := 8)), fun _ _ => cY _ rfl rfl (ba aa27 zz27 rfl rfl rfl (v := (vQ q.c2)) rfl), fun _ _ => cY _ rfl rfl (ba aa27 zz27 rfl rfl rfl (v := (vQ (ax t.r (aB t.p t.p)))) rfl), fun _ _ => d7 (dH cc21 rfl (bT q.c2 (ax t.r (aB t.p t.p)) (k + 3) (by omega) (d6 zq (by omega)).2.2 s5)), fun _ _ => d7 (dH cc20 rfl (du q.c0 (aB q.c2 (ax t.r (aB t.p t.p))) k (by omega) (d6 zq (by omega)).1 s6)), fun _ _ => cY _ rfl rfl (ba aa53 zz53 rfl rfl rfl (v := (vD q)) rfl), fun _ _ => aL (fa uu71 rfl zz27 rfl rfl rfl (k' := 0)), fun _ _ => cY _ rfl rfl (ba aa27 zz27 rfl rfl rfl (v := (vQ t.p)) rfl), fun _ _ => d7 (dH Tryz.call213 rfl (js q t.p (k + 2) (by omega) zq zt.1)), fun _ _ => d7 (dH Tryz.call107 rfl (fW (aZ q.c0 (aB q.c2 (ax t.r (aB t.p t.p)))) (dx q t.p) k (by omega) s7 (ft s8 (by omega)))), fun _ _ => gF _ [.blk b3 (cD (bm (aZ q.c0 (aB q.c2 (ax t.r (aB t.p t.p)))) (dx q t.p))) 53] rfl rfl (gW zz53 rfl rfl rfl rfl rfl rfl rfl), trivial⟩ ?_
  clear h ac wo; intro ξ ac wo hφ h
  replace h : St w0 38 [(4, (ptr b3 0))] [.blk b4 (cQ ((dr t).1)) 27, .blk b3 (cD (bm (aZ q.c0 (aB q.c2 (ax t.r (aB t.p t.p)))) (dx q t.p))) 53, .blk b2 (cR t) 71, .blk b1 (cD q) 53, .blk b5 (cQ (ax t.r (aB t.p t.p))) 27] ac wo := h.sub ⟨rfl, trivial⟩
  clear hφ ξ
  refine hK7 _ _ ?_
  refine gu ?_
  have hd : cj q t = (bm (aZ q.c0 (aB q.c2 (ax t.r (aB t.p t.p)))) (dx q t.p)) := (cF hc1)
  exact ret h rfl (.cell (v := (vD (bm (aZ q.c0 (aB q.c2 (ax t.r (aB t.p t.p)))) (dx q t.p)))) rfl (i := 1) rfl aa53 zz53 rfl rfl rfl .nil) rfl (h.retP (by rw [hd] <;> rfl) (by rw [hd]; exact s9))
def eD (p : Qd) (q : Qd) (t : GR) : Bool :=
 (decide ((cj (dT p q) t) = (⟨(⟨(⟨false, 0⟩ : GI), (⟨false, 0⟩ : GI)⟩ : GQ), (⟨(⟨false, 0⟩ : GI), (⟨false, 0⟩ : GI)⟩ : GQ), (⟨(⟨false, 0⟩ : GI), (⟨false, 0⟩ : GI)⟩ : GQ)⟩ : Qd)))
theorem jM (p : Qd) (q : Qd) (t : GR) (k : Nat) (hk : (k + 14) ≤ 40) (zp : SzD (k + 14) p) (zq : SzD (k + 14) q) (zt : SzR (k + 14) t) (w0 : World) : Calls Tryz.prog 39 #[(vD p), (vD q), (vR t)] w0 (RetP w0 (.bool (eD p q t)) (True)) := by
 refine enter (N := 14) (args := [(vD p), (vD q), (vR t)]) Tryz.func39 rfl rfl ?_; intro ac h
 have s1 := aF ((kf p q (k + 11) (by omega) zp zq) w0)
 have s2 := aF ((g9 (dT p q) t (k + 1) (by omega) s1 (dg zt (by omega))) w0)
 refine ej fun K1 hK1 => ?_
 refine bx h (cD p) rfl rfl rfl fun b1 => gb (cD q) rfl rfl rfl fun b2 => gb (cR t) rfl rfl rfl fun b3 => g0 (aj rfl) rfl <| gn hK1 <| gq fun K2 hK2 => ?_; clear h ac; intro ac wo h
 refine cZ mixed [dw _ [2], dw _ [1], dv _, dw _ [0], dv _, dv _, dv _, dv _] [⟨_, []⟩, ⟨_, []⟩, ⟨_, []⟩] h rfl (by kernel_rfl) ⟨fun _ _ => cY _ rfl rfl (ba aa53 zz53 rfl rfl rfl (v := (vD p)) rfl), fun _ _ => cY _ rfl rfl (ba aa53 zz53 rfl rfl rfl (v := (vD q)) rfl), fun _ _ => d7 (dH Tryz.call131 rfl (kf p q (k + 11) (by omega) zp zq)), fun _ _ => cY _ rfl rfl (ba aa71 zz71 rfl rfl rfl (v := (vR t)) rfl), fun _ _ => d7 (dH Tryz.call130 rfl (g9 (dT p q) t (k + 1) (by omega) s1 (dg zt (by omega)))), fun _ _ => aL (cg um rfl rfl (v := (vD oD)) rfl), fun _ _ => aL (il tK rfl rfl), fun _ _ => aL (aj rfl), trivial⟩ ?_
 clear h ac wo; intro ξ ac wo hφ h
 replace h : St w0 14 [(6, (.bool (decide ((cj (dT p q) t) = oD))))] [.blk b3 (cR t) 71, .blk b2 (cD q) 53, .blk b1 (cD p) 53] ac wo := h.sub ⟨rfl, trivial⟩
 clear hφ ξ
 refine hK2 _ _ ?_
 refine gu ?_
 exact ret h rfl (.tmp rfl .nil) rfl (h.retP (by unfold eD; rfl) trivial)
def e9 (a : Iv) (b : Iv) : Bool :=
 ((decide ((aE a.hi b.lo) < 0)) || (((aE a.hi b.lo) == 0) && (a.openHi || b.openLo)))
theorem mW (a : Iv) (b : Iv) (k : Nat) (hk : (k + 20) ≤ 40) (za : SzV (k + 20) a) (zb : SzV (k + 20) b) (w0 : World) : Calls Tryz.prog 118 #[(vV a), (vV b)] w0 (RetP w0 (.bool (e9 a b)) (True)) := by
 refine enter (N := 25) (args := [(vV a), (vV b)]) Tryz.func118 rfl rfl ?_; intro ac h
 have p2 := aF ((bQ a.hi b.lo k (by omega) za.2 zb.1) w0)
 refine ej fun K1 hK1 => ?_
 refine bx h (cV a) rfl rfl rfl fun b1 => gb (cV b) rfl rfl rfl fun b2 => g0 (aj rfl) rfl <| gn hK1 <| gr fun K2 hK2 => g0 (fa uu86 rfl zz71 rfl rfl rfl (k' := 9)) rfl <| g1 1 rfl (ba aa71 zz71 rfl rfl rfl (v := (vR a.hi)) rfl) rfl <| g0 (fa uu86 rfl zz71 rfl rfl rfl (k' := 0)) rfl <| g1 0 rfl (ba aa71 zz71 rfl rfl rfl (v := (vR b.lo)) rfl) rfl <| gl Tryz.call127 rfl (bQ a.hi b.lo k (by omega) za.2 zb.1) rfl <| g0 (aj rfl) rfl <| gn hK2 <| gr fun K3 hK3 => g0 (ak rfl) rfl <| g0 (d5 rfl rfl) rfl <| g0 (ak rfl) rfl <| ge2 rfl rfl (fun hg => (Rd.of_nil (ak rfl)).step) rfl <| ge2 rfl rfl (fun hg => (Rd.of_nil (fV (aN rfl hg) rfl)).step) rfl <| ge2 rfl rfl (fun hg => (Rd.of_nil (ak (aN rfl hg))).step) rfl <| ge3 rfl rfl (fun hg => (Rd.of_nil (fa uu86 rfl zz4 rfl rfl rfl (k' := 19))).step) rfl <| ge3 rfl rfl (fun hg => (Rd.of_mem (i := 1) (ba aa4 zz4 (aN rfl hg) rfl rfl (v := (.bool a.openHi)) rfl) rfl).step) rfl <| ge3 rfl rfl (fun hg => (Rd.of_nil (ak (aN rfl hg))).step) rfl <| ge4 rfl rfl (fun hg => (Rd.of_nil (fa uu86 rfl zz4 rfl rfl rfl (k' := 18))).step) rfl <| ge4 rfl rfl (fun hg => (Rd.of_mem (i := 0) (ba aa4 zz4 (aN rfl hg) rfl rfl (v := (.bool b.openLo)) rfl) rfl).step) rfl <| ge3 rfl rfl (fun hg => (Rd.of_nil (nU (aN rfl hg) (fun e => (aN rfl (andI hg (n7 e)))))).step) rfl <| ge2 rfl rfl (fun hg => (Rd.of_nil (fw (aN rfl hg) (fun e => (aN rfl (andI hg e))))).step) rfl <| g0 (nU rfl (fun e => (aN rfl (n7 e)))) rfl <| g0 (aj rfl) rfl <| gn hK3 <| gT ?_; clear h ac; intro ac wo h
 exact ret h rfl (.tmp rfl .nil) rfl (h.retP (by unfold e9; rfl) trivial)
def aX (i : Iv) : Bool :=
 (decide (i.lo = i.hi))
theorem eM (i : Iv) (w0 : World) : Calls Tryz.prog 150 #[(vV i)] w0 (RetP w0 (.bool (aX i)) (True)) := by
 refine enter (N := 8) (args := [(vV i)]) Tryz.func150 rfl rfl ?_; intro ac h
 refine ej fun K1 hK1 => ?_
 refine bx h (cV i) rfl rfl rfl fun b1 => g0 (aj rfl) rfl <| gn hK1 <| gr fun K2 hK2 => g0 (fa uu86 rfl zz71 rfl rfl rfl (k' := 0)) rfl <| g1 0 rfl (ba aa71 zz71 rfl rfl rfl (v := (vR i.lo)) rfl) rfl <| g0 (fa uu86 rfl zz71 rfl rfl rfl (k' := 9)) rfl <| g1 0 rfl (ba aa71 zz71 rfl rfl rfl (v := (vR i.hi)) rfl) rfl <| g0 (il nk rfl rfl) rfl <| g0 (aj rfl) rfl <| gn hK2 <| gT ?_; clear h ac; intro ac wo h
 exact ret h rfl (.tmp rfl .nil) rfl (h.retP (by unfold aX; rfl) trivial)
end Go.Sx
