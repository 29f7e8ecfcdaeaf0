/- A part of the proof that the law BracketOperates/Brackets/Logic answers true at every input and leaves its arguments as they were. -/
import Derived.Test.YtbnldpccdppmiaaGreatDoorProg
import Derived.Test.YtbnldpccdppmiaaGreatDoorGdiv
set_option linter.unusedVariables false
set_option linter.unusedSimpArgs false
open Go.Proofs.Tryz renaming isAgg4 → aa4, underlying4 → nn4, isAgg9 → aa9, isAgg40 → aa40, sizeOf40 → zz40, runUnderlying40 → uu40, sizeOf9 → zz9, sizeOf4 → zz4, zeroValue40 → vv40, call78 → cc78, call76 → cc76, call122 → cc122, zeroValue42 → vv42, sizeOf42 → zz42, isAgg42 → aa42, runUnderlying42 → uu42, call95 → cc95, call92 → cc92, call94 → cc94, call103 → cc103, call102 → cc102, runUnderlying64 → uu64, call68 → cc68, call55 → cc55, call87 → cc87, isAgg64 → aa64, sizeOf64 → zz64, zeroValue64 → vv64
namespace Go.Sx
open Go Go.RowKit Go.Proofs
set_option maxRecDepth 100000
theorem eqi40 : EqIn Tryz.prog 2 40 vI := eqS (c := cI) (fun _ => rfl) Tryz.underlying40 Tryz.stoodInHeld40 fun d x y w hd => by
 refine Eq.trans (eqF (by decide) (ft aa4 rfl w) (ft aa4 rfl w) (eqB nn4 d (by omega) _ _ w) (eqF (by decide) (ft aa9 rfl w) (ft aa9 rfl w) (eqBs Tryz.underlying9 d (by omega) _ _ w) eqF0)) ?_
 congr 1
 rw [decide_eq_decide]
 cases x; cases y; simp
theorem eqp40 : EqP Tryz.prog 40 vI := EqIn.p (k := 2) rfl (c := fun x => (cI x).toArray) (fun _ => rfl) Tryz.eqGuardType40 eqi40
theorem eqi42 : EqIn Tryz.prog 3 42 vQ := eqS (c := cQ) (fun _ => rfl) Tryz.underlying42 Tryz.stoodInHeld42 fun d x y w hd => by
 refine Eq.trans (eqF (by decide) (eJ aa40 zz40 (v := vI (x.num)) rfl w) (eJ aa40 zz40 (v := vI (y.num)) rfl w) (eqi40 d _ _ w (by omega)) (eqF (by decide) (eJ aa40 zz40 (v := vI (x.den)) rfl w) (eJ aa40 zz40 (v := vI (y.den)) rfl w) (eqi40 d _ _ w (by omega)) eqF0)) ?_
 congr 1
 rw [decide_eq_decide]
 cases x; cases y; simp
theorem eqp42 : EqP Tryz.prog 42 vQ := EqIn.p (k := 3) rfl (c := fun x => (cQ x).toArray) (fun _ => rfl) Tryz.eqGuardType42 eqi42
def bW (a : GI) : Int :=
 bif (decide (a.mag = 0)) then
  0
 else
  bif a.neg then
   (-1)
  else
   1
theorem dA (a : GI) (w0 : World) : Calls Tryz.prog 76 #[(vI a)] w0 (RetP w0 (.int .i64 (bW a)) ((-1 ≤ (bW a) ∧ (bW a) ≤ 1))) := by
 refine enter (N := 10) (args := [(vI a)]) Tryz.func76 rfl rfl ?_; intro ac h
 refine cz fun K1 hK1 => ?_
 refine bx h (cI a) rfl rfl rfl fun b1 => g0 (aj rfl) rfl <| gn hK1 <| gq fun K2 hK2 => gB <| gr fun K3 hK3 => g0 (fa uu40 rfl zz9 rfl rfl rfl (k' := 1)) rfl <| g1 0 rfl (aN aa9 zz9 rfl rfl rfl (v := (.string (bs a.mag))) rfl) rfl <| g0 (n7 rfl rfl (m := a.mag) (n := 0)) rfl <| g0 (aj rfl) rfl <| gn hK3 ?_; clear h ac; intro ac wo h
 refine dm h rfl (fun hc1 => ?_) (fun hc1 => ?_)
 ·
  have hd1 := of_decide_eq_true hc1
  refine gz h <| gr fun K4 hK4 => g0 (aj rfl) rfl <| gn hK4 <| gT ?_; clear h ac wo; intro ac wo h
  have hd : bW a = 0 := (cT hc1)
  exact ret h rfl (.tmp rfl .nil) rfl (h.retP (by rw [hd] <;> rfl) (by rw [hd]; exact by first | omega | exact dM (by omega) (by omega)))
 ·
  have hd1 := of_decide_eq_false hc1
  refine gz h <| gr fun K5 hK5 => g0 (fa uu40 rfl zz4 rfl rfl rfl (k' := 0)) rfl <| g1 0 rfl (aN aa4 zz4 rfl rfl rfl (v := (.bool a.neg)) rfl) rfl <| g0 (aj rfl) rfl <| gn hK5 ?_; clear h ac wo; intro ac wo h
  refine dm h rfl (fun hc2 => ?_) (fun hc2 => ?_)
  ·
   refine gz h <| gr fun K6 hK6 => g0 (aj rfl) rfl <| gn hK6 <| gT ?_; clear h ac wo; intro ac wo h
   have hd : bW a = (-1) := (Eq.trans (cF hc1) (cT hc2))
   exact ret h rfl (.tmp rfl .nil) rfl (h.retP (by rw [hd] <;> rfl) (by rw [hd]; exact by first | omega | exact dM (by omega) (by omega)))
  ·
   refine gz h <| gS <| gN <| gx hK2 <| gr fun K7 hK7 => g0 (aj rfl) rfl <| gn hK7 <| gT ?_; clear h ac wo; intro ac wo h
   have hd : bW a = 1 := (Eq.trans (cF hc1) (cF hc2))
   exact ret h rfl (.tmp rfl .nil) rfl (h.retP (by rw [hd] <;> rfl) (by rw [hd]; exact by first | omega | exact dM (by omega) (by omega)))
def ao (a : GI) : GI :=
 (aH (!a.neg) a.mag)
theorem dI (a : GI) (k : Nat) (hk : k ≤ 40) (za : SzI k a) (w0 : World) : Calls Tryz.prog 92 #[(vI a)] w0 (RetP w0 (vI (ao a)) (SzI k (ao a))) := by
 refine enter (N := 9) (args := [(vI a)]) Tryz.func92 rfl rfl ?_; intro ac h
 have c1 := bI (!a.neg) a.mag k (by omega) za
 have s1 := aG (c1 w0)
 refine cz fun K1 hK1 => ?_
 refine bx h (cI a) rfl rfl rfl fun b1 => ga (cI (⟨false, 0⟩ : GI)) vv40 rfl rfl fun b2 => gn hK1 <| gr fun K2 hK2 => g0 (fa uu40 rfl zz4 rfl rfl rfl (k' := 0)) rfl <| g1 1 rfl (aN aa4 zz4 rfl rfl rfl (v := (.bool a.neg)) rfl) rfl <| g0 (fL rfl) rfl <| g0 (fa uu40 rfl zz9 rfl rfl rfl (k' := 1)) rfl <| g1 1 rfl (aN aa9 zz9 rfl rfl rfl (v := (.string (bs a.mag))) rfl) rfl <| gl cc78 rfl c1 rfl <| gs 0 (cI (aH (!a.neg) a.mag)) rfl zz40 rfl rfl rfl rfl rfl rfl rfl <| gn hK2 <| gT ?_; clear h ac; intro ac wo h
 exact ret h rfl (.cell (v := (vI (aH (!a.neg) a.mag))) rfl (i := 0) rfl aa40 zz40 rfl rfl rfl .nil) rfl (h.retP (by unfold ao; rfl) (by unfold ao; exact s1))
def dB (a : GI) (b : GI) : Int :=
 bif (a.neg != b.neg) then
  (dY (bW a) (bW b))
 else
  bif a.neg then
   -(bc a.mag b.mag)
  else
   (bc a.mag b.mag)
theorem gg (a : GI) (b : GI) (k : Nat) (hk : k ≤ 40) (za : SzI k a) (zb : SzI k b) (w0 : World) : Calls Tryz.prog 118 #[(vI a), (vI b)] w0 (RetP w0 (.int .i64 (dB a b)) ((-1 ≤ (dB a b) ∧ (dB a b) ≤ 1))) := by
 refine enter (N := 26) (args := [(vI a), (vI b)]) Tryz.func118 rfl rfl ?_; intro ac h
 refine cz fun K1 hK1 => ?_
 refine bx h (cI a) rfl rfl rfl fun b1 => gb (cI b) rfl rfl rfl fun b2 => g0 (aj rfl) rfl <| gn hK1 <| gq fun K2 hK2 => gr fun K3 hK3 => g0 (fa uu40 rfl zz4 rfl rfl rfl (k' := 0)) rfl <| g1 1 rfl (aN aa4 zz4 rfl rfl rfl (v := (.bool a.neg)) rfl) rfl <| g0 (fa uu40 rfl zz4 rfl rfl rfl (k' := 0)) rfl <| g1 0 rfl (aN aa4 zz4 rfl rfl rfl (v := (.bool b.neg)) rfl) rfl <| g0 (mz nn4 rfl rfl) rfl <| gn hK3 ?_; clear h ac; intro ac wo h
 refine dm h rfl (fun hc1 => ?_) (fun hc1 => ?_)
 ·
  refine da fun K4 hK4 => ?_
  have p2 := aG ((dA a) w0)
  have p4 := aG ((dA b) w0)
  have p6 := aG ((jk (bW a) (bW b)) w0)
  refine cO mixed [dw _ [1], dv _, dw _ [0], dv _, dv _, dv _] [⟨_, []⟩, ⟨_, []⟩] h rfl (by kernel_rfl) ⟨fun _ _ => be _ rfl rfl (aN aa40 zz40 rfl rfl rfl (v := (vI a)) rfl), fun _ _ => dN (cY cc76 rfl (dA a)), fun _ _ => be _ rfl rfl (aN aa40 zz40 rfl rfl rfl (v := (vI b)) rfl), fun _ _ => dN (cY cc76 rfl (dA b)), fun _ _ => dN (cY Tryz.call135 rfl (jk (bW a) (bW b))), fun _ _ => az (aj rfl), trivial⟩ ?_
  clear h ac wo; intro ξ ac wo hφ h
  replace h : St w0 26 [(4, (.int .i64 (dY (bW a) (bW b))))] [.blk b2 (cI b) 40, .blk b1 (cI a) 40] ac wo := h.sub ⟨rfl, trivial⟩
  clear hφ ξ
  refine hK4 _ _ ?_
  refine dH ?_
  have hd : dB a b = (dY (bW a) (bW b)) := (cT hc1)
  exact ret h rfl (.tmp rfl .nil) rfl (h.retP (by rw [hd] <;> rfl) (by rw [hd]; exact by first | omega | exact dM (by omega) (by omega)))
 ·
  have p8 := aG ((dF a.mag b.mag) w0)
  refine gz h <| gS <| gx hK2 <| gr fun K5 hK5 => g0 (fa uu40 rfl zz9 rfl rfl rfl (k' := 1)) rfl <| g1 1 rfl (aN aa9 zz9 rfl rfl rfl (v := (.string (bs a.mag))) rfl) rfl <| g0 (fa uu40 rfl zz9 rfl rfl rfl (k' := 1)) rfl <| g1 0 rfl (aN aa9 zz9 rfl rfl rfl (v := (.string (bs b.mag))) rfl) rfl <| gl Tryz.call121 rfl (dF a.mag b.mag) rfl <| g0 (aj rfl) rfl <| gn hK5 <| gq fun K6 hK6 => gr fun K7 hK7 => g0 (fa uu40 rfl zz4 rfl rfl rfl (k' := 0)) rfl <| g1 1 rfl (aN aa4 zz4 rfl rfl rfl (v := (.bool a.neg)) rfl) rfl <| gn hK7 ?_; clear h ac wo; intro ac wo h
  refine dm h rfl (fun hc2 => ?_) (fun hc2 => ?_)
  ·
   refine gz h <| gr fun K8 hK8 => g0 (ak rfl) rfl <| g0 (r_neg rfl (r := -(bc a.mag b.mag)) (by rw [IntKind.wrap_i64]; omega)) rfl <| g0 (aj rfl) rfl <| gn hK8 <| gT ?_; clear h ac wo; intro ac wo h
   have hd : dB a b = -(bc a.mag b.mag) := (Eq.trans (cF hc1) (cT hc2))
   exact ret h rfl (.tmp rfl .nil) rfl (h.retP (by rw [hd] <;> rfl) (by rw [hd]; exact by first | omega | exact dM (by omega) (by omega)))
  ·
   refine gz h <| gS <| gx hK6 <| gr fun K9 hK9 => g0 (ak rfl) rfl <| g0 (aj rfl) rfl <| gn hK9 <| gT ?_; clear h ac wo; intro ac wo h
   have hd : dB a b = (bc a.mag b.mag) := (Eq.trans (cF hc1) (cF hc2))
   exact ret h rfl (.tmp rfl .nil) rfl (h.retP (by rw [hd] <;> rfl) (by rw [hd]; exact by first | omega | exact dM (by omega) (by omega)))
def dK (a : GI) (b : GI) : GI :=
 bif (a.neg == b.neg) then
  (aH a.neg (cC a.mag b.mag))
 else
  bif (decide ((bc a.mag b.mag) ≥ 0)) then
   (aH a.neg (bL a.mag b.mag))
  else
   (aH b.neg (bL b.mag a.mag))
theorem iN (a : GI) (b : GI) (k : Nat) (hk : (k + 1) ≤ 40) (za : SzI (k + 1) a) (zb : SzI (k + 1) b) (w0 : World) : Calls Tryz.prog 101 #[(vI a), (vI b)] w0 (RetP w0 (vI (dK a b)) (SzI k (dK a b))) := by
 refine enter (N := 42) (args := [(vI a), (vI b)]) Tryz.func101 rfl rfl ?_; intro ac h
 refine cz fun K1 hK1 => ?_
 refine bx h (cI a) rfl rfl rfl fun b1 => gb (cI b) rfl rfl rfl fun b2 => ga (cI (⟨false, 0⟩ : GI)) vv40 rfl rfl fun b3 => gn hK1 <| gq fun K2 hK2 => gB <| gr fun K3 hK3 => g0 (fa uu40 rfl zz4 rfl rfl rfl (k' := 0)) rfl <| g1 2 rfl (aN aa4 zz4 rfl rfl rfl (v := (.bool a.neg)) rfl) rfl <| g0 (fa uu40 rfl zz4 rfl rfl rfl (k' := 0)) rfl <| g1 1 rfl (aN aa4 zz4 rfl rfl rfl (v := (.bool b.neg)) rfl) rfl <| g0 (mB nn4 rfl rfl) rfl <| g0 (aj rfl) rfl <| gn hK3 ?_; clear h ac; intro ac wo h
 refine dm h rfl (fun hc1 => ?_) (fun hc1 => ?_)
 ·
  have hd1 := eq_of_beq hc1
  refine da fun K4 hK4 => ?_
  have s1 := aG ((fu a.mag b.mag k (by omega) za zb) w0)
  have s2 := aG ((bI a.neg (cC a.mag b.mag) k (by omega) s1) w0)
  refine cO mixed [dv _, dw _ [2], dv _, dw _ [2], dv _, dw _ [1], dv _, dv _, dw _ [0]] [⟨.blk b3 (cI (⟨false, 0⟩ : GI)) 40, [(8, .con _)]⟩, ⟨_, []⟩, ⟨_, []⟩] h rfl (by kernel_rfl) ⟨fun _ _ => az (fa uu40 rfl zz4 rfl rfl rfl (k' := 0)), fun _ _ => be _ rfl rfl (aN aa4 zz4 rfl rfl rfl (v := (.bool a.neg)) rfl), fun _ _ => az (fa uu40 rfl zz9 rfl rfl rfl (k' := 1)), fun _ _ => be _ rfl rfl (aN aa9 zz9 rfl rfl rfl (v := (.string (bs a.mag))) rfl), fun _ _ => az (fa uu40 rfl zz9 rfl rfl rfl (k' := 1)), fun _ _ => be _ rfl rfl (aN aa9 zz9 rfl rfl rfl (v := (.string (bs b.mag))) rfl), fun _ _ => dN (cY Tryz.call120 rfl (fu a.mag b.mag k (by omega) za zb)), fun _ _ => dN (cY cc78 rfl (bI a.neg (cC a.mag b.mag) k (by omega) s1)), fun _ _ => dD _ [.blk b3 (cI (aH a.neg (cC a.mag b.mag))) 40] rfl rfl (d8 zz40 rfl rfl rfl rfl rfl rfl rfl), trivial⟩ ?_
  clear h ac wo; intro ξ ac wo hφ h
  replace h : St w0 42 [(4, (ptr b3 0))] [.blk b3 (cI (aH a.neg (cC a.mag b.mag))) 40, .blk b2 (cI b) 40, .blk b1 (cI a) 40] ac wo := h.sub ⟨rfl, trivial⟩
  clear hφ ξ
  refine hK4 _ _ ?_
  refine dH ?_
  have hd : dK a b = (aH a.neg (cC a.mag b.mag)) := (cT hc1)
  exact ret h rfl (.cell (v := (vI (aH a.neg (cC a.mag b.mag)))) rfl (i := 0) rfl aa40 zz40 rfl rfl rfl .nil) rfl (h.retP (by rw [hd] <;> rfl) (by rw [hd]; exact s2))
 ·
  have hd1 := ne_of_beq_false hc1
  have p4 := aG ((dF a.mag b.mag) w0)
  refine gz h <| gr fun K5 hK5 => g0 (fa uu40 rfl zz9 rfl rfl rfl (k' := 1)) rfl <| g1 2 rfl (aN aa9 zz9 rfl rfl rfl (v := (.string (bs a.mag))) rfl) rfl <| g0 (fa uu40 rfl zz9 rfl rfl rfl (k' := 1)) rfl <| g1 1 rfl (aN aa9 zz9 rfl rfl rfl (v := (.string (bs b.mag))) rfl) rfl <| gl Tryz.call121 rfl (dF a.mag b.mag) rfl <| g0 (nc rfl rfl) rfl <| g0 (aj rfl) rfl <| gn hK5 ?_; clear h ac wo; intro ac wo h
  refine dm h rfl (fun hc2 => ?_) (fun hc2 => ?_)
  ·
   have hd2 := of_decide_eq_true hc2
   refine da fun K6 hK6 => ?_
   have s5 := aG ((ej a.mag b.mag (k + 1) (by omega) za zb (by first | exact mQ ‹_› | exact mP ‹_›)) w0)
   have s6 := aG ((bI a.neg (bL a.mag b.mag) (k + 1) (by omega) s5) w0)
   refine cO mixed [dv _, dw _ [2], dv _, dw _ [2], dv _, dw _ [1], dv _, dv _, dw _ [0]] [⟨.blk b3 (cI (⟨false, 0⟩ : GI)) 40, [(8, .con _)]⟩, ⟨_, []⟩, ⟨_, []⟩] h rfl (by kernel_rfl) ⟨fun _ _ => az (fa uu40 rfl zz4 rfl rfl rfl (k' := 0)), fun _ _ => be _ rfl rfl (aN aa4 zz4 rfl rfl rfl (v := (.bool a.neg)) rfl), fun _ _ => az (fa uu40 rfl zz9 rfl rfl rfl (k' := 1)), fun _ _ => be _ rfl rfl (aN aa9 zz9 rfl rfl rfl (v := (.string (bs a.mag))) rfl), fun _ _ => az (fa uu40 rfl zz9 rfl rfl rfl (k' := 1)), fun _ _ => be _ rfl rfl (aN aa9 zz9 rfl rfl rfl (v := (.string (bs b.mag))) rfl), fun _ _ => dN (cY cc122 rfl (ej a.mag b.mag (k + 1) (by omega) za zb (by first | exact mQ ‹_› | exact mP ‹_›))), fun _ _ => dN (cY cc78 rfl (bI a.neg (bL a.mag b.mag) (k + 1) (by omega) s5)), fun _ _ => dD _ [.blk b3 (cI (aH a.neg (bL a.mag b.mag))) 40] rfl rfl (d8 zz40 rfl rfl rfl rfl rfl rfl rfl), trivial⟩ ?_
   clear h ac wo; intro ξ ac wo hφ h
   replace h : St w0 42 [(4, (ptr b3 0))] [.blk b3 (cI (aH a.neg (bL a.mag b.mag))) 40, .blk b2 (cI b) 40, .blk b1 (cI a) 40] ac wo := h.sub ⟨rfl, trivial⟩
   clear hφ ξ
   refine hK6 _ _ ?_
   refine dH ?_
   have hd : dK a b = (aH a.neg (bL a.mag b.mag)) := (Eq.trans (cF hc1) (cT hc2))
   exact ret h rfl (.cell (v := (vI (aH a.neg (bL a.mag b.mag)))) rfl (i := 0) rfl aa40 zz40 rfl rfl rfl .nil) rfl (h.retP (by rw [hd] <;> rfl) (by rw [hd]; exact (iP s6 (by omega))))
  ·
   have hd2 := of_decide_eq_false hc2
   refine d7 ?_
   refine lY ?_
   refine hK2 _ _ ?_
   refine da fun K7 hK7 => ?_
   have s7 := aG ((ej b.mag a.mag (k + 1) (by omega) zb za (by first | exact mQ ‹_› | exact mP ‹_›)) w0)
   have s8 := aG ((bI b.neg (bL b.mag a.mag) (k + 1) (by omega) s7) w0)
   refine cO mixed [dv _, dw _ [1], dv _, dw _ [1], dv _, dw _ [2], dv _, dv _, dw _ [0]] [⟨.blk b3 (cI (⟨false, 0⟩ : GI)) 40, [(8, .con _)]⟩, ⟨_, []⟩, ⟨_, []⟩] h rfl (by kernel_rfl) ⟨fun _ _ => az (fa uu40 rfl zz4 rfl rfl rfl (k' := 0)), fun _ _ => be _ rfl rfl (aN aa4 zz4 rfl rfl rfl (v := (.bool b.neg)) rfl), fun _ _ => az (fa uu40 rfl zz9 rfl rfl rfl (k' := 1)), fun _ _ => be _ rfl rfl (aN aa9 zz9 rfl rfl rfl (v := (.string (bs b.mag))) rfl), fun _ _ => az (fa uu40 rfl zz9 rfl rfl rfl (k' := 1)), fun _ _ => be _ rfl rfl (aN aa9 zz9 rfl rfl rfl (v := (.string (bs a.mag))) rfl), fun _ _ => dN (cY cc122 rfl (ej b.mag a.mag (k + 1) (by omega) zb za (by first | exact mQ ‹_› | exact mP ‹_›))), fun _ _ => dN (cY cc78 rfl (bI b.neg (bL b.mag a.mag) (k + 1) (by omega) s7)), fun _ _ => dD _ [.blk b3 (cI (aH b.neg (bL b.mag a.mag))) 40] rfl rfl (d8 zz40 rfl rfl rfl rfl rfl rfl rfl), trivial⟩ ?_
   clear h ac wo; intro ξ ac wo hφ h
   replace h : St w0 42 [(4, (ptr b3 0))] [.blk b3 (cI (aH b.neg (bL b.mag a.mag))) 40, .blk b2 (cI b) 40, .blk b1 (cI a) 40] ac wo := h.sub ⟨rfl, trivial⟩
   clear hφ ξ
   refine hK7 _ _ ?_
   refine dH ?_
   have hd : dK a b = (aH b.neg (bL b.mag a.mag)) := (Eq.trans (cF hc1) (cF hc2))
   exact ret h rfl (.cell (v := (vI (aH b.neg (bL b.mag a.mag)))) rfl (i := 0) rfl aa40 zz40 rfl rfl rfl .nil) rfl (h.retP (by rw [hd] <;> rfl) (by rw [hd]; exact (iP s8 (by omega))))
def bg (a : GI) (b : GI) : GI :=
 (aH (a.neg != b.neg) (dX a.mag b.mag))
theorem de (a : GI) (b : GI) (k : Nat) (hk : (k + 1) ≤ 40) (za : SzI (k + 1) a) (zb : SzI (k + 1) b) (w0 : World) : Calls Tryz.prog 102 #[(vI a), (vI b)] w0 (RetP w0 (vI (bg a b)) (SzI k (bg a b))) := by
 refine enter (N := 16) (args := [(vI a), (vI b)]) Tryz.func102 rfl rfl ?_; intro ac h
 have s1 := aG ((iJ a.mag b.mag k (by omega) za zb) w0)
 have s2 := aG ((bI (a.neg != b.neg) (dX a.mag b.mag) k (by omega) s1) w0)
 refine cz fun K1 hK1 => ?_
 refine bx h (cI a) rfl rfl rfl fun b1 => gb (cI b) rfl rfl rfl fun b2 => ga (cI (⟨false, 0⟩ : GI)) vv40 rfl rfl fun b3 => gn hK1 <| gq fun K2 hK2 => ?_; clear h ac; intro ac wo h
 refine cO mixed [dv _, dw _ [2], dv _, dw _ [1], dv _, dv _, dw _ [2], dv _, dw _ [1], dv _, dv _, dw _ [0]] [⟨.blk b3 (cI (⟨false, 0⟩ : GI)) 40, [(11, .con _)]⟩, ⟨_, []⟩, ⟨_, []⟩] h rfl (by kernel_rfl) ⟨fun _ _ => az (fa uu40 rfl zz4 rfl rfl rfl (k' := 0)), fun _ _ => be _ rfl rfl (aN aa4 zz4 rfl rfl rfl (v := (.bool a.neg)) rfl), fun _ _ => az (fa uu40 rfl zz4 rfl rfl rfl (k' := 0)), fun _ _ => be _ rfl rfl (aN aa4 zz4 rfl rfl rfl (v := (.bool b.neg)) rfl), fun _ _ => az (mz nn4 rfl rfl), fun _ _ => az (fa uu40 rfl zz9 rfl rfl rfl (k' := 1)), fun _ _ => be _ rfl rfl (aN aa9 zz9 rfl rfl rfl (v := (.string (bs a.mag))) rfl), fun _ _ => az (fa uu40 rfl zz9 rfl rfl rfl (k' := 1)), fun _ _ => be _ rfl rfl (aN aa9 zz9 rfl rfl rfl (v := (.string (bs b.mag))) rfl), fun _ _ => dN (cY Tryz.call123 rfl (iJ a.mag b.mag k (by omega) za zb)), fun _ _ => dN (cY cc78 rfl (bI (a.neg != b.neg) (dX a.mag b.mag) k (by omega) s1)), fun _ _ => dD _ [.blk b3 (cI (aH (a.neg != b.neg) (dX a.mag b.mag))) 40] rfl rfl (d8 zz40 rfl rfl rfl rfl rfl rfl rfl), trivial⟩ ?_
 clear h ac wo; intro ξ ac wo hφ h
 replace h : St w0 16 [(4, (ptr b3 0))] [.blk b3 (cI (aH (a.neg != b.neg) (dX a.mag b.mag))) 40, .blk b2 (cI b) 40, .blk b1 (cI a) 40] ac wo := h.sub ⟨rfl, trivial⟩
 clear hφ ξ
 refine hK2 _ _ ?_
 refine dH ?_
 exact ret h rfl (.cell (v := (vI (aH (a.neg != b.neg) (dX a.mag b.mag)))) rfl (i := 0) rfl aa40 zz40 rfl rfl rfl .nil) rfl (h.retP (by unfold bg; rfl) (by unfold bg; exact s2))
def aC (a b : GI) : GI := aH false (Nat.gcd a.mag b.mag)
theorem mK (x y : Nat) : Nat.gcd y (x % y) = Nat.gcd x y := by rw [Nat.gcd_comm x y, Nat.gcd_rec y x, Nat.gcd_comm]
theorem iM (a : GI) (b : GI) (k : Nat) (hk : k ≤ 40) (za : SzI k a) (zb : SzI k b) (w0 : World) : Calls Tryz.prog 93 #[(vI a), (vI b)] w0 (RetP w0 (vI (aC a b)) (SzI k (aC a b))) := by
 refine enter (N := 45) (args := [(vI a), (vI b)]) Tryz.func93 rfl rfl ?_; intro ac h
 refine cz fun K1 hK1 => ?_
 refine bx h (cI a) rfl rfl rfl fun b1 => gb (cI b) rfl rfl rfl fun b2 => ga (cI (⟨false, 0⟩ : GI)) vv40 rfl rfl fun b3 => gn hK1 <| gq fun K2 hK2 => ?_; clear h ac; intro ac wo h
 refine cO mixed [dv _, dw _ [2], dv _, dw _ [1], dv _, dv _] [⟨_, []⟩, ⟨_, []⟩, ⟨_, []⟩] h rfl (by kernel_rfl) ⟨fun _ _ => az (fa uu40 rfl zz9 rfl rfl rfl (k' := 1)), fun _ _ => be _ rfl rfl (aN aa9 zz9 rfl rfl rfl (v := (.string (bs a.mag))) rfl), fun _ _ => az (fa uu40 rfl zz9 rfl rfl rfl (k' := 1)), fun _ _ => be _ rfl rfl (aN aa9 zz9 rfl rfl rfl (v := (.string (bs b.mag))) rfl), fun _ _ => az (aj rfl), fun _ _ => az (aj rfl), trivial⟩ ?_
 clear h ac wo; intro ξ ac wo hφ h
 replace h : St w0 45 [(4, (ptr b3 0)), (5, (.string (bs a.mag))), (6, (.string (bs b.mag)))] [.blk b3 (cI (⟨false, 0⟩ : GI)) 40, .blk b2 (cI b) 40, .blk b1 (cI a) 40] ac wo := h.sub ⟨rfl, rfl, rfl, trivial⟩
 clear hφ ξ
 refine hK2 _ _ ?_
 refine da fun K3 hK3 => ?_
 refine iV ?_
 refine wp_loop_ghost (fun n_ a_ w_ => ∃ (x : Nat) (y : Nat), n_ = 1 * y ∧ (Nat.gcd x y = Nat.gcd a.mag b.mag) ∧ (SzB k x) ∧ (SzB k y) ∧ St w0 45 [(4, (ptr b3 0)), (5, (.string (bs x))), (6, (.string (bs y)))] [.blk b3 (cI (⟨false, 0⟩ : GI)) 40, .blk b2 (cI b) 40, .blk b1 (cI a) 40] a_ w_) _ ⟨a.mag, b.mag, rfl, rfl, za, zb, (h.pick [0, 1, 2] (by decide)).sub ⟨rfl, rfl, rfl, trivial⟩⟩ ?_
 clear h ac wo; rintro _ ac wo ⟨x, y, rfl, hg, zx, zy, h⟩
 refine gz h <| gq fun K4 hK4 => gr fun K5 hK5 => g0 (ak rfl) rfl <| g0 (l9 rfl rfl (m := y) (n := 0)) rfl <| gn hK5 ?_; clear h ac wo; intro ac wo h
 refine dm h rfl (fun hc1 => ?_) (fun hc1 => ?_)
 ·
  have hy : y ≠ 0 := by simpa using hc1
  refine gz h <| gS <| gx hK4 <| gB <| gq fun K6 hK6 => gr fun K7 hK7 => g0 (ak rfl) rfl <| g0 (ak rfl) rfl <| gl Tryz.call114 rfl (eh x y) rfl <| g0 (ak rfl) rfl <| g0 (bE rfl rfl) rfl <| g0 (bE rfl rfl) rfl <| g0 (bE rfl rfl) rfl <| g0 (aj rfl) rfl <| g0 (aj rfl) rfl <| g0 (aj rfl) rfl <| gn hK7 <| gr fun K8 hK8 => g0 (ak rfl) rfl <| gn hK8 ?_; clear h ac wo; intro ac wo h
  refine dm h rfl (fun hc2 => ?_) (fun hc2 => ?_)
  ·
   obtain ⟨ha6, hb6, hw⟩ := ia hc2
   simp only [hw] at h
   refine da fun K9 hK9 => ?_
   refine iV ?_
   refine wp_loop_ghost (fun n_ a_ w_ => ∃ (u : Nat) (v : Nat), n_ = 1 * v ∧ (Nat.gcd u v = Nat.gcd a.mag b.mag) ∧ (SzB k u) ∧ (SzB k v) ∧ (u < 18446744073709551616 ∧ v < 18446744073709551616) ∧ St w0 45 [(4, (ptr b3 0)), (7, (.int .u64 ((u : Nat) : Int))), (8, (.int .u64 ((v : Nat) : Int)))] [.blk b3 (cI (⟨false, 0⟩ : GI)) 40, .blk b2 (cI b) 40, .blk b1 (cI a) 40] a_ w_) _ ⟨x, y, rfl, hg, zx, zy, ⟨ha6, hb6⟩, (h.pick [0, 1, 2] (by decide)).sub ⟨rfl, rfl, rfl, trivial⟩⟩ ?_
   clear h ac wo; rintro _ ac wo ⟨u, v, rfl, hgu, zu, zv, hul, h⟩
   refine gz h <| gq fun K10 hK10 => gr fun K11 hK11 => g0 (ak rfl) rfl <| g0 (kd rfl rfl) rfl <| gn hK11 ?_; clear h ac wo; intro ac wo h
   refine dm h rfl (fun hc3 => ?_) (fun hc3 => ?_)
   ·
    have hv : v ≠ 0 := by have := hc3; simp at this; omega
    refine d7 ?_
    refine hK10 _ _ ?_
    refine iV ?_
    refine cO mixed [dv _, dv _, dv _, dv _, dv _, dv _] [⟨_, []⟩, ⟨_, []⟩, ⟨_, []⟩] h rfl (by kernel_rfl) ⟨fun _ _ => om rfl, fun _ _ => om rfl, fun _ _ => om rfl, fun _ _ => az (fK rfl rfl (r := ((u % v : Nat) : Int)) (by omega) (by rw [Int.tmod_eq_emod_of_nonneg (by omega)]; rfl)), fun _ _ => az (aj rfl), fun _ _ => az (aj rfl), trivial⟩ ?_
    clear h ac wo; intro ξ ac wo hφ h
    replace h : St w0 45 [(4, (ptr b3 0)), (7, (.int .u64 ((v : Nat) : Int))), (8, (.int .u64 ((u % v : Nat) : Int)))] [.blk b3 (cI (⟨false, 0⟩ : GI)) 40, .blk b2 (cI b) 40, .blk b1 (cI a) 40] ac wo := h.sub ⟨rfl, rfl, rfl, trivial⟩
    clear hφ ξ
    refine lY ?_
    exact aO ⟨_, (by have := Nat.mod_lt u (show v > 0 by omega); omega), v, (u % v), rfl, (by rw [mK]; exact hgu), zv, (eK zu (Nat.mod_le _ _)), ⟨hul.2, by have := Nat.mod_lt u (show v > 0 by omega); omega⟩, (h.pick [0, 1, 2] (by decide)).sub ⟨rfl, rfl, rfl, trivial⟩⟩
   ·
    have hv : v = 0 := by have := hc3; simp at this; omega
    subst hv
    have c1 := bI false (a6 u) k (by omega) zu
    have s1 := aG (c1 w0)
    refine gz h <| gE <| gx hK9 <| gr fun K12 hK12 => g0 (ak rfl) rfl <| gl Tryz.call79 rfl (bX u hul.1) rfl <| gl cc78 rfl c1 rfl <| gs 0 (cI (aH false (a6 u))) rfl zz40 rfl rfl rfl rfl rfl rfl rfl <| gn hK12 <| gT ?_; clear h ac wo; intro ac wo h
    have hd : aC a b = (aH false (a6 u)) := (by rw [Nat.gcd_zero_right] at hgu; unfold aC; rw [← hgu]; rfl)
    exact ret h rfl (.cell (v := (vI (aH false (a6 u)))) rfl (i := 0) rfl aa40 zz40 rfl rfl rfl .nil) rfl (h.retP (by rw [hd] <;> rfl) (by rw [hd]; exact s1))
  ·
   have c2 := iK x y k (by omega) zx zy (by omega)
   have s2 := aG (c2 w0)
   refine gz h <| gS <| gx hK6 <| gr fun K13 hK13 => g0 (ak rfl) rfl <| g0 (ak rfl) rfl <| gl Tryz.call115 rfl c2 rfl <| g0 (ak rfl) rfl <| g0 (bE rfl rfl) rfl <| g0 (bE rfl rfl) rfl <| g0 (aj rfl) rfl <| g0 (aj rfl) rfl <| gn hK13 <| gR <| g0 (ak rfl) rfl <| g0 (ak rfl) rfl <| g0 (aj rfl) rfl <| g0 (aj rfl) rfl <| gx (fun _ _ => aW) <| gN ?_; clear h ac wo; intro ac wo h
   exact aO ⟨_, (by have := Nat.mod_lt x (show y > 0 by omega); omega), y, (x % y), rfl, (by rw [mK]; exact hg), zy, (eK zx (Nat.mod_le _ _)), (h.pick [0, 1, 2] (by decide)).sub ⟨rfl, rfl, rfl, trivial⟩⟩
 ·
  have hy : y = 0 := by simpa using hc1
  subst hy
  have c3 := bI false x k (by omega) zx
  have s3 := aG (c3 w0)
  refine gz h <| gE <| gx hK3 <| gr fun K14 hK14 => g0 (ak rfl) rfl <| gl cc78 rfl c3 rfl <| gs 0 (cI (aH false x)) rfl zz40 rfl rfl rfl rfl rfl rfl rfl <| gn hK14 <| gT ?_; clear h ac wo; intro ac wo h
  have hd : aC a b = (aH false x) := (by rw [Nat.gcd_zero_right] at hg; unfold aC; rw [← hg])
  exact ret h rfl (.cell (v := (vI (aH false x))) rfl (i := 0) rfl aa40 zz40 rfl rfl rfl .nil) rfl (h.retP (by rw [hd] <;> rfl) (by rw [hd]; exact s3))
def ci (a : GI) (b : GI) : GI × GI × Int :=
 bif (decide (b.mag = 0)) then
  ((⟨false, 0⟩ : GI), (⟨false, 0⟩ : GI), 6)
 else
  bif (a.neg && (!(decide (((ba a.mag b.mag).2) = 0)))) then
   ((aH (a.neg != b.neg) (cC ((ba a.mag b.mag).1) 1)), (aH false (bL b.mag ((ba a.mag b.mag).2))), 0)
  else
   ((aH (a.neg != b.neg) ((ba a.mag b.mag).1)), (aH false ((ba a.mag b.mag).2)), 0)
theorem jD (a : GI) (b : GI) (k : Nat) (hk : (k + 1) ≤ 40) (za : SzI (k + 1) a) (zb : SzI (k + 1) b) (w0 : World) : Calls Tryz.prog 116 #[(vI a), (vI b)] w0 (RetP w0 (.tuple #[(vI ((ci a b).1)), (vI ((ci a b).2.1)), (.int .i64 ((ci a b).2.2))]) (SzI k ((ci a b).1) ∧ SzI k ((ci a b).2.1))) := by
 refine enter (N := 43) (args := [(vI a), (vI b)]) Tryz.func116 rfl rfl ?_; intro ac h
 refine cz fun K1 hK1 => ?_
 refine bx h (cI a) rfl rfl rfl fun b1 => gb (cI b) rfl rfl rfl fun b2 => ga (cI (⟨false, 0⟩ : GI)) vv40 rfl rfl fun b3 => ga (cI (⟨false, 0⟩ : GI)) vv40 rfl rfl fun b4 => g0 (aj rfl) rfl <| gn hK1 <| gq fun K2 hK2 => gr fun K3 hK3 => g0 (fa uu40 rfl zz9 rfl rfl rfl (k' := 1)) rfl <| g1 2 rfl (aN aa9 zz9 rfl rfl rfl (v := (.string (bs b.mag))) rfl) rfl <| g0 (n7 rfl rfl (m := b.mag) (n := 0)) rfl <| gn hK3 ?_; clear h ac; intro ac wo h
 refine dm h rfl (fun hc1 => ?_) (fun hc1 => ?_)
 ·
  have hd1 := of_decide_eq_true hc1
  refine gz h <| gr fun K4 hK4 => g0 (bP nu rfl rfl (v := (vI (⟨false, 0⟩ : GI))) rfl) rfl <| g0 (bP nu rfl rfl (v := (vI (⟨false, 0⟩ : GI))) rfl) rfl <| gs 1 (cI (⟨false, 0⟩ : GI)) rfl zz40 rfl rfl rfl rfl rfl rfl rfl <| gs 0 (cI (⟨false, 0⟩ : GI)) rfl zz40 rfl rfl rfl rfl rfl rfl rfl <| g0 (aj rfl) rfl <| gn hK4 <| gT ?_; clear h ac wo; intro ac wo h
  have hd : ci a b = ((⟨false, 0⟩ : GI), (⟨false, 0⟩ : GI), 6) := (cT hc1)
  exact ret h rfl (.cell (v := (vI (⟨false, 0⟩ : GI))) rfl (i := 1) rfl aa40 zz40 rfl rfl rfl (.cell (v := (vI (⟨false, 0⟩ : GI))) rfl (i := 0) rfl aa40 zz40 rfl rfl rfl (.tmp rfl .nil))) rfl (h.retP (by rw [hd] <;> rfl) (by rw [hd]; exact ⟨(cM 0 (by decide) (by omega)), (cM 0 (by decide) (by omega))⟩))
 ·
  have hd1 := of_decide_eq_false hc1
  have c1 := iK a.mag b.mag (k + 1) (by omega) za zb (by omega)
  have s1 := aG (c1 w0)
  refine gz h <| gS <| gx hK2 <| gr fun K5 hK5 => g0 (fa uu40 rfl zz9 rfl rfl rfl (k' := 1)) rfl <| g1 3 rfl (aN aa9 zz9 rfl rfl rfl (v := (.string (bs a.mag))) rfl) rfl <| g0 (fa uu40 rfl zz9 rfl rfl rfl (k' := 1)) rfl <| g1 2 rfl (aN aa9 zz9 rfl rfl rfl (v := (.string (bs b.mag))) rfl) rfl <| gl Tryz.call115 rfl c1 rfl <| g0 (ak rfl) rfl <| g0 (bE rfl rfl) rfl <| g0 (bE rfl rfl) rfl <| g0 (aj rfl) rfl <| g0 (aj rfl) rfl <| gn hK5 <| gq fun K6 hK6 => gr fun K7 hK7 => g0 (fa uu40 rfl zz4 rfl rfl rfl (k' := 0)) rfl <| g1 3 rfl (aN aa4 zz4 rfl rfl rfl (v := (.bool a.neg)) rfl) rfl <| g0 (ak rfl) rfl <| ge1 rfl rfl (fun hg => (Rd.of_nil (ak rfl)).step) rfl <| ge1 rfl rfl (fun hg => (Rd.of_nil (l9 (bh rfl hg) rfl (m := ((ba a.mag b.mag).2)) (n := 0))).step) rfl <| g0 (fM rfl (fun e => (bh rfl e))) rfl <| gn hK7 ?_; clear h ac wo; intro ac wo h
  refine dm h rfl (fun hc2 => ?_) (fun hc2 => ?_)
  ·
   have s2 := aG ((fu ((ba a.mag b.mag).1) 1 k (by omega) s1.1 (cM 1 (by decide) (by omega))) w0)
   have s3 := aG ((ej b.mag ((ba a.mag b.mag).2) (k + 1) (by omega) zb s1.2 (Nat.le_of_lt (Nat.mod_lt _ (by omega)))) w0)
   refine cO mixed [dv _, dv _, dv _, dw _ [2], dv _, dv _, dv _, dv _] [⟨_, []⟩, ⟨_, []⟩, ⟨_, []⟩, ⟨_, []⟩] h rfl (by kernel_rfl) ⟨fun _ _ => om rfl, fun _ _ => dN (cY Tryz.call120 rfl (fu ((ba a.mag b.mag).1) 1 k (by omega) s1.1 (cM 1 (by decide) (by omega)))), fun _ _ => az (fa uu40 rfl zz9 rfl rfl rfl (k' := 1)), fun _ _ => be _ rfl rfl (aN aa9 zz9 rfl rfl rfl (v := (.string (bs b.mag))) rfl), fun _ _ => om rfl, fun _ _ => dN (cY cc122 rfl (ej b.mag ((ba a.mag b.mag).2) (k + 1) (by omega) zb s1.2 (Nat.le_of_lt (Nat.mod_lt _ (by omega))))), fun _ _ => az (aj rfl), fun _ _ => az (aj rfl), trivial⟩ ?_
   clear h ac wo; intro ξ ac wo hφ h
   replace h : St w0 43 [(2, (ptr b1 0)), (3, (ptr b2 0)), (4, (ptr b3 0)), (5, (ptr b4 0)), (7, (.string (bs (cC ((ba a.mag b.mag).1) 1)))), (8, (.string (bs (bL b.mag ((ba a.mag b.mag).2)))))] [.blk b4 (cI (⟨false, 0⟩ : GI)) 40, .blk b3 (cI (⟨false, 0⟩ : GI)) 40, .blk b2 (cI b) 40, .blk b1 (cI a) 40] ac wo := h.sub ⟨rfl, rfl, rfl, rfl, rfl, rfl, trivial⟩
   clear hφ ξ
   have c4 := bI (a.neg != b.neg) (cC ((ba a.mag b.mag).1) 1) k (by omega) s2
   have s4 := aG (c4 w0)
   have c5 := bI false (bL b.mag ((ba a.mag b.mag).2)) (k + 1) (by omega) s3
   have s5 := aG (c5 w0)
   refine gz h <| gx hK6 <| gr fun K8 hK8 => g0 (fa uu40 rfl zz4 rfl rfl rfl (k' := 0)) rfl <| g1 3 rfl (aN aa4 zz4 rfl rfl rfl (v := (.bool a.neg)) rfl) rfl <| g0 (fa uu40 rfl zz4 rfl rfl rfl (k' := 0)) rfl <| g1 2 rfl (aN aa4 zz4 rfl rfl rfl (v := (.bool b.neg)) rfl) rfl <| g0 (mz nn4 rfl rfl) rfl <| g0 (ak rfl) rfl <| gl cc78 rfl c4 rfl <| g0 (ak rfl) rfl <| gl cc78 rfl c5 rfl <| gs 1 (cI (aH (a.neg != b.neg) (cC ((ba a.mag b.mag).1) 1))) rfl zz40 rfl rfl rfl rfl rfl rfl rfl <| gs 0 (cI (aH false (bL b.mag ((ba a.mag b.mag).2)))) rfl zz40 rfl rfl rfl rfl rfl rfl rfl <| g0 (aj rfl) rfl <| gn hK8 <| gT ?_; clear h ac wo; intro ac wo h
   have hd : ci a b = ((aH (a.neg != b.neg) (cC ((ba a.mag b.mag).1) 1)), (aH false (bL b.mag ((ba a.mag b.mag).2))), 0) := (Eq.trans (cF hc1) (cT hc2))
   exact ret h rfl (.cell (v := (vI (aH (a.neg != b.neg) (cC ((ba a.mag b.mag).1) 1)))) rfl (i := 1) rfl aa40 zz40 rfl rfl rfl (.cell (v := (vI (aH false (bL b.mag ((ba a.mag b.mag).2))))) rfl (i := 0) rfl aa40 zz40 rfl rfl rfl (.tmp rfl .nil))) rfl (h.retP (by rw [hd] <;> rfl) (by rw [hd]; exact ⟨s4, (iP s5 (by omega))⟩))
  ·
   have c6 := bI (a.neg != b.neg) ((ba a.mag b.mag).1) (k + 1) (by omega) s1.1
   have s6 := aG (c6 w0)
   have c7 := bI false ((ba a.mag b.mag).2) (k + 1) (by omega) s1.2
   have s7 := aG (c7 w0)
   refine gz h <| gS <| gx hK6 <| gr fun K9 hK9 => g0 (fa uu40 rfl zz4 rfl rfl rfl (k' := 0)) rfl <| g1 3 rfl (aN aa4 zz4 rfl rfl rfl (v := (.bool a.neg)) rfl) rfl <| g0 (fa uu40 rfl zz4 rfl rfl rfl (k' := 0)) rfl <| g1 2 rfl (aN aa4 zz4 rfl rfl rfl (v := (.bool b.neg)) rfl) rfl <| g0 (mz nn4 rfl rfl) rfl <| g0 (ak rfl) rfl <| gl cc78 rfl c6 rfl <| g0 (ak rfl) rfl <| gl cc78 rfl c7 rfl <| gs 1 (cI (aH (a.neg != b.neg) ((ba a.mag b.mag).1))) rfl zz40 rfl rfl rfl rfl rfl rfl rfl <| gs 0 (cI (aH false ((ba a.mag b.mag).2))) rfl zz40 rfl rfl rfl rfl rfl rfl rfl <| g0 (aj rfl) rfl <| gn hK9 <| gT ?_; clear h ac wo; intro ac wo h
   have hd : ci a b = ((aH (a.neg != b.neg) ((ba a.mag b.mag).1)), (aH false ((ba a.mag b.mag).2)), 0) := (Eq.trans (cF hc1) (cF hc2))
   exact ret h rfl (.cell (v := (vI (aH (a.neg != b.neg) ((ba a.mag b.mag).1)))) rfl (i := 1) rfl aa40 zz40 rfl rfl rfl (.cell (v := (vI (aH false ((ba a.mag b.mag).2)))) rfl (i := 0) rfl aa40 zz40 rfl rfl rfl (.tmp rfl .nil))) rfl (h.retP (by rw [hd] <;> rfl) (by rw [hd]; exact ⟨(iP s6 (by omega)), (iP s7 (by omega))⟩))
def dl  : GI :=
 (bZ 1)
theorem eq (k : Nat) (hk : k ≤ 40) (w0 : World) : Calls Tryz.prog 95 #[] w0 (RetP w0 (vI dl) (SzI k dl)) := by
 refine enter (N := 2) (args := []) Tryz.func95 rfl rfl ?_; intro ac h
 have c1 := gf 1 k (by omega)  (by omega)
 have s1 := aG (c1 w0)
 refine cz fun K1 hK1 => ?_
 refine al h (cI (⟨false, 0⟩ : GI)) vv40 rfl rfl fun b1 => gn hK1 <| gr fun K2 hK2 => gl Tryz.call51 rfl c1 rfl <| gs 0 (cI (bZ 1)) rfl zz40 rfl rfl rfl rfl rfl rfl rfl <| gn hK2 <| gT ?_; clear h ac; intro ac wo h
 exact ret h rfl (.cell (v := (vI (bZ 1))) rfl (i := 0) rfl aa40 zz40 rfl rfl rfl .nil) rfl (h.retP (by unfold dl; rfl) (by unfold dl; exact s1))
def aq (n : Int) : GQ :=
 (⟨(bZ n), (⟨false, 0⟩ : GI)⟩ : GQ)
theorem bA (n : Int) (k : Nat) (hk : k ≤ 40) (hn : -9223372036854775808 ≤ n ∧ n ≤ 9223372036854775807) (w0 : World) : Calls Tryz.prog 68 #[(.int .i64 n)] w0 (RetP w0 (vQ (aq n)) (SzQ k (aq n))) := by
 refine enter (N := 6) (args := [(.int .i64 n)]) Tryz.func68 rfl rfl ?_; intro ac h
 have c1 := gf n k (by omega)  (by omega)
 have s1 := aG (c1 w0)
 refine cz fun K1 hK1 => ?_
 refine al h (cQ oQ) vv42 rfl rfl fun b1 => gn hK1 <| gr fun K2 hK2 => g0 (ak rfl) rfl <| gl Tryz.call51 rfl c1 rfl <| g0 (bP nt rfl rfl (v := (vQ (⟨(bZ n), (⟨false, 0⟩ : GI)⟩ : GQ))) rfl) rfl <| gs 0 (cQ (⟨(bZ n), (⟨false, 0⟩ : GI)⟩ : GQ)) rfl zz42 rfl rfl rfl rfl rfl rfl rfl <| gn hK2 <| gT ?_; clear h ac; intro ac wo h
 exact ret h rfl (.cell (v := (vQ (⟨(bZ n), (⟨false, 0⟩ : GI)⟩ : GQ))) rfl (i := 0) rfl aa42 zz42 rfl rfl rfl .nil) rfl (h.retP (by unfold aq; rfl) (by unfold aq; exact ⟨s1, (cM 0 (by decide) (by omega))⟩))
def aM (a : GQ) : GI :=
 bif (decide (a.den = (⟨false, 0⟩ : GI))) then
  dl
 else
  a.den
theorem bS (a : GQ) (k : Nat) (hk : k ≤ 40) (za : SzQ k a) (w0 : World) : Calls Tryz.prog 103 #[(vQ a)] w0 (RetP w0 (vI (aM a)) (SzI k (aM a))) := by
 refine enter (N := 10) (args := [(vQ a)]) Tryz.func103 rfl rfl ?_; intro ac h
 refine cz fun K1 hK1 => ?_
 refine bx h (cQ a) rfl rfl rfl fun b1 => ga (cI (⟨false, 0⟩ : GI)) vv40 rfl rfl fun b2 => gn hK1 <| gq fun K2 hK2 => gr fun K3 hK3 => g0 (fa uu42 rfl zz40 rfl rfl rfl (k' := 2)) rfl <| g1 1 rfl (aN aa40 zz40 rfl rfl rfl (v := (vI a.den)) rfl) rfl <| g0 (bP nu rfl rfl (v := (vI (⟨false, 0⟩ : GI))) rfl) rfl <| g0 (lG eqp40 rfl rfl) rfl <| gn hK3 ?_; clear h ac; intro ac wo h
 refine dm h rfl (fun hc1 => ?_) (fun hc1 => ?_)
 ·
  have hd1 := of_decide_eq_true hc1
  have c1 := eq  k (by omega) 
  have s1 := aG (c1 w0)
  refine gz h <| gr fun K4 hK4 => gl cc95 rfl c1 rfl <| gs 0 (cI dl) rfl zz40 rfl rfl rfl rfl rfl rfl rfl <| gn hK4 <| gT ?_; clear h ac wo; intro ac wo h
  have hd : aM a = dl := (cT hc1)
  exact ret h rfl (.cell (v := (vI dl)) rfl (i := 0) rfl aa40 zz40 rfl rfl rfl .nil) rfl (h.retP (by rw [hd] <;> rfl) (by rw [hd]; exact s1))
 ·
  have hd1 := of_decide_eq_false hc1
  refine gz h <| gS <| gx hK2 <| gr fun K5 hK5 => g0 (fa uu42 rfl zz40 rfl rfl rfl (k' := 2)) rfl <| g1 1 rfl (aN aa40 zz40 rfl rfl rfl (v := (vI a.den)) rfl) rfl <| gs 0 (cI a.den) rfl zz40 rfl rfl rfl rfl rfl rfl rfl <| gn hK5 <| gT ?_; clear h ac wo; intro ac wo h
  have hd : aM a = a.den := (cF hc1)
  exact ret h rfl (.cell (v := (vI a.den)) rfl (i := 0) rfl aa40 zz40 rfl rfl rfl .nil) rfl (h.retP (by rw [hd] <;> rfl) (by rw [hd]; exact za.2))
def ay (a : GI) (b : GI) : GI :=
 (ci a b).1
theorem cx (a : GI) (b : GI) (k : Nat) (hk : (k + 1) ≤ 40) (za : SzI (k + 1) a) (zb : SzI (k + 1) b) (w0 : World) : Calls Tryz.prog 94 #[(vI a), (vI b)] w0 (RetP w0 (vI (ay a b)) (SzI k (ay a b))) := by
 refine enter (N := 16) (args := [(vI a), (vI b)]) Tryz.func94 rfl rfl ?_; intro ac h
 have c1 := jD a b k (by omega) za zb
 have s1 := aG (c1 w0)
 refine cz fun K1 hK1 => ?_
 refine bx h (cI a) rfl rfl rfl fun b1 => gb (cI b) rfl rfl rfl fun b2 => ga (cI (⟨false, 0⟩ : GI)) vv40 rfl rfl fun b3 => gn hK1 <| gr fun K2 hK2 => g1 2 rfl (aN aa40 zz40 rfl rfl rfl (v := (vI a)) rfl) rfl <| g1 1 rfl (aN aa40 zz40 rfl rfl rfl (v := (vI b)) rfl) rfl <| gl Tryz.call116 rfl c1 rfl <| g0 (ak rfl) rfl <| g0 (bE rfl rfl) rfl <| g0 (bE rfl rfl) rfl <| g0 (bE rfl rfl) rfl <| ga (cI (⟨false, 0⟩ : GI)) vv40 rfl rfl fun b4 => ga (cI (⟨false, 0⟩ : GI)) vv40 rfl rfl fun b5 => gs 1 (cI ((ci a b).1)) rfl zz40 rfl rfl rfl rfl rfl rfl rfl <| gs 0 (cI ((ci a b).2.1)) rfl zz40 rfl rfl rfl rfl rfl rfl rfl <| g0 (aj rfl) rfl <| gn hK2 <| gr fun K3 hK3 => g1 1 rfl (aN aa40 zz40 rfl rfl rfl (v := (vI ((ci a b).1))) rfl) rfl <| gs 2 (cI ((ci a b).1)) rfl zz40 rfl rfl rfl rfl rfl rfl rfl <| gn hK3 <| gT ?_; clear h ac; intro ac wo h
 exact ret h rfl (.cell (v := (vI ((ci a b).1))) rfl (i := 2) rfl aa40 zz40 rfl rfl rfl .nil) rfl (h.retP (by unfold ay; rfl) (by unfold ay; exact s1.1))
def bD (num : GI) (den : GI) : GQ :=
 bif (decide ((bW den) < 0)) then
  bif (decide ((ay (ao den) (aC (ao num) (ao den))) = dl)) then
   (⟨(ay (ao num) (aC (ao num) (ao den))), (⟨false, 0⟩ : GI)⟩ : GQ)
  else
   (⟨(ay (ao num) (aC (ao num) (ao den))), (ay (ao den) (aC (ao num) (ao den)))⟩ : GQ)
 else
  bif (decide ((ay den (aC num den)) = dl)) then
   (⟨(ay num (aC num den)), (⟨false, 0⟩ : GI)⟩ : GQ)
  else
   (⟨(ay num (aC num den)), (ay den (aC num den))⟩ : GQ)
theorem dR (num : GI) (den : GI) (k : Nat) (hk : (k + 1) ≤ 40) (znum : SzI (k + 1) num) (zden : SzI (k + 1) den) (w0 : World) : Calls Tryz.prog 77 #[(vI num), (vI den)] w0 (RetP w0 (vQ (bD num den)) (SzQ k (bD num den))) := by
 refine enter (N := 29) (args := [(vI num), (vI den)]) Tryz.func77 rfl rfl ?_; intro ac h
 have p2 := aG ((dA den) w0)
 refine cz fun K1 hK1 => ?_
 refine bx h (cI num) rfl rfl rfl fun b1 => gb (cI den) rfl rfl rfl fun b2 => ga (cQ oQ) vv42 rfl rfl fun b3 => gn hK1 <| gq fun K2 hK2 => gr fun K3 hK3 => g1 1 rfl (aN aa40 zz40 rfl rfl rfl (v := (vI den)) rfl) rfl <| gl cc76 rfl (dA den) rfl <| g0 (dr rfl rfl) rfl <| gn hK3 ?_; clear h ac; intro ac wo h
 refine dm h rfl (fun hc1 => ?_) (fun hc1 => ?_)
 ·
  have hd1 := of_decide_eq_true hc1
  have s3 := aG ((dI num (k + 1) (by omega) znum) w0)
  have s4 := aG ((dI den (k + 1) (by omega) zden) w0)
  refine cO mixed [dw _ [2], dv _, dw _ [1], dv _, dw _ [2], dw _ [1]] [⟨_, []⟩, ⟨.blk b2 (cI den) 40, [(5, .con _)]⟩, ⟨.blk b1 (cI num) 40, [(4, .con _)]⟩] h rfl (by kernel_rfl) ⟨fun _ _ => be _ rfl rfl (aN aa40 zz40 rfl rfl rfl (v := (vI num)) rfl), fun _ _ => dN (cY cc92 rfl (dI num (k + 1) (by omega) znum)), fun _ _ => be _ rfl rfl (aN aa40 zz40 rfl rfl rfl (v := (vI den)) rfl), fun _ _ => dN (cY cc92 rfl (dI den (k + 1) (by omega) zden)), fun _ _ => dD _ [.blk b1 (cI (ao num)) 40] rfl rfl (d8 zz40 rfl rfl rfl rfl rfl rfl rfl), fun _ _ => dD _ [.blk b2 (cI (ao den)) 40] rfl rfl (d8 zz40 rfl rfl rfl rfl rfl rfl rfl), trivial⟩ ?_
  clear h ac wo; intro ξ ac wo hφ h
  replace h : St w0 29 [(2, (ptr b1 0)), (3, (ptr b2 0)), (4, (ptr b3 0))] [.blk b3 (cQ oQ) 42, .blk b2 (cI (ao den)) 40, .blk b1 (cI (ao num)) 40] ac wo := h.sub ⟨rfl, rfl, rfl, trivial⟩
  clear hφ ξ
  have c5 := iM (ao num) (ao den) (k + 1) (by omega) s3 s4
  have s5 := aG (c5 w0)
  have s6 := aG ((cx (ao num) (aC (ao num) (ao den)) k (by omega) s3 s5) w0)
  have s7 := aG ((cx (ao den) (aC (ao num) (ao den)) k (by omega) s4 s5) w0)
  refine gz h <| gx hK2 <| gr fun K4 hK4 => g1 2 rfl (aN aa40 zz40 rfl rfl rfl (v := (vI (ao num))) rfl) rfl <| g1 1 rfl (aN aa40 zz40 rfl rfl rfl (v := (vI (ao den))) rfl) rfl <| gl Tryz.call93 rfl c5 rfl <| ga (cI (⟨false, 0⟩ : GI)) vv40 rfl rfl fun b4 => gs 0 (cI (aC (ao num) (ao den))) rfl zz40 rfl rfl rfl rfl rfl rfl rfl <| gn hK4 <| gq fun K5 hK5 => ?_; clear h ac wo; intro ac wo h
  refine cO mixed [dw _ [3], dw _ [0], dv _, dw _ [2], dw _ [0], dv _, dw _ [3], dw _ [2]] [⟨_, []⟩, ⟨_, []⟩, ⟨.blk b2 (cI (ao den)) 40, [(7, .con _)]⟩, ⟨.blk b1 (cI (ao num)) 40, [(6, .con _)]⟩] h rfl (by kernel_rfl) ⟨fun _ _ => be _ rfl rfl (aN aa40 zz40 rfl rfl rfl (v := (vI (ao num))) rfl), fun _ _ => be _ rfl rfl (aN aa40 zz40 rfl rfl rfl (v := (vI (aC (ao num) (ao den)))) rfl), fun _ _ => dN (cY cc94 rfl (cx (ao num) (aC (ao num) (ao den)) k (by omega) s3 s5)), fun _ _ => be _ rfl rfl (aN aa40 zz40 rfl rfl rfl (v := (vI (ao den))) rfl), fun _ _ => be _ rfl rfl (aN aa40 zz40 rfl rfl rfl (v := (vI (aC (ao num) (ao den)))) rfl), fun _ _ => dN (cY cc94 rfl (cx (ao den) (aC (ao num) (ao den)) k (by omega) s4 s5)), fun _ _ => dD _ [.blk b1 (cI (ay (ao num) (aC (ao num) (ao den)))) 40] rfl rfl (d8 zz40 rfl rfl rfl rfl rfl rfl rfl), fun _ _ => dD _ [.blk b2 (cI (ay (ao den) (aC (ao num) (ao den)))) 40] rfl rfl (d8 zz40 rfl rfl rfl rfl rfl rfl rfl), trivial⟩ ?_
  clear h ac wo; intro ξ ac wo hφ h
  replace h : St w0 29 [(2, (ptr b1 0)), (3, (ptr b2 0)), (4, (ptr b3 0))] [.blk b4 (cI (aC (ao num) (ao den))) 40, .blk b3 (cQ oQ) 42, .blk b2 (cI (ay (ao den) (aC (ao num) (ao den)))) 40, .blk b1 (cI (ay (ao num) (aC (ao num) (ao den)))) 40] ac wo := h.sub ⟨rfl, rfl, rfl, trivial⟩
  clear hφ ξ
  refine hK5 _ _ ?_
  refine da fun K6 hK6 => ?_
  refine da fun K7 hK7 => ?_
  have s8 := aG ((eq  (k + 1) (by omega) ) w0)
  refine cO mixed [dw _ [2], dv _, dv _] [⟨_, []⟩, ⟨_, []⟩, ⟨_, []⟩, ⟨_, []⟩] h rfl (by kernel_rfl) ⟨fun _ _ => be _ rfl rfl (aN aa40 zz40 rfl rfl rfl (v := (vI (ay (ao den) (aC (ao num) (ao den))))) rfl), fun _ _ => dN (cY cc95 rfl (eq  (k + 1) (by omega) )), fun _ _ => az (lG eqp40 rfl rfl), trivial⟩ ?_
  clear h ac wo; intro ξ ac wo hφ h
  replace h : St w0 29 [(2, (ptr b1 0)), (3, (ptr b2 0)), (4, (ptr b3 0)), (24, (.bool (decide ((ay (ao den) (aC (ao num) (ao den))) = dl))))] [.blk b4 (cI (aC (ao num) (ao den))) 40, .blk b3 (cQ oQ) 42, .blk b2 (cI (ay (ao den) (aC (ao num) (ao den)))) 40, .blk b1 (cI (ay (ao num) (aC (ao num) (ao den)))) 40] ac wo := h.sub ⟨rfl, rfl, rfl, rfl, trivial⟩
  clear hφ ξ
  refine hK7 _ _ ?_
  refine dm h rfl (fun hc2 => ?_) (fun hc2 => ?_)
  ·
   have hd2 := of_decide_eq_true hc2
   refine gz h <| gR <| g0 (bP nu rfl rfl (v := (vI (⟨false, 0⟩ : GI))) rfl) rfl <| gs 2 (cI (⟨false, 0⟩ : GI)) rfl zz40 rfl rfl rfl rfl rfl rfl rfl <| gn hK6 <| gr fun K8 hK8 => g1 3 rfl (aN aa40 zz40 rfl rfl rfl (v := (vI (ay (ao num) (aC (ao num) (ao den))))) rfl) rfl <| g1 2 rfl (aN aa40 zz40 rfl rfl rfl (v := (vI (⟨false, 0⟩ : GI))) rfl) rfl <| g0 (bP nt rfl rfl (v := (vQ (⟨(ay (ao num) (aC (ao num) (ao den))), (⟨false, 0⟩ : GI)⟩ : GQ))) rfl) rfl <| gs 1 (cQ (⟨(ay (ao num) (aC (ao num) (ao den))), (⟨false, 0⟩ : GI)⟩ : GQ)) rfl zz42 rfl rfl rfl rfl rfl rfl rfl <| gn hK8 <| gT ?_; clear h ac wo; intro ac wo h
   have hd : bD num den = (⟨(ay (ao num) (aC (ao num) (ao den))), (⟨false, 0⟩ : GI)⟩ : GQ) := (Eq.trans (cT hc1) (cT hc2))
   exact ret h rfl (.cell (v := (vQ (⟨(ay (ao num) (aC (ao num) (ao den))), (⟨false, 0⟩ : GI)⟩ : GQ))) rfl (i := 1) rfl aa42 zz42 rfl rfl rfl .nil) rfl (h.retP (by rw [hd] <;> rfl) (by rw [hd]; exact ⟨s6, (cM 0 (by decide) (by omega))⟩))
  ·
   have hd2 := of_decide_eq_false hc2
   refine gz h <| gS <| gx hK6 <| gr fun K9 hK9 => g1 3 rfl (aN aa40 zz40 rfl rfl rfl (v := (vI (ay (ao num) (aC (ao num) (ao den))))) rfl) rfl <| g1 2 rfl (aN aa40 zz40 rfl rfl rfl (v := (vI (ay (ao den) (aC (ao num) (ao den))))) rfl) rfl <| g0 (bP nt rfl rfl (v := (vQ (⟨(ay (ao num) (aC (ao num) (ao den))), (ay (ao den) (aC (ao num) (ao den)))⟩ : GQ))) rfl) rfl <| gs 1 (cQ (⟨(ay (ao num) (aC (ao num) (ao den))), (ay (ao den) (aC (ao num) (ao den)))⟩ : GQ)) rfl zz42 rfl rfl rfl rfl rfl rfl rfl <| gn hK9 <| gT ?_; clear h ac wo; intro ac wo h
   have hd : bD num den = (⟨(ay (ao num) (aC (ao num) (ao den))), (ay (ao den) (aC (ao num) (ao den)))⟩ : GQ) := (Eq.trans (cT hc1) (cF hc2))
   exact ret h rfl (.cell (v := (vQ (⟨(ay (ao num) (aC (ao num) (ao den))), (ay (ao den) (aC (ao num) (ao den)))⟩ : GQ))) rfl (i := 1) rfl aa42 zz42 rfl rfl rfl .nil) rfl (h.retP (by rw [hd] <;> rfl) (by rw [hd]; exact ⟨s6, s7⟩))
 ·
  have hd1 := of_decide_eq_false hc1
  have c9 := iM num den (k + 1) (by omega) znum zden
  have s9 := aG (c9 w0)
  have s10 := aG ((cx num (aC num den) k (by omega) znum s9) w0)
  have s11 := aG ((cx den (aC num den) k (by omega) zden s9) w0)
  refine gz h <| gS <| gx hK2 <| gr fun K10 hK10 => g1 2 rfl (aN aa40 zz40 rfl rfl rfl (v := (vI num)) rfl) rfl <| g1 1 rfl (aN aa40 zz40 rfl rfl rfl (v := (vI den)) rfl) rfl <| gl Tryz.call93 rfl c9 rfl <| ga (cI (⟨false, 0⟩ : GI)) vv40 rfl rfl fun b5 => gs 0 (cI (aC num den)) rfl zz40 rfl rfl rfl rfl rfl rfl rfl <| gn hK10 <| gq fun K11 hK11 => ?_; clear h ac wo; intro ac wo h
  refine cO mixed [dw _ [3], dw _ [0], dv _, dw _ [2], dw _ [0], dv _, dw _ [3], dw _ [2]] [⟨_, []⟩, ⟨_, []⟩, ⟨.blk b2 (cI den) 40, [(7, .con _)]⟩, ⟨.blk b1 (cI num) 40, [(6, .con _)]⟩] h rfl (by kernel_rfl) ⟨fun _ _ => be _ rfl rfl (aN aa40 zz40 rfl rfl rfl (v := (vI num)) rfl), fun _ _ => be _ rfl rfl (aN aa40 zz40 rfl rfl rfl (v := (vI (aC num den))) rfl), fun _ _ => dN (cY cc94 rfl (cx num (aC num den) k (by omega) znum s9)), fun _ _ => be _ rfl rfl (aN aa40 zz40 rfl rfl rfl (v := (vI den)) rfl), fun _ _ => be _ rfl rfl (aN aa40 zz40 rfl rfl rfl (v := (vI (aC num den))) rfl), fun _ _ => dN (cY cc94 rfl (cx den (aC num den) k (by omega) zden s9)), fun _ _ => dD _ [.blk b1 (cI (ay num (aC num den))) 40] rfl rfl (d8 zz40 rfl rfl rfl rfl rfl rfl rfl), fun _ _ => dD _ [.blk b2 (cI (ay den (aC num den))) 40] rfl rfl (d8 zz40 rfl rfl rfl rfl rfl rfl rfl), trivial⟩ ?_
  clear h ac wo; intro ξ ac wo hφ h
  replace h : St w0 29 [(2, (ptr b1 0)), (3, (ptr b2 0)), (4, (ptr b3 0))] [.blk b5 (cI (aC num den)) 40, .blk b3 (cQ oQ) 42, .blk b2 (cI (ay den (aC num den))) 40, .blk b1 (cI (ay num (aC num den))) 40] ac wo := h.sub ⟨rfl, rfl, rfl, trivial⟩
  clear hφ ξ
  refine hK11 _ _ ?_
  refine da fun K12 hK12 => ?_
  refine da fun K13 hK13 => ?_
  have s12 := aG ((eq  (k + 1) (by omega) ) w0)
  refine cO mixed [dw _ [2], dv _, dv _] [⟨_, []⟩, ⟨_, []⟩, ⟨_, []⟩, ⟨_, []⟩] h rfl (by kernel_rfl) ⟨fun _ _ => be _ rfl rfl (aN aa40 zz40 rfl rfl rfl (v := (vI (ay den (aC num den)))) rfl), fun _ _ => dN (cY cc95 rfl (eq  (k + 1) (by omega) )), fun _ _ => az (lG eqp40 rfl rfl), trivial⟩ ?_
  clear h ac wo; intro ξ ac wo hφ h
  replace h : St w0 29 [(2, (ptr b1 0)), (3, (ptr b2 0)), (4, (ptr b3 0)), (24, (.bool (decide ((ay den (aC num den)) = dl))))] [.blk b5 (cI (aC num den)) 40, .blk b3 (cQ oQ) 42, .blk b2 (cI (ay den (aC num den))) 40, .blk b1 (cI (ay num (aC num den))) 40] ac wo := h.sub ⟨rfl, rfl, rfl, rfl, trivial⟩
  clear hφ ξ
  refine hK13 _ _ ?_
  refine dm h rfl (fun hc3 => ?_) (fun hc3 => ?_)
  ·
   have hd3 := of_decide_eq_true hc3
   refine gz h <| gR <| g0 (bP nu rfl rfl (v := (vI (⟨false, 0⟩ : GI))) rfl) rfl <| gs 2 (cI (⟨false, 0⟩ : GI)) rfl zz40 rfl rfl rfl rfl rfl rfl rfl <| gn hK12 <| gr fun K14 hK14 => g1 3 rfl (aN aa40 zz40 rfl rfl rfl (v := (vI (ay num (aC num den)))) rfl) rfl <| g1 2 rfl (aN aa40 zz40 rfl rfl rfl (v := (vI (⟨false, 0⟩ : GI))) rfl) rfl <| g0 (bP nt rfl rfl (v := (vQ (⟨(ay num (aC num den)), (⟨false, 0⟩ : GI)⟩ : GQ))) rfl) rfl <| gs 1 (cQ (⟨(ay num (aC num den)), (⟨false, 0⟩ : GI)⟩ : GQ)) rfl zz42 rfl rfl rfl rfl rfl rfl rfl <| gn hK14 <| gT ?_; clear h ac wo; intro ac wo h
   have hd : bD num den = (⟨(ay num (aC num den)), (⟨false, 0⟩ : GI)⟩ : GQ) := (Eq.trans (cF hc1) (cT hc3))
   exact ret h rfl (.cell (v := (vQ (⟨(ay num (aC num den)), (⟨false, 0⟩ : GI)⟩ : GQ))) rfl (i := 1) rfl aa42 zz42 rfl rfl rfl .nil) rfl (h.retP (by rw [hd] <;> rfl) (by rw [hd]; exact ⟨s10, (cM 0 (by decide) (by omega))⟩))
  ·
   have hd3 := of_decide_eq_false hc3
   refine gz h <| gS <| gx hK12 <| gr fun K15 hK15 => g1 3 rfl (aN aa40 zz40 rfl rfl rfl (v := (vI (ay num (aC num den)))) rfl) rfl <| g1 2 rfl (aN aa40 zz40 rfl rfl rfl (v := (vI (ay den (aC num den)))) rfl) rfl <| g0 (bP nt rfl rfl (v := (vQ (⟨(ay num (aC num den)), (ay den (aC num den))⟩ : GQ))) rfl) rfl <| gs 1 (cQ (⟨(ay num (aC num den)), (ay den (aC num den))⟩ : GQ)) rfl zz42 rfl rfl rfl rfl rfl rfl rfl <| gn hK15 <| gT ?_; clear h ac wo; intro ac wo h
   have hd : bD num den = (⟨(ay num (aC num den)), (ay den (aC num den))⟩ : GQ) := (Eq.trans (cF hc1) (cF hc3))
   exact ret h rfl (.cell (v := (vQ (⟨(ay num (aC num den)), (ay den (aC num den))⟩ : GQ))) rfl (i := 1) rfl aa42 zz42 rfl rfl rfl .nil) rfl (h.retP (by rw [hd] <;> rfl) (by rw [hd]; exact ⟨s10, s11⟩))
def aD (a : GQ) (b : GQ) : GI × GI × GI :=
 bif (decide (a.den = b.den)) then
  (a.num, b.num, (aM a))
 else
  ((bg a.num (aM b)), (bg b.num (aM a)), (bg (aM a) (aM b)))
theorem gw (a : GQ) (b : GQ) (k : Nat) (hk : (k + 1) ≤ 40) (za : SzQ (k + 1) a) (zb : SzQ (k + 1) b) (w0 : World) : Calls Tryz.prog 100 #[(vQ a), (vQ b)] w0 (RetP w0 (.tuple #[(vI ((aD a b).1)), (vI ((aD a b).2.1)), (vI ((aD a b).2.2))]) (SzI k ((aD a b).1) ∧ SzI k ((aD a b).2.1) ∧ SzI k ((aD a b).2.2))) := by
 refine enter (N := 33) (args := [(vQ a), (vQ b)]) Tryz.func100 rfl rfl ?_; intro ac h
 refine cz fun K1 hK1 => ?_
 refine bx h (cQ a) rfl rfl rfl fun b1 => gb (cQ b) rfl rfl rfl fun b2 => ga (cI (⟨false, 0⟩ : GI)) vv40 rfl rfl fun b3 => ga (cI (⟨false, 0⟩ : GI)) vv40 rfl rfl fun b4 => ga (cI (⟨false, 0⟩ : GI)) vv40 rfl rfl fun b5 => gn hK1 <| gq fun K2 hK2 => gr fun K3 hK3 => g0 (fa uu42 rfl zz40 rfl rfl rfl (k' := 2)) rfl <| g1 4 rfl (aN aa40 zz40 rfl rfl rfl (v := (vI a.den)) rfl) rfl <| g0 (fa uu42 rfl zz40 rfl rfl rfl (k' := 2)) rfl <| g1 3 rfl (aN aa40 zz40 rfl rfl rfl (v := (vI b.den)) rfl) rfl <| g0 (lG eqp40 rfl rfl) rfl <| gn hK3 ?_; clear h ac; intro ac wo h
 refine dm h rfl (fun hc1 => ?_) (fun hc1 => ?_)
 ·
  have hd1 := of_decide_eq_true hc1
  refine da fun K4 hK4 => ?_
  have s1 := aG ((bS a (k + 1) (by omega) za) w0)
  refine cO mixed [dv _, dw _ [4], dv _, dw _ [3], dw _ [4], dv _, dw _ [2], dw _ [1], dw _ [0]] [⟨.blk b5 (cI (⟨false, 0⟩ : GI)) 40, [(8, .con _)]⟩, ⟨.blk b4 (cI (⟨false, 0⟩ : GI)) 40, [(7, .con _)]⟩, ⟨.blk b3 (cI (⟨false, 0⟩ : GI)) 40, [(6, .con _)]⟩, ⟨_, []⟩, ⟨_, []⟩] h rfl (by kernel_rfl) ⟨fun _ _ => az (fa uu42 rfl zz40 rfl rfl rfl (k' := 0)), fun _ _ => be _ rfl rfl (aN aa40 zz40 rfl rfl rfl (v := (vI a.num)) rfl), fun _ _ => az (fa uu42 rfl zz40 rfl rfl rfl (k' := 0)), fun _ _ => be _ rfl rfl (aN aa40 zz40 rfl rfl rfl (v := (vI b.num)) rfl), fun _ _ => be _ rfl rfl (aN aa42 zz42 rfl rfl rfl (v := (vQ a)) rfl), fun _ _ => dN (cY cc103 rfl (bS a (k + 1) (by omega) za)), fun _ _ => dD _ [.blk b3 (cI a.num) 40] rfl rfl (d8 zz40 rfl rfl rfl rfl rfl rfl rfl), fun _ _ => dD _ [.blk b4 (cI b.num) 40] rfl rfl (d8 zz40 rfl rfl rfl rfl rfl rfl rfl), fun _ _ => dD _ [.blk b5 (cI (aM a)) 40] rfl rfl (d8 zz40 rfl rfl rfl rfl rfl rfl rfl), trivial⟩ ?_
  clear h ac wo; intro ξ ac wo hφ h
  replace h : St w0 33 [(4, (ptr b3 0)), (5, (ptr b4 0)), (6, (ptr b5 0))] [.blk b5 (cI (aM a)) 40, .blk b4 (cI b.num) 40, .blk b3 (cI a.num) 40, .blk b2 (cQ b) 42, .blk b1 (cQ a) 42] ac wo := h.sub ⟨rfl, rfl, rfl, trivial⟩
  clear hφ ξ
  refine hK4 _ _ ?_
  refine dH ?_
  have hd : aD a b = (a.num, b.num, (aM a)) := (cT hc1)
  exact ret h rfl (.cell (v := (vI a.num)) rfl (i := 2) rfl aa40 zz40 rfl rfl rfl (.cell (v := (vI b.num)) rfl (i := 1) rfl aa40 zz40 rfl rfl rfl (.cell (v := (vI (aM a))) rfl (i := 0) rfl aa40 zz40 rfl rfl rfl .nil))) rfl (h.retP (by rw [hd] <;> rfl) (by rw [hd]; exact ⟨(ex za (by omega)).1, (ex zb (by omega)).1, (iP s1 (by omega))⟩))
 ·
  have hd1 := of_decide_eq_false hc1
  refine d7 ?_
  refine hK2 _ _ ?_
  refine da fun K5 hK5 => ?_
  have s2 := aG ((bS b (k + 1) (by omega) zb) w0)
  have s3 := aG ((de a.num (aM b) k (by omega) za.1 s2) w0)
  have s4 := aG ((bS a (k + 1) (by omega) za) w0)
  have s5 := aG ((de b.num (aM a) k (by omega) zb.1 s4) w0)
  have s6 := aG ((bS a (k + 1) (by omega) za) w0)
  have s7 := aG ((bS b (k + 1) (by omega) zb) w0)
  have s8 := aG ((de (aM a) (aM b) k (by omega) s6 s7) w0)
  refine cO mixed [dv _, dw _ [4], dw _ [3], dv _, dv _, dv _, dw _ [3], dw _ [4], dv _, dv _, dw _ [4], dv _, dw _ [3], dv _, dv _, dw _ [2], dw _ [1], dw _ [0]] [⟨.blk b5 (cI (⟨false, 0⟩ : GI)) 40, [(17, .con _)]⟩, ⟨.blk b4 (cI (⟨false, 0⟩ : GI)) 40, [(16, .con _)]⟩, ⟨.blk b3 (cI (⟨false, 0⟩ : GI)) 40, [(15, .con _)]⟩, ⟨_, []⟩, ⟨_, []⟩] h rfl (by kernel_rfl) ⟨fun _ _ => az (fa uu42 rfl zz40 rfl rfl rfl (k' := 0)), fun _ _ => be _ rfl rfl (aN aa40 zz40 rfl rfl rfl (v := (vI a.num)) rfl), fun _ _ => be _ rfl rfl (aN aa42 zz42 rfl rfl rfl (v := (vQ b)) rfl), fun _ _ => dN (cY cc103 rfl (bS b (k + 1) (by omega) zb)), fun _ _ => dN (cY cc102 rfl (de a.num (aM b) k (by omega) za.1 s2)), fun _ _ => az (fa uu42 rfl zz40 rfl rfl rfl (k' := 0)), fun _ _ => be _ rfl rfl (aN aa40 zz40 rfl rfl rfl (v := (vI b.num)) rfl), fun _ _ => be _ rfl rfl (aN aa42 zz42 rfl rfl rfl (v := (vQ a)) rfl), fun _ _ => dN (cY cc103 rfl (bS a (k + 1) (by omega) za)), fun _ _ => dN (cY cc102 rfl (de b.num (aM a) k (by omega) zb.1 s4)), fun _ _ => be _ rfl rfl (aN aa42 zz42 rfl rfl rfl (v := (vQ a)) rfl), fun _ _ => dN (cY cc103 rfl (bS a (k + 1) (by omega) za)), fun _ _ => be _ rfl rfl (aN aa42 zz42 rfl rfl rfl (v := (vQ b)) rfl), fun _ _ => dN (cY cc103 rfl (bS b (k + 1) (by omega) zb)), fun _ _ => dN (cY cc102 rfl (de (aM a) (aM b) k (by omega) s6 s7)), fun _ _ => dD _ [.blk b3 (cI (bg a.num (aM b))) 40] rfl rfl (d8 zz40 rfl rfl rfl rfl rfl rfl rfl), fun _ _ => dD _ [.blk b4 (cI (bg b.num (aM a))) 40] rfl rfl (d8 zz40 rfl rfl rfl rfl rfl rfl rfl), fun _ _ => dD _ [.blk b5 (cI (bg (aM a) (aM b))) 40] rfl rfl (d8 zz40 rfl rfl rfl rfl rfl rfl rfl), trivial⟩ ?_
  clear h ac wo; intro ξ ac wo hφ h
  replace h : St w0 33 [(4, (ptr b3 0)), (5, (ptr b4 0)), (6, (ptr b5 0))] [.blk b5 (cI (bg (aM a) (aM b))) 40, .blk b4 (cI (bg b.num (aM a))) 40, .blk b3 (cI (bg a.num (aM b))) 40, .blk b2 (cQ b) 42, .blk b1 (cQ a) 42] ac wo := h.sub ⟨rfl, rfl, rfl, trivial⟩
  clear hφ ξ
  refine hK5 _ _ ?_
  refine dH ?_
  have hd : aD a b = ((bg a.num (aM b)), (bg b.num (aM a)), (bg (aM a) (aM b))) := (cF hc1)
  exact ret h rfl (.cell (v := (vI (bg a.num (aM b)))) rfl (i := 2) rfl aa40 zz40 rfl rfl rfl (.cell (v := (vI (bg b.num (aM a)))) rfl (i := 1) rfl aa40 zz40 rfl rfl rfl (.cell (v := (vI (bg (aM a) (aM b)))) rfl (i := 0) rfl aa40 zz40 rfl rfl rfl .nil))) rfl (h.retP (by rw [hd] <;> rfl) (by rw [hd]; exact ⟨s3, s5, s8⟩))
def bn (a : GQ) (b : GQ) : GQ :=
 (bD (dK ((aD a b).1) ((aD a b).2.1)) ((aD a b).2.2))
theorem er (a : GQ) (b : GQ) (k : Nat) (hk : (k + 3) ≤ 40) (za : SzQ (k + 3) a) (zb : SzQ (k + 3) b) (w0 : World) : Calls Tryz.prog 86 #[(vQ a), (vQ b)] w0 (RetP w0 (vQ (bn a b)) (SzQ k (bn a b))) := by
 refine enter (N := 20) (args := [(vQ a), (vQ b)]) Tryz.func86 rfl rfl ?_; intro ac h
 have c1 := gw a b (k + 2) (by omega) za zb
 have s1 := aG (c1 w0)
 have s2 := aG ((iN ((aD a b).1) ((aD a b).2.1) (k + 1) (by omega) s1.1 s1.2.1) w0)
 have s3 := aG ((dR (dK ((aD a b).1) ((aD a b).2.1)) ((aD a b).2.2) k (by omega) s2 (iP s1.2.2 (by omega))) w0)
 refine cz fun K1 hK1 => ?_
 refine bx h (cQ a) rfl rfl rfl fun b1 => gb (cQ b) rfl rfl rfl fun b2 => ga (cQ oQ) vv42 rfl rfl fun b3 => gn hK1 <| gr fun K2 hK2 => g1 2 rfl (aN aa42 zz42 rfl rfl rfl (v := (vQ a)) rfl) rfl <| g1 1 rfl (aN aa42 zz42 rfl rfl rfl (v := (vQ b)) rfl) rfl <| gl Tryz.call100 rfl c1 rfl <| g0 (ak rfl) rfl <| g0 (bE rfl rfl) rfl <| g0 (bE rfl rfl) rfl <| g0 (bE rfl rfl) rfl <| ga (cI (⟨false, 0⟩ : GI)) vv40 rfl rfl fun b4 => ga (cI (⟨false, 0⟩ : GI)) vv40 rfl rfl fun b5 => ga (cI (⟨false, 0⟩ : GI)) vv40 rfl rfl fun b6 => gs 2 (cI ((aD a b).1)) rfl zz40 rfl rfl rfl rfl rfl rfl rfl <| gs 1 (cI ((aD a b).2.1)) rfl zz40 rfl rfl rfl rfl rfl rfl rfl <| gs 0 (cI ((aD a b).2.2)) rfl zz40 rfl rfl rfl rfl rfl rfl rfl <| gn hK2 <| gq fun K3 hK3 => ?_; clear h ac; intro ac wo h
 refine cO mixed [dw _ [2], dw _ [1], dv _, dw _ [0], dv _, dw _ [3]] [⟨_, []⟩, ⟨_, []⟩, ⟨_, []⟩, ⟨.blk b3 (cQ oQ) 42, [(5, .con _)]⟩, ⟨_, []⟩, ⟨_, []⟩] h rfl (by kernel_rfl) ⟨fun _ _ => be _ rfl rfl (aN aa40 zz40 rfl rfl rfl (v := (vI ((aD a b).1))) rfl), fun _ _ => be _ rfl rfl (aN aa40 zz40 rfl rfl rfl (v := (vI ((aD a b).2.1))) rfl), fun _ _ => dN (cY Tryz.call101 rfl (iN ((aD a b).1) ((aD a b).2.1) (k + 1) (by omega) s1.1 s1.2.1)), fun _ _ => be _ rfl rfl (aN aa40 zz40 rfl rfl rfl (v := (vI ((aD a b).2.2))) rfl), fun _ _ => dN (cY Tryz.call77 rfl (dR (dK ((aD a b).1) ((aD a b).2.1)) ((aD a b).2.2) k (by omega) s2 (iP s1.2.2 (by omega)))), fun _ _ => dD _ [.blk b3 (cQ (bD (dK ((aD a b).1) ((aD a b).2.1)) ((aD a b).2.2))) 42] rfl rfl (d8 zz42 rfl rfl rfl rfl rfl rfl rfl), trivial⟩ ?_
 clear h ac wo; intro ξ ac wo hφ h
 replace h : St w0 20 [(4, (ptr b3 0))] [.blk b6 (cI ((aD a b).2.2)) 40, .blk b5 (cI ((aD a b).2.1)) 40, .blk b4 (cI ((aD a b).1)) 40, .blk b3 (cQ (bD (dK ((aD a b).1) ((aD a b).2.1)) ((aD a b).2.2))) 42, .blk b2 (cQ b) 42, .blk b1 (cQ a) 42] ac wo := h.sub ⟨rfl, trivial⟩
 clear hφ ξ
 refine hK3 _ _ ?_
 refine dH ?_
 exact ret h rfl (.cell (v := (vQ (bD (dK ((aD a b).1) ((aD a b).2.1)) ((aD a b).2.2)))) rfl (i := 3) rfl aa42 zz42 rfl rfl rfl .nil) rfl (h.retP (by unfold bn; rfl) (by unfold bn; exact s3))
def br (a : GQ) : GQ :=
 (⟨(ao a.num), a.den⟩ : GQ)
theorem eT (a : GQ) (k : Nat) (hk : k ≤ 40) (za : SzQ k a) (w0 : World) : Calls Tryz.prog 84 #[(vQ a)] w0 (RetP w0 (vQ (br a)) (SzQ k (br a))) := by
 refine enter (N := 9) (args := [(vQ a)]) Tryz.func84 rfl rfl ?_; intro ac h
 have s1 := aG ((dI a.num k (by omega) za.1) w0)
 refine cz fun K1 hK1 => ?_
 refine bx h (cQ a) rfl rfl rfl fun b1 => ga (cQ oQ) vv42 rfl rfl fun b2 => gn hK1 <| gq fun K2 hK2 => ?_; clear h ac; intro ac wo h
 refine cO mixed [dv _, dw _ [1], dv _, dv _, dw _ [1], dv _, dw _ [0]] [⟨.blk b2 (cQ oQ) 42, [(6, .con _)]⟩, ⟨_, []⟩] h rfl (by kernel_rfl) ⟨fun _ _ => az (fa uu42 rfl zz40 rfl rfl rfl (k' := 0)), fun _ _ => be _ rfl rfl (aN aa40 zz40 rfl rfl rfl (v := (vI a.num)) rfl), fun _ _ => dN (cY cc92 rfl (dI a.num k (by omega) za.1)), fun _ _ => az (fa uu42 rfl zz40 rfl rfl rfl (k' := 2)), fun _ _ => be _ rfl rfl (aN aa40 zz40 rfl rfl rfl (v := (vI a.den)) rfl), fun _ _ => az (bP nt rfl rfl (v := (vQ (⟨(ao a.num), a.den⟩ : GQ))) rfl), fun _ _ => dD _ [.blk b2 (cQ (⟨(ao a.num), a.den⟩ : GQ)) 42] rfl rfl (d8 zz42 rfl rfl rfl rfl rfl rfl rfl), trivial⟩ ?_
 clear h ac wo; intro ξ ac wo hφ h
 replace h : St w0 9 [(2, (ptr b2 0))] [.blk b2 (cQ (⟨(ao a.num), a.den⟩ : GQ)) 42, .blk b1 (cQ a) 42] ac wo := h.sub ⟨rfl, trivial⟩
 clear hφ ξ
 refine hK2 _ _ ?_
 refine dH ?_
 exact ret h rfl (.cell (v := (vQ (⟨(ao a.num), a.den⟩ : GQ))) rfl (i := 0) rfl aa42 zz42 rfl rfl rfl .nil) rfl (h.retP (by unfold br; rfl) (by unfold br; exact ⟨s1, za.2⟩))
def aA (a : GQ) (b : GQ) : GQ :=
 (bn a (br b))
theorem eS (a : GQ) (b : GQ) (k : Nat) (hk : (k + 3) ≤ 40) (za : SzQ (k + 3) a) (zb : SzQ (k + 3) b) (w0 : World) : Calls Tryz.prog 82 #[(vQ a), (vQ b)] w0 (RetP w0 (vQ (aA a b)) (SzQ k (aA a b))) := by
 refine enter (N := 9) (args := [(vQ a), (vQ b)]) Tryz.func82 rfl rfl ?_; intro ac h
 have s1 := aG ((eT b (k + 3) (by omega) zb) w0)
 have s2 := aG ((er a (br b) k (by omega) za s1) w0)
 refine cz fun K1 hK1 => ?_
 refine bx h (cQ a) rfl rfl rfl fun b1 => gb (cQ b) rfl rfl rfl fun b2 => ga (cQ oQ) vv42 rfl rfl fun b3 => gn hK1 <| gq fun K2 hK2 => ?_; clear h ac; intro ac wo h
 refine cO mixed [dw _ [2], dw _ [1], dv _, dv _, dw _ [0]] [⟨.blk b3 (cQ oQ) 42, [(4, .con _)]⟩, ⟨_, []⟩, ⟨_, []⟩] h rfl (by kernel_rfl) ⟨fun _ _ => be _ rfl rfl (aN aa42 zz42 rfl rfl rfl (v := (vQ a)) rfl), fun _ _ => be _ rfl rfl (aN aa42 zz42 rfl rfl rfl (v := (vQ b)) rfl), fun _ _ => dN (cY Tryz.call84 rfl (eT b (k + 3) (by omega) zb)), fun _ _ => dN (cY Tryz.call86 rfl (er a (br b) k (by omega) za s1)), fun _ _ => dD _ [.blk b3 (cQ (bn a (br b))) 42] rfl rfl (d8 zz42 rfl rfl rfl rfl rfl rfl rfl), trivial⟩ ?_
 clear h ac wo; intro ξ ac wo hφ h
 replace h : St w0 9 [(4, (ptr b3 0))] [.blk b3 (cQ (bn a (br b))) 42, .blk b2 (cQ b) 42, .blk b1 (cQ a) 42] ac wo := h.sub ⟨rfl, trivial⟩
 clear hφ ξ
 refine hK2 _ _ ?_
 refine dH ?_
 exact ret h rfl (.cell (v := (vQ (bn a (br b)))) rfl (i := 0) rfl aa42 zz42 rfl rfl rfl .nil) rfl (h.retP (by unfold aA; rfl) (by unfold aA; exact s2))
def aK (a : GQ) (b : GQ) : GQ :=
 (bD (bg a.num b.num) (bg (aM a) (aM b)))
theorem ck (a : GQ) (b : GQ) (k : Nat) (hk : (k + 2) ≤ 40) (za : SzQ (k + 2) a) (zb : SzQ (k + 2) b) (w0 : World) : Calls Tryz.prog 87 #[(vQ a), (vQ b)] w0 (RetP w0 (vQ (aK a b)) (SzQ k (aK a b))) := by
 refine enter (N := 16) (args := [(vQ a), (vQ b)]) Tryz.func87 rfl rfl ?_; intro ac h
 have s1 := aG ((de a.num b.num (k + 1) (by omega) za.1 zb.1) w0)
 have s2 := aG ((bS a (k + 2) (by omega) za) w0)
 have s3 := aG ((bS b (k + 2) (by omega) zb) w0)
 have s4 := aG ((de (aM a) (aM b) (k + 1) (by omega) s2 s3) w0)
 have s5 := aG ((dR (bg a.num b.num) (bg (aM a) (aM b)) k (by omega) s1 s4) w0)
 refine cz fun K1 hK1 => ?_
 refine bx h (cQ a) rfl rfl rfl fun b1 => gb (cQ b) rfl rfl rfl fun b2 => ga (cQ oQ) vv42 rfl rfl fun b3 => gn hK1 <| gq fun K2 hK2 => ?_; clear h ac; intro ac wo h
 refine cO mixed [dv _, dw _ [2], dv _, dw _ [1], dv _, dw _ [2], dv _, dw _ [1], dv _, dv _, dv _, dw _ [0]] [⟨.blk b3 (cQ oQ) 42, [(11, .con _)]⟩, ⟨_, []⟩, ⟨_, []⟩] h rfl (by kernel_rfl) ⟨fun _ _ => az (fa uu42 rfl zz40 rfl rfl rfl (k' := 0)), fun _ _ => be _ rfl rfl (aN aa40 zz40 rfl rfl rfl (v := (vI a.num)) rfl), fun _ _ => az (fa uu42 rfl zz40 rfl rfl rfl (k' := 0)), fun _ _ => be _ rfl rfl (aN aa40 zz40 rfl rfl rfl (v := (vI b.num)) rfl), fun _ _ => dN (cY cc102 rfl (de a.num b.num (k + 1) (by omega) za.1 zb.1)), fun _ _ => be _ rfl rfl (aN aa42 zz42 rfl rfl rfl (v := (vQ a)) rfl), fun _ _ => dN (cY cc103 rfl (bS a (k + 2) (by omega) za)), fun _ _ => be _ rfl rfl (aN aa42 zz42 rfl rfl rfl (v := (vQ b)) rfl), fun _ _ => dN (cY cc103 rfl (bS b (k + 2) (by omega) zb)), fun _ _ => dN (cY cc102 rfl (de (aM a) (aM b) (k + 1) (by omega) s2 s3)), fun _ _ => dN (cY Tryz.call77 rfl (dR (bg a.num b.num) (bg (aM a) (aM b)) k (by omega) s1 s4)), fun _ _ => dD _ [.blk b3 (cQ (bD (bg a.num b.num) (bg (aM a) (aM b)))) 42] rfl rfl (d8 zz42 rfl rfl rfl rfl rfl rfl rfl), trivial⟩ ?_
 clear h ac wo; intro ξ ac wo hφ h
 replace h : St w0 16 [(4, (ptr b3 0))] [.blk b3 (cQ (bD (bg a.num b.num) (bg (aM a) (aM b)))) 42, .blk b2 (cQ b) 42, .blk b1 (cQ a) 42] ac wo := h.sub ⟨rfl, trivial⟩
 clear hφ ξ
 refine hK2 _ _ ?_
 refine dH ?_
 exact ret h rfl (.cell (v := (vQ (bD (bg a.num b.num) (bg (aM a) (aM b))))) rfl (i := 0) rfl aa42 zz42 rfl rfl rfl .nil) rfl (h.retP (by unfold aK; rfl) (by unfold aK; exact s5))
def aJ (a : GQ) : Int :=
 (bW a.num)
theorem bY (a : GQ) (w0 : World) : Calls Tryz.prog 55 #[(vQ a)] w0 (RetP w0 (.int .i64 (aJ a)) ((-1 ≤ (aJ a) ∧ (aJ a) ≤ 1))) := by
 refine enter (N := 6) (args := [(vQ a)]) Tryz.func55 rfl rfl ?_; intro ac h
 have p2 := aG ((dA a.num) w0)
 refine cz fun K1 hK1 => ?_
 refine bx h (cQ a) rfl rfl rfl fun b1 => g0 (aj rfl) rfl <| gn hK1 <| gr fun K2 hK2 => g0 (fa uu42 rfl zz40 rfl rfl rfl (k' := 0)) rfl <| g1 0 rfl (aN aa40 zz40 rfl rfl rfl (v := (vI a.num)) rfl) rfl <| gl cc76 rfl (dA a.num) rfl <| g0 (aj rfl) rfl <| gn hK2 <| gT ?_; clear h ac; intro ac wo h
 exact ret h rfl (.tmp rfl .nil) rfl (h.retP (by unfold aJ; rfl) (by unfold aJ; exact by first | omega | exact dM (by omega) (by omega)))
def cU (a : GQ) (b : GQ) : Int :=
 bif (decide (a = b)) then
  0
 else
  (dB ((aD a b).1) ((aD a b).2.1))
theorem fR (a : GQ) (b : GQ) (k : Nat) (hk : (k + 1) ≤ 40) (za : SzQ (k + 1) a) (zb : SzQ (k + 1) b) (w0 : World) : Calls Tryz.prog 99 #[(vQ a), (vQ b)] w0 (RetP w0 (.int .i64 (cU a b)) ((-1 ≤ (cU a b) ∧ (cU a b) ≤ 1))) := by
 refine enter (N := 21) (args := [(vQ a), (vQ b)]) Tryz.func99 rfl rfl ?_; intro ac h
 refine cz fun K1 hK1 => ?_
 refine bx h (cQ a) rfl rfl rfl fun b1 => gb (cQ b) rfl rfl rfl fun b2 => g0 (aj rfl) rfl <| gn hK1 <| gq fun K2 hK2 => gr fun K3 hK3 => g1 1 rfl (aN aa42 zz42 rfl rfl rfl (v := (vQ a)) rfl) rfl <| g1 0 rfl (aN aa42 zz42 rfl rfl rfl (v := (vQ b)) rfl) rfl <| g0 (lG eqp42 rfl rfl) rfl <| gn hK3 ?_; clear h ac; intro ac wo h
 refine dm h rfl (fun hc1 => ?_) (fun hc1 => ?_)
 ·
  have hd1 := of_decide_eq_true hc1
  refine gz h <| gr fun K4 hK4 => g0 (aj rfl) rfl <| gn hK4 <| gT ?_; clear h ac wo; intro ac wo h
  have hd : cU a b = 0 := (cT hc1)
  exact ret h rfl (.tmp rfl .nil) rfl (h.retP (by rw [hd] <;> rfl) (by rw [hd]; exact by first | omega | exact dM (by omega) (by omega)))
 ·
  have hd1 := of_decide_eq_false hc1
  have c1 := gw a b k (by omega) za zb
  have s1 := aG (c1 w0)
  have p3 := aG ((gg ((aD a b).1) ((aD a b).2.1) k (by omega) s1.1 s1.2.1) w0)
  refine gz h <| gS <| gx hK2 <| gr fun K5 hK5 => g1 1 rfl (aN aa42 zz42 rfl rfl rfl (v := (vQ a)) rfl) rfl <| g1 0 rfl (aN aa42 zz42 rfl rfl rfl (v := (vQ b)) rfl) rfl <| gl Tryz.call100 rfl c1 rfl <| g0 (ak rfl) rfl <| g0 (bE rfl rfl) rfl <| g0 (bE rfl rfl) rfl <| g0 (bE rfl rfl) rfl <| ga (cI (⟨false, 0⟩ : GI)) vv40 rfl rfl fun b3 => ga (cI (⟨false, 0⟩ : GI)) vv40 rfl rfl fun b4 => ga (cI (⟨false, 0⟩ : GI)) vv40 rfl rfl fun b5 => gs 2 (cI ((aD a b).1)) rfl zz40 rfl rfl rfl rfl rfl rfl rfl <| gs 1 (cI ((aD a b).2.1)) rfl zz40 rfl rfl rfl rfl rfl rfl rfl <| gs 0 (cI ((aD a b).2.2)) rfl zz40 rfl rfl rfl rfl rfl rfl rfl <| gn hK5 <| gr fun K6 hK6 => g1 2 rfl (aN aa40 zz40 rfl rfl rfl (v := (vI ((aD a b).1))) rfl) rfl <| g1 1 rfl (aN aa40 zz40 rfl rfl rfl (v := (vI ((aD a b).2.1))) rfl) rfl <| gl Tryz.call118 rfl (gg ((aD a b).1) ((aD a b).2.1) k (by omega) s1.1 s1.2.1) rfl <| g0 (aj rfl) rfl <| gn hK6 <| gT ?_; clear h ac wo; intro ac wo h
  have hd : cU a b = (dB ((aD a b).1) ((aD a b).2.1)) := (cF hc1)
  exact ret h rfl (.tmp rfl .nil) rfl (h.retP (by rw [hd] <;> rfl) (by rw [hd]; exact by first | omega | exact dM (by omega) (by omega)))
def aF (c : GQ) : Qd :=
 (⟨c, (⟨(⟨false, 0⟩ : GI), (⟨false, 0⟩ : GI)⟩ : GQ), (⟨(⟨false, 0⟩ : GI), (⟨false, 0⟩ : GI)⟩ : GQ)⟩ : Qd)
theorem fz (c : GQ) (k : Nat) (hk : k ≤ 40) (zc : SzQ k c) (w0 : World) : Calls Tryz.prog 71 #[(vQ c)] w0 (RetP w0 (vD (aF c)) (SzD k (aF c))) := by
 refine enter (N := 5) (args := [(vQ c)]) Tryz.func71 rfl rfl ?_; intro ac h
 refine cz fun K1 hK1 => ?_
 refine bx h (cQ c) rfl rfl rfl fun b1 => ga (cD oD) Tryz.zeroValue75 rfl rfl fun b2 => gn hK1 <| gr fun K2 hK2 => g1 1 rfl (aN aa42 zz42 rfl rfl rfl (v := (vQ c)) rfl) rfl <| g0 (bP bld75 rfl rfl (v := (vD (⟨c, oQ, oQ⟩ : Qd))) rfl) rfl <| gs 0 (cD (⟨c, oQ, oQ⟩ : Qd)) rfl Tryz.sizeOf75 rfl rfl rfl rfl rfl rfl rfl <| gn hK2 <| gT ?_; clear h ac; intro ac wo h
 exact ret h rfl (.cell (v := (vD (⟨c, oQ, oQ⟩ : Qd))) rfl (i := 0) rfl Tryz.isAgg75 Tryz.sizeOf75 rfl rfl rfl .nil) rfl (h.retP (by unfold aF; rfl) (by unfold aF; exact ⟨zc, ⟨(cM 0 (by decide) (by omega)), (cM 0 (by decide) (by omega))⟩, ⟨(cM 0 (by decide) (by omega)), (cM 0 (by decide) (by omega))⟩⟩))
def aP (x : GR) : GQ :=
 bif x.neg then
  (aq (-1))
 else
  (aq 1)
theorem fq (x : GR) (k : Nat) (hk : k ≤ 40) (zx : SzR k x) (w0 : World) : Calls Tryz.prog 83 #[(vR x)] w0 (RetP w0 (vQ (aP x)) (SzQ k (aP x))) := by
 refine enter (N := 7) (args := [(vR x)]) Tryz.func83 rfl rfl ?_; intro ac h
 refine cz fun K1 hK1 => ?_
 refine bx h (cR x) rfl rfl rfl fun b1 => ga (cQ oQ) vv42 rfl rfl fun b2 => gn hK1 <| gq fun K2 hK2 => gr fun K3 hK3 => g0 (fa uu64 rfl zz4 rfl rfl rfl (k' := 8)) rfl <| g1 1 rfl (aN aa4 zz4 rfl rfl rfl (v := (.bool x.neg)) rfl) rfl <| gn hK3 ?_; clear h ac; intro ac wo h
 refine dm h rfl (fun hc1 => ?_) (fun hc1 => ?_)
 ·
  have c1 := bA (-1) k (by omega)  (by omega)
  have s1 := aG (c1 w0)
  refine gz h <| gr fun K4 hK4 => gl cc68 rfl c1 rfl <| gs 0 (cQ (aq (-1))) rfl zz42 rfl rfl rfl rfl rfl rfl rfl <| gn hK4 <| gT ?_; clear h ac wo; intro ac wo h
  have hd : aP x = (aq (-1)) := (cT hc1)
  exact ret h rfl (.cell (v := (vQ (aq (-1)))) rfl (i := 0) rfl aa42 zz42 rfl rfl rfl .nil) rfl (h.retP (by rw [hd] <;> rfl) (by rw [hd]; exact s1))
 ·
  have c2 := bA 1 k (by omega)  (by omega)
  have s2 := aG (c2 w0)
  refine gz h <| gS <| gx hK2 <| gr fun K5 hK5 => gl cc68 rfl c2 rfl <| gs 0 (cQ (aq 1)) rfl zz42 rfl rfl rfl rfl rfl rfl rfl <| gn hK5 <| gT ?_; clear h ac wo; intro ac wo h
  have hd : aP x = (aq 1) := (cF hc1)
  exact ret h rfl (.cell (v := (vQ (aq 1))) rfl (i := 0) rfl aa42 zz42 rfl rfl rfl .nil) rfl (h.retP (by rw [hd] <;> rfl) (by rw [hd]; exact s2))
def cZ (a : GQ) (b : GQ) (r : GQ) : Int :=
 bif ((((aJ b) * (aJ r)) == 0) || ((aJ a) == ((aJ b) * (aJ r)))) then
  (aJ a)
 else
  bif ((aJ a) == 0) then
   ((aJ b) * (aJ r))
  else
   ((aJ a) * (cU (aK a a) (aK (aK b b) r)))
theorem fZ (a : GQ) (b : GQ) (r : GQ) (k : Nat) (hk : (k + 8) ≤ 40) (za : SzQ (k + 8) a) (zb : SzQ (k + 8) b) (zr : SzQ (k + 8) r) (w0 : World) : Calls Tryz.prog 85 #[(vQ a), (vQ b), (vQ r)] w0 (RetP w0 (.int .i64 (cZ a b r)) ((-1 ≤ (cZ a b r) ∧ (cZ a b r) ≤ 1))) := by
 refine enter (N := 40) (args := [(vQ a), (vQ b), (vQ r)]) Tryz.func85 rfl rfl ?_; intro ac h
 have p2 := aG ((bY a) w0)
 have p4 := aG ((bY b) w0)
 have p6 := aG ((bY r) w0)
 refine cz fun K1 hK1 => ?_
 refine bx h (cQ a) rfl rfl rfl fun b1 => gb (cQ b) rfl rfl rfl fun b2 => gb (cQ r) rfl rfl rfl fun b3 => g0 (aj rfl) rfl <| gn hK1 <| gq fun K2 hK2 => ?_; clear h ac; intro ac wo h
 refine cO mixed [dw _ [2], dv _, dw _ [1], dv _, dw _ [0], dv _, dv _, dv _, dv _] [⟨_, []⟩, ⟨_, []⟩, ⟨_, []⟩] h rfl (by kernel_rfl) ⟨fun _ _ => be _ rfl rfl (aN aa42 zz42 rfl rfl rfl (v := (vQ a)) rfl), fun _ _ => dN (cY cc55 rfl (bY a)), fun _ _ => be _ rfl rfl (aN aa42 zz42 rfl rfl rfl (v := (vQ b)) rfl), fun _ _ => dN (cY cc55 rfl (bY b)), fun _ _ => be _ rfl rfl (aN aa42 zz42 rfl rfl rfl (v := (vQ r)) rfl), fun _ _ => dN (cY cc55 rfl (bY r)), fun _ _ => az (jQ rfl rfl (r := ((aJ b) * (aJ r))) (by first | (rw [IntKind.wrap_i64]; omega) | exact fY (by omega) (by omega))), fun _ _ => az (aj rfl), fun _ _ => az (aj rfl), trivial⟩ ?_
 clear h ac wo; intro ξ ac wo hφ h
 replace h : St w0 40 [(3, (ptr b1 0)), (4, (ptr b2 0)), (5, (ptr b3 0)), (7, (.int .i64 (aJ a))), (8, (.int .i64 ((aJ b) * (aJ r))))] [.blk b3 (cQ r) 42, .blk b2 (cQ b) 42, .blk b1 (cQ a) 42] ac wo := h.sub ⟨rfl, rfl, rfl, rfl, rfl, trivial⟩
 clear hφ ξ
 refine gz h <| gx hK2 <| gq fun K3 hK3 => gB <| gr fun K4 hK4 => g0 (ak rfl) rfl <| g0 (eG rfl rfl) rfl <| g0 (ak rfl) rfl <| ge2 rfl rfl (fun hg => (Rd.of_nil (ak rfl)).step) rfl <| ge2 rfl rfl (fun hg => (Rd.of_nil (ak rfl)).step) rfl <| ge2 rfl rfl (fun hg => (Rd.of_nil (eG (bh rfl hg) (bh rfl hg))).step) rfl <| g0 (r_or rfl (fun e => (bh rfl (notI e)))) rfl <| g0 (aj rfl) rfl <| gn hK4 ?_; clear h ac wo; intro ac wo h
 refine dm h rfl (fun hc1 => ?_) (fun hc1 => ?_)
 ·
  refine gz h <| gr fun K5 hK5 => g0 (ak rfl) rfl <| g0 (aj rfl) rfl <| gn hK5 <| gT ?_; clear h ac wo; intro ac wo h
  have hd : cZ a b r = (aJ a) := (cT hc1)
  exact ret h rfl (.tmp rfl .nil) rfl (h.retP (by rw [hd] <;> rfl) (by rw [hd]; exact by first | omega | exact dM (by omega) (by omega)))
 ·
  refine gz h <| gr fun K6 hK6 => g0 (ak rfl) rfl <| g0 (eG rfl rfl) rfl <| g0 (aj rfl) rfl <| gn hK6 ?_; clear h ac wo; intro ac wo h
  refine dm h rfl (fun hc2 => ?_) (fun hc2 => ?_)
  ·
   have hd2 := eq_of_beq hc2
   refine gz h <| gr fun K7 hK7 => g0 (ak rfl) rfl <| g0 (aj rfl) rfl <| gn hK7 <| gT ?_; clear h ac wo; intro ac wo h
   have hd : cZ a b r = ((aJ b) * (aJ r)) := (Eq.trans (cF hc1) (cT hc2))
   exact ret h rfl (.tmp rfl .nil) rfl (h.retP (by rw [hd] <;> rfl) (by rw [hd]; exact by first | omega | exact dM (by omega) (by omega)))
  ·
   have hd2 := ne_of_beq_false hc2
   refine d7 ?_
   refine lY ?_
   refine hK3 _ _ ?_
   refine da fun K8 hK8 => ?_
   have s7 := aG ((ck a a (k + 6) (by omega) za za) w0)
   have s8 := aG ((ck b b (k + 6) (by omega) zb zb) w0)
   have s9 := aG ((ck (aK b b) r (k + 4) (by omega) s8 (ex zr (by omega))) w0)
   have p11 := aG ((fR (aK a a) (aK (aK b b) r) (k + 3) (by omega) (ex s7 (by omega)) s9) w0)
   refine cO mixed [dv _, dw _ [2], dw _ [2], dv _, dw _ [1], dw _ [1], dv _, dw _ [0], dv _, dv _, dv _, dv _] [⟨_, []⟩, ⟨_, []⟩, ⟨_, []⟩] h rfl (by kernel_rfl) ⟨fun _ _ => om rfl, fun _ _ => be _ rfl rfl (aN aa42 zz42 rfl rfl rfl (v := (vQ a)) rfl), fun _ _ => be _ rfl rfl (aN aa42 zz42 rfl rfl rfl (v := (vQ a)) rfl), fun _ _ => dN (cY cc87 rfl (ck a a (k + 6) (by omega) za za)), fun _ _ => be _ rfl rfl (aN aa42 zz42 rfl rfl rfl (v := (vQ b)) rfl), fun _ _ => be _ rfl rfl (aN aa42 zz42 rfl rfl rfl (v := (vQ b)) rfl), fun _ _ => dN (cY cc87 rfl (ck b b (k + 6) (by omega) zb zb)), fun _ _ => be _ rfl rfl (aN aa42 zz42 rfl rfl rfl (v := (vQ r)) rfl), fun _ _ => dN (cY cc87 rfl (ck (aK b b) r (k + 4) (by omega) s8 (ex zr (by omega)))), fun _ _ => dN (cY Tryz.call99 rfl (fR (aK a a) (aK (aK b b) r) (k + 3) (by omega) (ex s7 (by omega)) s9)), fun _ _ => az (jQ rfl rfl (r := ((aJ a) * (cU (aK a a) (aK (aK b b) r)))) (by first | (rw [IntKind.wrap_i64]; omega) | exact fY (by omega) (by omega))), fun _ _ => az (aj rfl), trivial⟩ ?_
   clear h ac wo; intro ξ ac wo hφ h
   replace h : St w0 40 [(6, (.int .i64 ((aJ a) * (cU (aK a a) (aK (aK b b) r)))))] [.blk b3 (cQ r) 42, .blk b2 (cQ b) 42, .blk b1 (cQ a) 42] ac wo := h.sub ⟨rfl, trivial⟩
   clear hφ ξ
   refine hK8 _ _ ?_
   refine dH ?_
   have hd : cZ a b r = ((aJ a) * (cU (aK a a) (aK (aK b b) r))) := (Eq.trans (cF hc1) (cF hc2))
   exact ret h rfl (.tmp rfl .nil) rfl (h.retP (by rw [hd] <;> rfl) (by rw [hd]; exact by first | omega | exact dM (by omega) (by omega)))
def bm (x : GR) (y : GR) : Int :=
 bif ((((aJ (br (aP y))) * (aJ y.r)) == 0) || ((cZ (aA x.p y.p) (aP x) x.r) == ((aJ (br (aP y))) * (aJ y.r)))) then
  (cZ (aA x.p y.p) (aP x) x.r)
 else
  bif ((cZ (aA x.p y.p) (aP x) x.r) == 0) then
   ((aJ (br (aP y))) * (aJ y.r))
  else
   ((cZ (aA x.p y.p) (aP x) x.r) * (cZ (aA (bn (aK (aA x.p y.p) (aA x.p y.p)) x.r) y.r) (aK (aq 2) (aK (aA x.p y.p) (aP x))) x.r))
theorem eR (x : GR) (y : GR) (k : Nat) (hk : (k + 20) ≤ 40) (zx : SzR (k + 20) x) (zy : SzR (k + 20) y) (w0 : World) : Calls Tryz.prog 65 #[(vR x), (vR y)] w0 (RetP w0 (.int .i64 (bm x y)) ((-1 ≤ (bm x y) ∧ (bm x y) ≤ 1))) := by
 refine enter (N := 65) (args := [(vR x), (vR y)]) Tryz.func65 rfl rfl ?_; intro ac h
 have s1 := aG ((eS x.p y.p (k + 17) (by omega) zx.1 zy.1) w0)
 have s2 := aG ((fq x (k + 20) (by omega) zx) w0)
 have s3 := aG ((fq y (k + 20) (by omega) zy) w0)
 have s4 := aG ((eT (aP y) (k + 20) (by omega) s3) w0)
 refine cz fun K1 hK1 => ?_
 refine bx h (cR x) rfl rfl rfl fun b1 => gb (cR y) rfl rfl rfl fun b2 => g0 (aj rfl) rfl <| gn hK1 <| gq fun K2 hK2 => ?_; clear h ac; intro ac wo h
 replace h := h.emps 3
 refine cO mixed [dv _, dw _ [1], dv _, dw _ [0], dv _, dw _ [1], dv _, dw _ [0], dv _, dv _, ⟨.nd (.one 10 fun v => ∃ b, v = ptr b 0), [2]⟩, ⟨.nd (.one 11 fun v => ∃ b, v = ptr b 0), [3]⟩, ⟨.nd (.one 12 fun v => ∃ b, v = ptr b 0), [4]⟩, ⟨.det undef, [2]⟩, ⟨.det undef, [3]⟩, ⟨.det undef, [4]⟩] [⟨_, []⟩, ⟨_, []⟩, ⟨.emp, [(10, .one 10 fun v => .blk (a8 v) (cQ oQ) 42), (13, .one 10 fun v => .blk (a8 v) (cQ (aA x.p y.p)) 42)]⟩, ⟨.emp, [(11, .one 11 fun v => .blk (a8 v) (cQ oQ) 42), (14, .one 11 fun v => .blk (a8 v) (cQ (aP x)) 42)]⟩, ⟨.emp, [(12, .one 12 fun v => .blk (a8 v) (cQ oQ) 42), (15, .one 12 fun v => .blk (a8 v) (cQ (br (aP y))) 42)]⟩] h rfl (by kernel_rfl) ⟨fun _ _ => az (fa uu64 rfl zz42 rfl rfl rfl (k' := 0)), fun _ _ => be _ rfl rfl (aN aa42 zz42 rfl rfl rfl (v := (vQ x.p)) rfl), fun _ _ => az (fa uu64 rfl zz42 rfl rfl rfl (k' := 0)), fun _ _ => be _ rfl rfl (aN aa42 zz42 rfl rfl rfl (v := (vQ y.p)) rfl), fun _ _ => dN (cY Tryz.call82 rfl (eS x.p y.p (k + 17) (by omega) zx.1 zy.1)), fun _ _ => be _ rfl rfl (aN aa64 zz64 rfl rfl rfl (v := (vR x)) rfl), fun _ _ => dN (cY Tryz.call83 rfl (fq x (k + 20) (by omega) zx)), fun _ _ => be _ rfl rfl (aN aa64 zz64 rfl rfl rfl (v := (vR y)) rfl), fun _ _ => dN (cY Tryz.call83 rfl (fq y (k + 20) (by omega) zy)), fun _ _ => dN (cY Tryz.call84 rfl (eT (aP y) (k + 20) (by omega) s3)), fun _ _ => dJ (ψ := fun v => ∃ b, v = ptr b 0) (B := fun v => [.blk (a8 v) (cQ oQ) 42]) [.emp] rfl (fun v _ => by simp only [bC, aw] <;> rfl) (fun v hv => by simpa [DF.one, aw] using hv) (fc (dq vv42 rfl)), fun _ _ => dJ (ψ := fun v => ∃ b, v = ptr b 0) (B := fun v => [.blk (a8 v) (cQ oQ) 42]) [.emp] rfl (fun v _ => by simp only [bC, aw] <;> rfl) (fun v hv => by simpa [DF.one, aw] using hv) (fc (dq vv42 rfl)), fun _ _ => dJ (ψ := fun v => ∃ b, v = ptr b 0) (B := fun v => [.blk (a8 v) (cQ oQ) 42]) [.emp] rfl (fun v _ => by simp only [bC, aw] <;> rfl) (fun v hv => by simpa [DF.one, aw] using hv) (fc (dq vv42 rfl)), (fun ξ hφ => by obtain ⟨b3, hb10⟩ := hφ 10 rfl; exact dD [.blk b3 (cQ oQ) 42] [.blk b3 (cQ (aA x.p y.p)) 42] (congrArg (fun v => [Asn.blk (a8 v) (cQ oQ) 42]) hb10) (congrArg (fun v => [Asn.blk (a8 v) (cQ (aA x.p y.p)) 42]) hb10) (d8 zz42 (Eq.trans rfl (congrArg some hb10)) rfl rfl rfl rfl rfl rfl)), (fun ξ hφ => by obtain ⟨b4, hb11⟩ := hφ 11 rfl; exact dD [.blk b4 (cQ oQ) 42] [.blk b4 (cQ (aP x)) 42] (congrArg (fun v => [Asn.blk (a8 v) (cQ oQ) 42]) hb11) (congrArg (fun v => [Asn.blk (a8 v) (cQ (aP x)) 42]) hb11) (d8 zz42 (Eq.trans rfl (congrArg some hb11)) rfl rfl rfl rfl rfl rfl)), (fun ξ hφ => by obtain ⟨b5, hb12⟩ := hφ 12 rfl; exact dD [.blk b5 (cQ oQ) 42] [.blk b5 (cQ (br (aP y))) 42] (congrArg (fun v => [Asn.blk (a8 v) (cQ oQ) 42]) hb12) (congrArg (fun v => [Asn.blk (a8 v) (cQ (br (aP y))) 42]) hb12) (d8 zz42 (Eq.trans rfl (congrArg some hb12)) rfl rfl rfl rfl rfl rfl)), trivial⟩ ?_
 clear h ac wo; intro ξ ac wo hφ h
 replace h : St w0 65 [(2, (ptr b1 0)), (3, (ptr b2 0)), (5, ξ 10), (6, ξ 11), (7, ξ 12)] [.blk b2 (cR y) 64, .blk b1 (cR x) 64, .blk (a8 (ξ 10)) (cQ (aA x.p y.p)) 42, .blk (a8 (ξ 11)) (cQ (aP x)) 42, .blk (a8 (ξ 12)) (cQ (br (aP y))) 42] ac wo := h.sub ⟨rfl, rfl, rfl, rfl, rfl, trivial⟩
 revert h
 obtain ⟨b3, hb10⟩ : ∃ b, ξ 10 = ptr b 0 := hφ 10
 obtain ⟨b4, hb11⟩ : ∃ b, ξ 11 = ptr b 0 := hφ 11
 obtain ⟨b5, hb12⟩ : ∃ b, ξ 12 = ptr b 0 := hφ 12
 rw [hb10, hb11, hb12]; intro h
 clear hb10 hb11 hb12 hφ ξ
 refine hK2 _ _ ?_
 refine da fun K3 hK3 => ?_
 have p6 := aG ((fZ (aA x.p y.p) (aP x) x.r (k + 9) (by omega) s1 (ex s2 (by omega)) (cB zx (by omega)).2) w0)
 have p8 := aG ((bY (br (aP y))) w0)
 have p10 := aG ((bY y.r) w0)
 refine cO mixed [dw _ [2], dw _ [3], dv _, dw _ [1], dv _, dw _ [4], dv _, dv _, dw _ [0], dv _, dv _, dv _, dv _] [⟨_, []⟩, ⟨_, []⟩, ⟨_, []⟩, ⟨_, []⟩, ⟨_, []⟩] h rfl (by kernel_rfl) ⟨fun _ _ => be _ rfl rfl (aN aa42 zz42 rfl rfl rfl (v := (vQ (aA x.p y.p))) rfl), fun _ _ => be _ rfl rfl (aN aa42 zz42 rfl rfl rfl (v := (vQ (aP x))) rfl), fun _ _ => az (fa uu64 rfl zz42 rfl rfl rfl (k' := 4)), fun _ _ => be _ rfl rfl (aN aa42 zz42 rfl rfl rfl (v := (vQ x.r)) rfl), fun _ _ => dN (cY Tryz.call85 rfl (fZ (aA x.p y.p) (aP x) x.r (k + 9) (by omega) s1 (ex s2 (by omega)) (cB zx (by omega)).2)), fun _ _ => be _ rfl rfl (aN aa42 zz42 rfl rfl rfl (v := (vQ (br (aP y)))) rfl), fun _ _ => dN (cY cc55 rfl (bY (br (aP y)))), fun _ _ => az (fa uu64 rfl zz42 rfl rfl rfl (k' := 4)), fun _ _ => be _ rfl rfl (aN aa42 zz42 rfl rfl rfl (v := (vQ y.r)) rfl), fun _ _ => dN (cY cc55 rfl (bY y.r)), fun _ _ => az (jQ rfl rfl (r := ((aJ (br (aP y))) * (aJ y.r))) (by first | (rw [IntKind.wrap_i64]; omega) | exact fY (by omega) (by omega))), fun _ _ => az (aj rfl), fun _ _ => az (aj rfl), trivial⟩ ?_
 clear h ac wo; intro ξ ac wo hφ h
 replace h : St w0 65 [(2, (ptr b1 0)), (3, (ptr b2 0)), (5, (ptr b3 0)), (6, (ptr b4 0)), (8, (.int .i64 (cZ (aA x.p y.p) (aP x) x.r))), (9, (.int .i64 ((aJ (br (aP y))) * (aJ y.r))))] [.blk b2 (cR y) 64, .blk b1 (cR x) 64, .blk b3 (cQ (aA x.p y.p)) 42, .blk b4 (cQ (aP x)) 42, .blk b5 (cQ (br (aP y))) 42] ac wo := h.sub ⟨rfl, rfl, rfl, rfl, rfl, rfl, trivial⟩
 clear hφ ξ
 refine gz h <| gx hK3 <| gq fun K4 hK4 => gB <| gr fun K5 hK5 => g0 (ak rfl) rfl <| g0 (eG rfl rfl) rfl <| g0 (ak rfl) rfl <| ge2 rfl rfl (fun hg => (Rd.of_nil (ak rfl)).step) rfl <| ge2 rfl rfl (fun hg => (Rd.of_nil (ak rfl)).step) rfl <| ge2 rfl rfl (fun hg => (Rd.of_nil (eG (bh rfl hg) (bh rfl hg))).step) rfl <| g0 (r_or rfl (fun e => (bh rfl (notI e)))) rfl <| g0 (aj rfl) rfl <| gn hK5 ?_; clear h ac wo; intro ac wo h
 refine dm h rfl (fun hc1 => ?_) (fun hc1 => ?_)
 ·
  refine gz h <| gr fun K6 hK6 => g0 (ak rfl) rfl <| g0 (aj rfl) rfl <| gn hK6 <| gT ?_; clear h ac wo; intro ac wo h
  have hd : bm x y = (cZ (aA x.p y.p) (aP x) x.r) := (cT hc1)
  exact ret h rfl (.tmp rfl .nil) rfl (h.retP (by rw [hd] <;> rfl) (by rw [hd]; exact by first | omega | exact dM (by omega) (by omega)))
 ·
  refine gz h <| gr fun K7 hK7 => g0 (ak rfl) rfl <| g0 (eG rfl rfl) rfl <| g0 (aj rfl) rfl <| gn hK7 ?_; clear h ac wo; intro ac wo h
  refine dm h rfl (fun hc2 => ?_) (fun hc2 => ?_)
  ·
   have hd2 := eq_of_beq hc2
   refine gz h <| gr fun K8 hK8 => g0 (ak rfl) rfl <| g0 (aj rfl) rfl <| gn hK8 <| gT ?_; clear h ac wo; intro ac wo h
   have hd : bm x y = ((aJ (br (aP y))) * (aJ y.r)) := (Eq.trans (cF hc1) (cT hc2))
   exact ret h rfl (.tmp rfl .nil) rfl (h.retP (by rw [hd] <;> rfl) (by rw [hd]; exact by first | omega | exact dM (by omega) (by omega)))
  ·
   have hd2 := ne_of_beq_false hc2
   refine d7 ?_
   refine lY ?_
   refine hK4 _ _ ?_
   refine da fun K9 hK9 => ?_
   have s11 := aG ((ck (aA x.p y.p) (aA x.p y.p) (k + 15) (by omega) s1 s1) w0)
   have s12 := aG ((er (aK (aA x.p y.p) (aA x.p y.p)) x.r (k + 12) (by omega) s11 (cB zx (by omega)).2) w0)
   have s13 := aG ((eS (bn (aK (aA x.p y.p) (aA x.p y.p)) x.r) y.r (k + 9) (by omega) s12 (cB zy (by omega)).2) w0)
   replace h := h.emps 1
   refine cO mixed [dw _ [2], dw _ [2], dv _, dv _, dw _ [1], dv _, dv _, dw _ [0], dv _, ⟨.nd (.one 9 fun v => ∃ b, v = ptr b 0), [5]⟩, ⟨.det undef, [5]⟩] [⟨_, []⟩, ⟨_, []⟩, ⟨_, []⟩, ⟨_, []⟩, ⟨_, []⟩, ⟨.emp, [(9, .one 9 fun v => .blk (a8 v) (cQ oQ) 42), (10, .one 9 fun v => .blk (a8 v) (cQ (aA (bn (aK (aA x.p y.p) (aA x.p y.p)) x.r) y.r)) 42)]⟩] h rfl (by kernel_rfl) ⟨fun _ _ => be _ rfl rfl (aN aa42 zz42 rfl rfl rfl (v := (vQ (aA x.p y.p))) rfl), fun _ _ => be _ rfl rfl (aN aa42 zz42 rfl rfl rfl (v := (vQ (aA x.p y.p))) rfl), fun _ _ => dN (cY cc87 rfl (ck (aA x.p y.p) (aA x.p y.p) (k + 15) (by omega) s1 s1)), fun _ _ => az (fa uu64 rfl zz42 rfl rfl rfl (k' := 4)), fun _ _ => be _ rfl rfl (aN aa42 zz42 rfl rfl rfl (v := (vQ x.r)) rfl), fun _ _ => dN (cY Tryz.call86 rfl (er (aK (aA x.p y.p) (aA x.p y.p)) x.r (k + 12) (by omega) s11 (cB zx (by omega)).2)), fun _ _ => az (fa uu64 rfl zz42 rfl rfl rfl (k' := 4)), fun _ _ => be _ rfl rfl (aN aa42 zz42 rfl rfl rfl (v := (vQ y.r)) rfl), fun _ _ => dN (cY Tryz.call82 rfl (eS (bn (aK (aA x.p y.p) (aA x.p y.p)) x.r) y.r (k + 9) (by omega) s12 (cB zy (by omega)).2)), fun _ _ => dJ (ψ := fun v => ∃ b, v = ptr b 0) (B := fun v => [.blk (a8 v) (cQ oQ) 42]) [.emp] rfl (fun v _ => by simp only [bC, aw] <;> rfl) (fun v hv => by simpa [DF.one, aw] using hv) (fc (dq vv42 rfl)), (fun ξ hφ => by obtain ⟨b6, hb9⟩ := hφ 9 rfl; exact dD [.blk b6 (cQ oQ) 42] [.blk b6 (cQ (aA (bn (aK (aA x.p y.p) (aA x.p y.p)) x.r) y.r)) 42] (congrArg (fun v => [Asn.blk (a8 v) (cQ oQ) 42]) hb9) (congrArg (fun v => [Asn.blk (a8 v) (cQ (aA (bn (aK (aA x.p y.p) (aA x.p y.p)) x.r) y.r)) 42]) hb9) (d8 zz42 (Eq.trans rfl (congrArg some hb9)) rfl rfl rfl rfl rfl rfl)), trivial⟩ ?_
   clear h ac wo; intro ξ ac wo hφ h
   replace h : St w0 65 [(2, (ptr b1 0)), (5, (ptr b3 0)), (6, (ptr b4 0)), (8, (.int .i64 (cZ (aA x.p y.p) (aP x) x.r))), (10, ξ 9)] [.blk b2 (cR y) 64, .blk b1 (cR x) 64, .blk b3 (cQ (aA x.p y.p)) 42, .blk b4 (cQ (aP x)) 42, .blk b5 (cQ (br (aP y))) 42, .blk (a8 (ξ 9)) (cQ (aA (bn (aK (aA x.p y.p) (aA x.p y.p)) x.r) y.r)) 42] ac wo := h.sub ⟨rfl, rfl, rfl, rfl, rfl, trivial⟩
   revert h
   obtain ⟨b6, hb9⟩ : ∃ b, ξ 9 = ptr b 0 := hφ 9
   rw [hb9]; intro h
   clear hb9 hφ ξ
   refine hK9 _ _ ?_
   refine da fun K10 hK10 => ?_
   have s14 := aG ((bA 2 (k + 20) (by omega)  (by omega)) w0)
   have s15 := aG ((ck (aA x.p y.p) (aP x) (k + 15) (by omega) s1 (ex s2 (by omega))) w0)
   have s16 := aG ((ck (aq 2) (aK (aA x.p y.p) (aP x)) (k + 13) (by omega) (ex s14 (by omega)) s15) w0)
   have p18 := aG ((fZ (aA (bn (aK (aA x.p y.p) (aA x.p y.p)) x.r) y.r) (aK (aq 2) (aK (aA x.p y.p) (aP x))) x.r (k + 1) (by omega) s13 (ex s16 (by omega)) (cB zx (by omega)).2) w0)
   refine cO mixed [dv _, dw _ [5], dv _, dw _ [2], dw _ [3], dv _, dv _, dv _, dw _ [1], dv _, dv _, dv _] [⟨_, []⟩, ⟨_, []⟩, ⟨_, []⟩, ⟨_, []⟩, ⟨_, []⟩, ⟨_, []⟩] h rfl (by kernel_rfl) ⟨fun _ _ => om rfl, fun _ _ => be _ rfl rfl (aN aa42 zz42 rfl rfl rfl (v := (vQ (aA (bn (aK (aA x.p y.p) (aA x.p y.p)) x.r) y.r))) rfl), fun _ _ => dN (cY cc68 rfl (bA 2 (k + 20) (by omega)  (by omega))), fun _ _ => be _ rfl rfl (aN aa42 zz42 rfl rfl rfl (v := (vQ (aA x.p y.p))) rfl), fun _ _ => be _ rfl rfl (aN aa42 zz42 rfl rfl rfl (v := (vQ (aP x))) rfl), fun _ _ => dN (cY cc87 rfl (ck (aA x.p y.p) (aP x) (k + 15) (by omega) s1 (ex s2 (by omega)))), fun _ _ => dN (cY cc87 rfl (ck (aq 2) (aK (aA x.p y.p) (aP x)) (k + 13) (by omega) (ex s14 (by omega)) s15)), fun _ _ => az (fa uu64 rfl zz42 rfl rfl rfl (k' := 4)), fun _ _ => be _ rfl rfl (aN aa42 zz42 rfl rfl rfl (v := (vQ x.r)) rfl), fun _ _ => dN (cY Tryz.call85 rfl (fZ (aA (bn (aK (aA x.p y.p) (aA x.p y.p)) x.r) y.r) (aK (aq 2) (aK (aA x.p y.p) (aP x))) x.r (k + 1) (by omega) s13 (ex s16 (by omega)) (cB zx (by omega)).2)), fun _ _ => az (jQ rfl rfl (r := ((cZ (aA x.p y.p) (aP x) x.r) * (cZ (aA (bn (aK (aA x.p y.p) (aA x.p y.p)) x.r) y.r) (aK (aq 2) (aK (aA x.p y.p) (aP x))) x.r))) (by first | (rw [IntKind.wrap_i64]; omega) | exact fY (by omega) (by omega))), fun _ _ => az (aj rfl), trivial⟩ ?_
   clear h ac wo; intro ξ ac wo hφ h
   replace h : St w0 65 [(4, (.int .i64 ((cZ (aA x.p y.p) (aP x) x.r) * (cZ (aA (bn (aK (aA x.p y.p) (aA x.p y.p)) x.r) y.r) (aK (aq 2) (aK (aA x.p y.p) (aP x))) x.r))))] [.blk b2 (cR y) 64, .blk b1 (cR x) 64, .blk b3 (cQ (aA x.p y.p)) 42, .blk b4 (cQ (aP x)) 42, .blk b5 (cQ (br (aP y))) 42, .blk b6 (cQ (aA (bn (aK (aA x.p y.p) (aA x.p y.p)) x.r) y.r)) 42] ac wo := h.sub ⟨rfl, trivial⟩
   clear hφ ξ
   refine hK10 _ _ ?_
   refine dH ?_
   have hd : bm x y = ((cZ (aA x.p y.p) (aP x) x.r) * (cZ (aA (bn (aK (aA x.p y.p) (aA x.p y.p)) x.r) y.r) (aK (aq 2) (aK (aA x.p y.p) (aP x))) x.r)) := (Eq.trans (cF hc1) (cF hc2))
   exact ret h rfl (.tmp rfl .nil) rfl (h.retP (by rw [hd] <;> rfl) (by rw [hd]; exact by first | omega | exact dM (by omega) (by omega)))
def bV (n : Int) : GR :=
 (⟨(aq n), (⟨(⟨false, 0⟩ : GI), (⟨false, 0⟩ : GI)⟩ : GQ), false⟩ : GR)
theorem kb (n : Int) (k : Nat) (hk : k ≤ 40) (hn : -9223372036854775808 ≤ n ∧ n ≤ 9223372036854775807) (w0 : World) : Calls Tryz.prog 104 #[(.int .i64 n)] w0 (RetP w0 (vR (bV n)) (SzR k (bV n))) := by
 refine enter (N := 6) (args := [(.int .i64 n)]) Tryz.func104 rfl rfl ?_; intro ac h
 have c1 := bA n k (by omega)  (by omega)
 have s1 := aG (c1 w0)
 refine cz fun K1 hK1 => ?_
 refine al h (cR (⟨oQ, oQ, false⟩ : GR)) vv64 rfl rfl fun b1 => gn hK1 <| gr fun K2 hK2 => g0 (ak rfl) rfl <| gl cc68 rfl c1 rfl <| g0 (bP bld64 rfl rfl (v := (vR (⟨(aq n), oQ, false⟩ : GR))) rfl) rfl <| gs 0 (cR (⟨(aq n), oQ, false⟩ : GR)) rfl zz64 rfl rfl rfl rfl rfl rfl rfl <| gn hK2 <| gT ?_; clear h ac; intro ac wo h
 exact ret h rfl (.cell (v := (vR (⟨(aq n), oQ, false⟩ : GR))) rfl (i := 0) rfl aa64 zz64 rfl rfl rfl .nil) rfl (h.retP (by unfold bV; rfl) (by unfold bV; exact ⟨s1, ⟨(cM 0 (by decide) (by omega)), (cM 0 (by decide) (by omega))⟩⟩))
def aB (r : GQ) : GR :=
 (⟨r, (⟨(⟨false, 0⟩ : GI), (⟨false, 0⟩ : GI)⟩ : GQ), false⟩ : GR)
theorem fQ (r : GQ) (k : Nat) (hk : k ≤ 40) (zr : SzQ k r) (w0 : World) : Calls Tryz.prog 88 #[(vQ r)] w0 (RetP w0 (vR (aB r)) (SzR k (aB r))) := by
 refine enter (N := 5) (args := [(vQ r)]) Tryz.func88 rfl rfl ?_; intro ac h
 refine cz fun K1 hK1 => ?_
 refine bx h (cQ r) rfl rfl rfl fun b1 => ga (cR (⟨oQ, oQ, false⟩ : GR)) vv64 rfl rfl fun b2 => gn hK1 <| gr fun K2 hK2 => g1 1 rfl (aN aa42 zz42 rfl rfl rfl (v := (vQ r)) rfl) rfl <| g0 (bP bld64 rfl rfl (v := (vR (⟨r, oQ, false⟩ : GR))) rfl) rfl <| gs 0 (cR (⟨r, oQ, false⟩ : GR)) rfl zz64 rfl rfl rfl rfl rfl rfl rfl <| gn hK2 <| gT ?_; clear h ac; intro ac wo h
 exact ret h rfl (.cell (v := (vR (⟨r, oQ, false⟩ : GR))) rfl (i := 0) rfl aa64 zz64 rfl rfl rfl .nil) rfl (h.retP (by unfold aB; rfl) (by unfold aB; exact ⟨zr, ⟨(cM 0 (by decide) (by omega)), (cM 0 (by decide) (by omega))⟩⟩))
end Go.Sx
