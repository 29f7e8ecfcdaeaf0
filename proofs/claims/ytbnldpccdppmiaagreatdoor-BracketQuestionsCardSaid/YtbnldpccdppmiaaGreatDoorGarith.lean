/- A part of the proof that the law BracketQuestions/Checks answers true at every input and leaves its arguments as they were. -/
import Derived.Test.YtbnldpccdppmiaaGreatDoorProg
import Derived.Test.YtbnldpccdppmiaaGreatDoorGdiv
set_option linter.unusedVariables false
set_option linter.unusedSimpArgs false
open Go.Proofs.Tryz renaming isAgg4 → aa4, underlying4 → nn4, isAgg9 → aa9, isAgg40 → aa40, sizeOf40 → zz40, runUnderlying40 → uu40, sizeOf9 → zz9, sizeOf4 → zz4, zeroValue40 → vv40, call78 → cc78, call76 → cc76, call122 → cc122, zeroValue42 → vv42, sizeOf42 → zz42, isAgg42 → aa42, runUnderlying42 → uu42, call95 → cc95, call92 → cc92, call94 → cc94, call103 → cc103, call102 → cc102, runUnderlying64 → uu64, call68 → cc68, call55 → cc55, call87 → cc87, isAgg64 → aa64, sizeOf64 → zz64, zeroValue64 → vv64
namespace Go.Sx
open Go Go.RowKit Go.Proofs
set_option maxRecDepth 100000
theorem eqi40 : EqIn Tryz.prog 2 40 vI := eqS (c := cI) (fun _ => rfl) Tryz.underlying40 Tryz.stoodInHeld40 fun d x y w hd => by
 refine Eq.trans (eqF (by decide) (fP aa4 rfl w) (fP aa4 rfl w) (eqB nn4 d (by omega) _ _ w) (eqF (by decide) (fP aa9 rfl w) (fP aa9 rfl w) (eqBs Tryz.underlying9 d (by omega) _ _ w) eqF0)) ?_
 congr 1
 rw [decide_eq_decide]
 cases x; cases y; simp
theorem ou : EqP Tryz.prog 40 vI := EqIn.p (k := 2) rfl (c := fun x => (cI x).toArray) (fun _ => rfl) Tryz.eqGuardType40 eqi40
theorem eqi42 : EqIn Tryz.prog 3 42 vQ := eqS (c := cQ) (fun _ => rfl) Tryz.underlying42 Tryz.stoodInHeld42 fun d x y w hd => by
 refine Eq.trans (eqF (by decide) (e8 aa40 zz40 (v := vI (x.num)) rfl w) (e8 aa40 zz40 (v := vI (y.num)) rfl w) (eqi40 d _ _ w (by omega)) (eqF (by decide) (e8 aa40 zz40 (v := vI (x.den)) rfl w) (e8 aa40 zz40 (v := vI (y.den)) rfl w) (eqi40 d _ _ w (by omega)) eqF0)) ?_
 congr 1
 rw [decide_eq_decide]
 cases x; cases y; simp
theorem eqp42 : EqP Tryz.prog 42 vQ := EqIn.p (k := 3) rfl (c := fun x => (cQ x).toArray) (fun _ => rfl) Tryz.eqGuardType42 eqi42
def bY (a : GI) : Int :=
 bif (decide (a.mag = 0)) then
  0
 else
  bif a.neg then
   (-1)
  else
   1
theorem dy (a : GI) (w0 : World) : Calls Tryz.prog 76 #[(vI a)] w0 (RetP w0 (.int .i64 (bY a)) ((-1 ≤ (bY a) ∧ (bY a) ≤ 1))) := by
 refine enter (N := 10) (args := [(vI a)]) Tryz.func76 rfl rfl ?_; intro ac h
 refine bB fun K1 hK1 => ?_
 refine bx h (cI a) rfl rfl rfl fun b1 => g0 (ah rfl) rfl <| gn hK1 <| gq fun K2 hK2 => gB <| gr fun K3 hK3 => g0 (fa uu40 rfl zz9 rfl rfl rfl (k' := 1)) rfl <| g1 0 rfl (aZ aa9 zz9 rfl rfl rfl (v := (.string (bs a.mag))) rfl) rfl <| g0 (lA rfl rfl (m := a.mag) (n := 0)) rfl <| g0 (ah rfl) rfl <| gn hK3 ?_; clear h ac; intro ac wo h
 refine c8 h rfl (fun hc1 => ?_) (fun hc1 => ?_)
 ·
  have hd1 := of_decide_eq_true hc1
  refine gz h <| gr fun K4 hK4 => g0 (ah rfl) rfl <| gn hK4 <| gT ?_; clear h ac wo; intro ac wo h
  have hd : bY a = 0 := (cT hc1)
  exact ret h rfl (.tmp rfl .nil) rfl (h.retP (by rw [hd] <;> rfl) (by rw [hd]; exact by first | omega | exact ee (by omega) (by omega)))
 ·
  have hd1 := of_decide_eq_false hc1
  refine gz h <| gr fun K5 hK5 => g0 (fa uu40 rfl zz4 rfl rfl rfl (k' := 0)) rfl <| g1 0 rfl (aZ aa4 zz4 rfl rfl rfl (v := (.bool a.neg)) rfl) rfl <| g0 (ah rfl) rfl <| gn hK5 ?_; clear h ac wo; intro ac wo h
  refine c8 h rfl (fun hc2 => ?_) (fun hc2 => ?_)
  ·
   refine gz h <| gr fun K6 hK6 => g0 (ah rfl) rfl <| gn hK6 <| gT ?_; clear h ac wo; intro ac wo h
   have hd : bY a = (-1) := (Eq.trans (cF hc1) (cT hc2))
   exact ret h rfl (.tmp rfl .nil) rfl (h.retP (by rw [hd] <;> rfl) (by rw [hd]; exact by first | omega | exact ee (by omega) (by omega)))
  ·
   refine gz h <| gS <| gN <| gx hK2 <| gr fun K7 hK7 => g0 (ah rfl) rfl <| gn hK7 <| gT ?_; clear h ac wo; intro ac wo h
   have hd : bY a = 1 := (Eq.trans (cF hc1) (cF hc2))
   exact ret h rfl (.tmp rfl .nil) rfl (h.retP (by rw [hd] <;> rfl) (by rw [hd]; exact by first | omega | exact ee (by omega) (by omega)))
def ak (a : GI) : GI :=
 (aB (!a.neg) a.mag)
theorem d6 (a : GI) (k : Nat) (hk : k ≤ 40) (za : SzI k a) (w0 : World) : Calls Tryz.prog 92 #[(vI a)] w0 (RetP w0 (vI (ak a)) (SzI k (ak a))) := by
 refine enter (N := 9) (args := [(vI a)]) Tryz.func92 rfl rfl ?_; intro ac h
 have c1 := bL (!a.neg) a.mag k (by omega) za
 have s1 := aJ (c1 w0)
 refine bB fun K1 hK1 => ?_
 refine bx h (cI a) rfl rfl rfl fun b1 => ga (cI (⟨false, 0⟩ : GI)) vv40 rfl rfl fun b2 => gn hK1 <| gr fun K2 hK2 => g0 (fa uu40 rfl zz4 rfl rfl rfl (k' := 0)) rfl <| g1 1 rfl (aZ aa4 zz4 rfl rfl rfl (v := (.bool a.neg)) rfl) rfl <| g0 (eU rfl) rfl <| g0 (fa uu40 rfl zz9 rfl rfl rfl (k' := 1)) rfl <| g1 1 rfl (aZ aa9 zz9 rfl rfl rfl (v := (.string (bs a.mag))) rfl) rfl <| gl cc78 rfl c1 rfl <| gs 0 (cI (aB (!a.neg) a.mag)) rfl zz40 rfl rfl rfl rfl rfl rfl rfl <| gn hK2 <| gT ?_; clear h ac; intro ac wo h
 exact ret h rfl (.cell (v := (vI (aB (!a.neg) a.mag))) rfl (i := 0) rfl aa40 zz40 rfl rfl rfl .nil) rfl (h.retP (by unfold ak; rfl) (by unfold ak; exact s1))
def aV (a : GI) (b : GI) : Int :=
 bif (a.neg != b.neg) then
  (d7 (bY a) (bY b))
 else
  bif a.neg then
   -(a6 a.mag b.mag)
  else
   (a6 a.mag b.mag)
theorem eJ (a : GI) (b : GI) (k : Nat) (hk : k ≤ 40) (za : SzI k a) (zb : SzI k b) (w0 : World) : Calls Tryz.prog 118 #[(vI a), (vI b)] w0 (RetP w0 (.int .i64 (aV a b)) ((-1 ≤ (aV a b) ∧ (aV a b) ≤ 1))) := by
 refine enter (N := 26) (args := [(vI a), (vI b)]) Tryz.func118 rfl rfl ?_; intro ac h
 refine bB fun K1 hK1 => ?_
 refine bx h (cI a) rfl rfl rfl fun b1 => gb (cI b) rfl rfl rfl fun b2 => g0 (ah rfl) rfl <| gn hK1 <| gq fun K2 hK2 => gr fun K3 hK3 => g0 (fa uu40 rfl zz4 rfl rfl rfl (k' := 0)) rfl <| g1 1 rfl (aZ aa4 zz4 rfl rfl rfl (v := (.bool a.neg)) rfl) rfl <| g0 (fa uu40 rfl zz4 rfl rfl rfl (k' := 0)) rfl <| g1 0 rfl (aZ aa4 zz4 rfl rfl rfl (v := (.bool b.neg)) rfl) rfl <| g0 (ks nn4 rfl rfl) rfl <| gn hK3 ?_; clear h ac; intro ac wo h
 refine c8 h rfl (fun hc1 => ?_) (fun hc1 => ?_)
 ·
  refine bP fun K4 hK4 => ?_
  have p2 := aJ ((dy a) w0)
  have p4 := aJ ((dy b) w0)
  have p6 := aJ ((jC (bY a) (bY b)) w0)
  refine dc mixed [dw _ [1], dv _, dw _ [0], dv _, dv _, dv _] [⟨_, []⟩, ⟨_, []⟩] h rfl (by kernel_rfl) ⟨fun _ _ => bT _ rfl rfl (aZ aa40 zz40 rfl rfl rfl (v := (vI a)) rfl), fun _ _ => dY (dF cc76 rfl (dy a)), fun _ _ => bT _ rfl rfl (aZ aa40 zz40 rfl rfl rfl (v := (vI b)) rfl), fun _ _ => dY (dF cc76 rfl (dy b)), fun _ _ => dY (dF Tryz.call135 rfl (jC (bY a) (bY b))), fun _ _ => ay (ah rfl), trivial⟩ ?_
  clear h ac wo; intro ξ ac wo hφ h
  replace h : St w0 26 [(4, (.int .i64 (d7 (bY a) (bY b))))] [.blk b2 (cI b) 40, .blk b1 (cI a) 40] ac wo := h.sub ⟨rfl, trivial⟩
  clear hφ ξ
  refine hK4 _ _ ?_
  refine cr ?_
  have hd : aV a b = (d7 (bY a) (bY b)) := (cT hc1)
  exact ret h rfl (.tmp rfl .nil) rfl (h.retP (by rw [hd] <;> rfl) (by rw [hd]; exact by first | omega | exact ee (by omega) (by omega)))
 ·
  have p8 := aJ ((dq a.mag b.mag) w0)
  refine gz h <| gS <| gx hK2 <| gr fun K5 hK5 => g0 (fa uu40 rfl zz9 rfl rfl rfl (k' := 1)) rfl <| g1 1 rfl (aZ aa9 zz9 rfl rfl rfl (v := (.string (bs a.mag))) rfl) rfl <| g0 (fa uu40 rfl zz9 rfl rfl rfl (k' := 1)) rfl <| g1 0 rfl (aZ aa9 zz9 rfl rfl rfl (v := (.string (bs b.mag))) rfl) rfl <| gl Tryz.call121 rfl (dq a.mag b.mag) rfl <| g0 (ah rfl) rfl <| gn hK5 <| gq fun K6 hK6 => gr fun K7 hK7 => g0 (fa uu40 rfl zz4 rfl rfl rfl (k' := 0)) rfl <| g1 1 rfl (aZ aa4 zz4 rfl rfl rfl (v := (.bool a.neg)) rfl) rfl <| gn hK7 ?_; clear h ac wo; intro ac wo h
  refine c8 h rfl (fun hc2 => ?_) (fun hc2 => ?_)
  ·
   refine gz h <| gr fun K8 hK8 => g0 (aj rfl) rfl <| g0 (r_neg rfl (r := -(a6 a.mag b.mag)) (by rw [IntKind.wrap_i64]; omega)) rfl <| g0 (ah rfl) rfl <| gn hK8 <| gT ?_; clear h ac wo; intro ac wo h
   have hd : aV a b = -(a6 a.mag b.mag) := (Eq.trans (cF hc1) (cT hc2))
   exact ret h rfl (.tmp rfl .nil) rfl (h.retP (by rw [hd] <;> rfl) (by rw [hd]; exact by first | omega | exact ee (by omega) (by omega)))
  ·
   refine gz h <| gS <| gx hK6 <| gr fun K9 hK9 => g0 (aj rfl) rfl <| g0 (ah rfl) rfl <| gn hK9 <| gT ?_; clear h ac wo; intro ac wo h
   have hd : aV a b = (a6 a.mag b.mag) := (Eq.trans (cF hc1) (cF hc2))
   exact ret h rfl (.tmp rfl .nil) rfl (h.retP (by rw [hd] <;> rfl) (by rw [hd]; exact by first | omega | exact ee (by omega) (by omega)))
def dD (a : GI) (b : GI) : GI :=
 bif (a.neg == b.neg) then
  (aB a.neg (bA a.mag b.mag))
 else
  bif (decide ((a6 a.mag b.mag) ≥ 0)) then
   (aB a.neg (bX a.mag b.mag))
  else
   (aB b.neg (bX b.mag a.mag))
theorem je (a : GI) (b : GI) (k : Nat) (hk : (k + 1) ≤ 40) (za : SzI (k + 1) a) (zb : SzI (k + 1) b) (w0 : World) : Calls Tryz.prog 101 #[(vI a), (vI b)] w0 (RetP w0 (vI (dD a b)) (SzI k (dD a b))) := by
 refine enter (N := 42) (args := [(vI a), (vI b)]) Tryz.func101 rfl rfl ?_; intro ac h
 refine bB fun K1 hK1 => ?_
 refine bx h (cI a) rfl rfl rfl fun b1 => gb (cI b) rfl rfl rfl fun b2 => ga (cI (⟨false, 0⟩ : GI)) vv40 rfl rfl fun b3 => gn hK1 <| gq fun K2 hK2 => gB <| gr fun K3 hK3 => g0 (fa uu40 rfl zz4 rfl rfl rfl (k' := 0)) rfl <| g1 2 rfl (aZ aa4 zz4 rfl rfl rfl (v := (.bool a.neg)) rfl) rfl <| g0 (fa uu40 rfl zz4 rfl rfl rfl (k' := 0)) rfl <| g1 1 rfl (aZ aa4 zz4 rfl rfl rfl (v := (.bool b.neg)) rfl) rfl <| g0 (mf nn4 rfl rfl) rfl <| g0 (ah rfl) rfl <| gn hK3 ?_; clear h ac; intro ac wo h
 refine c8 h rfl (fun hc1 => ?_) (fun hc1 => ?_)
 ·
  have hd1 := eq_of_beq hc1
  refine bP fun K4 hK4 => ?_
  have s1 := aJ ((eH a.mag b.mag k (by omega) za zb) w0)
  have s2 := aJ ((bL a.neg (bA a.mag b.mag) k (by omega) s1) w0)
  refine dc mixed [dv _, dw _ [2], dv _, dw _ [2], dv _, dw _ [1], dv _, dv _, dw _ [0]] [⟨.blk b3 (cI (⟨false, 0⟩ : GI)) 40, [(8, .con _)]⟩, ⟨_, []⟩, ⟨_, []⟩] h rfl (by kernel_rfl) ⟨fun _ _ => ay (fa uu40 rfl zz4 rfl rfl rfl (k' := 0)), fun _ _ => bT _ rfl rfl (aZ aa4 zz4 rfl rfl rfl (v := (.bool a.neg)) rfl), fun _ _ => ay (fa uu40 rfl zz9 rfl rfl rfl (k' := 1)), fun _ _ => bT _ rfl rfl (aZ aa9 zz9 rfl rfl rfl (v := (.string (bs a.mag))) rfl), fun _ _ => ay (fa uu40 rfl zz9 rfl rfl rfl (k' := 1)), fun _ _ => bT _ rfl rfl (aZ aa9 zz9 rfl rfl rfl (v := (.string (bs b.mag))) rfl), fun _ _ => dY (dF Tryz.call120 rfl (eH a.mag b.mag k (by omega) za zb)), fun _ _ => dY (dF cc78 rfl (bL a.neg (bA a.mag b.mag) k (by omega) s1)), fun _ _ => es _ [.blk b3 (cI (aB a.neg (bA a.mag b.mag))) 40] rfl rfl (eW zz40 rfl rfl rfl rfl rfl rfl rfl), trivial⟩ ?_
  clear h ac wo; intro ξ ac wo hφ h
  replace h : St w0 42 [(4, (ptr b3 0))] [.blk b3 (cI (aB a.neg (bA a.mag b.mag))) 40, .blk b2 (cI b) 40, .blk b1 (cI a) 40] ac wo := h.sub ⟨rfl, trivial⟩
  clear hφ ξ
  refine hK4 _ _ ?_
  refine cr ?_
  have hd : dD a b = (aB a.neg (bA a.mag b.mag)) := (cT hc1)
  exact ret h rfl (.cell (v := (vI (aB a.neg (bA a.mag b.mag)))) rfl (i := 0) rfl aa40 zz40 rfl rfl rfl .nil) rfl (h.retP (by rw [hd] <;> rfl) (by rw [hd]; exact s2))
 ·
  have hd1 := ne_of_beq_false hc1
  have p4 := aJ ((dq a.mag b.mag) w0)
  refine gz h <| gr fun K5 hK5 => g0 (fa uu40 rfl zz9 rfl rfl rfl (k' := 1)) rfl <| g1 2 rfl (aZ aa9 zz9 rfl rfl rfl (v := (.string (bs a.mag))) rfl) rfl <| g0 (fa uu40 rfl zz9 rfl rfl rfl (k' := 1)) rfl <| g1 1 rfl (aZ aa9 zz9 rfl rfl rfl (v := (.string (bs b.mag))) rfl) rfl <| gl Tryz.call121 rfl (dq a.mag b.mag) rfl <| g0 (me rfl rfl) rfl <| g0 (ah rfl) rfl <| gn hK5 ?_; clear h ac wo; intro ac wo h
  refine c8 h rfl (fun hc2 => ?_) (fun hc2 => ?_)
  ·
   have hd2 := of_decide_eq_true hc2
   refine bP fun K6 hK6 => ?_
   have s5 := aJ ((eF a.mag b.mag (k + 1) (by omega) za zb (by first | exact nH ‹_› | exact nG ‹_›)) w0)
   have s6 := aJ ((bL a.neg (bX a.mag b.mag) (k + 1) (by omega) s5) w0)
   refine dc mixed [dv _, dw _ [2], dv _, dw _ [2], dv _, dw _ [1], dv _, dv _, dw _ [0]] [⟨.blk b3 (cI (⟨false, 0⟩ : GI)) 40, [(8, .con _)]⟩, ⟨_, []⟩, ⟨_, []⟩] h rfl (by kernel_rfl) ⟨fun _ _ => ay (fa uu40 rfl zz4 rfl rfl rfl (k' := 0)), fun _ _ => bT _ rfl rfl (aZ aa4 zz4 rfl rfl rfl (v := (.bool a.neg)) rfl), fun _ _ => ay (fa uu40 rfl zz9 rfl rfl rfl (k' := 1)), fun _ _ => bT _ rfl rfl (aZ aa9 zz9 rfl rfl rfl (v := (.string (bs a.mag))) rfl), fun _ _ => ay (fa uu40 rfl zz9 rfl rfl rfl (k' := 1)), fun _ _ => bT _ rfl rfl (aZ aa9 zz9 rfl rfl rfl (v := (.string (bs b.mag))) rfl), fun _ _ => dY (dF cc122 rfl (eF a.mag b.mag (k + 1) (by omega) za zb (by first | exact nH ‹_› | exact nG ‹_›))), fun _ _ => dY (dF cc78 rfl (bL a.neg (bX a.mag b.mag) (k + 1) (by omega) s5)), fun _ _ => es _ [.blk b3 (cI (aB a.neg (bX a.mag b.mag))) 40] rfl rfl (eW zz40 rfl rfl rfl rfl rfl rfl rfl), trivial⟩ ?_
   clear h ac wo; intro ξ ac wo hφ h
   replace h : St w0 42 [(4, (ptr b3 0))] [.blk b3 (cI (aB a.neg (bX a.mag b.mag))) 40, .blk b2 (cI b) 40, .blk b1 (cI a) 40] ac wo := h.sub ⟨rfl, trivial⟩
   clear hφ ξ
   refine hK6 _ _ ?_
   refine cr ?_
   have hd : dD a b = (aB a.neg (bX a.mag b.mag)) := (Eq.trans (cF hc1) (cT hc2))
   exact ret h rfl (.cell (v := (vI (aB a.neg (bX a.mag b.mag)))) rfl (i := 0) rfl aa40 zz40 rfl rfl rfl .nil) rfl (h.retP (by rw [hd] <;> rfl) (by rw [hd]; exact (fW s6 (by omega))))
  ·
   have hd2 := of_decide_eq_false hc2
   refine bR ?_
   refine e7 ?_
   refine hK2 _ _ ?_
   refine bP fun K7 hK7 => ?_
   have s7 := aJ ((eF b.mag a.mag (k + 1) (by omega) zb za (by first | exact nH ‹_› | exact nG ‹_›)) w0)
   have s8 := aJ ((bL b.neg (bX b.mag a.mag) (k + 1) (by omega) s7) w0)
   refine dc mixed [dv _, dw _ [1], dv _, dw _ [1], dv _, dw _ [2], dv _, dv _, dw _ [0]] [⟨.blk b3 (cI (⟨false, 0⟩ : GI)) 40, [(8, .con _)]⟩, ⟨_, []⟩, ⟨_, []⟩] h rfl (by kernel_rfl) ⟨fun _ _ => ay (fa uu40 rfl zz4 rfl rfl rfl (k' := 0)), fun _ _ => bT _ rfl rfl (aZ aa4 zz4 rfl rfl rfl (v := (.bool b.neg)) rfl), fun _ _ => ay (fa uu40 rfl zz9 rfl rfl rfl (k' := 1)), fun _ _ => bT _ rfl rfl (aZ aa9 zz9 rfl rfl rfl (v := (.string (bs b.mag))) rfl), fun _ _ => ay (fa uu40 rfl zz9 rfl rfl rfl (k' := 1)), fun _ _ => bT _ rfl rfl (aZ aa9 zz9 rfl rfl rfl (v := (.string (bs a.mag))) rfl), fun _ _ => dY (dF cc122 rfl (eF b.mag a.mag (k + 1) (by omega) zb za (by first | exact nH ‹_› | exact nG ‹_›))), fun _ _ => dY (dF cc78 rfl (bL b.neg (bX b.mag a.mag) (k + 1) (by omega) s7)), fun _ _ => es _ [.blk b3 (cI (aB b.neg (bX b.mag a.mag))) 40] rfl rfl (eW zz40 rfl rfl rfl rfl rfl rfl rfl), trivial⟩ ?_
   clear h ac wo; intro ξ ac wo hφ h
   replace h : St w0 42 [(4, (ptr b3 0))] [.blk b3 (cI (aB b.neg (bX b.mag a.mag))) 40, .blk b2 (cI b) 40, .blk b1 (cI a) 40] ac wo := h.sub ⟨rfl, trivial⟩
   clear hφ ξ
   refine hK7 _ _ ?_
   refine cr ?_
   have hd : dD a b = (aB b.neg (bX b.mag a.mag)) := (Eq.trans (cF hc1) (cF hc2))
   exact ret h rfl (.cell (v := (vI (aB b.neg (bX b.mag a.mag)))) rfl (i := 0) rfl aa40 zz40 rfl rfl rfl .nil) rfl (h.retP (by rw [hd] <;> rfl) (by rw [hd]; exact (fW s8 (by omega))))
def br (a : GI) (b : GI) : GI :=
 (aB (a.neg != b.neg) (db a.mag b.mag))
theorem dJ (a : GI) (b : GI) (k : Nat) (hk : (k + 1) ≤ 40) (za : SzI (k + 1) a) (zb : SzI (k + 1) b) (w0 : World) : Calls Tryz.prog 102 #[(vI a), (vI b)] w0 (RetP w0 (vI (br a b)) (SzI k (br a b))) := by
 refine enter (N := 16) (args := [(vI a), (vI b)]) Tryz.func102 rfl rfl ?_; intro ac h
 have s1 := aJ ((fQ a.mag b.mag k (by omega) za zb) w0)
 have s2 := aJ ((bL (a.neg != b.neg) (db a.mag b.mag) k (by omega) s1) w0)
 refine bB fun K1 hK1 => ?_
 refine bx h (cI a) rfl rfl rfl fun b1 => gb (cI b) rfl rfl rfl fun b2 => ga (cI (⟨false, 0⟩ : GI)) vv40 rfl rfl fun b3 => gn hK1 <| gq fun K2 hK2 => ?_; clear h ac; intro ac wo h
 refine dc mixed [dv _, dw _ [2], dv _, dw _ [1], dv _, dv _, dw _ [2], dv _, dw _ [1], dv _, dv _, dw _ [0]] [⟨.blk b3 (cI (⟨false, 0⟩ : GI)) 40, [(11, .con _)]⟩, ⟨_, []⟩, ⟨_, []⟩] h rfl (by kernel_rfl) ⟨fun _ _ => ay (fa uu40 rfl zz4 rfl rfl rfl (k' := 0)), fun _ _ => bT _ rfl rfl (aZ aa4 zz4 rfl rfl rfl (v := (.bool a.neg)) rfl), fun _ _ => ay (fa uu40 rfl zz4 rfl rfl rfl (k' := 0)), fun _ _ => bT _ rfl rfl (aZ aa4 zz4 rfl rfl rfl (v := (.bool b.neg)) rfl), fun _ _ => ay (ks nn4 rfl rfl), fun _ _ => ay (fa uu40 rfl zz9 rfl rfl rfl (k' := 1)), fun _ _ => bT _ rfl rfl (aZ aa9 zz9 rfl rfl rfl (v := (.string (bs a.mag))) rfl), fun _ _ => ay (fa uu40 rfl zz9 rfl rfl rfl (k' := 1)), fun _ _ => bT _ rfl rfl (aZ aa9 zz9 rfl rfl rfl (v := (.string (bs b.mag))) rfl), fun _ _ => dY (dF Tryz.call123 rfl (fQ a.mag b.mag k (by omega) za zb)), fun _ _ => dY (dF cc78 rfl (bL (a.neg != b.neg) (db a.mag b.mag) k (by omega) s1)), fun _ _ => es _ [.blk b3 (cI (aB (a.neg != b.neg) (db a.mag b.mag))) 40] rfl rfl (eW zz40 rfl rfl rfl rfl rfl rfl rfl), trivial⟩ ?_
 clear h ac wo; intro ξ ac wo hφ h
 replace h : St w0 16 [(4, (ptr b3 0))] [.blk b3 (cI (aB (a.neg != b.neg) (db a.mag b.mag))) 40, .blk b2 (cI b) 40, .blk b1 (cI a) 40] ac wo := h.sub ⟨rfl, trivial⟩
 clear hφ ξ
 refine hK2 _ _ ?_
 refine cr ?_
 exact ret h rfl (.cell (v := (vI (aB (a.neg != b.neg) (db a.mag b.mag)))) rfl (i := 0) rfl aa40 zz40 rfl rfl rfl .nil) rfl (h.retP (by unfold br; rfl) (by unfold br; exact s2))
def az (a b : GI) : GI := aB false (Nat.gcd a.mag b.mag)
theorem nA (x y : Nat) : Nat.gcd y (x % y) = Nat.gcd x y := by rw [Nat.gcd_comm x y, Nat.gcd_rec y x, Nat.gcd_comm]
theorem fR (a : GI) (b : GI) (k : Nat) (hk : k ≤ 40) (za : SzI k a) (zb : SzI k b) (w0 : World) : Calls Tryz.prog 93 #[(vI a), (vI b)] w0 (RetP w0 (vI (az a b)) (SzI k (az a b))) := by
 refine enter (N := 45) (args := [(vI a), (vI b)]) Tryz.func93 rfl rfl ?_; intro ac h
 refine bB fun K1 hK1 => ?_
 refine bx h (cI a) rfl rfl rfl fun b1 => gb (cI b) rfl rfl rfl fun b2 => ga (cI (⟨false, 0⟩ : GI)) vv40 rfl rfl fun b3 => gn hK1 <| gq fun K2 hK2 => ?_; clear h ac; intro ac wo h
 refine dc mixed [dv _, dw _ [2], dv _, dw _ [1], dv _, dv _] [⟨_, []⟩, ⟨_, []⟩, ⟨_, []⟩] h rfl (by kernel_rfl) ⟨fun _ _ => ay (fa uu40 rfl zz9 rfl rfl rfl (k' := 1)), fun _ _ => bT _ rfl rfl (aZ aa9 zz9 rfl rfl rfl (v := (.string (bs a.mag))) rfl), fun _ _ => ay (fa uu40 rfl zz9 rfl rfl rfl (k' := 1)), fun _ _ => bT _ rfl rfl (aZ aa9 zz9 rfl rfl rfl (v := (.string (bs b.mag))) rfl), fun _ _ => ay (ah rfl), fun _ _ => ay (ah rfl), trivial⟩ ?_
 clear h ac wo; intro ξ ac wo hφ h
 replace h : St w0 45 [(4, (ptr b3 0)), (5, (.string (bs a.mag))), (6, (.string (bs b.mag)))] [.blk b3 (cI (⟨false, 0⟩ : GI)) 40, .blk b2 (cI b) 40, .blk b1 (cI a) 40] ac wo := h.sub ⟨rfl, rfl, rfl, trivial⟩
 clear hφ ξ
 refine hK2 _ _ ?_
 refine bP fun K3 hK3 => ?_
 refine dm ?_
 refine wp_loop_ghost (fun n_ a_ w_ => ∃ (x : Nat) (y : Nat), n_ = 1 * y ∧ (Nat.gcd x y = Nat.gcd a.mag b.mag) ∧ (SzB k x) ∧ (SzB k y) ∧ St w0 45 [(4, (ptr b3 0)), (5, (.string (bs x))), (6, (.string (bs y)))] [.blk b3 (cI (⟨false, 0⟩ : GI)) 40, .blk b2 (cI b) 40, .blk b1 (cI a) 40] a_ w_) _ ⟨a.mag, b.mag, rfl, rfl, za, zb, (h.pick [0, 1, 2] (by decide)).sub ⟨rfl, rfl, rfl, trivial⟩⟩ ?_
 clear h ac wo; rintro _ ac wo ⟨x, y, rfl, hg, zx, zy, h⟩
 refine gz h <| gq fun K4 hK4 => gr fun K5 hK5 => g0 (aj rfl) rfl <| g0 (kr rfl rfl (m := y) (n := 0)) rfl <| gn hK5 ?_; clear h ac wo; intro ac wo h
 refine c8 h rfl (fun hc1 => ?_) (fun hc1 => ?_)
 ·
  have hy : y ≠ 0 := by simpa using hc1
  refine gz h <| gS <| gx hK4 <| gB <| gq fun K6 hK6 => gr fun K7 hK7 => g0 (aj rfl) rfl <| g0 (aj rfl) rfl <| gl Tryz.call114 rfl (eD x y) rfl <| g0 (aj rfl) rfl <| g0 (bq rfl rfl) rfl <| g0 (bq rfl rfl) rfl <| g0 (bq rfl rfl) rfl <| g0 (ah rfl) rfl <| g0 (ah rfl) rfl <| g0 (ah rfl) rfl <| gn hK7 <| gr fun K8 hK8 => g0 (aj rfl) rfl <| gn hK8 ?_; clear h ac wo; intro ac wo h
  refine c8 h rfl (fun hc2 => ?_) (fun hc2 => ?_)
  ·
   obtain ⟨ha6, hb6, hw⟩ := iE hc2
   simp only [hw] at h
   refine bP fun K9 hK9 => ?_
   refine dm ?_
   refine wp_loop_ghost (fun n_ a_ w_ => ∃ (u : Nat) (v : Nat), n_ = 1 * v ∧ (Nat.gcd u v = Nat.gcd a.mag b.mag) ∧ (SzB k u) ∧ (SzB k v) ∧ (u < 18446744073709551616 ∧ v < 18446744073709551616) ∧ St w0 45 [(4, (ptr b3 0)), (7, (.int .u64 ((u : Nat) : Int))), (8, (.int .u64 ((v : Nat) : Int)))] [.blk b3 (cI (⟨false, 0⟩ : GI)) 40, .blk b2 (cI b) 40, .blk b1 (cI a) 40] a_ w_) _ ⟨x, y, rfl, hg, zx, zy, ⟨ha6, hb6⟩, (h.pick [0, 1, 2] (by decide)).sub ⟨rfl, rfl, rfl, trivial⟩⟩ ?_
   clear h ac wo; rintro _ ac wo ⟨u, v, rfl, hgu, zu, zv, hul, h⟩
   refine gz h <| gq fun K10 hK10 => gr fun K11 hK11 => g0 (aj rfl) rfl <| g0 (gw rfl rfl) rfl <| gn hK11 ?_; clear h ac wo; intro ac wo h
   refine c8 h rfl (fun hc3 => ?_) (fun hc3 => ?_)
   ·
    have hv : v ≠ 0 := by have := hc3; simp at this; omega
    refine bR ?_
    refine hK10 _ _ ?_
    refine dm ?_
    refine dc mixed [dv _, dv _, dv _, dv _, dv _, dv _] [⟨_, []⟩, ⟨_, []⟩, ⟨_, []⟩] h rfl (by kernel_rfl) ⟨fun _ _ => om rfl, fun _ _ => om rfl, fun _ _ => om rfl, fun _ _ => ay (ex rfl rfl (r := ((u % v : Nat) : Int)) (by omega) (by rw [Int.tmod_eq_emod_of_nonneg (by omega)]; rfl)), fun _ _ => ay (ah rfl), fun _ _ => ay (ah rfl), trivial⟩ ?_
    clear h ac wo; intro ξ ac wo hφ h
    replace h : St w0 45 [(4, (ptr b3 0)), (7, (.int .u64 ((v : Nat) : Int))), (8, (.int .u64 ((u % v : Nat) : Int)))] [.blk b3 (cI (⟨false, 0⟩ : GI)) 40, .blk b2 (cI b) 40, .blk b1 (cI a) 40] ac wo := h.sub ⟨rfl, rfl, rfl, trivial⟩
    clear hφ ξ
    refine e7 ?_
    exact aR ⟨_, (by have := Nat.mod_lt u (show v > 0 by omega); omega), v, (u % v), rfl, (by rw [nA]; exact hgu), zv, (e9 zu (Nat.mod_le _ _)), ⟨hul.2, by have := Nat.mod_lt u (show v > 0 by omega); omega⟩, (h.pick [0, 1, 2] (by decide)).sub ⟨rfl, rfl, rfl, trivial⟩⟩
   ·
    have hv : v = 0 := by have := hc3; simp at this; omega
    subst hv
    have c1 := bL false (bn u) k (by omega) zu
    have s1 := aJ (c1 w0)
    refine gz h <| gE <| gx hK9 <| gr fun K12 hK12 => g0 (aj rfl) rfl <| gl Tryz.call79 rfl (cz u hul.1) rfl <| gl cc78 rfl c1 rfl <| gs 0 (cI (aB false (bn u))) rfl zz40 rfl rfl rfl rfl rfl rfl rfl <| gn hK12 <| gT ?_; clear h ac wo; intro ac wo h
    have hd : az a b = (aB false (bn u)) := (by rw [Nat.gcd_zero_right] at hgu; unfold az; rw [← hgu]; rfl)
    exact ret h rfl (.cell (v := (vI (aB false (bn u)))) rfl (i := 0) rfl aa40 zz40 rfl rfl rfl .nil) rfl (h.retP (by rw [hd] <;> rfl) (by rw [hd]; exact s1))
  ·
   have c2 := eG x y k (by omega) zx zy (by omega)
   have s2 := aJ (c2 w0)
   refine gz h <| gS <| gx hK6 <| gr fun K13 hK13 => g0 (aj rfl) rfl <| g0 (aj rfl) rfl <| gl Tryz.call115 rfl c2 rfl <| g0 (aj rfl) rfl <| g0 (bq rfl rfl) rfl <| g0 (bq rfl rfl) rfl <| g0 (ah rfl) rfl <| g0 (ah rfl) rfl <| gn hK13 <| gR <| g0 (aj rfl) rfl <| g0 (aj rfl) rfl <| g0 (ah rfl) rfl <| g0 (ah rfl) rfl <| gx (fun _ _ => aE) <| gN ?_; clear h ac wo; intro ac wo h
   exact aR ⟨_, (by have := Nat.mod_lt x (show y > 0 by omega); omega), y, (x % y), rfl, (by rw [nA]; exact hg), zy, (e9 zx (Nat.mod_le _ _)), (h.pick [0, 1, 2] (by decide)).sub ⟨rfl, rfl, rfl, trivial⟩⟩
 ·
  have hy : y = 0 := by simpa using hc1
  subst hy
  have c3 := bL false x k (by omega) zx
  have s3 := aJ (c3 w0)
  refine gz h <| gE <| gx hK3 <| gr fun K14 hK14 => g0 (aj rfl) rfl <| gl cc78 rfl c3 rfl <| gs 0 (cI (aB false x)) rfl zz40 rfl rfl rfl rfl rfl rfl rfl <| gn hK14 <| gT ?_; clear h ac wo; intro ac wo h
  have hd : az a b = (aB false x) := (by rw [Nat.gcd_zero_right] at hg; unfold az; rw [← hg])
  exact ret h rfl (.cell (v := (vI (aB false x))) rfl (i := 0) rfl aa40 zz40 rfl rfl rfl .nil) rfl (h.retP (by rw [hd] <;> rfl) (by rw [hd]; exact s3))
def cv (a : GI) (b : GI) : GI × GI × Int :=
 bif (decide (b.mag = 0)) then
  ((⟨false, 0⟩ : GI), (⟨false, 0⟩ : GI), 6)
 else
  bif (a.neg && (!(decide (((aG a.mag b.mag).2) = 0)))) then
   ((aB (a.neg != b.neg) (bA ((aG a.mag b.mag).1) 1)), (aB false (bX b.mag ((aG a.mag b.mag).2))), 0)
  else
   ((aB (a.neg != b.neg) ((aG a.mag b.mag).1)), (aB false ((aG a.mag b.mag).2)), 0)
theorem jO (a : GI) (b : GI) (k : Nat) (hk : (k + 1) ≤ 40) (za : SzI (k + 1) a) (zb : SzI (k + 1) b) (w0 : World) : Calls Tryz.prog 116 #[(vI a), (vI b)] w0 (RetP w0 (.tuple #[(vI ((cv a b).1)), (vI ((cv a b).2.1)), (.int .i64 ((cv a b).2.2))]) (SzI k ((cv a b).1) ∧ SzI k ((cv a b).2.1))) := by
 refine enter (N := 43) (args := [(vI a), (vI b)]) Tryz.func116 rfl rfl ?_; intro ac h
 refine bB fun K1 hK1 => ?_
 refine bx h (cI a) rfl rfl rfl fun b1 => gb (cI b) rfl rfl rfl fun b2 => ga (cI (⟨false, 0⟩ : GI)) vv40 rfl rfl fun b3 => ga (cI (⟨false, 0⟩ : GI)) vv40 rfl rfl fun b4 => g0 (ah rfl) rfl <| gn hK1 <| gq fun K2 hK2 => gr fun K3 hK3 => g0 (fa uu40 rfl zz9 rfl rfl rfl (k' := 1)) rfl <| g1 2 rfl (aZ aa9 zz9 rfl rfl rfl (v := (.string (bs b.mag))) rfl) rfl <| g0 (lA rfl rfl (m := b.mag) (n := 0)) rfl <| gn hK3 ?_; clear h ac; intro ac wo h
 refine c8 h rfl (fun hc1 => ?_) (fun hc1 => ?_)
 ·
  have hd1 := of_decide_eq_true hc1
  refine gz h <| gr fun K4 hK4 => g0 (bW lX rfl rfl (v := (vI (⟨false, 0⟩ : GI))) rfl) rfl <| g0 (bW lX rfl rfl (v := (vI (⟨false, 0⟩ : GI))) rfl) rfl <| gs 1 (cI (⟨false, 0⟩ : GI)) rfl zz40 rfl rfl rfl rfl rfl rfl rfl <| gs 0 (cI (⟨false, 0⟩ : GI)) rfl zz40 rfl rfl rfl rfl rfl rfl rfl <| g0 (ah rfl) rfl <| gn hK4 <| gT ?_; clear h ac wo; intro ac wo h
  have hd : cv a b = ((⟨false, 0⟩ : GI), (⟨false, 0⟩ : GI), 6) := (cT hc1)
  exact ret h rfl (.cell (v := (vI (⟨false, 0⟩ : GI))) rfl (i := 1) rfl aa40 zz40 rfl rfl rfl (.cell (v := (vI (⟨false, 0⟩ : GI))) rfl (i := 0) rfl aa40 zz40 rfl rfl rfl (.tmp rfl .nil))) rfl (h.retP (by rw [hd] <;> rfl) (by rw [hd]; exact ⟨(cu 0 (by decide) (by omega)), (cu 0 (by decide) (by omega))⟩))
 ·
  have hd1 := of_decide_eq_false hc1
  have c1 := eG a.mag b.mag (k + 1) (by omega) za zb (by omega)
  have s1 := aJ (c1 w0)
  refine gz h <| gS <| gx hK2 <| gr fun K5 hK5 => g0 (fa uu40 rfl zz9 rfl rfl rfl (k' := 1)) rfl <| g1 3 rfl (aZ aa9 zz9 rfl rfl rfl (v := (.string (bs a.mag))) rfl) rfl <| g0 (fa uu40 rfl zz9 rfl rfl rfl (k' := 1)) rfl <| g1 2 rfl (aZ aa9 zz9 rfl rfl rfl (v := (.string (bs b.mag))) rfl) rfl <| gl Tryz.call115 rfl c1 rfl <| g0 (aj rfl) rfl <| g0 (bq rfl rfl) rfl <| g0 (bq rfl rfl) rfl <| g0 (ah rfl) rfl <| g0 (ah rfl) rfl <| gn hK5 <| gq fun K6 hK6 => gr fun K7 hK7 => g0 (fa uu40 rfl zz4 rfl rfl rfl (k' := 0)) rfl <| g1 3 rfl (aZ aa4 zz4 rfl rfl rfl (v := (.bool a.neg)) rfl) rfl <| g0 (aj rfl) rfl <| ge1 rfl rfl (fun hg => (Rd.of_nil (aj rfl)).step) rfl <| ge1 rfl rfl (fun hg => (Rd.of_nil (kr (bo rfl hg) rfl (m := ((aG a.mag b.mag).2)) (n := 0))).step) rfl <| g0 (gH rfl (fun e => (bo rfl e))) rfl <| gn hK7 ?_; clear h ac wo; intro ac wo h
  refine c8 h rfl (fun hc2 => ?_) (fun hc2 => ?_)
  ·
   have s2 := aJ ((eH ((aG a.mag b.mag).1) 1 k (by omega) s1.1 (cu 1 (by decide) (by omega))) w0)
   have s3 := aJ ((eF b.mag ((aG a.mag b.mag).2) (k + 1) (by omega) zb s1.2 (Nat.le_of_lt (Nat.mod_lt _ (by omega)))) w0)
   refine dc mixed [dv _, dv _, dv _, dw _ [2], dv _, dv _, dv _, dv _] [⟨_, []⟩, ⟨_, []⟩, ⟨_, []⟩, ⟨_, []⟩] h rfl (by kernel_rfl) ⟨fun _ _ => om rfl, fun _ _ => dY (dF Tryz.call120 rfl (eH ((aG a.mag b.mag).1) 1 k (by omega) s1.1 (cu 1 (by decide) (by omega)))), fun _ _ => ay (fa uu40 rfl zz9 rfl rfl rfl (k' := 1)), fun _ _ => bT _ rfl rfl (aZ aa9 zz9 rfl rfl rfl (v := (.string (bs b.mag))) rfl), fun _ _ => om rfl, fun _ _ => dY (dF cc122 rfl (eF b.mag ((aG a.mag b.mag).2) (k + 1) (by omega) zb s1.2 (Nat.le_of_lt (Nat.mod_lt _ (by omega))))), fun _ _ => ay (ah rfl), fun _ _ => ay (ah rfl), trivial⟩ ?_
   clear h ac wo; intro ξ ac wo hφ h
   replace h : St w0 43 [(2, (ptr b1 0)), (3, (ptr b2 0)), (4, (ptr b3 0)), (5, (ptr b4 0)), (7, (.string (bs (bA ((aG a.mag b.mag).1) 1)))), (8, (.string (bs (bX b.mag ((aG a.mag b.mag).2)))))] [.blk b4 (cI (⟨false, 0⟩ : GI)) 40, .blk b3 (cI (⟨false, 0⟩ : GI)) 40, .blk b2 (cI b) 40, .blk b1 (cI a) 40] ac wo := h.sub ⟨rfl, rfl, rfl, rfl, rfl, rfl, trivial⟩
   clear hφ ξ
   have c4 := bL (a.neg != b.neg) (bA ((aG a.mag b.mag).1) 1) k (by omega) s2
   have s4 := aJ (c4 w0)
   have c5 := bL false (bX b.mag ((aG a.mag b.mag).2)) (k + 1) (by omega) s3
   have s5 := aJ (c5 w0)
   refine gz h <| gx hK6 <| gr fun K8 hK8 => g0 (fa uu40 rfl zz4 rfl rfl rfl (k' := 0)) rfl <| g1 3 rfl (aZ aa4 zz4 rfl rfl rfl (v := (.bool a.neg)) rfl) rfl <| g0 (fa uu40 rfl zz4 rfl rfl rfl (k' := 0)) rfl <| g1 2 rfl (aZ aa4 zz4 rfl rfl rfl (v := (.bool b.neg)) rfl) rfl <| g0 (ks nn4 rfl rfl) rfl <| g0 (aj rfl) rfl <| gl cc78 rfl c4 rfl <| g0 (aj rfl) rfl <| gl cc78 rfl c5 rfl <| gs 1 (cI (aB (a.neg != b.neg) (bA ((aG a.mag b.mag).1) 1))) rfl zz40 rfl rfl rfl rfl rfl rfl rfl <| gs 0 (cI (aB false (bX b.mag ((aG a.mag b.mag).2)))) rfl zz40 rfl rfl rfl rfl rfl rfl rfl <| g0 (ah rfl) rfl <| gn hK8 <| gT ?_; clear h ac wo; intro ac wo h
   have hd : cv a b = ((aB (a.neg != b.neg) (bA ((aG a.mag b.mag).1) 1)), (aB false (bX b.mag ((aG a.mag b.mag).2))), 0) := (Eq.trans (cF hc1) (cT hc2))
   exact ret h rfl (.cell (v := (vI (aB (a.neg != b.neg) (bA ((aG a.mag b.mag).1) 1)))) rfl (i := 1) rfl aa40 zz40 rfl rfl rfl (.cell (v := (vI (aB false (bX b.mag ((aG a.mag b.mag).2))))) rfl (i := 0) rfl aa40 zz40 rfl rfl rfl (.tmp rfl .nil))) rfl (h.retP (by rw [hd] <;> rfl) (by rw [hd]; exact ⟨s4, (fW s5 (by omega))⟩))
  ·
   have c6 := bL (a.neg != b.neg) ((aG a.mag b.mag).1) (k + 1) (by omega) s1.1
   have s6 := aJ (c6 w0)
   have c7 := bL false ((aG a.mag b.mag).2) (k + 1) (by omega) s1.2
   have s7 := aJ (c7 w0)
   refine gz h <| gS <| gx hK6 <| gr fun K9 hK9 => g0 (fa uu40 rfl zz4 rfl rfl rfl (k' := 0)) rfl <| g1 3 rfl (aZ aa4 zz4 rfl rfl rfl (v := (.bool a.neg)) rfl) rfl <| g0 (fa uu40 rfl zz4 rfl rfl rfl (k' := 0)) rfl <| g1 2 rfl (aZ aa4 zz4 rfl rfl rfl (v := (.bool b.neg)) rfl) rfl <| g0 (ks nn4 rfl rfl) rfl <| g0 (aj rfl) rfl <| gl cc78 rfl c6 rfl <| g0 (aj rfl) rfl <| gl cc78 rfl c7 rfl <| gs 1 (cI (aB (a.neg != b.neg) ((aG a.mag b.mag).1))) rfl zz40 rfl rfl rfl rfl rfl rfl rfl <| gs 0 (cI (aB false ((aG a.mag b.mag).2))) rfl zz40 rfl rfl rfl rfl rfl rfl rfl <| g0 (ah rfl) rfl <| gn hK9 <| gT ?_; clear h ac wo; intro ac wo h
   have hd : cv a b = ((aB (a.neg != b.neg) ((aG a.mag b.mag).1)), (aB false ((aG a.mag b.mag).2)), 0) := (Eq.trans (cF hc1) (cF hc2))
   exact ret h rfl (.cell (v := (vI (aB (a.neg != b.neg) ((aG a.mag b.mag).1)))) rfl (i := 1) rfl aa40 zz40 rfl rfl rfl (.cell (v := (vI (aB false ((aG a.mag b.mag).2)))) rfl (i := 0) rfl aa40 zz40 rfl rfl rfl (.tmp rfl .nil))) rfl (h.retP (by rw [hd] <;> rfl) (by rw [hd]; exact ⟨(fW s6 (by omega)), (fW s7 (by omega))⟩))
def rational_one  : GI :=
 (aK 1)
theorem dK (k : Nat) (hk : k ≤ 40) (w0 : World) : Calls Tryz.prog 95 #[] w0 (RetP w0 (vI rational_one) (SzI k rational_one)) := by
 refine enter (N := 2) (args := []) Tryz.func95 rfl rfl ?_; intro ac h
 have c1 := dZ 1 k (by omega)  (by omega)
 have s1 := aJ (c1 w0)
 refine bB fun K1 hK1 => ?_
 refine al h (cI (⟨false, 0⟩ : GI)) vv40 rfl rfl fun b1 => gn hK1 <| gr fun K2 hK2 => gl Tryz.call51 rfl c1 rfl <| gs 0 (cI (aK 1)) rfl zz40 rfl rfl rfl rfl rfl rfl rfl <| gn hK2 <| gT ?_; clear h ac; intro ac wo h
 exact ret h rfl (.cell (v := (vI (aK 1))) rfl (i := 0) rfl aa40 zz40 rfl rfl rfl .nil) rfl (h.retP (by unfold rational_one; rfl) (by unfold rational_one; exact s1))
def an (n : Int) : GQ :=
 (⟨(aK n), (⟨false, 0⟩ : GI)⟩ : GQ)
theorem bD (n : Int) (k : Nat) (hk : k ≤ 40) (hn : -9223372036854775808 ≤ n ∧ n ≤ 9223372036854775807) (w0 : World) : Calls Tryz.prog 68 #[(.int .i64 n)] w0 (RetP w0 (vQ (an n)) (SzQ k (an n))) := by
 refine enter (N := 6) (args := [(.int .i64 n)]) Tryz.func68 rfl rfl ?_; intro ac h
 have c1 := dZ n k (by omega)  (by omega)
 have s1 := aJ (c1 w0)
 refine bB fun K1 hK1 => ?_
 refine al h (cQ oQ) vv42 rfl rfl fun b1 => gn hK1 <| gr fun K2 hK2 => g0 (aj rfl) rfl <| gl Tryz.call51 rfl c1 rfl <| g0 (bW mD rfl rfl (v := (vQ (⟨(aK n), (⟨false, 0⟩ : GI)⟩ : GQ))) rfl) rfl <| gs 0 (cQ (⟨(aK n), (⟨false, 0⟩ : GI)⟩ : GQ)) rfl zz42 rfl rfl rfl rfl rfl rfl rfl <| gn hK2 <| gT ?_; clear h ac; intro ac wo h
 exact ret h rfl (.cell (v := (vQ (⟨(aK n), (⟨false, 0⟩ : GI)⟩ : GQ))) rfl (i := 0) rfl aa42 zz42 rfl rfl rfl .nil) rfl (h.retP (by unfold an; rfl) (by unfold an; exact ⟨s1, (cu 0 (by decide) (by omega))⟩))
def aA (a : GQ) : GI :=
 bif (decide (a.den = (⟨false, 0⟩ : GI))) then
  rational_one
 else
  a.den
theorem bZ (a : GQ) (k : Nat) (hk : k ≤ 40) (za : SzQ k a) (w0 : World) : Calls Tryz.prog 103 #[(vQ a)] w0 (RetP w0 (vI (aA a)) (SzI k (aA a))) := by
 refine enter (N := 10) (args := [(vQ a)]) Tryz.func103 rfl rfl ?_; intro ac h
 refine bB fun K1 hK1 => ?_
 refine bx h (cQ a) rfl rfl rfl fun b1 => ga (cI (⟨false, 0⟩ : GI)) vv40 rfl rfl fun b2 => gn hK1 <| gq fun K2 hK2 => gr fun K3 hK3 => g0 (fa uu42 rfl zz40 rfl rfl rfl (k' := 2)) rfl <| g1 1 rfl (aZ aa40 zz40 rfl rfl rfl (v := (vI a.den)) rfl) rfl <| g0 (bW lX rfl rfl (v := (vI (⟨false, 0⟩ : GI))) rfl) rfl <| g0 (k7 ou rfl rfl) rfl <| gn hK3 ?_; clear h ac; intro ac wo h
 refine c8 h rfl (fun hc1 => ?_) (fun hc1 => ?_)
 ·
  have hd1 := of_decide_eq_true hc1
  have c1 := dK  k (by omega) 
  have s1 := aJ (c1 w0)
  refine gz h <| gr fun K4 hK4 => gl cc95 rfl c1 rfl <| gs 0 (cI rational_one) rfl zz40 rfl rfl rfl rfl rfl rfl rfl <| gn hK4 <| gT ?_; clear h ac wo; intro ac wo h
  have hd : aA a = rational_one := (cT hc1)
  exact ret h rfl (.cell (v := (vI rational_one)) rfl (i := 0) rfl aa40 zz40 rfl rfl rfl .nil) rfl (h.retP (by rw [hd] <;> rfl) (by rw [hd]; exact s1))
 ·
  have hd1 := of_decide_eq_false hc1
  refine gz h <| gS <| gx hK2 <| gr fun K5 hK5 => g0 (fa uu42 rfl zz40 rfl rfl rfl (k' := 2)) rfl <| g1 1 rfl (aZ aa40 zz40 rfl rfl rfl (v := (vI a.den)) rfl) rfl <| gs 0 (cI a.den) rfl zz40 rfl rfl rfl rfl rfl rfl rfl <| gn hK5 <| gT ?_; clear h ac wo; intro ac wo h
  have hd : aA a = a.den := (cF hc1)
  exact ret h rfl (.cell (v := (vI a.den)) rfl (i := 0) rfl aa40 zz40 rfl rfl rfl .nil) rfl (h.retP (by rw [hd] <;> rfl) (by rw [hd]; exact za.2))
def ar (a : GI) (b : GI) : GI :=
 (cv a b).1
theorem cZ (a : GI) (b : GI) (k : Nat) (hk : (k + 1) ≤ 40) (za : SzI (k + 1) a) (zb : SzI (k + 1) b) (w0 : World) : Calls Tryz.prog 94 #[(vI a), (vI b)] w0 (RetP w0 (vI (ar a b)) (SzI k (ar a b))) := by
 refine enter (N := 16) (args := [(vI a), (vI b)]) Tryz.func94 rfl rfl ?_; intro ac h
 have c1 := jO a b k (by omega) za zb
 have s1 := aJ (c1 w0)
 refine bB fun K1 hK1 => ?_
 refine bx h (cI a) rfl rfl rfl fun b1 => gb (cI b) rfl rfl rfl fun b2 => ga (cI (⟨false, 0⟩ : GI)) vv40 rfl rfl fun b3 => gn hK1 <| gr fun K2 hK2 => g1 2 rfl (aZ aa40 zz40 rfl rfl rfl (v := (vI a)) rfl) rfl <| g1 1 rfl (aZ aa40 zz40 rfl rfl rfl (v := (vI b)) rfl) rfl <| gl Tryz.call116 rfl c1 rfl <| g0 (aj rfl) rfl <| g0 (bq rfl rfl) rfl <| g0 (bq rfl rfl) rfl <| g0 (bq rfl rfl) rfl <| ga (cI (⟨false, 0⟩ : GI)) vv40 rfl rfl fun b4 => ga (cI (⟨false, 0⟩ : GI)) vv40 rfl rfl fun b5 => gs 1 (cI ((cv a b).1)) rfl zz40 rfl rfl rfl rfl rfl rfl rfl <| gs 0 (cI ((cv a b).2.1)) rfl zz40 rfl rfl rfl rfl rfl rfl rfl <| g0 (ah rfl) rfl <| gn hK2 <| gr fun K3 hK3 => g1 1 rfl (aZ aa40 zz40 rfl rfl rfl (v := (vI ((cv a b).1))) rfl) rfl <| gs 2 (cI ((cv a b).1)) rfl zz40 rfl rfl rfl rfl rfl rfl rfl <| gn hK3 <| gT ?_; clear h ac; intro ac wo h
 exact ret h rfl (.cell (v := (vI ((cv a b).1))) rfl (i := 2) rfl aa40 zz40 rfl rfl rfl .nil) rfl (h.retP (by unfold ar; rfl) (by unfold ar; exact s1.1))
def a7 (num : GI) (den : GI) : GQ :=
 bif (decide ((bY den) < 0)) then
  bif (decide ((ar (ak den) (az (ak num) (ak den))) = rational_one)) then
   (⟨(ar (ak num) (az (ak num) (ak den))), (⟨false, 0⟩ : GI)⟩ : GQ)
  else
   (⟨(ar (ak num) (az (ak num) (ak den))), (ar (ak den) (az (ak num) (ak den)))⟩ : GQ)
 else
  bif (decide ((ar den (az num den)) = rational_one)) then
   (⟨(ar num (az num den)), (⟨false, 0⟩ : GI)⟩ : GQ)
  else
   (⟨(ar num (az num den)), (ar den (az num den))⟩ : GQ)
theorem cG (num : GI) (den : GI) (k : Nat) (hk : (k + 1) ≤ 40) (znum : SzI (k + 1) num) (zden : SzI (k + 1) den) (w0 : World) : Calls Tryz.prog 77 #[(vI num), (vI den)] w0 (RetP w0 (vQ (a7 num den)) (SzQ k (a7 num den))) := by
 refine enter (N := 29) (args := [(vI num), (vI den)]) Tryz.func77 rfl rfl ?_; intro ac h
 have p2 := aJ ((dy den) w0)
 refine bB fun K1 hK1 => ?_
 refine bx h (cI num) rfl rfl rfl fun b1 => gb (cI den) rfl rfl rfl fun b2 => ga (cQ oQ) vv42 rfl rfl fun b3 => gn hK1 <| gq fun K2 hK2 => gr fun K3 hK3 => g1 1 rfl (aZ aa40 zz40 rfl rfl rfl (v := (vI den)) rfl) rfl <| gl cc76 rfl (dy den) rfl <| g0 (dr rfl rfl) rfl <| gn hK3 ?_; clear h ac; intro ac wo h
 refine c8 h rfl (fun hc1 => ?_) (fun hc1 => ?_)
 ·
  have hd1 := of_decide_eq_true hc1
  have s3 := aJ ((d6 num (k + 1) (by omega) znum) w0)
  have s4 := aJ ((d6 den (k + 1) (by omega) zden) w0)
  refine dc mixed [dw _ [2], dv _, dw _ [1], dv _, dw _ [2], dw _ [1]] [⟨_, []⟩, ⟨.blk b2 (cI den) 40, [(5, .con _)]⟩, ⟨.blk b1 (cI num) 40, [(4, .con _)]⟩] h rfl (by kernel_rfl) ⟨fun _ _ => bT _ rfl rfl (aZ aa40 zz40 rfl rfl rfl (v := (vI num)) rfl), fun _ _ => dY (dF cc92 rfl (d6 num (k + 1) (by omega) znum)), fun _ _ => bT _ rfl rfl (aZ aa40 zz40 rfl rfl rfl (v := (vI den)) rfl), fun _ _ => dY (dF cc92 rfl (d6 den (k + 1) (by omega) zden)), fun _ _ => es _ [.blk b1 (cI (ak num)) 40] rfl rfl (eW zz40 rfl rfl rfl rfl rfl rfl rfl), fun _ _ => es _ [.blk b2 (cI (ak den)) 40] rfl rfl (eW zz40 rfl rfl rfl rfl rfl rfl rfl), trivial⟩ ?_
  clear h ac wo; intro ξ ac wo hφ h
  replace h : St w0 29 [(2, (ptr b1 0)), (3, (ptr b2 0)), (4, (ptr b3 0))] [.blk b3 (cQ oQ) 42, .blk b2 (cI (ak den)) 40, .blk b1 (cI (ak num)) 40] ac wo := h.sub ⟨rfl, rfl, rfl, trivial⟩
  clear hφ ξ
  have c5 := fR (ak num) (ak den) (k + 1) (by omega) s3 s4
  have s5 := aJ (c5 w0)
  have s6 := aJ ((cZ (ak num) (az (ak num) (ak den)) k (by omega) s3 s5) w0)
  have s7 := aJ ((cZ (ak den) (az (ak num) (ak den)) k (by omega) s4 s5) w0)
  refine gz h <| gx hK2 <| gr fun K4 hK4 => g1 2 rfl (aZ aa40 zz40 rfl rfl rfl (v := (vI (ak num))) rfl) rfl <| g1 1 rfl (aZ aa40 zz40 rfl rfl rfl (v := (vI (ak den))) rfl) rfl <| gl Tryz.call93 rfl c5 rfl <| ga (cI (⟨false, 0⟩ : GI)) vv40 rfl rfl fun b4 => gs 0 (cI (az (ak num) (ak den))) rfl zz40 rfl rfl rfl rfl rfl rfl rfl <| gn hK4 <| gq fun K5 hK5 => ?_; clear h ac wo; intro ac wo h
  refine dc mixed [dw _ [3], dw _ [0], dv _, dw _ [2], dw _ [0], dv _, dw _ [3], dw _ [2]] [⟨_, []⟩, ⟨_, []⟩, ⟨.blk b2 (cI (ak den)) 40, [(7, .con _)]⟩, ⟨.blk b1 (cI (ak num)) 40, [(6, .con _)]⟩] h rfl (by kernel_rfl) ⟨fun _ _ => bT _ rfl rfl (aZ aa40 zz40 rfl rfl rfl (v := (vI (ak num))) rfl), fun _ _ => bT _ rfl rfl (aZ aa40 zz40 rfl rfl rfl (v := (vI (az (ak num) (ak den)))) rfl), fun _ _ => dY (dF cc94 rfl (cZ (ak num) (az (ak num) (ak den)) k (by omega) s3 s5)), fun _ _ => bT _ rfl rfl (aZ aa40 zz40 rfl rfl rfl (v := (vI (ak den))) rfl), fun _ _ => bT _ rfl rfl (aZ aa40 zz40 rfl rfl rfl (v := (vI (az (ak num) (ak den)))) rfl), fun _ _ => dY (dF cc94 rfl (cZ (ak den) (az (ak num) (ak den)) k (by omega) s4 s5)), fun _ _ => es _ [.blk b1 (cI (ar (ak num) (az (ak num) (ak den)))) 40] rfl rfl (eW zz40 rfl rfl rfl rfl rfl rfl rfl), fun _ _ => es _ [.blk b2 (cI (ar (ak den) (az (ak num) (ak den)))) 40] rfl rfl (eW zz40 rfl rfl rfl rfl rfl rfl rfl), trivial⟩ ?_
  clear h ac wo; intro ξ ac wo hφ h
  replace h : St w0 29 [(2, (ptr b1 0)), (3, (ptr b2 0)), (4, (ptr b3 0))] [.blk b4 (cI (az (ak num) (ak den))) 40, .blk b3 (cQ oQ) 42, .blk b2 (cI (ar (ak den) (az (ak num) (ak den)))) 40, .blk b1 (cI (ar (ak num) (az (ak num) (ak den)))) 40] ac wo := h.sub ⟨rfl, rfl, rfl, trivial⟩
  clear hφ ξ
  refine hK5 _ _ ?_
  refine bP fun K6 hK6 => ?_
  refine bP fun K7 hK7 => ?_
  have s8 := aJ ((dK  (k + 1) (by omega) ) w0)
  refine dc mixed [dw _ [2], dv _, dv _] [⟨_, []⟩, ⟨_, []⟩, ⟨_, []⟩, ⟨_, []⟩] h rfl (by kernel_rfl) ⟨fun _ _ => bT _ rfl rfl (aZ aa40 zz40 rfl rfl rfl (v := (vI (ar (ak den) (az (ak num) (ak den))))) rfl), fun _ _ => dY (dF cc95 rfl (dK  (k + 1) (by omega) )), fun _ _ => ay (k7 ou rfl rfl), trivial⟩ ?_
  clear h ac wo; intro ξ ac wo hφ h
  replace h : St w0 29 [(2, (ptr b1 0)), (3, (ptr b2 0)), (4, (ptr b3 0)), (24, (.bool (decide ((ar (ak den) (az (ak num) (ak den))) = rational_one))))] [.blk b4 (cI (az (ak num) (ak den))) 40, .blk b3 (cQ oQ) 42, .blk b2 (cI (ar (ak den) (az (ak num) (ak den)))) 40, .blk b1 (cI (ar (ak num) (az (ak num) (ak den)))) 40] ac wo := h.sub ⟨rfl, rfl, rfl, rfl, trivial⟩
  clear hφ ξ
  refine hK7 _ _ ?_
  refine c8 h rfl (fun hc2 => ?_) (fun hc2 => ?_)
  ·
   have hd2 := of_decide_eq_true hc2
   refine gz h <| gR <| g0 (bW lX rfl rfl (v := (vI (⟨false, 0⟩ : GI))) rfl) rfl <| gs 2 (cI (⟨false, 0⟩ : GI)) rfl zz40 rfl rfl rfl rfl rfl rfl rfl <| gn hK6 <| gr fun K8 hK8 => g1 3 rfl (aZ aa40 zz40 rfl rfl rfl (v := (vI (ar (ak num) (az (ak num) (ak den))))) rfl) rfl <| g1 2 rfl (aZ aa40 zz40 rfl rfl rfl (v := (vI (⟨false, 0⟩ : GI))) rfl) rfl <| g0 (bW mD rfl rfl (v := (vQ (⟨(ar (ak num) (az (ak num) (ak den))), (⟨false, 0⟩ : GI)⟩ : GQ))) rfl) rfl <| gs 1 (cQ (⟨(ar (ak num) (az (ak num) (ak den))), (⟨false, 0⟩ : GI)⟩ : GQ)) rfl zz42 rfl rfl rfl rfl rfl rfl rfl <| gn hK8 <| gT ?_; clear h ac wo; intro ac wo h
   have hd : a7 num den = (⟨(ar (ak num) (az (ak num) (ak den))), (⟨false, 0⟩ : GI)⟩ : GQ) := (Eq.trans (cT hc1) (cT hc2))
   exact ret h rfl (.cell (v := (vQ (⟨(ar (ak num) (az (ak num) (ak den))), (⟨false, 0⟩ : GI)⟩ : GQ))) rfl (i := 1) rfl aa42 zz42 rfl rfl rfl .nil) rfl (h.retP (by rw [hd] <;> rfl) (by rw [hd]; exact ⟨s6, (cu 0 (by decide) (by omega))⟩))
  ·
   have hd2 := of_decide_eq_false hc2
   refine gz h <| gS <| gx hK6 <| gr fun K9 hK9 => g1 3 rfl (aZ aa40 zz40 rfl rfl rfl (v := (vI (ar (ak num) (az (ak num) (ak den))))) rfl) rfl <| g1 2 rfl (aZ aa40 zz40 rfl rfl rfl (v := (vI (ar (ak den) (az (ak num) (ak den))))) rfl) rfl <| g0 (bW mD rfl rfl (v := (vQ (⟨(ar (ak num) (az (ak num) (ak den))), (ar (ak den) (az (ak num) (ak den)))⟩ : GQ))) rfl) rfl <| gs 1 (cQ (⟨(ar (ak num) (az (ak num) (ak den))), (ar (ak den) (az (ak num) (ak den)))⟩ : GQ)) rfl zz42 rfl rfl rfl rfl rfl rfl rfl <| gn hK9 <| gT ?_; clear h ac wo; intro ac wo h
   have hd : a7 num den = (⟨(ar (ak num) (az (ak num) (ak den))), (ar (ak den) (az (ak num) (ak den)))⟩ : GQ) := (Eq.trans (cT hc1) (cF hc2))
   exact ret h rfl (.cell (v := (vQ (⟨(ar (ak num) (az (ak num) (ak den))), (ar (ak den) (az (ak num) (ak den)))⟩ : GQ))) rfl (i := 1) rfl aa42 zz42 rfl rfl rfl .nil) rfl (h.retP (by rw [hd] <;> rfl) (by rw [hd]; exact ⟨s6, s7⟩))
 ·
  have hd1 := of_decide_eq_false hc1
  have c9 := fR num den (k + 1) (by omega) znum zden
  have s9 := aJ (c9 w0)
  have s10 := aJ ((cZ num (az num den) k (by omega) znum s9) w0)
  have s11 := aJ ((cZ den (az num den) k (by omega) zden s9) w0)
  refine gz h <| gS <| gx hK2 <| gr fun K10 hK10 => g1 2 rfl (aZ aa40 zz40 rfl rfl rfl (v := (vI num)) rfl) rfl <| g1 1 rfl (aZ aa40 zz40 rfl rfl rfl (v := (vI den)) rfl) rfl <| gl Tryz.call93 rfl c9 rfl <| ga (cI (⟨false, 0⟩ : GI)) vv40 rfl rfl fun b5 => gs 0 (cI (az num den)) rfl zz40 rfl rfl rfl rfl rfl rfl rfl <| gn hK10 <| gq fun K11 hK11 => ?_; clear h ac wo; intro ac wo h
  refine dc mixed [dw _ [3], dw _ [0], dv _, dw _ [2], dw _ [0], dv _, dw _ [3], dw _ [2]] [⟨_, []⟩, ⟨_, []⟩, ⟨.blk b2 (cI den) 40, [(7, .con _)]⟩, ⟨.blk b1 (cI num) 40, [(6, .con _)]⟩] h rfl (by kernel_rfl) ⟨fun _ _ => bT _ rfl rfl (aZ aa40 zz40 rfl rfl rfl (v := (vI num)) rfl), fun _ _ => bT _ rfl rfl (aZ aa40 zz40 rfl rfl rfl (v := (vI (az num den))) rfl), fun _ _ => dY (dF cc94 rfl (cZ num (az num den) k (by omega) znum s9)), fun _ _ => bT _ rfl rfl (aZ aa40 zz40 rfl rfl rfl (v := (vI den)) rfl), fun _ _ => bT _ rfl rfl (aZ aa40 zz40 rfl rfl rfl (v := (vI (az num den))) rfl), fun _ _ => dY (dF cc94 rfl (cZ den (az num den) k (by omega) zden s9)), fun _ _ => es _ [.blk b1 (cI (ar num (az num den))) 40] rfl rfl (eW zz40 rfl rfl rfl rfl rfl rfl rfl), fun _ _ => es _ [.blk b2 (cI (ar den (az num den))) 40] rfl rfl (eW zz40 rfl rfl rfl rfl rfl rfl rfl), trivial⟩ ?_
  clear h ac wo; intro ξ ac wo hφ h
  replace h : St w0 29 [(2, (ptr b1 0)), (3, (ptr b2 0)), (4, (ptr b3 0))] [.blk b5 (cI (az num den)) 40, .blk b3 (cQ oQ) 42, .blk b2 (cI (ar den (az num den))) 40, .blk b1 (cI (ar num (az num den))) 40] ac wo := h.sub ⟨rfl, rfl, rfl, trivial⟩
  clear hφ ξ
  refine hK11 _ _ ?_
  refine bP fun K12 hK12 => ?_
  refine bP fun K13 hK13 => ?_
  have s12 := aJ ((dK  (k + 1) (by omega) ) w0)
  refine dc mixed [dw _ [2], dv _, dv _] [⟨_, []⟩, ⟨_, []⟩, ⟨_, []⟩, ⟨_, []⟩] h rfl (by kernel_rfl) ⟨fun _ _ => bT _ rfl rfl (aZ aa40 zz40 rfl rfl rfl (v := (vI (ar den (az num den)))) rfl), fun _ _ => dY (dF cc95 rfl (dK  (k + 1) (by omega) )), fun _ _ => ay (k7 ou rfl rfl), trivial⟩ ?_
  clear h ac wo; intro ξ ac wo hφ h
  replace h : St w0 29 [(2, (ptr b1 0)), (3, (ptr b2 0)), (4, (ptr b3 0)), (24, (.bool (decide ((ar den (az num den)) = rational_one))))] [.blk b5 (cI (az num den)) 40, .blk b3 (cQ oQ) 42, .blk b2 (cI (ar den (az num den))) 40, .blk b1 (cI (ar num (az num den))) 40] ac wo := h.sub ⟨rfl, rfl, rfl, rfl, trivial⟩
  clear hφ ξ
  refine hK13 _ _ ?_
  refine c8 h rfl (fun hc3 => ?_) (fun hc3 => ?_)
  ·
   have hd3 := of_decide_eq_true hc3
   refine gz h <| gR <| g0 (bW lX rfl rfl (v := (vI (⟨false, 0⟩ : GI))) rfl) rfl <| gs 2 (cI (⟨false, 0⟩ : GI)) rfl zz40 rfl rfl rfl rfl rfl rfl rfl <| gn hK12 <| gr fun K14 hK14 => g1 3 rfl (aZ aa40 zz40 rfl rfl rfl (v := (vI (ar num (az num den)))) rfl) rfl <| g1 2 rfl (aZ aa40 zz40 rfl rfl rfl (v := (vI (⟨false, 0⟩ : GI))) rfl) rfl <| g0 (bW mD rfl rfl (v := (vQ (⟨(ar num (az num den)), (⟨false, 0⟩ : GI)⟩ : GQ))) rfl) rfl <| gs 1 (cQ (⟨(ar num (az num den)), (⟨false, 0⟩ : GI)⟩ : GQ)) rfl zz42 rfl rfl rfl rfl rfl rfl rfl <| gn hK14 <| gT ?_; clear h ac wo; intro ac wo h
   have hd : a7 num den = (⟨(ar num (az num den)), (⟨false, 0⟩ : GI)⟩ : GQ) := (Eq.trans (cF hc1) (cT hc3))
   exact ret h rfl (.cell (v := (vQ (⟨(ar num (az num den)), (⟨false, 0⟩ : GI)⟩ : GQ))) rfl (i := 1) rfl aa42 zz42 rfl rfl rfl .nil) rfl (h.retP (by rw [hd] <;> rfl) (by rw [hd]; exact ⟨s10, (cu 0 (by decide) (by omega))⟩))
  ·
   have hd3 := of_decide_eq_false hc3
   refine gz h <| gS <| gx hK12 <| gr fun K15 hK15 => g1 3 rfl (aZ aa40 zz40 rfl rfl rfl (v := (vI (ar num (az num den)))) rfl) rfl <| g1 2 rfl (aZ aa40 zz40 rfl rfl rfl (v := (vI (ar den (az num den)))) rfl) rfl <| g0 (bW mD rfl rfl (v := (vQ (⟨(ar num (az num den)), (ar den (az num den))⟩ : GQ))) rfl) rfl <| gs 1 (cQ (⟨(ar num (az num den)), (ar den (az num den))⟩ : GQ)) rfl zz42 rfl rfl rfl rfl rfl rfl rfl <| gn hK15 <| gT ?_; clear h ac wo; intro ac wo h
   have hd : a7 num den = (⟨(ar num (az num den)), (ar den (az num den))⟩ : GQ) := (Eq.trans (cF hc1) (cF hc3))
   exact ret h rfl (.cell (v := (vQ (⟨(ar num (az num den)), (ar den (az num den))⟩ : GQ))) rfl (i := 1) rfl aa42 zz42 rfl rfl rfl .nil) rfl (h.retP (by rw [hd] <;> rfl) (by rw [hd]; exact ⟨s10, s11⟩))
def aC (a : GQ) (b : GQ) : GI × GI × GI :=
 bif (decide (a.den = b.den)) then
  (a.num, b.num, (aA a))
 else
  ((br a.num (aA b)), (br b.num (aA a)), (br (aA a) (aA b)))
theorem gY (a : GQ) (b : GQ) (k : Nat) (hk : (k + 1) ≤ 40) (za : SzQ (k + 1) a) (zb : SzQ (k + 1) b) (w0 : World) : Calls Tryz.prog 100 #[(vQ a), (vQ b)] w0 (RetP w0 (.tuple #[(vI ((aC a b).1)), (vI ((aC a b).2.1)), (vI ((aC a b).2.2))]) (SzI k ((aC a b).1) ∧ SzI k ((aC a b).2.1) ∧ SzI k ((aC a b).2.2))) := by
 refine enter (N := 33) (args := [(vQ a), (vQ b)]) Tryz.func100 rfl rfl ?_; intro ac h
 refine bB fun K1 hK1 => ?_
 refine bx h (cQ a) rfl rfl rfl fun b1 => gb (cQ b) rfl rfl rfl fun b2 => ga (cI (⟨false, 0⟩ : GI)) vv40 rfl rfl fun b3 => ga (cI (⟨false, 0⟩ : GI)) vv40 rfl rfl fun b4 => ga (cI (⟨false, 0⟩ : GI)) vv40 rfl rfl fun b5 => gn hK1 <| gq fun K2 hK2 => gr fun K3 hK3 => g0 (fa uu42 rfl zz40 rfl rfl rfl (k' := 2)) rfl <| g1 4 rfl (aZ aa40 zz40 rfl rfl rfl (v := (vI a.den)) rfl) rfl <| g0 (fa uu42 rfl zz40 rfl rfl rfl (k' := 2)) rfl <| g1 3 rfl (aZ aa40 zz40 rfl rfl rfl (v := (vI b.den)) rfl) rfl <| g0 (k7 ou rfl rfl) rfl <| gn hK3 ?_; clear h ac; intro ac wo h
 refine c8 h rfl (fun hc1 => ?_) (fun hc1 => ?_)
 ·
  have hd1 := of_decide_eq_true hc1
  refine bP fun K4 hK4 => ?_
  have s1 := aJ ((bZ a (k + 1) (by omega) za) w0)
  refine dc mixed [dv _, dw _ [4], dv _, dw _ [3], dw _ [4], dv _, dw _ [2], dw _ [1], dw _ [0]] [⟨.blk b5 (cI (⟨false, 0⟩ : GI)) 40, [(8, .con _)]⟩, ⟨.blk b4 (cI (⟨false, 0⟩ : GI)) 40, [(7, .con _)]⟩, ⟨.blk b3 (cI (⟨false, 0⟩ : GI)) 40, [(6, .con _)]⟩, ⟨_, []⟩, ⟨_, []⟩] h rfl (by kernel_rfl) ⟨fun _ _ => ay (fa uu42 rfl zz40 rfl rfl rfl (k' := 0)), fun _ _ => bT _ rfl rfl (aZ aa40 zz40 rfl rfl rfl (v := (vI a.num)) rfl), fun _ _ => ay (fa uu42 rfl zz40 rfl rfl rfl (k' := 0)), fun _ _ => bT _ rfl rfl (aZ aa40 zz40 rfl rfl rfl (v := (vI b.num)) rfl), fun _ _ => bT _ rfl rfl (aZ aa42 zz42 rfl rfl rfl (v := (vQ a)) rfl), fun _ _ => dY (dF cc103 rfl (bZ a (k + 1) (by omega) za)), fun _ _ => es _ [.blk b3 (cI a.num) 40] rfl rfl (eW zz40 rfl rfl rfl rfl rfl rfl rfl), fun _ _ => es _ [.blk b4 (cI b.num) 40] rfl rfl (eW zz40 rfl rfl rfl rfl rfl rfl rfl), fun _ _ => es _ [.blk b5 (cI (aA a)) 40] rfl rfl (eW zz40 rfl rfl rfl rfl rfl rfl rfl), trivial⟩ ?_
  clear h ac wo; intro ξ ac wo hφ h
  replace h : St w0 33 [(4, (ptr b3 0)), (5, (ptr b4 0)), (6, (ptr b5 0))] [.blk b5 (cI (aA a)) 40, .blk b4 (cI b.num) 40, .blk b3 (cI a.num) 40, .blk b2 (cQ b) 42, .blk b1 (cQ a) 42] ac wo := h.sub ⟨rfl, rfl, rfl, trivial⟩
  clear hφ ξ
  refine hK4 _ _ ?_
  refine cr ?_
  have hd : aC a b = (a.num, b.num, (aA a)) := (cT hc1)
  exact ret h rfl (.cell (v := (vI a.num)) rfl (i := 2) rfl aa40 zz40 rfl rfl rfl (.cell (v := (vI b.num)) rfl (i := 1) rfl aa40 zz40 rfl rfl rfl (.cell (v := (vI (aA a))) rfl (i := 0) rfl aa40 zz40 rfl rfl rfl .nil))) rfl (h.retP (by rw [hd] <;> rfl) (by rw [hd]; exact ⟨(ed za (by omega)).1, (ed zb (by omega)).1, (fW s1 (by omega))⟩))
 ·
  have hd1 := of_decide_eq_false hc1
  refine bR ?_
  refine hK2 _ _ ?_
  refine bP fun K5 hK5 => ?_
  have s2 := aJ ((bZ b (k + 1) (by omega) zb) w0)
  have s3 := aJ ((dJ a.num (aA b) k (by omega) za.1 s2) w0)
  have s4 := aJ ((bZ a (k + 1) (by omega) za) w0)
  have s5 := aJ ((dJ b.num (aA a) k (by omega) zb.1 s4) w0)
  have s6 := aJ ((bZ a (k + 1) (by omega) za) w0)
  have s7 := aJ ((bZ b (k + 1) (by omega) zb) w0)
  have s8 := aJ ((dJ (aA a) (aA b) k (by omega) s6 s7) w0)
  refine dc mixed [dv _, dw _ [4], dw _ [3], dv _, dv _, dv _, dw _ [3], dw _ [4], dv _, dv _, dw _ [4], dv _, dw _ [3], dv _, dv _, dw _ [2], dw _ [1], dw _ [0]] [⟨.blk b5 (cI (⟨false, 0⟩ : GI)) 40, [(17, .con _)]⟩, ⟨.blk b4 (cI (⟨false, 0⟩ : GI)) 40, [(16, .con _)]⟩, ⟨.blk b3 (cI (⟨false, 0⟩ : GI)) 40, [(15, .con _)]⟩, ⟨_, []⟩, ⟨_, []⟩] h rfl (by kernel_rfl) ⟨fun _ _ => ay (fa uu42 rfl zz40 rfl rfl rfl (k' := 0)), fun _ _ => bT _ rfl rfl (aZ aa40 zz40 rfl rfl rfl (v := (vI a.num)) rfl), fun _ _ => bT _ rfl rfl (aZ aa42 zz42 rfl rfl rfl (v := (vQ b)) rfl), fun _ _ => dY (dF cc103 rfl (bZ b (k + 1) (by omega) zb)), fun _ _ => dY (dF cc102 rfl (dJ a.num (aA b) k (by omega) za.1 s2)), fun _ _ => ay (fa uu42 rfl zz40 rfl rfl rfl (k' := 0)), fun _ _ => bT _ rfl rfl (aZ aa40 zz40 rfl rfl rfl (v := (vI b.num)) rfl), fun _ _ => bT _ rfl rfl (aZ aa42 zz42 rfl rfl rfl (v := (vQ a)) rfl), fun _ _ => dY (dF cc103 rfl (bZ a (k + 1) (by omega) za)), fun _ _ => dY (dF cc102 rfl (dJ b.num (aA a) k (by omega) zb.1 s4)), fun _ _ => bT _ rfl rfl (aZ aa42 zz42 rfl rfl rfl (v := (vQ a)) rfl), fun _ _ => dY (dF cc103 rfl (bZ a (k + 1) (by omega) za)), fun _ _ => bT _ rfl rfl (aZ aa42 zz42 rfl rfl rfl (v := (vQ b)) rfl), fun _ _ => dY (dF cc103 rfl (bZ b (k + 1) (by omega) zb)), fun _ _ => dY (dF cc102 rfl (dJ (aA a) (aA b) k (by omega) s6 s7)), fun _ _ => es _ [.blk b3 (cI (br a.num (aA b))) 40] rfl rfl (eW zz40 rfl rfl rfl rfl rfl rfl rfl), fun _ _ => es _ [.blk b4 (cI (br b.num (aA a))) 40] rfl rfl (eW zz40 rfl rfl rfl rfl rfl rfl rfl), fun _ _ => es _ [.blk b5 (cI (br (aA a) (aA b))) 40] rfl rfl (eW zz40 rfl rfl rfl rfl rfl rfl rfl), trivial⟩ ?_
  clear h ac wo; intro ξ ac wo hφ h
  replace h : St w0 33 [(4, (ptr b3 0)), (5, (ptr b4 0)), (6, (ptr b5 0))] [.blk b5 (cI (br (aA a) (aA b))) 40, .blk b4 (cI (br b.num (aA a))) 40, .blk b3 (cI (br a.num (aA b))) 40, .blk b2 (cQ b) 42, .blk b1 (cQ a) 42] ac wo := h.sub ⟨rfl, rfl, rfl, trivial⟩
  clear hφ ξ
  refine hK5 _ _ ?_
  refine cr ?_
  have hd : aC a b = ((br a.num (aA b)), (br b.num (aA a)), (br (aA a) (aA b))) := (cF hc1)
  exact ret h rfl (.cell (v := (vI (br a.num (aA b)))) rfl (i := 2) rfl aa40 zz40 rfl rfl rfl (.cell (v := (vI (br b.num (aA a)))) rfl (i := 1) rfl aa40 zz40 rfl rfl rfl (.cell (v := (vI (br (aA a) (aA b)))) rfl (i := 0) rfl aa40 zz40 rfl rfl rfl .nil))) rfl (h.retP (by rw [hd] <;> rfl) (by rw [hd]; exact ⟨s3, s5, s8⟩))
def bt (a : GQ) (b : GQ) : GQ :=
 (a7 (dD ((aC a b).1) ((aC a b).2.1)) ((aC a b).2.2))
theorem ew (a : GQ) (b : GQ) (k : Nat) (hk : (k + 3) ≤ 40) (za : SzQ (k + 3) a) (zb : SzQ (k + 3) b) (w0 : World) : Calls Tryz.prog 86 #[(vQ a), (vQ b)] w0 (RetP w0 (vQ (bt a b)) (SzQ k (bt a b))) := by
 refine enter (N := 20) (args := [(vQ a), (vQ b)]) Tryz.func86 rfl rfl ?_; intro ac h
 have c1 := gY a b (k + 2) (by omega) za zb
 have s1 := aJ (c1 w0)
 have s2 := aJ ((je ((aC a b).1) ((aC a b).2.1) (k + 1) (by omega) s1.1 s1.2.1) w0)
 have s3 := aJ ((cG (dD ((aC a b).1) ((aC a b).2.1)) ((aC a b).2.2) k (by omega) s2 (fW s1.2.2 (by omega))) w0)
 refine bB fun K1 hK1 => ?_
 refine bx h (cQ a) rfl rfl rfl fun b1 => gb (cQ b) rfl rfl rfl fun b2 => ga (cQ oQ) vv42 rfl rfl fun b3 => gn hK1 <| gr fun K2 hK2 => g1 2 rfl (aZ aa42 zz42 rfl rfl rfl (v := (vQ a)) rfl) rfl <| g1 1 rfl (aZ aa42 zz42 rfl rfl rfl (v := (vQ b)) rfl) rfl <| gl Tryz.call100 rfl c1 rfl <| g0 (aj rfl) rfl <| g0 (bq rfl rfl) rfl <| g0 (bq rfl rfl) rfl <| g0 (bq rfl rfl) rfl <| ga (cI (⟨false, 0⟩ : GI)) vv40 rfl rfl fun b4 => ga (cI (⟨false, 0⟩ : GI)) vv40 rfl rfl fun b5 => ga (cI (⟨false, 0⟩ : GI)) vv40 rfl rfl fun b6 => gs 2 (cI ((aC a b).1)) rfl zz40 rfl rfl rfl rfl rfl rfl rfl <| gs 1 (cI ((aC a b).2.1)) rfl zz40 rfl rfl rfl rfl rfl rfl rfl <| gs 0 (cI ((aC a b).2.2)) rfl zz40 rfl rfl rfl rfl rfl rfl rfl <| gn hK2 <| gq fun K3 hK3 => ?_; clear h ac; intro ac wo h
 refine dc mixed [dw _ [2], dw _ [1], dv _, dw _ [0], dv _, dw _ [3]] [⟨_, []⟩, ⟨_, []⟩, ⟨_, []⟩, ⟨.blk b3 (cQ oQ) 42, [(5, .con _)]⟩, ⟨_, []⟩, ⟨_, []⟩] h rfl (by kernel_rfl) ⟨fun _ _ => bT _ rfl rfl (aZ aa40 zz40 rfl rfl rfl (v := (vI ((aC a b).1))) rfl), fun _ _ => bT _ rfl rfl (aZ aa40 zz40 rfl rfl rfl (v := (vI ((aC a b).2.1))) rfl), fun _ _ => dY (dF Tryz.call101 rfl (je ((aC a b).1) ((aC a b).2.1) (k + 1) (by omega) s1.1 s1.2.1)), fun _ _ => bT _ rfl rfl (aZ aa40 zz40 rfl rfl rfl (v := (vI ((aC a b).2.2))) rfl), fun _ _ => dY (dF Tryz.call77 rfl (cG (dD ((aC a b).1) ((aC a b).2.1)) ((aC a b).2.2) k (by omega) s2 (fW s1.2.2 (by omega)))), fun _ _ => es _ [.blk b3 (cQ (a7 (dD ((aC a b).1) ((aC a b).2.1)) ((aC a b).2.2))) 42] rfl rfl (eW zz42 rfl rfl rfl rfl rfl rfl rfl), trivial⟩ ?_
 clear h ac wo; intro ξ ac wo hφ h
 replace h : St w0 20 [(4, (ptr b3 0))] [.blk b6 (cI ((aC a b).2.2)) 40, .blk b5 (cI ((aC a b).2.1)) 40, .blk b4 (cI ((aC a b).1)) 40, .blk b3 (cQ (a7 (dD ((aC a b).1) ((aC a b).2.1)) ((aC a b).2.2))) 42, .blk b2 (cQ b) 42, .blk b1 (cQ a) 42] ac wo := h.sub ⟨rfl, trivial⟩
 clear hφ ξ
 refine hK3 _ _ ?_
 refine cr ?_
 exact ret h rfl (.cell (v := (vQ (a7 (dD ((aC a b).1) ((aC a b).2.1)) ((aC a b).2.2)))) rfl (i := 3) rfl aa42 zz42 rfl rfl rfl .nil) rfl (h.retP (by unfold bt; rfl) (by unfold bt; exact s3))
def bC (a : GQ) : GQ :=
 (⟨(ak a.num), a.den⟩ : GQ)
theorem fk (a : GQ) (k : Nat) (hk : k ≤ 40) (za : SzQ k a) (w0 : World) : Calls Tryz.prog 84 #[(vQ a)] w0 (RetP w0 (vQ (bC a)) (SzQ k (bC a))) := by
 refine enter (N := 9) (args := [(vQ a)]) Tryz.func84 rfl rfl ?_; intro ac h
 have s1 := aJ ((d6 a.num k (by omega) za.1) w0)
 refine bB fun K1 hK1 => ?_
 refine bx h (cQ a) rfl rfl rfl fun b1 => ga (cQ oQ) vv42 rfl rfl fun b2 => gn hK1 <| gq fun K2 hK2 => ?_; clear h ac; intro ac wo h
 refine dc mixed [dv _, dw _ [1], dv _, dv _, dw _ [1], dv _, dw _ [0]] [⟨.blk b2 (cQ oQ) 42, [(6, .con _)]⟩, ⟨_, []⟩] h rfl (by kernel_rfl) ⟨fun _ _ => ay (fa uu42 rfl zz40 rfl rfl rfl (k' := 0)), fun _ _ => bT _ rfl rfl (aZ aa40 zz40 rfl rfl rfl (v := (vI a.num)) rfl), fun _ _ => dY (dF cc92 rfl (d6 a.num k (by omega) za.1)), fun _ _ => ay (fa uu42 rfl zz40 rfl rfl rfl (k' := 2)), fun _ _ => bT _ rfl rfl (aZ aa40 zz40 rfl rfl rfl (v := (vI a.den)) rfl), fun _ _ => ay (bW mD rfl rfl (v := (vQ (⟨(ak a.num), a.den⟩ : GQ))) rfl), fun _ _ => es _ [.blk b2 (cQ (⟨(ak a.num), a.den⟩ : GQ)) 42] rfl rfl (eW zz42 rfl rfl rfl rfl rfl rfl rfl), trivial⟩ ?_
 clear h ac wo; intro ξ ac wo hφ h
 replace h : St w0 9 [(2, (ptr b2 0))] [.blk b2 (cQ (⟨(ak a.num), a.den⟩ : GQ)) 42, .blk b1 (cQ a) 42] ac wo := h.sub ⟨rfl, trivial⟩
 clear hφ ξ
 refine hK2 _ _ ?_
 refine cr ?_
 exact ret h rfl (.cell (v := (vQ (⟨(ak a.num), a.den⟩ : GQ))) rfl (i := 0) rfl aa42 zz42 rfl rfl rfl .nil) rfl (h.retP (by unfold bC; rfl) (by unfold bC; exact ⟨s1, za.2⟩))
def ax (a : GQ) (b : GQ) : GQ :=
 (bt a (bC b))
theorem fj (a : GQ) (b : GQ) (k : Nat) (hk : (k + 3) ≤ 40) (za : SzQ (k + 3) a) (zb : SzQ (k + 3) b) (w0 : World) : Calls Tryz.prog 82 #[(vQ a), (vQ b)] w0 (RetP w0 (vQ (ax a b)) (SzQ k (ax a b))) := by
 refine enter (N := 9) (args := [(vQ a), (vQ b)]) Tryz.func82 rfl rfl ?_; intro ac h
 have s1 := aJ ((fk b (k + 3) (by omega) zb) w0)
 have s2 := aJ ((ew a (bC b) k (by omega) za s1) w0)
 refine bB fun K1 hK1 => ?_
 refine bx h (cQ a) rfl rfl rfl fun b1 => gb (cQ b) rfl rfl rfl fun b2 => ga (cQ oQ) vv42 rfl rfl fun b3 => gn hK1 <| gq fun K2 hK2 => ?_; clear h ac; intro ac wo h
 refine dc mixed [dw _ [2], dw _ [1], dv _, dv _, dw _ [0]] [⟨.blk b3 (cQ oQ) 42, [(4, .con _)]⟩, ⟨_, []⟩, ⟨_, []⟩] h rfl (by kernel_rfl) ⟨fun _ _ => bT _ rfl rfl (aZ aa42 zz42 rfl rfl rfl (v := (vQ a)) rfl), fun _ _ => bT _ rfl rfl (aZ aa42 zz42 rfl rfl rfl (v := (vQ b)) rfl), fun _ _ => dY (dF Tryz.call84 rfl (fk b (k + 3) (by omega) zb)), fun _ _ => dY (dF Tryz.call86 rfl (ew a (bC b) k (by omega) za s1)), fun _ _ => es _ [.blk b3 (cQ (bt a (bC b))) 42] rfl rfl (eW zz42 rfl rfl rfl rfl rfl rfl rfl), trivial⟩ ?_
 clear h ac wo; intro ξ ac wo hφ h
 replace h : St w0 9 [(4, (ptr b3 0))] [.blk b3 (cQ (bt a (bC b))) 42, .blk b2 (cQ b) 42, .blk b1 (cQ a) 42] ac wo := h.sub ⟨rfl, trivial⟩
 clear hφ ξ
 refine hK2 _ _ ?_
 refine cr ?_
 exact ret h rfl (.cell (v := (vQ (bt a (bC b)))) rfl (i := 0) rfl aa42 zz42 rfl rfl rfl .nil) rfl (h.retP (by unfold ax; rfl) (by unfold ax; exact s2))
def aO (a : GQ) (b : GQ) : GQ :=
 (a7 (br a.num b.num) (br (aA a) (aA b)))
theorem cL (a : GQ) (b : GQ) (k : Nat) (hk : (k + 2) ≤ 40) (za : SzQ (k + 2) a) (zb : SzQ (k + 2) b) (w0 : World) : Calls Tryz.prog 87 #[(vQ a), (vQ b)] w0 (RetP w0 (vQ (aO a b)) (SzQ k (aO a b))) := by
 refine enter (N := 16) (args := [(vQ a), (vQ b)]) Tryz.func87 rfl rfl ?_; intro ac h
 have s1 := aJ ((dJ a.num b.num (k + 1) (by omega) za.1 zb.1) w0)
 have s2 := aJ ((bZ a (k + 2) (by omega) za) w0)
 have s3 := aJ ((bZ b (k + 2) (by omega) zb) w0)
 have s4 := aJ ((dJ (aA a) (aA b) (k + 1) (by omega) s2 s3) w0)
 have s5 := aJ ((cG (br a.num b.num) (br (aA a) (aA b)) k (by omega) s1 s4) w0)
 refine bB fun K1 hK1 => ?_
 refine bx h (cQ a) rfl rfl rfl fun b1 => gb (cQ b) rfl rfl rfl fun b2 => ga (cQ oQ) vv42 rfl rfl fun b3 => gn hK1 <| gq fun K2 hK2 => ?_; clear h ac; intro ac wo h
 refine dc mixed [dv _, dw _ [2], dv _, dw _ [1], dv _, dw _ [2], dv _, dw _ [1], dv _, dv _, dv _, dw _ [0]] [⟨.blk b3 (cQ oQ) 42, [(11, .con _)]⟩, ⟨_, []⟩, ⟨_, []⟩] h rfl (by kernel_rfl) ⟨fun _ _ => ay (fa uu42 rfl zz40 rfl rfl rfl (k' := 0)), fun _ _ => bT _ rfl rfl (aZ aa40 zz40 rfl rfl rfl (v := (vI a.num)) rfl), fun _ _ => ay (fa uu42 rfl zz40 rfl rfl rfl (k' := 0)), fun _ _ => bT _ rfl rfl (aZ aa40 zz40 rfl rfl rfl (v := (vI b.num)) rfl), fun _ _ => dY (dF cc102 rfl (dJ a.num b.num (k + 1) (by omega) za.1 zb.1)), fun _ _ => bT _ rfl rfl (aZ aa42 zz42 rfl rfl rfl (v := (vQ a)) rfl), fun _ _ => dY (dF cc103 rfl (bZ a (k + 2) (by omega) za)), fun _ _ => bT _ rfl rfl (aZ aa42 zz42 rfl rfl rfl (v := (vQ b)) rfl), fun _ _ => dY (dF cc103 rfl (bZ b (k + 2) (by omega) zb)), fun _ _ => dY (dF cc102 rfl (dJ (aA a) (aA b) (k + 1) (by omega) s2 s3)), fun _ _ => dY (dF Tryz.call77 rfl (cG (br a.num b.num) (br (aA a) (aA b)) k (by omega) s1 s4)), fun _ _ => es _ [.blk b3 (cQ (a7 (br a.num b.num) (br (aA a) (aA b)))) 42] rfl rfl (eW zz42 rfl rfl rfl rfl rfl rfl rfl), trivial⟩ ?_
 clear h ac wo; intro ξ ac wo hφ h
 replace h : St w0 16 [(4, (ptr b3 0))] [.blk b3 (cQ (a7 (br a.num b.num) (br (aA a) (aA b)))) 42, .blk b2 (cQ b) 42, .blk b1 (cQ a) 42] ac wo := h.sub ⟨rfl, trivial⟩
 clear hφ ξ
 refine hK2 _ _ ?_
 refine cr ?_
 exact ret h rfl (.cell (v := (vQ (a7 (br a.num b.num) (br (aA a) (aA b))))) rfl (i := 0) rfl aa42 zz42 rfl rfl rfl .nil) rfl (h.retP (by unfold aO; rfl) (by unfold aO; exact s5))
def aI (a : GQ) : Int :=
 (bY a.num)
theorem ck (a : GQ) (w0 : World) : Calls Tryz.prog 55 #[(vQ a)] w0 (RetP w0 (.int .i64 (aI a)) ((-1 ≤ (aI a) ∧ (aI a) ≤ 1))) := by
 refine enter (N := 6) (args := [(vQ a)]) Tryz.func55 rfl rfl ?_; intro ac h
 have p2 := aJ ((dy a.num) w0)
 refine bB fun K1 hK1 => ?_
 refine bx h (cQ a) rfl rfl rfl fun b1 => g0 (ah rfl) rfl <| gn hK1 <| gr fun K2 hK2 => g0 (fa uu42 rfl zz40 rfl rfl rfl (k' := 0)) rfl <| g1 0 rfl (aZ aa40 zz40 rfl rfl rfl (v := (vI a.num)) rfl) rfl <| gl cc76 rfl (dy a.num) rfl <| g0 (ah rfl) rfl <| gn hK2 <| gT ?_; clear h ac; intro ac wo h
 exact ret h rfl (.tmp rfl .nil) rfl (h.retP (by unfold aI; rfl) (by unfold aI; exact by first | omega | exact ee (by omega) (by omega)))
def dz (a : GQ) (b : GQ) : Int :=
 bif (decide (a = b)) then
  0
 else
  (aV ((aC a b).1) ((aC a b).2.1))
theorem gu (a : GQ) (b : GQ) (k : Nat) (hk : (k + 1) ≤ 40) (za : SzQ (k + 1) a) (zb : SzQ (k + 1) b) (w0 : World) : Calls Tryz.prog 99 #[(vQ a), (vQ b)] w0 (RetP w0 (.int .i64 (dz a b)) ((-1 ≤ (dz a b) ∧ (dz a b) ≤ 1))) := by
 refine enter (N := 21) (args := [(vQ a), (vQ b)]) Tryz.func99 rfl rfl ?_; intro ac h
 refine bB fun K1 hK1 => ?_
 refine bx h (cQ a) rfl rfl rfl fun b1 => gb (cQ b) rfl rfl rfl fun b2 => g0 (ah rfl) rfl <| gn hK1 <| gq fun K2 hK2 => gr fun K3 hK3 => g1 1 rfl (aZ aa42 zz42 rfl rfl rfl (v := (vQ a)) rfl) rfl <| g1 0 rfl (aZ aa42 zz42 rfl rfl rfl (v := (vQ b)) rfl) rfl <| g0 (k7 eqp42 rfl rfl) rfl <| gn hK3 ?_; clear h ac; intro ac wo h
 refine c8 h rfl (fun hc1 => ?_) (fun hc1 => ?_)
 ·
  have hd1 := of_decide_eq_true hc1
  refine gz h <| gr fun K4 hK4 => g0 (ah rfl) rfl <| gn hK4 <| gT ?_; clear h ac wo; intro ac wo h
  have hd : dz a b = 0 := (cT hc1)
  exact ret h rfl (.tmp rfl .nil) rfl (h.retP (by rw [hd] <;> rfl) (by rw [hd]; exact by first | omega | exact ee (by omega) (by omega)))
 ·
  have hd1 := of_decide_eq_false hc1
  have c1 := gY a b k (by omega) za zb
  have s1 := aJ (c1 w0)
  have p3 := aJ ((eJ ((aC a b).1) ((aC a b).2.1) k (by omega) s1.1 s1.2.1) w0)
  refine gz h <| gS <| gx hK2 <| gr fun K5 hK5 => g1 1 rfl (aZ aa42 zz42 rfl rfl rfl (v := (vQ a)) rfl) rfl <| g1 0 rfl (aZ aa42 zz42 rfl rfl rfl (v := (vQ b)) rfl) rfl <| gl Tryz.call100 rfl c1 rfl <| g0 (aj rfl) rfl <| g0 (bq rfl rfl) rfl <| g0 (bq rfl rfl) rfl <| g0 (bq rfl rfl) rfl <| ga (cI (⟨false, 0⟩ : GI)) vv40 rfl rfl fun b3 => ga (cI (⟨false, 0⟩ : GI)) vv40 rfl rfl fun b4 => ga (cI (⟨false, 0⟩ : GI)) vv40 rfl rfl fun b5 => gs 2 (cI ((aC a b).1)) rfl zz40 rfl rfl rfl rfl rfl rfl rfl <| gs 1 (cI ((aC a b).2.1)) rfl zz40 rfl rfl rfl rfl rfl rfl rfl <| gs 0 (cI ((aC a b).2.2)) rfl zz40 rfl rfl rfl rfl rfl rfl rfl <| gn hK5 <| gr fun K6 hK6 => g1 2 rfl (aZ aa40 zz40 rfl rfl rfl (v := (vI ((aC a b).1))) rfl) rfl <| g1 1 rfl (aZ aa40 zz40 rfl rfl rfl (v := (vI ((aC a b).2.1))) rfl) rfl <| gl Tryz.call118 rfl (eJ ((aC a b).1) ((aC a b).2.1) k (by omega) s1.1 s1.2.1) rfl <| g0 (ah rfl) rfl <| gn hK6 <| gT ?_; clear h ac wo; intro ac wo h
  have hd : dz a b = (aV ((aC a b).1) ((aC a b).2.1)) := (cF hc1)
  exact ret h rfl (.tmp rfl .nil) rfl (h.retP (by rw [hd] <;> rfl) (by rw [hd]; exact by first | omega | exact ee (by omega) (by omega)))
def aM (c : GQ) : Qd :=
 (⟨c, (⟨(⟨false, 0⟩ : GI), (⟨false, 0⟩ : GI)⟩ : GQ), (⟨(⟨false, 0⟩ : GI), (⟨false, 0⟩ : GI)⟩ : GQ)⟩ : Qd)
theorem fV (c : GQ) (k : Nat) (hk : k ≤ 40) (zc : SzQ k c) (w0 : World) : Calls Tryz.prog 71 #[(vQ c)] w0 (RetP w0 (vD (aM c)) (SzD k (aM c))) := by
 refine enter (N := 5) (args := [(vQ c)]) Tryz.func71 rfl rfl ?_; intro ac h
 refine bB fun K1 hK1 => ?_
 refine bx h (cQ c) rfl rfl rfl fun b1 => ga (cD oD) Tryz.zeroValue75 rfl rfl fun b2 => gn hK1 <| gr fun K2 hK2 => g1 1 rfl (aZ aa42 zz42 rfl rfl rfl (v := (vQ c)) rfl) rfl <| g0 (bW bld75 rfl rfl (v := (vD (⟨c, oQ, oQ⟩ : Qd))) rfl) rfl <| gs 0 (cD (⟨c, oQ, oQ⟩ : Qd)) rfl Tryz.sizeOf75 rfl rfl rfl rfl rfl rfl rfl <| gn hK2 <| gT ?_; clear h ac; intro ac wo h
 exact ret h rfl (.cell (v := (vD (⟨c, oQ, oQ⟩ : Qd))) rfl (i := 0) rfl Tryz.isAgg75 Tryz.sizeOf75 rfl rfl rfl .nil) rfl (h.retP (by unfold aM; rfl) (by unfold aM; exact ⟨zc, ⟨(cu 0 (by decide) (by omega)), (cu 0 (by decide) (by omega))⟩, ⟨(cu 0 (by decide) (by omega)), (cu 0 (by decide) (by omega))⟩⟩))
def aW (x : GR) : GQ :=
 bif x.neg then
  (an (-1))
 else
  (an 1)
theorem fO (x : GR) (k : Nat) (hk : k ≤ 40) (zx : SzR k x) (w0 : World) : Calls Tryz.prog 83 #[(vR x)] w0 (RetP w0 (vQ (aW x)) (SzQ k (aW x))) := by
 refine enter (N := 7) (args := [(vR x)]) Tryz.func83 rfl rfl ?_; intro ac h
 refine bB fun K1 hK1 => ?_
 refine bx h (cR x) rfl rfl rfl fun b1 => ga (cQ oQ) vv42 rfl rfl fun b2 => gn hK1 <| gq fun K2 hK2 => gr fun K3 hK3 => g0 (fa uu64 rfl zz4 rfl rfl rfl (k' := 8)) rfl <| g1 1 rfl (aZ aa4 zz4 rfl rfl rfl (v := (.bool x.neg)) rfl) rfl <| gn hK3 ?_; clear h ac; intro ac wo h
 refine c8 h rfl (fun hc1 => ?_) (fun hc1 => ?_)
 ·
  have c1 := bD (-1) k (by omega)  (by omega)
  have s1 := aJ (c1 w0)
  refine gz h <| gr fun K4 hK4 => gl cc68 rfl c1 rfl <| gs 0 (cQ (an (-1))) rfl zz42 rfl rfl rfl rfl rfl rfl rfl <| gn hK4 <| gT ?_; clear h ac wo; intro ac wo h
  have hd : aW x = (an (-1)) := (cT hc1)
  exact ret h rfl (.cell (v := (vQ (an (-1)))) rfl (i := 0) rfl aa42 zz42 rfl rfl rfl .nil) rfl (h.retP (by rw [hd] <;> rfl) (by rw [hd]; exact s1))
 ·
  have c2 := bD 1 k (by omega)  (by omega)
  have s2 := aJ (c2 w0)
  refine gz h <| gS <| gx hK2 <| gr fun K5 hK5 => gl cc68 rfl c2 rfl <| gs 0 (cQ (an 1)) rfl zz42 rfl rfl rfl rfl rfl rfl rfl <| gn hK5 <| gT ?_; clear h ac wo; intro ac wo h
  have hd : aW x = (an 1) := (cF hc1)
  exact ret h rfl (.cell (v := (vQ (an 1))) rfl (i := 0) rfl aa42 zz42 rfl rfl rfl .nil) rfl (h.retP (by rw [hd] <;> rfl) (by rw [hd]; exact s2))
def dG (a : GQ) (b : GQ) (r : GQ) : Int :=
 bif ((((aI b) * (aI r)) == 0) || ((aI a) == ((aI b) * (aI r)))) then
  (aI a)
 else
  bif ((aI a) == 0) then
   ((aI b) * (aI r))
  else
   ((aI a) * (dz (aO a a) (aO (aO b b) r)))
theorem gJ (a : GQ) (b : GQ) (r : GQ) (k : Nat) (hk : (k + 8) ≤ 40) (za : SzQ (k + 8) a) (zb : SzQ (k + 8) b) (zr : SzQ (k + 8) r) (w0 : World) : Calls Tryz.prog 85 #[(vQ a), (vQ b), (vQ r)] w0 (RetP w0 (.int .i64 (dG a b r)) ((-1 ≤ (dG a b r) ∧ (dG a b r) ≤ 1))) := by
 refine enter (N := 40) (args := [(vQ a), (vQ b), (vQ r)]) Tryz.func85 rfl rfl ?_; intro ac h
 have p2 := aJ ((ck a) w0)
 have p4 := aJ ((ck b) w0)
 have p6 := aJ ((ck r) w0)
 refine bB fun K1 hK1 => ?_
 refine bx h (cQ a) rfl rfl rfl fun b1 => gb (cQ b) rfl rfl rfl fun b2 => gb (cQ r) rfl rfl rfl fun b3 => g0 (ah rfl) rfl <| gn hK1 <| gq fun K2 hK2 => ?_; clear h ac; intro ac wo h
 refine dc mixed [dw _ [2], dv _, dw _ [1], dv _, dw _ [0], dv _, dv _, dv _, dv _] [⟨_, []⟩, ⟨_, []⟩, ⟨_, []⟩] h rfl (by kernel_rfl) ⟨fun _ _ => bT _ rfl rfl (aZ aa42 zz42 rfl rfl rfl (v := (vQ a)) rfl), fun _ _ => dY (dF cc55 rfl (ck a)), fun _ _ => bT _ rfl rfl (aZ aa42 zz42 rfl rfl rfl (v := (vQ b)) rfl), fun _ _ => dY (dF cc55 rfl (ck b)), fun _ _ => bT _ rfl rfl (aZ aa42 zz42 rfl rfl rfl (v := (vQ r)) rfl), fun _ _ => dY (dF cc55 rfl (ck r)), fun _ _ => ay (jG rfl rfl (r := ((aI b) * (aI r))) (by first | (rw [IntKind.wrap_i64]; omega) | exact gI (by omega) (by omega))), fun _ _ => ay (ah rfl), fun _ _ => ay (ah rfl), trivial⟩ ?_
 clear h ac wo; intro ξ ac wo hφ h
 replace h : St w0 40 [(3, (ptr b1 0)), (4, (ptr b2 0)), (5, (ptr b3 0)), (7, (.int .i64 (aI a))), (8, (.int .i64 ((aI b) * (aI r))))] [.blk b3 (cQ r) 42, .blk b2 (cQ b) 42, .blk b1 (cQ a) 42] ac wo := h.sub ⟨rfl, rfl, rfl, rfl, rfl, trivial⟩
 clear hφ ξ
 refine gz h <| gx hK2 <| gq fun K3 hK3 => gB <| gr fun K4 hK4 => g0 (aj rfl) rfl <| g0 (dV rfl rfl) rfl <| g0 (aj rfl) rfl <| ge2 rfl rfl (fun hg => (Rd.of_nil (aj rfl)).step) rfl <| ge2 rfl rfl (fun hg => (Rd.of_nil (aj rfl)).step) rfl <| ge2 rfl rfl (fun hg => (Rd.of_nil (dV (bo rfl hg) (bo rfl hg))).step) rfl <| g0 (mM rfl (fun e => (bo rfl (mO e)))) rfl <| g0 (ah rfl) rfl <| gn hK4 ?_; clear h ac wo; intro ac wo h
 refine c8 h rfl (fun hc1 => ?_) (fun hc1 => ?_)
 ·
  refine gz h <| gr fun K5 hK5 => g0 (aj rfl) rfl <| g0 (ah rfl) rfl <| gn hK5 <| gT ?_; clear h ac wo; intro ac wo h
  have hd : dG a b r = (aI a) := (cT hc1)
  exact ret h rfl (.tmp rfl .nil) rfl (h.retP (by rw [hd] <;> rfl) (by rw [hd]; exact by first | omega | exact ee (by omega) (by omega)))
 ·
  refine gz h <| gr fun K6 hK6 => g0 (aj rfl) rfl <| g0 (dV rfl rfl) rfl <| g0 (ah rfl) rfl <| gn hK6 ?_; clear h ac wo; intro ac wo h
  refine c8 h rfl (fun hc2 => ?_) (fun hc2 => ?_)
  ·
   have hd2 := eq_of_beq hc2
   refine gz h <| gr fun K7 hK7 => g0 (aj rfl) rfl <| g0 (ah rfl) rfl <| gn hK7 <| gT ?_; clear h ac wo; intro ac wo h
   have hd : dG a b r = ((aI b) * (aI r)) := (Eq.trans (cF hc1) (cT hc2))
   exact ret h rfl (.tmp rfl .nil) rfl (h.retP (by rw [hd] <;> rfl) (by rw [hd]; exact by first | omega | exact ee (by omega) (by omega)))
  ·
   have hd2 := ne_of_beq_false hc2
   refine bR ?_
   refine e7 ?_
   refine hK3 _ _ ?_
   refine bP fun K8 hK8 => ?_
   have s7 := aJ ((cL a a (k + 6) (by omega) za za) w0)
   have s8 := aJ ((cL b b (k + 6) (by omega) zb zb) w0)
   have s9 := aJ ((cL (aO b b) r (k + 4) (by omega) s8 (ed zr (by omega))) w0)
   have p11 := aJ ((gu (aO a a) (aO (aO b b) r) (k + 3) (by omega) (ed s7 (by omega)) s9) w0)
   refine dc mixed [dv _, dw _ [2], dw _ [2], dv _, dw _ [1], dw _ [1], dv _, dw _ [0], dv _, dv _, dv _, dv _] [⟨_, []⟩, ⟨_, []⟩, ⟨_, []⟩] h rfl (by kernel_rfl) ⟨fun _ _ => om rfl, fun _ _ => bT _ rfl rfl (aZ aa42 zz42 rfl rfl rfl (v := (vQ a)) rfl), fun _ _ => bT _ rfl rfl (aZ aa42 zz42 rfl rfl rfl (v := (vQ a)) rfl), fun _ _ => dY (dF cc87 rfl (cL a a (k + 6) (by omega) za za)), fun _ _ => bT _ rfl rfl (aZ aa42 zz42 rfl rfl rfl (v := (vQ b)) rfl), fun _ _ => bT _ rfl rfl (aZ aa42 zz42 rfl rfl rfl (v := (vQ b)) rfl), fun _ _ => dY (dF cc87 rfl (cL b b (k + 6) (by omega) zb zb)), fun _ _ => bT _ rfl rfl (aZ aa42 zz42 rfl rfl rfl (v := (vQ r)) rfl), fun _ _ => dY (dF cc87 rfl (cL (aO b b) r (k + 4) (by omega) s8 (ed zr (by omega)))), fun _ _ => dY (dF Tryz.call99 rfl (gu (aO a a) (aO (aO b b) r) (k + 3) (by omega) (ed s7 (by omega)) s9)), fun _ _ => ay (jG rfl rfl (r := ((aI a) * (dz (aO a a) (aO (aO b b) r)))) (by first | (rw [IntKind.wrap_i64]; omega) | exact gI (by omega) (by omega))), fun _ _ => ay (ah rfl), trivial⟩ ?_
   clear h ac wo; intro ξ ac wo hφ h
   replace h : St w0 40 [(6, (.int .i64 ((aI a) * (dz (aO a a) (aO (aO b b) r)))))] [.blk b3 (cQ r) 42, .blk b2 (cQ b) 42, .blk b1 (cQ a) 42] ac wo := h.sub ⟨rfl, trivial⟩
   clear hφ ξ
   refine hK8 _ _ ?_
   refine cr ?_
   have hd : dG a b r = ((aI a) * (dz (aO a a) (aO (aO b b) r))) := (Eq.trans (cF hc1) (cF hc2))
   exact ret h rfl (.tmp rfl .nil) rfl (h.retP (by rw [hd] <;> rfl) (by rw [hd]; exact by first | omega | exact ee (by omega) (by omega)))
def aY (x : GR) (y : GR) : Int :=
 bif ((((aI (bC (aW y))) * (aI y.r)) == 0) || ((dG (ax x.p y.p) (aW x) x.r) == ((aI (bC (aW y))) * (aI y.r)))) then
  (dG (ax x.p y.p) (aW x) x.r)
 else
  bif ((dG (ax x.p y.p) (aW x) x.r) == 0) then
   ((aI (bC (aW y))) * (aI y.r))
  else
   ((dG (ax x.p y.p) (aW x) x.r) * (dG (ax (bt (aO (ax x.p y.p) (ax x.p y.p)) x.r) y.r) (aO (an 2) (aO (ax x.p y.p) (aW x))) x.r))
theorem eu (x : GR) (y : GR) (k : Nat) (hk : (k + 20) ≤ 40) (zx : SzR (k + 20) x) (zy : SzR (k + 20) y) (w0 : World) : Calls Tryz.prog 65 #[(vR x), (vR y)] w0 (RetP w0 (.int .i64 (aY x y)) ((-1 ≤ (aY x y) ∧ (aY x y) ≤ 1))) := by
 refine enter (N := 65) (args := [(vR x), (vR y)]) Tryz.func65 rfl rfl ?_; intro ac h
 have s1 := aJ ((fj x.p y.p (k + 17) (by omega) zx.1 zy.1) w0)
 have s2 := aJ ((fO x (k + 20) (by omega) zx) w0)
 have s3 := aJ ((fO y (k + 20) (by omega) zy) w0)
 have s4 := aJ ((fk (aW y) (k + 20) (by omega) s3) w0)
 refine bB fun K1 hK1 => ?_
 refine bx h (cR x) rfl rfl rfl fun b1 => gb (cR y) rfl rfl rfl fun b2 => g0 (ah rfl) rfl <| gn hK1 <| gq fun K2 hK2 => ?_; clear h ac; intro ac wo h
 replace h := h.emps 3
 refine dc mixed [dv _, dw _ [1], dv _, dw _ [0], dv _, dw _ [1], dv _, dw _ [0], dv _, dv _, ⟨.nd (.one 10 fun v => ∃ b, v = ptr b 0), [2]⟩, ⟨.nd (.one 11 fun v => ∃ b, v = ptr b 0), [3]⟩, ⟨.nd (.one 12 fun v => ∃ b, v = ptr b 0), [4]⟩, ⟨.det undef, [2]⟩, ⟨.det undef, [3]⟩, ⟨.det undef, [4]⟩] [⟨_, []⟩, ⟨_, []⟩, ⟨.emp, [(10, .one 10 fun v => .blk (bI v) (cQ oQ) 42), (13, .one 10 fun v => .blk (bI v) (cQ (ax x.p y.p)) 42)]⟩, ⟨.emp, [(11, .one 11 fun v => .blk (bI v) (cQ oQ) 42), (14, .one 11 fun v => .blk (bI v) (cQ (aW x)) 42)]⟩, ⟨.emp, [(12, .one 12 fun v => .blk (bI v) (cQ oQ) 42), (15, .one 12 fun v => .blk (bI v) (cQ (bC (aW y))) 42)]⟩] h rfl (by kernel_rfl) ⟨fun _ _ => ay (fa uu64 rfl zz42 rfl rfl rfl (k' := 0)), fun _ _ => bT _ rfl rfl (aZ aa42 zz42 rfl rfl rfl (v := (vQ x.p)) rfl), fun _ _ => ay (fa uu64 rfl zz42 rfl rfl rfl (k' := 0)), fun _ _ => bT _ rfl rfl (aZ aa42 zz42 rfl rfl rfl (v := (vQ y.p)) rfl), fun _ _ => dY (dF Tryz.call82 rfl (fj x.p y.p (k + 17) (by omega) zx.1 zy.1)), fun _ _ => bT _ rfl rfl (aZ aa64 zz64 rfl rfl rfl (v := (vR x)) rfl), fun _ _ => dY (dF Tryz.call83 rfl (fO x (k + 20) (by omega) zx)), fun _ _ => bT _ rfl rfl (aZ aa64 zz64 rfl rfl rfl (v := (vR y)) rfl), fun _ _ => dY (dF Tryz.call83 rfl (fO y (k + 20) (by omega) zy)), fun _ _ => dY (dF Tryz.call84 rfl (fk (aW y) (k + 20) (by omega) s3)), fun _ _ => ij (ψ := fun v => ∃ b, v = ptr b 0) (B := fun v => [.blk (bI v) (cQ oQ) 42]) [.emp] rfl (fun v _ => by simp only [dO, aS] <;> rfl) (fun v hv => by simpa [DF.one, aS] using hv) (fU (eo vv42 rfl)), fun _ _ => ij (ψ := fun v => ∃ b, v = ptr b 0) (B := fun v => [.blk (bI v) (cQ oQ) 42]) [.emp] rfl (fun v _ => by simp only [dO, aS] <;> rfl) (fun v hv => by simpa [DF.one, aS] using hv) (fU (eo vv42 rfl)), fun _ _ => ij (ψ := fun v => ∃ b, v = ptr b 0) (B := fun v => [.blk (bI v) (cQ oQ) 42]) [.emp] rfl (fun v _ => by simp only [dO, aS] <;> rfl) (fun v hv => by simpa [DF.one, aS] using hv) (fU (eo vv42 rfl)), (fun ξ hφ => by obtain ⟨b3, hb10⟩ := hφ 10 rfl; exact es [.blk b3 (cQ oQ) 42] [.blk b3 (cQ (ax x.p y.p)) 42] (congrArg (fun v => [Asn.blk (bI v) (cQ oQ) 42]) hb10) (congrArg (fun v => [Asn.blk (bI v) (cQ (ax x.p y.p)) 42]) hb10) (eW zz42 (Eq.trans rfl (congrArg some hb10)) rfl rfl rfl rfl rfl rfl)), (fun ξ hφ => by obtain ⟨b4, hb11⟩ := hφ 11 rfl; exact es [.blk b4 (cQ oQ) 42] [.blk b4 (cQ (aW x)) 42] (congrArg (fun v => [Asn.blk (bI v) (cQ oQ) 42]) hb11) (congrArg (fun v => [Asn.blk (bI v) (cQ (aW x)) 42]) hb11) (eW zz42 (Eq.trans rfl (congrArg some hb11)) rfl rfl rfl rfl rfl rfl)), (fun ξ hφ => by obtain ⟨b5, hb12⟩ := hφ 12 rfl; exact es [.blk b5 (cQ oQ) 42] [.blk b5 (cQ (bC (aW y))) 42] (congrArg (fun v => [Asn.blk (bI v) (cQ oQ) 42]) hb12) (congrArg (fun v => [Asn.blk (bI v) (cQ (bC (aW y))) 42]) hb12) (eW zz42 (Eq.trans rfl (congrArg some hb12)) rfl rfl rfl rfl rfl rfl)), trivial⟩ ?_
 clear h ac wo; intro ξ ac wo hφ h
 replace h : St w0 65 [(2, (ptr b1 0)), (3, (ptr b2 0)), (5, ξ 10), (6, ξ 11), (7, ξ 12)] [.blk b2 (cR y) 64, .blk b1 (cR x) 64, .blk (bI (ξ 10)) (cQ (ax x.p y.p)) 42, .blk (bI (ξ 11)) (cQ (aW x)) 42, .blk (bI (ξ 12)) (cQ (bC (aW y))) 42] ac wo := h.sub ⟨rfl, rfl, rfl, rfl, rfl, trivial⟩
 revert h
 obtain ⟨b3, hb10⟩ : ∃ b, ξ 10 = ptr b 0 := hφ 10
 obtain ⟨b4, hb11⟩ : ∃ b, ξ 11 = ptr b 0 := hφ 11
 obtain ⟨b5, hb12⟩ : ∃ b, ξ 12 = ptr b 0 := hφ 12
 rw [hb10, hb11, hb12]; intro h
 clear hb10 hb11 hb12 hφ ξ
 refine hK2 _ _ ?_
 refine bP fun K3 hK3 => ?_
 have p6 := aJ ((gJ (ax x.p y.p) (aW x) x.r (k + 9) (by omega) s1 (ed s2 (by omega)) (da zx (by omega)).2) w0)
 have p8 := aJ ((ck (bC (aW y))) w0)
 have p10 := aJ ((ck y.r) w0)
 refine dc mixed [dw _ [2], dw _ [3], dv _, dw _ [1], dv _, dw _ [4], dv _, dv _, dw _ [0], dv _, dv _, dv _, dv _] [⟨_, []⟩, ⟨_, []⟩, ⟨_, []⟩, ⟨_, []⟩, ⟨_, []⟩] h rfl (by kernel_rfl) ⟨fun _ _ => bT _ rfl rfl (aZ aa42 zz42 rfl rfl rfl (v := (vQ (ax x.p y.p))) rfl), fun _ _ => bT _ rfl rfl (aZ aa42 zz42 rfl rfl rfl (v := (vQ (aW x))) rfl), fun _ _ => ay (fa uu64 rfl zz42 rfl rfl rfl (k' := 4)), fun _ _ => bT _ rfl rfl (aZ aa42 zz42 rfl rfl rfl (v := (vQ x.r)) rfl), fun _ _ => dY (dF Tryz.call85 rfl (gJ (ax x.p y.p) (aW x) x.r (k + 9) (by omega) s1 (ed s2 (by omega)) (da zx (by omega)).2)), fun _ _ => bT _ rfl rfl (aZ aa42 zz42 rfl rfl rfl (v := (vQ (bC (aW y)))) rfl), fun _ _ => dY (dF cc55 rfl (ck (bC (aW y)))), fun _ _ => ay (fa uu64 rfl zz42 rfl rfl rfl (k' := 4)), fun _ _ => bT _ rfl rfl (aZ aa42 zz42 rfl rfl rfl (v := (vQ y.r)) rfl), fun _ _ => dY (dF cc55 rfl (ck y.r)), fun _ _ => ay (jG rfl rfl (r := ((aI (bC (aW y))) * (aI y.r))) (by first | (rw [IntKind.wrap_i64]; omega) | exact gI (by omega) (by omega))), fun _ _ => ay (ah rfl), fun _ _ => ay (ah rfl), trivial⟩ ?_
 clear h ac wo; intro ξ ac wo hφ h
 replace h : St w0 65 [(2, (ptr b1 0)), (3, (ptr b2 0)), (5, (ptr b3 0)), (6, (ptr b4 0)), (8, (.int .i64 (dG (ax x.p y.p) (aW x) x.r))), (9, (.int .i64 ((aI (bC (aW y))) * (aI y.r))))] [.blk b2 (cR y) 64, .blk b1 (cR x) 64, .blk b3 (cQ (ax x.p y.p)) 42, .blk b4 (cQ (aW x)) 42, .blk b5 (cQ (bC (aW y))) 42] ac wo := h.sub ⟨rfl, rfl, rfl, rfl, rfl, rfl, trivial⟩
 clear hφ ξ
 refine gz h <| gx hK3 <| gq fun K4 hK4 => gB <| gr fun K5 hK5 => g0 (aj rfl) rfl <| g0 (dV rfl rfl) rfl <| g0 (aj rfl) rfl <| ge2 rfl rfl (fun hg => (Rd.of_nil (aj rfl)).step) rfl <| ge2 rfl rfl (fun hg => (Rd.of_nil (aj rfl)).step) rfl <| ge2 rfl rfl (fun hg => (Rd.of_nil (dV (bo rfl hg) (bo rfl hg))).step) rfl <| g0 (mM rfl (fun e => (bo rfl (mO e)))) rfl <| g0 (ah rfl) rfl <| gn hK5 ?_; clear h ac wo; intro ac wo h
 refine c8 h rfl (fun hc1 => ?_) (fun hc1 => ?_)
 ·
  refine gz h <| gr fun K6 hK6 => g0 (aj rfl) rfl <| g0 (ah rfl) rfl <| gn hK6 <| gT ?_; clear h ac wo; intro ac wo h
  have hd : aY x y = (dG (ax x.p y.p) (aW x) x.r) := (cT hc1)
  exact ret h rfl (.tmp rfl .nil) rfl (h.retP (by rw [hd] <;> rfl) (by rw [hd]; exact by first | omega | exact ee (by omega) (by omega)))
 ·
  refine gz h <| gr fun K7 hK7 => g0 (aj rfl) rfl <| g0 (dV rfl rfl) rfl <| g0 (ah rfl) rfl <| gn hK7 ?_; clear h ac wo; intro ac wo h
  refine c8 h rfl (fun hc2 => ?_) (fun hc2 => ?_)
  ·
   have hd2 := eq_of_beq hc2
   refine gz h <| gr fun K8 hK8 => g0 (aj rfl) rfl <| g0 (ah rfl) rfl <| gn hK8 <| gT ?_; clear h ac wo; intro ac wo h
   have hd : aY x y = ((aI (bC (aW y))) * (aI y.r)) := (Eq.trans (cF hc1) (cT hc2))
   exact ret h rfl (.tmp rfl .nil) rfl (h.retP (by rw [hd] <;> rfl) (by rw [hd]; exact by first | omega | exact ee (by omega) (by omega)))
  ·
   have hd2 := ne_of_beq_false hc2
   refine bR ?_
   refine e7 ?_
   refine hK4 _ _ ?_
   refine bP fun K9 hK9 => ?_
   have s11 := aJ ((cL (ax x.p y.p) (ax x.p y.p) (k + 15) (by omega) s1 s1) w0)
   have s12 := aJ ((ew (aO (ax x.p y.p) (ax x.p y.p)) x.r (k + 12) (by omega) s11 (da zx (by omega)).2) w0)
   have s13 := aJ ((fj (bt (aO (ax x.p y.p) (ax x.p y.p)) x.r) y.r (k + 9) (by omega) s12 (da zy (by omega)).2) w0)
   replace h := h.emps 1
   refine dc mixed [dw _ [2], dw _ [2], dv _, dv _, dw _ [1], dv _, dv _, dw _ [0], dv _, ⟨.nd (.one 9 fun v => ∃ b, v = ptr b 0), [5]⟩, ⟨.det undef, [5]⟩] [⟨_, []⟩, ⟨_, []⟩, ⟨_, []⟩, ⟨_, []⟩, ⟨_, []⟩, ⟨.emp, [(9, .one 9 fun v => .blk (bI v) (cQ oQ) 42), (10, .one 9 fun v => .blk (bI v) (cQ (ax (bt (aO (ax x.p y.p) (ax x.p y.p)) x.r) y.r)) 42)]⟩] h rfl (by kernel_rfl) ⟨fun _ _ => bT _ rfl rfl (aZ aa42 zz42 rfl rfl rfl (v := (vQ (ax x.p y.p))) rfl), fun _ _ => bT _ rfl rfl (aZ aa42 zz42 rfl rfl rfl (v := (vQ (ax x.p y.p))) rfl), fun _ _ => dY (dF cc87 rfl (cL (ax x.p y.p) (ax x.p y.p) (k + 15) (by omega) s1 s1)), fun _ _ => ay (fa uu64 rfl zz42 rfl rfl rfl (k' := 4)), fun _ _ => bT _ rfl rfl (aZ aa42 zz42 rfl rfl rfl (v := (vQ x.r)) rfl), fun _ _ => dY (dF Tryz.call86 rfl (ew (aO (ax x.p y.p) (ax x.p y.p)) x.r (k + 12) (by omega) s11 (da zx (by omega)).2)), fun _ _ => ay (fa uu64 rfl zz42 rfl rfl rfl (k' := 4)), fun _ _ => bT _ rfl rfl (aZ aa42 zz42 rfl rfl rfl (v := (vQ y.r)) rfl), fun _ _ => dY (dF Tryz.call82 rfl (fj (bt (aO (ax x.p y.p) (ax x.p y.p)) x.r) y.r (k + 9) (by omega) s12 (da zy (by omega)).2)), fun _ _ => ij (ψ := fun v => ∃ b, v = ptr b 0) (B := fun v => [.blk (bI v) (cQ oQ) 42]) [.emp] rfl (fun v _ => by simp only [dO, aS] <;> rfl) (fun v hv => by simpa [DF.one, aS] using hv) (fU (eo vv42 rfl)), (fun ξ hφ => by obtain ⟨b6, hb9⟩ := hφ 9 rfl; exact es [.blk b6 (cQ oQ) 42] [.blk b6 (cQ (ax (bt (aO (ax x.p y.p) (ax x.p y.p)) x.r) y.r)) 42] (congrArg (fun v => [Asn.blk (bI v) (cQ oQ) 42]) hb9) (congrArg (fun v => [Asn.blk (bI v) (cQ (ax (bt (aO (ax x.p y.p) (ax x.p y.p)) x.r) y.r)) 42]) hb9) (eW zz42 (Eq.trans rfl (congrArg some hb9)) rfl rfl rfl rfl rfl rfl)), trivial⟩ ?_
   clear h ac wo; intro ξ ac wo hφ h
   replace h : St w0 65 [(2, (ptr b1 0)), (5, (ptr b3 0)), (6, (ptr b4 0)), (8, (.int .i64 (dG (ax x.p y.p) (aW x) x.r))), (10, ξ 9)] [.blk b2 (cR y) 64, .blk b1 (cR x) 64, .blk b3 (cQ (ax x.p y.p)) 42, .blk b4 (cQ (aW x)) 42, .blk b5 (cQ (bC (aW y))) 42, .blk (bI (ξ 9)) (cQ (ax (bt (aO (ax x.p y.p) (ax x.p y.p)) x.r) y.r)) 42] ac wo := h.sub ⟨rfl, rfl, rfl, rfl, rfl, trivial⟩
   revert h
   obtain ⟨b6, hb9⟩ : ∃ b, ξ 9 = ptr b 0 := hφ 9
   rw [hb9]; intro h
   clear hb9 hφ ξ
   refine hK9 _ _ ?_
   refine bP fun K10 hK10 => ?_
   have s14 := aJ ((bD 2 (k + 20) (by omega)  (by omega)) w0)
   have s15 := aJ ((cL (ax x.p y.p) (aW x) (k + 15) (by omega) s1 (ed s2 (by omega))) w0)
   have s16 := aJ ((cL (an 2) (aO (ax x.p y.p) (aW x)) (k + 13) (by omega) (ed s14 (by omega)) s15) w0)
   have p18 := aJ ((gJ (ax (bt (aO (ax x.p y.p) (ax x.p y.p)) x.r) y.r) (aO (an 2) (aO (ax x.p y.p) (aW x))) x.r (k + 1) (by omega) s13 (ed s16 (by omega)) (da zx (by omega)).2) w0)
   refine dc mixed [dv _, dw _ [5], dv _, dw _ [2], dw _ [3], dv _, dv _, dv _, dw _ [1], dv _, dv _, dv _] [⟨_, []⟩, ⟨_, []⟩, ⟨_, []⟩, ⟨_, []⟩, ⟨_, []⟩, ⟨_, []⟩] h rfl (by kernel_rfl) ⟨fun _ _ => om rfl, fun _ _ => bT _ rfl rfl (aZ aa42 zz42 rfl rfl rfl (v := (vQ (ax (bt (aO (ax x.p y.p) (ax x.p y.p)) x.r) y.r))) rfl), fun _ _ => dY (dF cc68 rfl (bD 2 (k + 20) (by omega)  (by omega))), fun _ _ => bT _ rfl rfl (aZ aa42 zz42 rfl rfl rfl (v := (vQ (ax x.p y.p))) rfl), fun _ _ => bT _ rfl rfl (aZ aa42 zz42 rfl rfl rfl (v := (vQ (aW x))) rfl), fun _ _ => dY (dF cc87 rfl (cL (ax x.p y.p) (aW x) (k + 15) (by omega) s1 (ed s2 (by omega)))), fun _ _ => dY (dF cc87 rfl (cL (an 2) (aO (ax x.p y.p) (aW x)) (k + 13) (by omega) (ed s14 (by omega)) s15)), fun _ _ => ay (fa uu64 rfl zz42 rfl rfl rfl (k' := 4)), fun _ _ => bT _ rfl rfl (aZ aa42 zz42 rfl rfl rfl (v := (vQ x.r)) rfl), fun _ _ => dY (dF Tryz.call85 rfl (gJ (ax (bt (aO (ax x.p y.p) (ax x.p y.p)) x.r) y.r) (aO (an 2) (aO (ax x.p y.p) (aW x))) x.r (k + 1) (by omega) s13 (ed s16 (by omega)) (da zx (by omega)).2)), fun _ _ => ay (jG rfl rfl (r := ((dG (ax x.p y.p) (aW x) x.r) * (dG (ax (bt (aO (ax x.p y.p) (ax x.p y.p)) x.r) y.r) (aO (an 2) (aO (ax x.p y.p) (aW x))) x.r))) (by first | (rw [IntKind.wrap_i64]; omega) | exact gI (by omega) (by omega))), fun _ _ => ay (ah rfl), trivial⟩ ?_
   clear h ac wo; intro ξ ac wo hφ h
   replace h : St w0 65 [(4, (.int .i64 ((dG (ax x.p y.p) (aW x) x.r) * (dG (ax (bt (aO (ax x.p y.p) (ax x.p y.p)) x.r) y.r) (aO (an 2) (aO (ax x.p y.p) (aW x))) x.r))))] [.blk b2 (cR y) 64, .blk b1 (cR x) 64, .blk b3 (cQ (ax x.p y.p)) 42, .blk b4 (cQ (aW x)) 42, .blk b5 (cQ (bC (aW y))) 42, .blk b6 (cQ (ax (bt (aO (ax x.p y.p) (ax x.p y.p)) x.r) y.r)) 42] ac wo := h.sub ⟨rfl, trivial⟩
   clear hφ ξ
   refine hK10 _ _ ?_
   refine cr ?_
   have hd : aY x y = ((dG (ax x.p y.p) (aW x) x.r) * (dG (ax (bt (aO (ax x.p y.p) (ax x.p y.p)) x.r) y.r) (aO (an 2) (aO (ax x.p y.p) (aW x))) x.r)) := (Eq.trans (cF hc1) (cF hc2))
   exact ret h rfl (.tmp rfl .nil) rfl (h.retP (by rw [hd] <;> rfl) (by rw [hd]; exact by first | omega | exact ee (by omega) (by omega)))
def bS (n : Int) : GR :=
 (⟨(an n), (⟨(⟨false, 0⟩ : GI), (⟨false, 0⟩ : GI)⟩ : GQ), false⟩ : GR)
theorem kq (n : Int) (k : Nat) (hk : k ≤ 40) (hn : -9223372036854775808 ≤ n ∧ n ≤ 9223372036854775807) (w0 : World) : Calls Tryz.prog 104 #[(.int .i64 n)] w0 (RetP w0 (vR (bS n)) (SzR k (bS n))) := by
 refine enter (N := 6) (args := [(.int .i64 n)]) Tryz.func104 rfl rfl ?_; intro ac h
 have c1 := bD n k (by omega)  (by omega)
 have s1 := aJ (c1 w0)
 refine bB fun K1 hK1 => ?_
 refine al h (cR (⟨oQ, oQ, false⟩ : GR)) vv64 rfl rfl fun b1 => gn hK1 <| gr fun K2 hK2 => g0 (aj rfl) rfl <| gl cc68 rfl c1 rfl <| g0 (bW bld64 rfl rfl (v := (vR (⟨(an n), oQ, false⟩ : GR))) rfl) rfl <| gs 0 (cR (⟨(an n), oQ, false⟩ : GR)) rfl zz64 rfl rfl rfl rfl rfl rfl rfl <| gn hK2 <| gT ?_; clear h ac; intro ac wo h
 exact ret h rfl (.cell (v := (vR (⟨(an n), oQ, false⟩ : GR))) rfl (i := 0) rfl aa64 zz64 rfl rfl rfl .nil) rfl (h.retP (by unfold bS; rfl) (by unfold bS; exact ⟨s1, ⟨(cu 0 (by decide) (by omega)), (cu 0 (by decide) (by omega))⟩⟩))
def aw (r : GQ) : GR :=
 (⟨r, (⟨(⟨false, 0⟩ : GI), (⟨false, 0⟩ : GI)⟩ : GQ), false⟩ : GR)
theorem fi (r : GQ) (k : Nat) (hk : k ≤ 40) (zr : SzQ k r) (w0 : World) : Calls Tryz.prog 88 #[(vQ r)] w0 (RetP w0 (vR (aw r)) (SzR k (aw r))) := by
 refine enter (N := 5) (args := [(vQ r)]) Tryz.func88 rfl rfl ?_; intro ac h
 refine bB fun K1 hK1 => ?_
 refine bx h (cQ r) rfl rfl rfl fun b1 => ga (cR (⟨oQ, oQ, false⟩ : GR)) vv64 rfl rfl fun b2 => gn hK1 <| gr fun K2 hK2 => g1 1 rfl (aZ aa42 zz42 rfl rfl rfl (v := (vQ r)) rfl) rfl <| g0 (bW bld64 rfl rfl (v := (vR (⟨r, oQ, false⟩ : GR))) rfl) rfl <| gs 0 (cR (⟨r, oQ, false⟩ : GR)) rfl zz64 rfl rfl rfl rfl rfl rfl rfl <| gn hK2 <| gT ?_; clear h ac; intro ac wo h
 exact ret h rfl (.cell (v := (vR (⟨r, oQ, false⟩ : GR))) rfl (i := 0) rfl aa64 zz64 rfl rfl rfl .nil) rfl (h.retP (by unfold aw; rfl) (by unfold aw; exact ⟨zr, ⟨(cu 0 (by decide) (by omega)), (cu 0 (by decide) (by omega))⟩⟩))
end Go.Sx
