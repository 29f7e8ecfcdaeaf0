/- A part of the proof of movingpointChecks. -/
import Derived.Test.YtbenbmdkhcfcfaaGreatDoorI4
import Derived.Test.YtbenbmdkhcfcfaaGreatDoorI6
set_option linter.unusedVariables false
set_option linter.unusedSimpArgs false
open Go.Proofs.Tryz renaming isAgg27 → aa27, sizeOf27 → zz27, underlying81 → nn81, call275 → cc275, sizeOf81 → zz81, runUnderlying199 → uu199, sizeOf86 → zz86, runUnderlying86 → uu86, sizeOf71 → zz71, isAgg71 → aa71
namespace Go.Sx
open Go Go.RowKit Go.Proofs
set_option maxRecDepth 100000
set_option maxHeartbeats 40000000
attribute [local irreducible] Code.wp wpList Rd Step ObS Ent
attribute [local irreducible] ao aM ak ar aA bD
theorem eqi79 : EqIn Tryz.prog 4 79 vN := eqS (c := cN) (fun _ => rfl) Tryz.underlying79 Tryz.stoodInHeld79 fun d x y w hd => by
 refine Eq.trans (eqF (by decide) (cg aa27 zz27 (v := vQ (x.x0)) rfl w) (cg aa27 zz27 (v := vQ (y.x0)) rfl w) (lM d _ _ w og) (eqF (by decide) (cg aa27 zz27 (v := vQ (x.x1)) rfl w) (cg aa27 zz27 (v := vQ (y.x1)) rfl w) (lM d _ _ w og) (eqF (by decide) (cg aa27 zz27 (v := vQ (x.y0)) rfl w) (cg aa27 zz27 (v := vQ (y.y0)) rfl w) (lM d _ _ w og) (eqF (by decide) (cg aa27 zz27 (v := vQ (x.y1)) rfl w) (cg aa27 zz27 (v := vQ (y.y1)) rfl w) (lM d _ _ w og) eqF0)))) ?_
 congr 1
 rw [decide_eq_decide]
 cases x; cases y; simp
theorem eqp79 : EqP Tryz.prog 79 vN := EqIn.p (k := 4) rfl (c := fun x => (cN x).toArray) (fun _ => rfl) Tryz.eqGuardType79 eqi79
instance yI7_1 : Ep Tryz.prog 79 Ln inferInstance vN := ⟨eqp79⟩
theorem eZ : SlT Tryz.prog 81 199 36 408 [.bool false, .string ⟨#[]⟩, .bool false, .string ⟨#[]⟩, .bool false, .string ⟨#[]⟩, .bool false, .string ⟨#[]⟩, .bool false, .bool false, .string ⟨#[]⟩, .bool false, .string ⟨#[]⟩, .bool false, .string ⟨#[]⟩, .bool false, .string ⟨#[]⟩, .bool false, .bool false, .bool false, .bool false, .string ⟨#[]⟩, .bool false, .string ⟨#[]⟩, .bool false, .string ⟨#[]⟩, .bool false, .string ⟨#[]⟩, .bool false, .string ⟨#[]⟩, .bool false, .string ⟨#[]⟩, .bool false, .string ⟨#[]⟩, .bool false, .string ⟨#[]⟩] := ⟨nn81, Tryz.t199, _, Tryz.type199, rfl, rfl, rfl, rfl, rfl, by decide, by decide⟩
def bA (f : Ln) (g : Ln) : Bool :=
 (decide (f = g))
theorem fK (f : Ln) (g : Ln) (zf : SzN 20 f) (zg : SzN 20 g) (w0 : World)  : Calls Tryz.prog 375 #[(.agg #[]), (vN f), (vN g)] w0 (cq w0 (.bool (bA f g)) (True)) := by
 refine enter (N := 10) (args := [(.agg #[]), (vN f), (vN g)]) Tryz.func375 rfl rfl ?_; intro ac h
 refine gz h <| (xb) fun b1 => (xb) fun b2 => (xb) fun b3 => (W) ?_; clear h ac; intro ac wo h
 exact (rt h) (h.retP (by unfold bA; rfl) trivial)
attribute [irreducible] bA
def be (f : Ln) (g : Ln) (t : GR) : Bool :=
 ((eD ((aH f).1) ((aH g).1) t) && (eD ((aH f).2) ((aH g).2) t))
theorem d5 (f : Ln) (g : Ln) (t : GR) (zf : SzN 20 f) (zg : SzN 20 g) (zt : SzR 30 t) (w0 : World)  : Calls Tryz.prog 278 #[(.agg #[]), (vN f), (vN g), (vR t)] w0 (cq w0 (.bool (be f g t)) (True)) := by
 refine enter (N := 33) (args := [(.agg #[]), (vN f), (vN g), (vR t)]) Tryz.func278 rfl rfl ?_; intro ac h
 have c1 := eN f 20 og zf
 have s1 := am (c1 w0)
 have c2 := eN g 20 og zg
 have s2 := am (c2 w0)
 refine gz h <| (xb) fun b1 => (xb) fun b2 => (xb) fun b3 => (xb) fun b4 => (xk (c1)) <| (xa) fun b5 => (xa) fun b6 => (xk (c2)) <| (xa) fun b7 => (xa) fun b8 => (xk (gM ((aH f).1) ((aH g).1) t 6 og s1.1 s2.1 (dL zt og))) <| (xg (hs := by exact fun hg => d6 enA (kk (gM ((aH f).2) ((aH g).2) t 6 og s1.2 s2.2 (dL zt og))))) <| (W) ?_; clear h ac; intro ac wo h
 exact (rt h) (h.retP (by unfold be; rfl) trivial)
attribute [irreducible] be
def aD (f : Ln) (t : GR) : Ln :=
 (⟨(aQ ((aH f).1) t).c0, (aQ ((aH f).1) t).c1, (aQ ((aH f).2) t).c0, (aQ ((aH f).2) t).c1⟩ : Ln)
theorem fq (f : Ln) (t : GR) (zf : SzN 30 f) (zt : SzR 30 t) (w0 : World)  : Calls Tryz.prog 376 #[(.agg #[]), (vN f), (vR t)] w0 (cq w0 (vN (aD f t)) (SzN 20 (aD f t))) := by
  refine enter (N := 29) (args := [(.agg #[]), (vN f), (vR t)]) Tryz.func376 rfl rfl ?_; intro ac h
  have c1 := eN f 30 og zf
  have s1 := am (c1 w0)
  refine gz h <| (xb) fun b1 => (xb) fun b2 => (xb) fun b3 => (xa) fun b4 => (xk (c1)) <| (xa) fun b5 => (xa) fun b6 => (W) ?_; clear h ac; intro ac wo h
  have c2 := dP ((aH f).1) t 20 og s1.1 zt
  have s2 := am (c2 w0)
  have s3 := am ((dP ((aH f).2) t 20 og s1.2 zt) w0)
  refine gz h <| (dr1 (H := [⟨.blk b6 (cD ((aH f).2)) 53, [(7, .con (.blk b6 (cD (aQ ((aH f).2) t)) 53))]⟩, ⟨.blk b5 (cD ((aH f).1)) 53, [(6, .con (.blk b5 (cD (aQ ((aH f).1) t)) 53))]⟩, ⟨.blk b4 (cN (⟨oQ, oQ, oQ, oQ⟩ : Ln)) 79, []⟩, ⟨.blk b3 (cR t) 71, []⟩, ⟨.blk b2 (cN f) 79, []⟩, ⟨.blk b1 [] 80, []⟩]) (hob := (oK (c2)) <| (oK (dP ((aH f).2) t 20 og s1.2 zt)) <| oE)) <| (xo (hs := by exact bF tK exs rfl (v := (vN (⟨(aQ ((aH f).1) t).c0, (aQ ((aH f).1) t).c1, (aQ ((aH f).2) t).c0, (aQ ((aH f).2) t).c1⟩ : Ln))) rfl)) <| (W) ?_; clear h ac wo; intro ac wo h
  exact ret h rfl (.cell (v := (vN (⟨(aQ ((aH f).1) t).c0, (aQ ((aH f).1) t).c1, (aQ ((aH f).2) t).c0, (aQ ((aH f).2) t).c1⟩ : Ln))) rfl (i := 2) rfl Tryz.isAgg79 Tryz.sizeOf79 rfl rfl rfl .nil) rfl (h.retP (by unfold aD; rfl) (by unfold aD; exact ⟨s2.1, s2.2.1, s3.1, s3.2.1⟩))
attribute [irreducible] aD
def aT (s : List (U Ln)) : (List (U Ln)) := s
theorem dJ (s : List (U Ln)) (sv : Value) (hl : s.length ≤ 1000) (zs : All (gC 30) s) (w0 : World) (hsv : View w0 sv s) : Calls Tryz.prog 271 #[sv] w0 (RetR w0 199 (aT s) (All (gC 30) (aT s) ∧ (aT s) = s ∧ (aT s).length = s.length)) := by
 refine enter (N := 8) (args := [sv]) Tryz.func271 rfl rfl ?_; intro ac h
 have hlens := hsv.len
 refine gz h <| (xo (hs := by exact r_eqlSN nn81 hsv.sl rfl)) <| (ai) ?_ ?_ <;> clear h ac <;> intro ac wo h hc1
 ·
  have hq1 := hc1; try simp at hq1
  refine gz h <| (W) ?_; clear h ac wo; intro ac wo h
  replace h := h.nilRow (α := U Ln) 199
  have hd : aT s = [] := (hsv.nil hc1).1
  exact (rt h) (by rw [hd]; exact h.retR 0 rfl ⟨All.nil, ⟨(hsv.nil hc1).1.symm, by rw [(hsv.nil hc1).1]⟩⟩)
 ·
  have hq1 := hc1; try simp at hq1
  refine gz h <| (W) ?_; clear h ac wo; intro ac wo h
  refine nw h (cY (α := U Ln) (xs := []) (vs := []) [] eZ rfl rfl rfl (by decide)) rfl ?_; clear h ac wo; intro sv2 ac wo nnsv2 h
  refine gz h <| (W) ?_; clear h ac wo; intro ac wo h
  refine on1 h 0 rfl (s_appV (xs := []) (ys := s) eZ hsv rfl rfl og) rfl ?_; clear h ac wo; intro sv3 ac wo apsv3 h
  refine gz h <| (W) ?_; clear h ac wo; intro ac wo h
  exact (rt h) (by unfold aT; exact h.retR 0 rfl ⟨(All.app All.nil zs), ⟨rfl, rfl⟩⟩)
attribute [irreducible] aT
def aJ (i : Iv) : Int :=
 bif i.openLo then
  1
 else
  0
theorem dx (i : Iv) (zi : SzV 30 i) (w0 : World)  : Calls Tryz.prog 274 #[(vV i)] w0 (cq w0 (.int .i64 (aJ i)) ((-1 ≤ (aJ i) ∧ (aJ i) ≤ 1))) := by
 refine enter (N := 5) (args := [(vV i)]) Tryz.func274 rfl rfl ?_; intro ac h
 refine gz h <| (xb) fun b1 => (ai) ?_ ?_ <;> clear h ac <;> intro ac wo h hc1
 ·
  have hq1 := hc1; try simp at hq1
  have hd : aJ i = 1 := pt
  refine gz h <| (W) ?_; clear h ac wo; intro ac wo h
  exact (rt h) (h.retP (by rw [hd] <;> rfl) (by rw [hd]; exact og))
 ·
  have hq1 := hc1; try simp at hq1
  have hd : aJ i = 0 := pt
  refine gz h <| (W) ?_; clear h ac wo; intro ac wo h
  exact (rt h) (h.retP (by rw [hd] <;> rfl) (by rw [hd]; exact og))
attribute [irreducible] aJ
def dU (l : List (U Ln)) (t : GR) : Bool :=
 (((decide (((l.length : Nat) : Int) > 0)) && (decide (((gt l (l.length - 1)).iv).hi = t))) && (!((gt l (l.length - 1)).iv).openHi))
theorem f7 (l : List (U Ln)) (lv : Value) (t : GR) (zl : All (gC 20) l) (zt : SzR 30 t) (w0 : World) (hlv : View w0 lv l) : Calls Tryz.prog 216 #[lv, (vR t)] w0 (cq w0 (.bool (dU l t)) (True)) := by
 refine enter (N := 31) (args := [lv, (vR t)]) Tryz.func216 rfl rfl ?_; intro ac h
 have hlenl := hlv.len
 refine gz h <| (xb) fun b1 => (dr0 (hob := oE)) <| (W) ?_; clear h ac; intro ac wo h
 exact (rt h) (h.retP (by unfold dU; rfl) trivial)
attribute [irreducible] dU
def eU (l : List (U Ln)) (x10 : Nat) (out : List (U Ln)) : (List (U Ln)) :=
 out
def ck (l : List (U Ln)) (x10 : Nat) (out : List (U Ln)) : Nx (Nat × (List (U Ln))) (List (U Ln)) :=
 bif (decide (((x10 : Nat) : Int) < ((l.length : Nat) : Int))) then
  bif (!((gt l x10).iv).openLo) then
   bif (aK ((gt l x10).iv)) then
    .go ((x10 + 1), (out ++ [(⟨(⟨((gt l x10).iv).lo, ((gt l x10).iv).lo, false, false⟩ : Iv), (gt l x10).f⟩ : U Ln)]))
   else
    bif (!((gt l x10).iv).openHi) then
     .go ((x10 + 1), (((out ++ [(⟨(⟨((gt l x10).iv).lo, ((gt l x10).iv).lo, false, false⟩ : Iv), (gt l x10).f⟩ : U Ln)]) ++ [(⟨(⟨((gt l x10).iv).lo, ((gt l x10).iv).hi, true, true⟩ : Iv), (gt l x10).f⟩ : U Ln)]) ++ [(⟨(⟨((gt l x10).iv).hi, ((gt l x10).iv).hi, false, false⟩ : Iv), (gt l x10).f⟩ : U Ln)]))
    else
     .go ((x10 + 1), ((out ++ [(⟨(⟨((gt l x10).iv).lo, ((gt l x10).iv).lo, false, false⟩ : Iv), (gt l x10).f⟩ : U Ln)]) ++ [(⟨(⟨((gt l x10).iv).lo, ((gt l x10).iv).hi, true, true⟩ : Iv), (gt l x10).f⟩ : U Ln)]))
  else
   bif (aK ((gt l x10).iv)) then
    .go ((x10 + 1), out)
   else
    bif (!((gt l x10).iv).openHi) then
     .go ((x10 + 1), ((out ++ [(⟨(⟨((gt l x10).iv).lo, ((gt l x10).iv).hi, true, true⟩ : Iv), (gt l x10).f⟩ : U Ln)]) ++ [(⟨(⟨((gt l x10).iv).hi, ((gt l x10).iv).hi, false, false⟩ : Iv), (gt l x10).f⟩ : U Ln)]))
    else
     .go ((x10 + 1), (out ++ [(⟨(⟨((gt l x10).iv).lo, ((gt l x10).iv).hi, true, true⟩ : Iv), (gt l x10).f⟩ : U Ln)]))
 else
  .out (x10, out)
def af (l : List (U Ln)) : (List (U Ln)) :=
 fin (de (fun s => ck l s.1 s.2) ((l.length - 0) + 1) (0, [])) (fun s => eU l s.1 s.2) (fun r => r)
theorem fS (l : List (U Ln)) (lv : Value) (hl : l.length ≤ 1000) (zl : All (gC 30) l) (w0 : World) (hlv : View w0 lv l) : Calls Tryz.prog 215 #[lv] w0 (RetR w0 199 (af l) (All (gC 30) (af l) ∧ (af l).length ≤ 3 * l.length)) := by
 refine enter (N := 54) (args := [lv]) Tryz.func215 rfl rfl ?_; intro ac h
 have hlenl := hlv.len
 refine gz h <| (xa) fun b1 => (xo (hs := by exact j0 rfl)) <| (W) ?_; clear h ac; intro ac wo h
 replace h := h.nilRow (α := U Ln) 199
 obtain ⟨X1, hX1⟩ : ∃ X, de (fun s => ck l s.1 s.2) ((l.length - 0) + 1) (0, []) = X := ⟨_, rfl⟩
 refine wp_loop_ghost (fun n_ a_ w_ => ∃ (x10 : Nat) (out : List (U Ln)) (outv : Value), ((l.length - x10) < n_) ∧ (de (fun s => ck l s.1 s.2) n_ (x10, out) = X1) ∧ (x10 ≤ l.length) ∧ (All (gC 30) out) ∧ (out.length ≤ 3 * x10) ∧ St w0 54 [(3, (ptr b1 0)), (4, (.func (.func 275) #[] #[(ptr b1 0)])), (8, lv), (9, (.int .i64 ((l.length : Nat) : Int))), (10, (.int .i64 ((x10 : Nat) : Int)))] [.row (α := U Ln) 199 outv out, .blk b1 [outv] 81] a_ w_) ((l.length - 0) + 1) ⟨0, [], (.slice none 0 0), og, hX1, og, All.nil, og, h.rs⟩ ?_
 clear h ac wo; rintro n1 ac wo ⟨x10, out, outv, hm1, hL1, hx10, zout, hol, h⟩
 obtain ⟨m1, rfl⟩ : ∃ m, n1 = m + 1 := ⟨n1 - 1, by omega⟩
 refine gz h <| (ai) ?_ ?_ <;> clear h ac wo <;> intro ac wo h hc1
 ·
  have hd1 := of_decide_eq_true hc1
  refine gz h <| (xa) fun b2 => (ai) ?_ ?_ <;> clear h ac wo <;> intro ac wo h hc2
  ·
   have hq2 := hc2; try simp at hq2
   refine gz h <| (W) ?_; clear h ac wo; intro ac wo h
   refine inl (vs := [(vR (((gt l x10).iv).lo)), (vN ((gt l x10).f)), (ptr b1 0)]) (M := 13) h (rk (vs := [(vR (((gt l x10).iv).lo)), (vN ((gt l x10).f))]) (cap := [(ptr b1 0)]) cc275 rfl rfl) Tryz.func275 rfl rfl rfl ?_
   clear h ac; intro R1 hR1 ac h
   refine gz h <| (xb) fun b3 => (xb) fun b4 => (xo (hs := by exact bF nj exs rfl (v := (vV (⟨((gt l x10).iv).lo, ((gt l x10).iv).lo, false, false⟩ : Iv))) rfl)) <| (xo (hs := by exact bF jS exs rfl (v := (vUN (⟨(⟨((gt l x10).iv).lo, ((gt l x10).iv).lo, false, false⟩ : Iv), (gt l x10).f⟩ : U Ln))) rfl)) <| ?_; clear h ac wo; intro ac wo h
   refine nw h (cY (α := U Ln) (xs := [.tmp 10]) (vs := [(vUN (⟨(⟨((gt l x10).iv).lo, ((gt l x10).iv).lo, false, false⟩ : Iv), (gt l x10).f⟩ : U Ln))]) [(⟨(⟨((gt l x10).iv).lo, ((gt l x10).iv).lo, false, false⟩ : Iv), (gt l x10).f⟩ : U Ln)] eZ rfl rfl rfl (by decide)) rfl ?_; clear h ac wo; intro sv2 ac wo nnsv2 h
   refine on2 h 4 0 rfl rfl (fp (xs := out) (ys := [(⟨(⟨((gt l x10).iv).lo, ((gt l x10).iv).lo, false, false⟩ : Iv), (gt l x10).f⟩ : U Ln)]) eZ (fun w hs => (row_view hs 0 rfl)) rfl rfl og) rfl ?_; clear h ac wo; intro sv3 ac wo apsv3 h
   refine st h 5 [sv3] rfl zz81 rfl rfl (jv (h.row_sl 0 rfl)) rfl (nt (h.row_sl 0 rfl)) rfl rfl ?_; clear h ac wo; intro ac wo h
   refine gz h <| (W) ?_; clear h ac wo; intro ac wo h
   refine retN (rs := []) (vs := []) h rfl .nil rfl (hR1 _ _ _ h.bel h.sep ?_)
   clear h ac hR1; intro ac h
   refine gz h <| (xk (dr ((gt l x10).iv))) <| (ai) ?_ ?_ <;> clear h ac wo <;> intro ac wo h hc3
   ·
    have hq3 := hc3; try simp at hq3
    refine gz h <| (W) ?_; clear h ac wo; intro ac wo h
    have hg := d8 hL1 pt
    exact aL ⟨m1, og, _, _, _, og, hg, og, (All.app zout (All.cons ⟨⟨((All.gt zl (bH _)).1).1, ((All.gt zl (bH _)).1).1⟩, (All.gt zl (bH _)).2⟩ All.nil)), og, h.re [0, 5]⟩
   ·
    have hq3 := hc3; try simp at hq3
    refine gz h <| (xo (hs := by exact bF nj exs rfl (v := (vV (⟨((gt l x10).iv).lo, ((gt l x10).iv).hi, true, true⟩ : Iv))) rfl)) <| (xo (hs := by exact bF jS exs rfl (v := (vUN (⟨(⟨((gt l x10).iv).lo, ((gt l x10).iv).hi, true, true⟩ : Iv), (gt l x10).f⟩ : U Ln))) rfl)) <| ?_; clear h ac wo; intro ac wo h
    refine nw h (cY (α := U Ln) (xs := [.tmp 38]) (vs := [(vUN (⟨(⟨((gt l x10).iv).lo, ((gt l x10).iv).hi, true, true⟩ : Iv), (gt l x10).f⟩ : U Ln))]) [(⟨(⟨((gt l x10).iv).lo, ((gt l x10).iv).hi, true, true⟩ : Iv), (gt l x10).f⟩ : U Ln)] eZ rfl rfl rfl (by decide)) rfl ?_; clear h ac wo; intro sv4 ac wo nnsv4 h
    refine on2 h 1 0 rfl rfl (fp (xs := (out ++ [(⟨(⟨((gt l x10).iv).lo, ((gt l x10).iv).lo, false, false⟩ : Iv), (gt l x10).f⟩ : U Ln)])) (ys := [(⟨(⟨((gt l x10).iv).lo, ((gt l x10).iv).hi, true, true⟩ : Iv), (gt l x10).f⟩ : U Ln)]) eZ (fun w hs => (row_view hs 0 rfl)) rfl rfl og) rfl ?_; clear h ac wo; intro sv5 ac wo apsv5 h
    refine st h 6 [sv5] rfl zz81 rfl rfl (jv (h.row_sl 0 rfl)) rfl (nt (h.row_sl 0 rfl)) rfl rfl ?_; clear h ac wo; intro ac wo h
    refine gz h <| (ai) ?_ ?_ <;> clear h ac wo <;> intro ac wo h hc4
    ·
     have hq4 := hc4; try simp at hq4
     refine gz h <| (W) ?_; clear h ac wo; intro ac wo h
     refine inl (vs := [(vR (((gt l x10).iv).hi)), (vN ((gt l x10).f)), (ptr b1 0)]) (M := 13) h (rk (vs := [(vR (((gt l x10).iv).hi)), (vN ((gt l x10).f))]) (cap := [(ptr b1 0)]) cc275 rfl rfl) Tryz.func275 rfl rfl rfl ?_
     clear h ac; intro R2 hR2 ac h
     refine gz h <| (xb) fun b5 => (xb) fun b6 => (xo (hs := by exact bF nj exs rfl (v := (vV (⟨((gt l x10).iv).hi, ((gt l x10).iv).hi, false, false⟩ : Iv))) rfl)) <| (xo (hs := by exact bF jS exs rfl (v := (vUN (⟨(⟨((gt l x10).iv).hi, ((gt l x10).iv).hi, false, false⟩ : Iv), (gt l x10).f⟩ : U Ln))) rfl)) <| ?_; clear h ac wo; intro ac wo h
     refine nw h (cY (α := U Ln) (xs := [.tmp 10]) (vs := [(vUN (⟨(⟨((gt l x10).iv).hi, ((gt l x10).iv).hi, false, false⟩ : Iv), (gt l x10).f⟩ : U Ln))]) [(⟨(⟨((gt l x10).iv).hi, ((gt l x10).iv).hi, false, false⟩ : Iv), (gt l x10).f⟩ : U Ln)] eZ rfl rfl rfl (by decide)) rfl ?_; clear h ac wo; intro sv6 ac wo nnsv6 h
     refine on2 h 3 0 rfl rfl (fp (xs := ((out ++ [(⟨(⟨((gt l x10).iv).lo, ((gt l x10).iv).lo, false, false⟩ : Iv), (gt l x10).f⟩ : U Ln)]) ++ [(⟨(⟨((gt l x10).iv).lo, ((gt l x10).iv).hi, true, true⟩ : Iv), (gt l x10).f⟩ : U Ln)])) (ys := [(⟨(⟨((gt l x10).iv).hi, ((gt l x10).iv).hi, false, false⟩ : Iv), (gt l x10).f⟩ : U Ln)]) eZ (fun w hs => (row_view hs 0 rfl)) rfl rfl og) rfl ?_; clear h ac wo; intro sv7 ac wo apsv7 h
     refine st h 9 [sv7] rfl zz81 rfl rfl (jv (h.row_sl 0 rfl)) rfl (nt (h.row_sl 0 rfl)) rfl rfl ?_; clear h ac wo; intro ac wo h
     refine gz h <| (W) ?_; clear h ac wo; intro ac wo h
     refine retN (rs := []) (vs := []) h rfl .nil rfl (hR2 _ _ _ h.bel h.sep ?_)
     clear h ac hR2; intro ac h
     refine gz h <| (W) ?_; clear h ac wo; intro ac wo h
     have hg := d8 hL1 pt
     exact aL ⟨m1, og, _, _, _, og, hg, og, (All.app (All.app (All.app zout (All.cons ⟨⟨((All.gt zl (bH _)).1).1, ((All.gt zl (bH _)).1).1⟩, (All.gt zl (bH _)).2⟩ All.nil)) (All.cons ⟨⟨((All.gt zl (bH _)).1).1, ((All.gt zl (bH _)).1).2⟩, (All.gt zl (bH _)).2⟩ All.nil)) (All.cons ⟨⟨((All.gt zl (bH _)).1).2, ((All.gt zl (bH _)).1).2⟩, (All.gt zl (bH _)).2⟩ All.nil)), og, h.re [0, 9]⟩
    ·
     have hq4 := hc4; try simp at hq4
     refine gz h <| (W) ?_; clear h ac wo; intro ac wo h
     have hg := d8 hL1 pt
     exact aL ⟨m1, og, _, _, _, og, hg, og, (All.app (All.app zout (All.cons ⟨⟨((All.gt zl (bH _)).1).1, ((All.gt zl (bH _)).1).1⟩, (All.gt zl (bH _)).2⟩ All.nil)) (All.cons ⟨⟨((All.gt zl (bH _)).1).1, ((All.gt zl (bH _)).1).2⟩, (All.gt zl (bH _)).2⟩ All.nil)), og, h.re [0, 6]⟩
  ·
   have hq2 := hc2; try simp at hq2
   refine gz h <| (xk (dr ((gt l x10).iv))) <| (ai) ?_ ?_ <;> clear h ac wo <;> intro ac wo h hc5
   ·
    have hq5 := hc5; try simp at hq5
    refine gz h <| (W) ?_; clear h ac wo; intro ac wo h
    have hg := d8 hL1 pt
    exact aL ⟨m1, og, _, _, _, og, hg, og, zout, og, h.re [1, 2]⟩
   ·
    have hq5 := hc5; try simp at hq5
    refine gz h <| (xo (hs := by exact bF nj exs rfl (v := (vV (⟨((gt l x10).iv).lo, ((gt l x10).iv).hi, true, true⟩ : Iv))) rfl)) <| (xo (hs := by exact bF jS exs rfl (v := (vUN (⟨(⟨((gt l x10).iv).lo, ((gt l x10).iv).hi, true, true⟩ : Iv), (gt l x10).f⟩ : U Ln))) rfl)) <| ?_; clear h ac wo; intro ac wo h
    refine nw h (cY (α := U Ln) (xs := [.tmp 38]) (vs := [(vUN (⟨(⟨((gt l x10).iv).lo, ((gt l x10).iv).hi, true, true⟩ : Iv), (gt l x10).f⟩ : U Ln))]) [(⟨(⟨((gt l x10).iv).lo, ((gt l x10).iv).hi, true, true⟩ : Iv), (gt l x10).f⟩ : U Ln)] eZ rfl rfl rfl (by decide)) rfl ?_; clear h ac wo; intro sv8 ac wo nnsv8 h
    refine on2 h 2 0 rfl rfl (fp (xs := out) (ys := [(⟨(⟨((gt l x10).iv).lo, ((gt l x10).iv).hi, true, true⟩ : Iv), (gt l x10).f⟩ : U Ln)]) eZ (fun w hs => (row_view hs 0 rfl)) rfl rfl og) rfl ?_; clear h ac wo; intro sv9 ac wo apsv9 h
    refine st h 3 [sv9] rfl zz81 rfl rfl (jv (h.row_sl 0 rfl)) rfl (nt (h.row_sl 0 rfl)) rfl rfl ?_; clear h ac wo; intro ac wo h
    refine gz h <| (ai) ?_ ?_ <;> clear h ac wo <;> intro ac wo h hc6
    ·
     have hq6 := hc6; try simp at hq6
     refine gz h <| (W) ?_; clear h ac wo; intro ac wo h
     refine inl (vs := [(vR (((gt l x10).iv).hi)), (vN ((gt l x10).f)), (ptr b1 0)]) (M := 13) h (rk (vs := [(vR (((gt l x10).iv).hi)), (vN ((gt l x10).f))]) (cap := [(ptr b1 0)]) cc275 rfl rfl) Tryz.func275 rfl rfl rfl ?_
     clear h ac; intro R3 hR3 ac h
     refine gz h <| (xb) fun b7 => (xb) fun b8 => (xo (hs := by exact bF nj exs rfl (v := (vV (⟨((gt l x10).iv).hi, ((gt l x10).iv).hi, false, false⟩ : Iv))) rfl)) <| (xo (hs := by exact bF jS exs rfl (v := (vUN (⟨(⟨((gt l x10).iv).hi, ((gt l x10).iv).hi, false, false⟩ : Iv), (gt l x10).f⟩ : U Ln))) rfl)) <| ?_; clear h ac wo; intro ac wo h
     refine nw h (cY (α := U Ln) (xs := [.tmp 10]) (vs := [(vUN (⟨(⟨((gt l x10).iv).hi, ((gt l x10).iv).hi, false, false⟩ : Iv), (gt l x10).f⟩ : U Ln))]) [(⟨(⟨((gt l x10).iv).hi, ((gt l x10).iv).hi, false, false⟩ : Iv), (gt l x10).f⟩ : U Ln)] eZ rfl rfl rfl (by decide)) rfl ?_; clear h ac wo; intro sv10 ac wo nnsv10 h
     refine on2 h 3 0 rfl rfl (fp (xs := (out ++ [(⟨(⟨((gt l x10).iv).lo, ((gt l x10).iv).hi, true, true⟩ : Iv), (gt l x10).f⟩ : U Ln)])) (ys := [(⟨(⟨((gt l x10).iv).hi, ((gt l x10).iv).hi, false, false⟩ : Iv), (gt l x10).f⟩ : U Ln)]) eZ (fun w hs => (row_view hs 0 rfl)) rfl rfl og) rfl ?_; clear h ac wo; intro sv11 ac wo apsv11 h
     refine st h 6 [sv11] rfl zz81 rfl rfl (jv (h.row_sl 0 rfl)) rfl (nt (h.row_sl 0 rfl)) rfl rfl ?_; clear h ac wo; intro ac wo h
     refine gz h <| (W) ?_; clear h ac wo; intro ac wo h
     refine retN (rs := []) (vs := []) h rfl .nil rfl (hR3 _ _ _ h.bel h.sep ?_)
     clear h ac hR3; intro ac h
     refine gz h <| (W) ?_; clear h ac wo; intro ac wo h
     have hg := d8 hL1 pt
     exact aL ⟨m1, og, _, _, _, og, hg, og, (All.app (All.app zout (All.cons ⟨⟨((All.gt zl (bH _)).1).1, ((All.gt zl (bH _)).1).2⟩, (All.gt zl (bH _)).2⟩ All.nil)) (All.cons ⟨⟨((All.gt zl (bH _)).1).2, ((All.gt zl (bH _)).1).2⟩, (All.gt zl (bH _)).2⟩ All.nil)), og, h.re [0, 6]⟩
    ·
     have hq6 := hc6; try simp at hq6
     refine gz h <| (W) ?_; clear h ac wo; intro ac wo h
     have hg := d8 hL1 pt
     exact aL ⟨m1, og, _, _, _, og, hg, og, (All.app zout (All.cons ⟨⟨((All.gt zl (bH _)).1).1, ((All.gt zl (bH _)).1).2⟩, (All.gt zl (bH _)).2⟩ All.nil)), og, h.re [0, 3]⟩
 ·
  have hd1 := of_decide_eq_false hc1
  have hx1 := gA hL1 pt
  have hd : af l = out := pt
  refine gz h <| (W) ?_; clear h ac wo; intro ac wo h
  exact (rt h) (by rw [hd]; exact h.retR 0 rfl ⟨zout, og⟩)
attribute [irreducible] af
def cC (a : U Ln) (b : U Ln) : Int :=
 (jQ ([(ao a.iv.lo b.iv.lo), (bD (aJ a.iv) (aJ b.iv)), (ao a.iv.hi b.iv.hi)]))
theorem ie (a : U Ln) (b : U Ln) (za : gC 30 a) (zb : gC 30 b) (w0 : World)  : Calls Tryz.prog 273 #[(vUN a), (vUN b)] w0 (cq w0 (.int .i64 (cC a b)) (True)) := by
 refine enter (N := 31) (args := [(vUN a), (vUN b)]) Tryz.func273 rfl rfl ?_; intro ac h
 have p2 := am ((cH a.iv.lo b.iv.lo 10 og za.1.1 zb.1.1) w0)
 refine gz h <| (xb) fun b1 => (xb) fun b2 => (W) ?_; clear h ac; intro ac wo h
 have s3 := Calls.pr ((fun w_ hB_ hS_ => dx a.iv za.1 w_ ) _ h.bel h.sep)
 have p4 := s3
 have s5 := Calls.pr ((fun w_ hB_ hS_ => dx b.iv zb.1 w_ ) _ h.bel h.sep)
 have p6 := s5
 have p8 := am ((g8 (aJ a.iv) (aJ b.iv)) w0)
 have p10 := am ((cH a.iv.hi b.iv.hi 10 og za.1.2 zb.1.2) w0)
 replace h := h.emps 1
 refine eV mixed [dv _, dv _, dw _ [1], dv _, dv _, dw _ [0], dv _, dv _, dv _, dw _ [1], dv _, dv _, dv _, dw _ [0], dv _, dv _, dv _, dv _, dw _ [1], dv _, dv _, dw _ [0], dv _, ⟨.nd (.one 23 fun v => NN v 3), [2]⟩, dw _ [2], dv _] [⟨_, []⟩, ⟨_, []⟩, ⟨.emp, [(23, .one 23 fun v => .row (α := Int) 3 v ([(ao a.iv.lo b.iv.lo), (bD (aJ a.iv) (aJ b.iv)), (ao a.iv.hi b.iv.hi)]))]⟩] h rfl (by kernel_rfl) ⟨fun _ _ => ba (fa uu199 rfl zz86 rfl rfl rfl (k' := 0)), fun _ _ => ba (fa uu86 rfl zz71 rfl rfl rfl (k' := 0)), fun _ _ => fY _ rfl rfl (ir aa71 zz71 rfl rfl rfl (v := (vR a.iv.lo)) rfl), fun _ _ => ba (fa uu199 rfl zz86 rfl rfl rfl (k' := 0)), fun _ _ => ba (fa uu86 rfl zz71 rfl rfl rfl (k' := 0)), fun _ _ => fY _ rfl rfl (ir aa71 zz71 rfl rfl rfl (v := (vR b.iv.lo)) rfl), fun _ _ => hH (d6 (dR Tryz.call127 rfl) (kk (cH a.iv.lo b.iv.lo 10 og za.1.1 zb.1.1))), fun _ _ => om rfl, fun _ _ => ba (fa uu199 rfl zz86 rfl rfl rfl (k' := 0)), fun _ _ => fY _ rfl rfl (ir Tryz.isAgg86 zz86 rfl rfl rfl (v := (vV a.iv)) rfl), fun _ _ => hH (d6 (rk (cap := []) Tryz.call274 rfl rfl) (kk (dx a.iv za.1))), fun _ _ => om rfl, fun _ _ => ba (fa uu199 rfl zz86 rfl rfl rfl (k' := 0)), fun _ _ => fY _ rfl rfl (ir Tryz.isAgg86 zz86 rfl rfl rfl (v := (vV b.iv)) rfl), fun _ _ => hH (d6 (rk (cap := []) Tryz.call274 rfl rfl) (kk (dx b.iv zb.1))), fun _ _ => hH (d6 (dR Tryz.call228 rfl) (kk (g8 (aJ a.iv) (aJ b.iv)))), fun _ _ => ba (fa uu199 rfl zz86 rfl rfl rfl (k' := 0)), fun _ _ => ba (fa uu86 rfl zz71 rfl rfl rfl (k' := 9)), fun _ _ => fY _ rfl rfl (ir aa71 zz71 rfl rfl rfl (v := (vR a.iv.hi)) rfl), fun _ _ => ba (fa uu199 rfl zz86 rfl rfl rfl (k' := 0)), fun _ _ => ba (fa uu86 rfl zz71 rfl rfl rfl (k' := 9)), fun _ _ => fY _ rfl rfl (ir aa71 zz71 rfl rfl rfl (v := (vR b.iv.hi)) rfl), fun _ _ => hH (d6 (dR Tryz.call127 rfl) (kk (cH a.iv.hi b.iv.hi 10 og za.1.2 zb.1.2))), fun _ _ => lW (ψ := fun v => NN v 3) (B := fun v => [.row (α := Int) 3 v ([(ao a.iv.lo b.iv.lo), (bD (aJ a.iv) (aJ b.iv)), (ao a.iv.hi b.iv.hi)])]) [.emp] rfl (fun v _ => by simp only [cp, bp] <;> rfl) (fun v hv => by simpa [DF.one, bp] using hv) (iz (cY (α := Int) (xs := [.tmp 12, .tmp 21, .tmp 28]) (vs := [(.int .i64 (ao a.iv.lo b.iv.lo)), (.int .i64 (bD (aJ a.iv) (aJ b.iv))), (.int .i64 (ao a.iv.hi b.iv.hi))]) [(ao a.iv.lo b.iv.lo), (bD (aJ a.iv) (aJ b.iv)), (ao a.iv.hi b.iv.hi)] slt358 rfl rfl rfl (by decide))), fun ξ hφ => kt _ [.row (α := Int) 3 (ξ 23) ([(ao a.iv.lo b.iv.lo), (bD (aJ a.iv) (aJ b.iv)), (ao a.iv.hi b.iv.hi)])] rfl rfl (d6 (dR Tryz.call227 rfl) (fun w_ hB_ hS_ => tB ([(ao a.iv.lo b.iv.lo), (bD (aJ a.iv) (aJ b.iv)), (ao a.iv.hi b.iv.hi)]) (ξ 23) w_ (row_view hS_ 0 rfl))), fun _ _ => ba (az rfl), trivial⟩ ?_
 clear h ac wo; intro ξ ac wo hφ h
 replace h : St w0 31 [(4, (.int .i64 (jQ ([(ao a.iv.lo b.iv.lo), (bD (aJ a.iv) (aJ b.iv)), (ao a.iv.hi b.iv.hi)]))))] [.blk b2 (cUN b) 199, .blk b1 (cUN a) 199] ac wo := (h.pick [0, 1] (by decide)).sub ⟨rfl, trivial⟩
 clear hφ ξ
 refine gz h <| (W) ?_; clear h ac wo; intro ac wo h
 exact (rt h) (h.retP (by unfold cC; rfl) trivial)
attribute [irreducible] cC
def ff (data : List (U Ln)) (a : Nat) (b : Nat) (i : Nat) (data1 : List (U Ln)) : List (U Ln) :=
 data1
def fe (data : List (U Ln)) (a : Nat) (b : Nat) (i : Nat) (data1 : List (U Ln)) (j : Nat) (data2 : List (U Ln)) : Nx (Nat × (List (U Ln))) (List (U Ln)) :=
 .go ((i + 1), data2)
def cK (data : List (U Ln)) (a : Nat) (b : Nat) (i : Nat) (data1 : List (U Ln)) (j : Nat) (data2 : List (U Ln)) : Nx (Nat × (List (U Ln))) (List (U Ln)) :=
 bif ((decide (((j : Nat) : Int) > ((a : Nat) : Int))) && (decide ((cC (gt data2 j) (gt data2 (j - 1))) < 0))) then
  .go ((j - 1), ((data2.set j (gt data2 (j - 1))).set (j - 1) (gt data2 j)))
 else
  .out (j, data2)
def cL (data : List (U Ln)) (a : Nat) (b : Nat) (i : Nat) (data1 : List (U Ln)) : Nx (Nat × (List (U Ln))) (List (U Ln)) :=
 bif (decide (((i : Nat) : Int) < ((b : Nat) : Int))) then
  fin (de (fun s => cK data a b i data1 s.1 s.2) (i + 1) (i, data1)) (fun s => fe data a b i data1 s.1 s.2) (fun r => .ret r)
 else
  .out (i, data1)
def aZ (data : List (U Ln)) (a : Nat) (b : Nat) : List (U Ln) :=
 fin (de (fun s => cL data a b s.1 s.2) ((b + 1 - (a + 1)) + 1) ((a + 1), data)) (fun s => ff data a b s.1 s.2) (fun r => r)
theorem fc (data : List (U Ln)) (datav : Value) (a : Nat) (b : Nat) (hab : a ≤ b) (hb : b ≤ data.length) (hb2 : b ≤ 1000) (zdata : All (gC 30) data) (w0 w : World) (B : Asn) (hbel : Below w0.heap.size w0 w) (hsep : ∃ Z_, Sep w0.heap.size w [.row (α := U Ln) 199 datav data, B] Z_)  : Calls Tryz.prog 314 #[datav, (.int .i64 ((a : Nat) : Int)), (.int .i64 ((b : Nat) : Int)), (.func (.func 273) #[] #[])] w (RetY w0 (fun v => v = .tuple #[] ∧ (All (gC 30) (aZ data a b) ∧ (aZ data a b).length = data.length)) (fun v => [.row (α := U Ln) 199 datav (aZ data a b), B])) := by
 refine ot (N := 53) (args := [datav, (.int .i64 ((a : Nat) : Int)), (.int .i64 ((b : Nat) : Int)), (.func (.func 273) #[] #[])]) Tryz.func314 rfl rfl hbel hsep ?_; intro ac h
 have hlendata := h.len 0 rfl
 obtain ⟨X1, hX1⟩ : ∃ X, de (fun s => cL data a b s.1 s.2) ((b + 1 - (a + 1)) + 1) ((a + 1), data) = X := ⟨_, rfl⟩
 refine gz h <| (W) ?_; clear h ac; intro ac wo h
 refine wp_loop_ghost (fun n_ a_ w_ => ∃ (i : Nat) (data1 : List (U Ln)), ((b + 1 - i) < n_) ∧ (de (fun s => cL data a b s.1 s.2) n_ (i, data1) = X1) ∧ (i ≤ b + 1) ∧ (All (gC 30) data1) ∧ (data1.length = data.length) ∧ St w0 53 [(0, datav), (1, (.int .i64 ((a : Nat) : Int))), (2, (.int .i64 ((b : Nat) : Int))), (3, (.func (.func 273) #[] #[])), (8, (.int .i64 ((i : Nat) : Int)))] [.row (α := U Ln) 199 datav data1, B] a_ w_) ((b + 1 - (a + 1)) + 1) ⟨(a + 1), data, og, hX1, og, zdata, og, h.rs⟩ ?_
 clear h ac wo; rintro n1 ac wo ⟨i, data1, hm1, hL1, hi, zdata1, hdl, h⟩
 obtain ⟨m1, rfl⟩ : ∃ m, n1 = m + 1 := ⟨n1 - 1, by omega⟩
 refine gz h <| (ai) ?_ ?_ <;> clear h ac wo <;> intro ac wo h hc1
 ·
  have hd1 := of_decide_eq_true hc1
  obtain ⟨X2, hX2⟩ : ∃ X, de (fun s => cK data a b i data1 s.1 s.2) (i + 1) (i, data1) = X := ⟨_, rfl⟩
  refine gz h <| (W) ?_; clear h ac wo; intro ac wo h
  refine wp_loop_ghost (fun n_ a_ w_ => ∃ (j : Nat) (data2 : List (U Ln)), (j < n_) ∧ (de (fun s => cK data a b i data1 s.1 s.2) n_ (j, data2) = X2) ∧ (All (gC 30) data2) ∧ (j ≤ i) ∧ (data2.length = data.length) ∧ St w0 53 [(0, datav), (1, (.int .i64 ((a : Nat) : Int))), (2, (.int .i64 ((b : Nat) : Int))), (3, (.func (.func 273) #[] #[])), (8, (.int .i64 ((i : Nat) : Int))), (9, (.int .i64 ((j : Nat) : Int)))] [.row (α := U Ln) 199 datav data2, B] a_ w_) (i + 1) ⟨i, data1, og, hX2, zdata1, og, og, h.rs⟩ ?_
  clear h ac wo; rintro n2 ac wo ⟨j, data2, hm2, hL2, zdata2, hj, hdl2, h⟩
  obtain ⟨m2, rfl⟩ : ∃ m, n2 = m + 1 := ⟨n2 - 1, by omega⟩
  refine gz h <| (dr0 (hob := (oG (by exact fun hg => ie (gt data2 j) (gt data2 (j - 1)) (All.gt zdata2 (bH _)) (All.gt zdata2 (bH _)))) <| oE)) <| (ai) ?_ ?_ <;> clear h ac wo <;> intro ac wo h hc2
  ·
   have hq2 := hc2; try simp at hq2
   refine gz h <| (dr1 (H := [⟨.row (α := U Ln) 199 datav data2, [(15, .con (.row (α := U Ln) 199 datav (data2.set j (gt data2 (j - 1))))), (17, .con (.row (α := U Ln) 199 datav ((data2.set j (gt data2 (j - 1))).set (j - 1) (gt data2 j))))]⟩, ⟨_, []⟩]) (hob := (oY (h := by exact fun _ => kt (acc := [0]) _ [.row (α := U Ln) 199 datav (data2.set j (gt data2 (j - 1)))] rfl rfl (fP (k := 0) (u' := (gt data2 (j - 1))) Tryz.sizeOf199 (md og) rfl (Nat.add_zero _) rfl rfl rfl rfl rfl rfl))) <| (oY (h := by exact fun _ => kt (acc := [0]) _ [.row (α := U Ln) 199 datav ((data2.set j (gt data2 (j - 1))).set (j - 1) (gt data2 j))] rfl rfl (fP (k := 0) (u' := (gt data2 j)) Tryz.sizeOf199 (md og) rfl (Nat.add_zero _) rfl rfl rfl rfl rfl rfl))) <| oE)) <| (W) ?_; clear h ac wo; intro ac wo h
   have hg := d8 hL2 pt
   exact aL ⟨m2, og, _, _, og, hg, (All.set (All.set zdata2 (All.gt zdata2 (bH _))) (All.gt zdata2 (bH _))), og, og, h.re [0, 1]⟩
  ·
   have hq2 := hc2; try simp at hq2
   have hx2 := gA hL2 pt
   refine gz h <| (W) ?_; clear h ac wo; intro ac wo h
   have hg := d8 hL1 pt
   exact aL ⟨m1, og, _, _, og, hg, og, zdata2, og, h.re [0, 1]⟩
 ·
  have hd1 := of_decide_eq_false hc1
  have hx1 := gA hL1 pt
  have hd : aZ data a b = data1 := pt
  refine gz h <| (W) ?_; clear h ac wo; intro ac wo h
  exact retN (vs := []) h rfl .nil rfl ((h.pick [0, 1] (by decide)).retY ⟨rfl, (by rw [hd]; exact ⟨zdata1, og⟩)⟩ (by rw [hd]; rfl))
attribute [irreducible] aZ
def fV (data : List (U Ln)) (n : Nat) (a : Nat) (b : Nat) (data1 : List (U Ln)) (blockSize : Nat) : List (U Ln) :=
 (aZ data1 a n)
def cP (data : List (U Ln)) (n : Nat) (a : Nat) (b : Nat) (data1 : List (U Ln)) (blockSize : Nat) : Nx Nat (List (U Ln)) :=
 .out blockSize
def fW (data : List (U Ln)) (n : Nat) (a : Nat) (b : Nat) (data1 : List (U Ln)) : List (U Ln) :=
 fin (de (fun s => cP data n a b data1 s) (0 + 1) 20) (fun s => fV data n a b data1 s) (fun r => r)
def cX (data : List (U Ln)) (n : Nat) (a : Nat) (b : Nat) (data1 : List (U Ln)) : Nx (Nat × Nat × (List (U Ln))) (List (U Ln)) :=
 .out (a, b, data1)
def bE (data : List (U Ln)) (n : Nat) : List (U Ln) :=
 fin (de (fun s => cX data n s.1 s.2.1 s.2.2) (0 + 1) (0, 20, data)) (fun s => fW data n s.1 s.2.1 s.2.2) (fun r => r)
theorem fU (data : List (U Ln)) (datav : Value) (n : Nat) (hn : n = data.length) (hl : data.length < 20) (zdata : All (gC 30) data) (w0 w : World) (B : Asn) (hbel : Below w0.heap.size w0 w) (hsep : ∃ Z_, Sep w0.heap.size w [.row (α := U Ln) 199 datav data, B] Z_)  : Calls Tryz.prog 292 #[datav, (.int .i64 ((n : Nat) : Int)), (.func (.func 273) #[] #[])] w (RetY w0 (fun v => v = .tuple #[] ∧ (All (gC 30) (bE data n) ∧ (bE data n).length = data.length)) (fun v => [.row (α := U Ln) 199 datav (bE data n), B])) := by
 refine ot (N := 63) (args := [datav, (.int .i64 ((n : Nat) : Int)), (.func (.func 273) #[] #[])]) Tryz.func292 rfl rfl hbel hsep ?_; intro ac h
 have hlendata := h.len 0 rfl
 obtain ⟨X1, hX1⟩ : ∃ X, de (fun s => cX data n s.1 s.2.1 s.2.2) (0 + 1) (0, 20, data) = X := ⟨_, rfl⟩
 refine gz h <| (W) ?_; clear h ac; intro ac wo h
 refine wp_loop_ghost (fun n_ a_ w_ => ∃ (a : Nat) (b : Nat) (data1 : List (U Ln)), (0 < n_) ∧ (de (fun s => cX data n s.1 s.2.1 s.2.2) n_ (a, b, data1) = X1) ∧ (All (gC 30) data1) ∧ (a = 0) ∧ (b = 20) ∧ (data1.length = data.length) ∧ St w0 63 [(0, datav), (1, (.int .i64 ((n : Nat) : Int))), (2, (.func (.func 273) #[] #[])), (6, (.int .i64 20)), (7, (.int .i64 ((a : Nat) : Int))), (8, (.int .i64 ((b : Nat) : Int)))] [.row (α := U Ln) 199 datav data1, B] a_ w_) (0 + 1) ⟨0, 20, data, og, hX1, zdata, og, og, og, h.rs⟩ ?_
 clear h ac wo; rintro n1 ac wo ⟨a, b, data1, hm1, hL1, zdata1, ha0, hb0, hdl, h⟩
 obtain ⟨m1, rfl⟩ : ∃ m, n1 = m + 1 := ⟨n1 - 1, by omega⟩
 refine gz h <| (W) ?_; clear h ac wo; intro ac wo h
 refine c_ifF h rfl ?_ (decide_eq_false og)
 have hx1 := gA hL1 (show cX data n a b data1 = .out (a, b, data1) from rfl)
 refine gz h <| (W) ?_; clear h ac wo; intro ac wo h
 refine on1 h 0 rfl (s_own (vs := [datav, (.int .i64 ((a : Nat) : Int)), (.int .i64 ((n : Nat) : Int)), (.func (.func 273) #[] #[])]) (A := fun v => [.row (α := U Ln) 199 datav (aZ data1 a n)]) (dR Tryz.call314 rfl) (fun w_ B_ hB_ hS_ => fc data1 datav a n og og og zdata1 w0 w_ B_ hB_ hS_ )) rfl ?_; clear h ac wo; intro vc ac wo s2 h
 obtain rfl : vc = _ := s2.1
 have p3 := s2.2.2
 obtain ⟨X2, hX2⟩ : ∃ X, de (fun s => cP data n a b data1 s) (0 + 1) 20 = X := ⟨_, rfl⟩
 refine gz h <| (W) ?_; clear h ac wo; intro ac wo h
 refine wp_loop_ghost (fun n_ a_ w_ => ∃ (blockSize : Nat), (0 < n_) ∧ (de (fun s => cP data n a b data1 s) n_ blockSize = X2) ∧ (blockSize = 20) ∧ St w0 63 [(0, datav), (1, (.int .i64 ((n : Nat) : Int))), (2, (.func (.func 273) #[] #[])), (6, (.int .i64 ((blockSize : Nat) : Int)))] [.row (α := U Ln) 199 datav (aZ data1 a n), B] a_ w_) (0 + 1) ⟨20, og, hX2, og, h.rs⟩ ?_
 clear h ac wo; rintro n2 ac wo ⟨blockSize, hm2, hL2, hbs, h⟩
 obtain ⟨m2, rfl⟩ : ∃ m, n2 = m + 1 := ⟨n2 - 1, by omega⟩
 refine gz h <| (W) ?_; clear h ac wo; intro ac wo h
 refine c_ifF h rfl ?_ (decide_eq_false og)
 have hx2 := gA hL2 (show cP data n a b data1 blockSize = .out blockSize from rfl)
 have hd : bE data n = (aZ data1 a n) := pt
 refine gz h <| (W) ?_; clear h ac wo; intro ac wo h
 exact retN (vs := []) h rfl .nil rfl ((h.pick [0, 1] (by decide)).retY ⟨rfl, (by rw [hd]; exact ⟨s2.2.1, og⟩)⟩ (by rw [hd]; rfl))
attribute [irreducible] bE
def aW (x : List (U Ln)) : List (U Ln) :=
 (bE x x.length)
theorem d4 (x : List (U Ln)) (xv : Value) (hl : x.length < 20) (zx : All (gC 30) x) (w0 w : World) (B : Asn) (hbel : Below w0.heap.size w0 w) (hsep : ∃ Z_, Sep w0.heap.size w [.row (α := U Ln) 199 xv x, B] Z_)  : Calls Tryz.prog 272 #[xv, (.func (.func 273) #[] #[])] w (RetY w0 (fun v => v = .tuple #[] ∧ (All (gC 30) (aW x) ∧ (aW x).length = x.length)) (fun v => [.row (α := U Ln) 199 xv (aW x), B])) := by
 refine ot (N := 9) (args := [xv, (.func (.func 273) #[] #[])]) Tryz.func272 rfl rfl hbel hsep ?_; intro ac h
 have hlenx := h.len 0 rfl
 refine gz h <| (W) ?_; clear h ac; intro ac wo h
 refine on1 h 0 rfl (s_own (vs := [xv, (.int .i64 ((x.length : Nat) : Int)), (.func (.func 273) #[] #[])]) (A := fun v => [.row (α := U Ln) 199 xv (bE x x.length)]) (dR Tryz.call292 rfl) (fun w_ B_ hB_ hS_ => fU x xv x.length og og zx w0 w_ B_ hB_ hS_ )) rfl ?_; clear h ac wo; intro vc ac wo s2 h
 obtain rfl : vc = _ := s2.1
 have p3 := s2.2.2
 have hd : aW x = (bE x x.length) := rfl
 refine gz h <| (W) ?_; clear h ac wo; intro ac wo h
 exact retN (vs := []) h rfl .nil rfl ((h.pick [0, 1] (by decide)).retY ⟨rfl, (by rw [hd]; exact ⟨s2.2.1, og⟩)⟩ (by rw [hd]; rfl))
attribute [irreducible] aW
def ae (l : List (U Ln)) : (List (U Ln)) :=
 (aW (aT l))
theorem fJ (l : List (U Ln)) (lv : Value) (hl : l.length < 20) (zl : All (gC 30) l) (w0 : World) (hlv : View w0 lv l) : Calls Tryz.prog 214 #[lv] w0 (RetR w0 199 (ae l) (All (gC 30) (ae l) ∧ (ae l).length = l.length)) := by
 refine enter (N := 9) (args := [lv]) Tryz.func214 rfl rfl ?_; intro ac h
 have hlenl := hlv.len
 refine gz h <| (W) ?_; clear h ac; intro ac wo h
 have s1 := RetR.pr ((fun w_ hB_ hS_ => dJ l lv og zl w_ (hlv.below hB_)) _ h.bel h.sep)
 have p2 := s1.2
 have p2_0 := p2.1
 have p2_1 := p2.2
 refine js (xs := (aT l)) h (dR Tryz.call271 rfl) (fun w_ hB_ hS_ => dJ l lv og zl w_ (hlv.below hB_)) rfl ?_; clear h ac wo; intro sv3 ac wo _ h
 refine gz h <| (W) ?_; clear h ac wo; intro ac wo h
 refine on1 h 0 rfl (s_own (vs := [sv3, (.func (.func 273) #[] #[])]) (A := fun v => [.row (α := U Ln) 199 sv3 (aW (aT l))]) (dR Tryz.call272 rfl) (fun w_ B_ hB_ hS_ => d4 (aT l) sv3 og s1.1 w0 w_ B_ hB_ hS_ )) rfl ?_; clear h ac wo; intro vc ac wo s5 h
 obtain rfl : vc = _ := s5.1
 have p6 := s5.2.2
 refine gz h <| (W) ?_; clear h ac wo; intro ac wo h
 exact (rt h) (by unfold ae; exact h.retR 0 rfl ⟨s5.2.1, og⟩)
attribute [irreducible] ae
end Go.Sx
