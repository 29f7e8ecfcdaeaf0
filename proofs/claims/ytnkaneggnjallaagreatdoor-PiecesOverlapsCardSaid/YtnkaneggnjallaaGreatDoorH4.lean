/- A part of the proof that the law PiecesOverlaps answers true at every input and leaves its arguments as they were. -/
import Derived.Test.YtnkaneggnjallaaGreatDoorH3
set_option linter.unusedVariables false
set_option linter.unusedSimpArgs false
open Go.Proofs.Tryz renaming runUnderlying55 → uu55, sizeOf4 → zz4, isAgg4 → aa4, runUnderlying26 → uu26, sizeOf57 → zz57, runUnderlying57 → uu57, sizeOf55 → zz55, sizeOf53 → zz53, isAgg53 → aa53, isAgg57 → aa57, sizeOf3 → zz3, isAgg3 → aa3, call150 → cc150, isAgg26 → aa26, sizeOf26 → zz26, isAgg55 → aa55, runUnderlying256 → uu256
namespace Go.Sx
open Go Go.RowKit Go.Proofs
set_option maxRecDepth 100000
set_option maxHeartbeats 40000000
attribute [local irreducible] ax ch aq aL cn bj aI bb cE bu aC
def br (l : List (U Int)) : (List (U Int)) :=
 (cf (ao l (ak l ([]))))
theorem eO (l : List (U Int)) (lv : Value) (hl : l.length ≤ 100) (zl : All (iH 30) l) (w0 : World) (hlv : View w0 lv l) : Calls Tryz.prog 23 #[(.iface 31 (.agg #[])), lv] w0 (RetR w0 57 (br l) (All (iH 30) (br l) ∧ (br l).length ≤ 4 * l.length)) := by
 refine enter (N := 11) (args := [(.iface 31 (.agg #[])), lv]) Tryz.func23 rfl rfl ?_; intro ac h
 have hlenl := hlv.len
 refine dQ fun K1 hK1 => ?_
 refine rd0 h (ag rfl) rfl <| gn hK1 <| gr fun K2 hK2 => g0 (af rfl) rfl <| g0 (af rfl) rfl <| g0 (af rfl) rfl ?_; clear h ac; intro ac wo h
 replace h := h.nilRow (α := GR) 53
 refine on1 h 0 rfl (kv (vs := [lv, (.slice none 0 0)]) (A := fun v => [.row (α := GR) 53 v (ak l ([]))]) (cB Tryz.call90 rfl) (fun w_ B_ hB_ hS_ => fd l lv ([]) (.slice none 0 0) (by first | omega | assumption | grind) (by first | omega | assumption | grind) zl All.nil w0 w_ B_ hB_ hS_ hlv)) rfl ?_; clear h ac wo; intro sv2 ac wo s3 h
 have p4 := s3.2
 have s5 := RetR.pr ((fun w_ hB_ hS_ => dJ l lv (ak l ([])) sv2 (by first | omega | assumption | grind) (by first | omega | assumption | grind) zl s3.1 w_ (hlv.below hB_) (row_view hS_ 0 rfl)) _ h.bel h.sep)
 have p6 := s5.2
 have p6_0 := p6.1
 have p6_1 := p6.2
 refine kE (xs := (ao l (ak l ([])))) h (cB Tryz.call89 rfl) (fun w_ hB_ hS_ => dJ l lv (ak l ([])) sv2 (by first | omega | assumption | grind) (by first | omega | assumption | grind) zl s3.1 w_ (hlv.below hB_) (row_view hS_ 0 rfl)) rfl ?_; clear h ac wo; intro sv7 ac wo _ h
 have s8 := RetR.pr ((fun w_ hB_ hS_ => eX (ao l (ak l ([]))) sv7 (by first | omega | assumption | grind) (by first | omega | assumption | grind) s5.1 w_ (row_view hS_ 0 rfl)) _ h.bel h.sep)
 have p9 := s8.2
 refine kE (xs := (cf (ao l (ak l ([]))))) h (cB Tryz.call88 rfl) (fun w_ hB_ hS_ => eX (ao l (ak l ([]))) sv7 (by first | omega | assumption | grind) (by first | omega | assumption | grind) s5.1 w_ (row_view hS_ 0 rfl)) rfl ?_; clear h ac wo; intro sv10 ac wo _ h
 refine rd0 h (ag rfl) rfl <| gn hK2 <| gT ?_; clear h ac wo; intro ac wo h
 exact ret h rfl (.tmp rfl .nil) rfl (by unfold br; exact h.retR 0 rfl ⟨s8.1, (by first | omega | assumption | grind)⟩)
attribute [irreducible] br
def aR (s : List (U Int)) : (List (U Int)) := s
theorem dX (s : List (U Int)) (sv : Value) (hl : s.length ≤ 1000) (zs : All (iH 30) s) (w0 : World) (hsv : View w0 sv s) : Calls Tryz.prog 144 #[sv] w0 (RetR w0 57 (aR s) (All (iH 30) (aR s) ∧ (aR s) = s ∧ (aR s).length = s.length)) := by
 refine enter (N := 8) (args := [sv]) Tryz.func144 rfl rfl ?_; intro ac h
 have hlens := hsv.len
 refine dQ fun K1 hK1 => ?_
 refine rd0 h (ag rfl) rfl <| gn hK1 <| gq fun K2 hK2 => gr fun K3 hK3 => g0 (af rfl) rfl <| g0 (oq Tryz.underlying26 hsv.sl rfl) rfl <| gn hK3 ?_; clear h ac; intro ac wo h
 refine cN h rfl (fun hc1 => ?_) (fun hc1 => ?_)
 ·
  have hq1 := hc1; try simp at hq1
  refine gz h <| gr fun K4 hK4 => g0 (ag rfl) rfl <| gn hK4 <| gT ?_; clear h ac wo; intro ac wo h
  replace h := h.nilRow (α := U Int) 57
  have hd : aR s = [] := (hsv.nil hc1).1
  exact ret h rfl (.tmp rfl .nil) rfl (by rw [hd]; exact h.retR 0 rfl ⟨All.nil, ⟨(hsv.nil hc1).1.symm, by rw [(hsv.nil hc1).1]⟩⟩)
 ·
  have hq1 := hc1; try simp at hq1
  refine dM ?_
  refine hK2 _ _ ?_
  refine dQ fun K5 hK5 => ?_
  refine nw h (cg (α := U Int) (xs := []) (vs := []) [] eZ rfl rfl rfl (by decide)) rfl ?_; clear h ac wo; intro sv2 ac wo nnsv2 h
  refine rd0 h (af rfl) rfl ?_; clear h ac wo; intro ac wo h
  refine on1 h 0 rfl (s_appV (xs := []) (ys := s) eZ hsv rfl rfl (by first | omega | assumption | grind)) rfl ?_; clear h ac wo; intro sv3 ac wo apsv3 h
  refine rd0 h (ag rfl) rfl <| gn hK5 <| gT ?_; clear h ac wo; intro ac wo h
  exact ret h rfl (.tmp rfl .nil) rfl (by unfold aR; exact h.retR 0 rfl ⟨(All.app All.nil zs), ⟨rfl, rfl⟩⟩)
attribute [irreducible] aR
def aM (i : Iv) : Int :=
 bif i.openLo then
  1
 else
  0
theorem dK (i : Iv) (zi : SzV 30 i) (w0 : World)  : Calls Tryz.prog 147 #[(vV i)] w0 (ec w0 (.int .i64 (aM i)) ((-1 ≤ (aM i) ∧ (aM i) ≤ 1))) := by
 refine enter (N := 5) (args := [(vV i)]) Tryz.func147 rfl rfl ?_; intro ac h
 refine dQ fun K1 hK1 => ?_
 refine bx h (cV i) rfl rfl rfl fun b1 => g0 (ag rfl) rfl <| gn hK1 <| gq fun K2 hK2 => gr fun K3 hK3 => g0 (bH uu55 rfl zz4 (by decide) rfl rfl (k' := 18)) rfl <| g1 0 rfl (aT aa4 zz4 rfl rfl rfl (v := (.bool i.openLo)) rfl) rfl <| gn hK3 ?_; clear h ac; intro ac wo h
 refine cN h rfl (fun hc1 => ?_) (fun hc1 => ?_)
 ·
  have hq1 := hc1; try simp at hq1
  refine gz h <| gr fun K4 hK4 => g0 (ag rfl) rfl <| gn hK4 <| gT ?_; clear h ac wo; intro ac wo h
  have hd : aM i = 1 := (cT hc1)
  exact ret h rfl (.tmp rfl .nil) rfl (h.retP (by rw [hd] <;> rfl) (by rw [hd]; exact (by first | omega | assumption | grind)))
 ·
  have hq1 := hc1; try simp at hq1
  refine gz h <| gS <| gx hK2 <| gr fun K5 hK5 => g0 (ag rfl) rfl <| gn hK5 <| gT ?_; clear h ac wo; intro ac wo h
  have hd : aM i = 0 := (cF hc1)
  exact ret h rfl (.tmp rfl .nil) rfl (h.retP (by rw [hd] <;> rfl) (by rw [hd]; exact (by first | omega | assumption | grind)))
attribute [irreducible] aM
def dG (l : List (U Int)) (t : GR) : Bool :=
 (((decide (((l.length : Nat) : Int) > 0)) && (decide (((gt l (l.length - 1)).iv).hi = t))) && (!((gt l (l.length - 1)).iv).openHi))
theorem gw (l : List (U Int)) (lv : Value) (t : GR) (zl : All (iH 30) l) (zt : SzR 30 t) (w0 : World) (hlv : View w0 lv l) : Calls Tryz.prog 84 #[lv, (vR t)] w0 (ec w0 (.bool (dG l t)) (True)) := by
 refine enter (N := 31) (args := [lv, (vR t)]) Tryz.func84 rfl rfl ?_; intro ac h
 have hlenl := hlv.len
 refine dQ fun K1 hK1 => ?_
 refine bx h (cR t) rfl rfl rfl fun b1 => g0 (ag rfl) rfl <| gn hK1 <| gr fun K2 hK2 => g0 (af rfl) rfl <| g0 (db uu26 rfl hlv.sl) rfl <| g0 (ag rfl) rfl <| gn hK2 <| gq fun K3 hK3 => ?_; clear h ac; intro ac wo h
 refine cu mixed [dv _, dv _, dv _, dv _, dv _, dv _, dv _, dv _, dv _, dv _, dw _ [0], dv _, dv _, dv _, dv _, dv _, dv _, dv _, dv _, dv _, dv _, dv _, dv _, dv _] [⟨_, []⟩] h rfl (by kernel_rfl) ⟨fun _ _ => om rfl, fun _ _ => aw (gY rfl rfl), fun _ _ => om rfl, fun _ _ => oh rfl rfl rfl rfl (fun hg => af rfl), fun _ _ => oh rfl rfl rfl rfl (fun hg => af rfl), fun _ _ => oh rfl rfl rfl rfl (fun hg => cY (aj rfl hg) rfl (r := (((l.length - 1) : Nat) : Int)) (by rw [IntKind.wrap_i64]; first | omega | (simp at hg; omega) | grind)), fun _ _ => oh rfl rfl rfl rfl (fun hg => cZ (i := (l.length - 1)) uu26 zz57 (aj rfl hg) (aj rfl hg) (hlv.nn (i := (l.length - 1)) (by first | omega | (simp at hg; omega) | grind)) (by first | omega | (simp at hg; omega) | grind)), fun _ _ => oh rfl rfl rfl rfl (fun hg => bV uu57 rfl zz55 (by decide) (hlv.nn (i := 0) (by first | omega | (simp at hg; omega) | grind)) (aj rfl hg) rfl (k' := (l.length - 1) * 21 + 0)), fun _ _ => oh rfl rfl rfl rfl (fun hg => bV uu55 rfl zz53 (by decide) (hlv.nn (i := 0) (by first | omega | (simp at hg; omega) | grind)) (aj rfl hg) (by first | rfl | (simp only [Nat.add_assoc] <;> rfl)) (k' := (l.length - 1) * 21 + 9)), fun _ _ => oh rfl rfl rfl rfl (fun hg => eB (k := 9) aa53 zz53 hlv (bk (by first | omega | (simp at hg; omega) | grind)) (aj rfl hg) rfl rfl rfl (v := (vR (((gt l (l.length - 1)).iv).hi))) rfl), fun _ _ => oh rfl rfl rfl rfl (fun hg => aT aa53 zz53 rfl rfl rfl (v := (vR t)) rfl), fun _ _ => oh rfl rfl rfl rfl (fun hg => eF jz (aj rfl hg) (aj rfl hg)), fun _ _ => aw (df rfl (fun e => (aj rfl e))), fun _ _ => om rfl, fun _ _ => oh rfl rfl rfl rfl (fun hg => af rfl), fun _ _ => oh rfl rfl rfl rfl (fun hg => af rfl), fun _ _ => oh rfl rfl rfl rfl (fun hg => cY (aj rfl hg) rfl (r := (((l.length - 1) : Nat) : Int)) (by rw [IntKind.wrap_i64]; first | omega | (simp at hg; omega) | grind)), fun _ _ => oh rfl rfl rfl rfl (fun hg => cZ (i := (l.length - 1)) uu26 zz57 (aj rfl hg) (aj rfl hg) (hlv.nn (i := (l.length - 1)) (by first | omega | (simp at hg; omega) | grind)) (by first | omega | (simp at hg; omega) | grind)), fun _ _ => oh rfl rfl rfl rfl (fun hg => bV uu57 rfl zz55 (by decide) (hlv.nn (i := 0) (by first | omega | (simp at hg; omega) | grind)) (aj rfl hg) rfl (k' := (l.length - 1) * 21 + 0)), fun _ _ => oh rfl rfl rfl rfl (fun hg => bV uu55 rfl zz4 (by decide) (hlv.nn (i := 0) (by first | omega | (simp at hg; omega) | grind)) (aj rfl hg) (by first | rfl | (simp only [Nat.add_assoc] <;> rfl)) (k' := (l.length - 1) * 21 + 19)), fun _ _ => oh rfl rfl rfl rfl (fun hg => eB (k := 19) aa4 zz4 hlv (bk (by first | omega | (simp at hg; omega) | grind)) (aj rfl hg) rfl rfl rfl (v := (.bool (((gt l (l.length - 1)).iv).openHi))) rfl), fun _ _ => oh rfl rfl rfl rfl (fun hg => eM (aj rfl hg)), fun _ _ => aw (df rfl (fun e => (aj rfl e))), fun _ _ => aw (ag rfl), trivial⟩ ?_
 clear h ac wo; intro ξ ac wo hφ h
 replace h : St w0 31 [(4, (.bool (((decide (((l.length : Nat) : Int) > 0)) && (decide (((gt l (l.length - 1)).iv).hi = t))) && (!((gt l (l.length - 1)).iv).openHi))))] [.blk b1 (cR t) 53] ac wo := (h.pick [0] (by decide)).sub ⟨rfl, trivial⟩
 clear hφ ξ
 refine hK3 _ _ ?_
 refine fh ?_
 exact ret h rfl (.tmp rfl .nil) rfl (h.retP (by unfold dG; rfl) trivial)
attribute [irreducible] dG
def eV (l : List (U Int)) (x10 : Nat) (out : List (U Int)) : (List (U Int)) :=
 out
def bB (l : List (U Int)) (x10 : Nat) (out : List (U Int)) : Nx (Nat × (List (U Int))) (List (U Int)) :=
 bif (decide (((x10 : Nat) : Int) < ((l.length : Nat) : Int))) then
  bif (!((gt l x10).iv).openLo) then
   bif (aC ((gt l x10).iv)) then
    .go ((x10 + 1), (out ++ [(⟨(⟨((gt l x10).iv).lo, ((gt l x10).iv).lo, false, false⟩ : Iv), (gt l x10).f⟩ : U Int)]))
   else
    bif (!((gt l x10).iv).openHi) then
     .go ((x10 + 1), (((out ++ [(⟨(⟨((gt l x10).iv).lo, ((gt l x10).iv).lo, false, false⟩ : Iv), (gt l x10).f⟩ : U Int)]) ++ [(⟨(⟨((gt l x10).iv).lo, ((gt l x10).iv).hi, true, true⟩ : Iv), (gt l x10).f⟩ : U Int)]) ++ [(⟨(⟨((gt l x10).iv).hi, ((gt l x10).iv).hi, false, false⟩ : Iv), (gt l x10).f⟩ : U Int)]))
    else
     .go ((x10 + 1), ((out ++ [(⟨(⟨((gt l x10).iv).lo, ((gt l x10).iv).lo, false, false⟩ : Iv), (gt l x10).f⟩ : U Int)]) ++ [(⟨(⟨((gt l x10).iv).lo, ((gt l x10).iv).hi, true, true⟩ : Iv), (gt l x10).f⟩ : U Int)]))
  else
   bif (aC ((gt l x10).iv)) then
    .go ((x10 + 1), out)
   else
    bif (!((gt l x10).iv).openHi) then
     .go ((x10 + 1), ((out ++ [(⟨(⟨((gt l x10).iv).lo, ((gt l x10).iv).hi, true, true⟩ : Iv), (gt l x10).f⟩ : U Int)]) ++ [(⟨(⟨((gt l x10).iv).hi, ((gt l x10).iv).hi, false, false⟩ : Iv), (gt l x10).f⟩ : U Int)]))
    else
     .go ((x10 + 1), (out ++ [(⟨(⟨((gt l x10).iv).lo, ((gt l x10).iv).hi, true, true⟩ : Iv), (gt l x10).f⟩ : U Int)]))
 else
  .out (x10, out)
def ae (l : List (U Int)) : (List (U Int)) :=
 fin (bM (fun s => bB l s.1 s.2) ((l.length - 0) + 1) (0, [])) (fun s => eV l s.1 s.2) (fun r => r)
theorem fZ (l : List (U Int)) (lv : Value) (hl : l.length ≤ 1000) (zl : All (iH 30) l) (w0 : World) (hlv : View w0 lv l) : Calls Tryz.prog 82 #[lv] w0 (RetR w0 57 (ae l) (All (iH 30) (ae l) ∧ (ae l).length ≤ 3 * l.length)) := by
 refine enter (N := 54) (args := [lv]) Tryz.func82 rfl rfl ?_; intro ac h
 have hlenl := hlv.len
 refine dQ fun K1 hK1 => ?_
 refine rd0 h (ag rfl) rfl <| gn hK1 <| gr fun K2 hK2 => ga [.slice none 0 0] Tryz.zeroValue26 rfl rfl fun b1 => gn hK2 <| gr fun K3 hK3 => g0 (kJ rfl) rfl <| g0 (ag rfl) rfl <| gn hK3 <| gq fun K4 hK4 => gr fun K5 hK5 => g0 (af rfl) rfl <| g0 (db uu26 rfl hlv.sl) rfl <| g0 (af rfl) rfl <| gn hK5 <| gB ?_; clear h ac; intro ac wo h
 replace h := h.nilRow (α := U Int) 57
 obtain ⟨X1, hX1⟩ : ∃ X, bM (fun s => bB l s.1 s.2) ((l.length - 0) + 1) (0, []) = X := ⟨_, rfl⟩
 refine wp_loop_ghost (fun n_ a_ w_ => ∃ (x10 : Nat) (out : List (U Int)) (outv : Value), ((l.length - x10) < n_) ∧ (bM (fun s => bB l s.1 s.2) n_ (x10, out) = X1) ∧ (x10 ≤ l.length) ∧ (All (iH 30) out) ∧ (out.length ≤ 3 * x10) ∧ St w0 54 [(3, (ptr b1 0)), (4, (.func (.func 150) #[] #[(ptr b1 0)])), (8, lv), (9, (.int .i64 ((l.length : Nat) : Int))), (10, (.int .i64 ((x10 : Nat) : Int)))] [.row (α := U Int) 57 outv out, .blk b1 [outv] 26] a_ w_) ((l.length - 0) + 1) ⟨0, [], (.slice none 0 0), (by omega), hX1, (by first | omega | assumption | grind), All.nil, (by first | omega | assumption | grind), (h.sub ⟨rfl, rfl, rfl, rfl, rfl, trivial⟩)⟩ ?_
 clear h ac wo; rintro n1 ac wo ⟨x10, out, outv, hm1, hL1, hx10, zout, hol, h⟩
 obtain ⟨m1, rfl⟩ : ∃ m, n1 = m + 1 := ⟨n1 - 1, by omega⟩
 refine gz h <| gr fun K6 hK6 => g0 (dx rfl rfl) rfl <| gn hK6 <| gq fun K7 hK7 => ?_; clear h ac wo; intro ac wo h
 refine cN h rfl (fun hc1 => ?_) (fun hc1 => ?_)
 ·
  have hd1 := of_decide_eq_true hc1
  refine gz h <| gS <| gx hK7 <| gq fun K8 hK8 => gB <| gr fun K9 hK9 => g0 (cZ (i := x10) uu26 zz57 rfl rfl (hlv.nn (i := x10) (by first | omega | assumption | grind)) (by first | omega | assumption | grind)) rfl <| g0 (eB (k := 0) aa57 zz57 hlv (bk (by first | omega | assumption | grind)) rfl (Nat.add_zero _) rfl rfl (v := (vUI (gt l x10))) rfl) rfl <| ga (cUI (⟨(⟨(⟨oQ, oQ, false⟩ : GR), (⟨oQ, oQ, false⟩ : GR), false, false⟩ : Iv), 0⟩ : U Int)) Tryz.zeroValue57 rfl rfl fun b2 => gs 0 (cUI (gt l x10)) rfl zz57 rfl rfl rfl rfl rfl rfl rfl <| gn hK9 <| gq fun K10 hK10 => gr fun K11 hK11 => g0 (bH uu57 rfl zz55 (by decide) rfl rfl (k' := 0)) rfl <| g0 (bH uu55 rfl zz4 (by decide) rfl rfl (k' := 18)) rfl <| g1 0 rfl (aT aa4 zz4 rfl rfl rfl (v := (.bool (((gt l x10).iv).openLo))) rfl) rfl <| g0 (eM rfl) rfl <| gn hK11 ?_; clear h ac wo; intro ac wo h
  refine cN h rfl (fun hc2 => ?_) (fun hc2 => ?_)
  ·
   have hq2 := hc2; try simp at hq2
   refine gz h <| gR <| g0 (af rfl) rfl <| g0 (bH uu57 rfl zz55 (by decide) rfl rfl (k' := 0)) rfl <| g0 (bH uu55 rfl zz53 (by decide) rfl rfl (k' := 0)) rfl <| g1 0 rfl (aT aa53 zz53 rfl rfl rfl (v := (vR (((gt l x10).iv).lo))) rfl) rfl <| g0 (bH uu57 rfl zz3 (by decide) rfl rfl (k' := 20)) rfl <| g1 0 rfl (aT aa3 zz3 rfl rfl rfl (v := (.int .i64 ((gt l x10).f))) rfl) rfl ?_; clear h ac wo; intro ac wo h
   refine inl (vs := [(vR (((gt l x10).iv).lo)), (.int .i64 ((gt l x10).f)), (ptr b1 0)]) (M := 13) h (jM (vs := [(vR (((gt l x10).iv).lo)), (.int .i64 ((gt l x10).f))]) (cap := [(ptr b1 0)]) cc150 rfl rfl) Tryz.func150 rfl rfl rfl ?_
   clear h ac; intro R1 hR1 ac h
   refine gz h <| gr fun K12 hK12 => gb (cR (((gt l x10).iv).lo)) rfl rfl rfl fun b3 => gn hK12 <| gR <| g1 3 rfl (aT aa26 zz26 rfl rfl rfl (v := outv) rfl) rfl <| g1 0 rfl (aT aa53 zz53 rfl rfl rfl (v := (vR (((gt l x10).iv).lo))) rfl) rfl <| g1 0 rfl (aT aa53 zz53 rfl rfl rfl (v := (vR (((gt l x10).iv).lo))) rfl) rfl <| g0 (bK jl rfl rfl (v := (vV (⟨((gt l x10).iv).lo, ((gt l x10).iv).lo, false, false⟩ : Iv))) rfl) rfl <| g0 (af rfl) rfl <| g0 (bK lI rfl rfl (v := (vUI (⟨(⟨((gt l x10).iv).lo, ((gt l x10).iv).lo, false, false⟩ : Iv), (gt l x10).f⟩ : U Int))) rfl) rfl ?_; clear h ac wo; intro ac wo h
   refine nw h (cg (α := U Int) (xs := [.tmp 10]) (vs := [(vUI (⟨(⟨((gt l x10).iv).lo, ((gt l x10).iv).lo, false, false⟩ : Iv), (gt l x10).f⟩ : U Int))]) [(⟨(⟨((gt l x10).iv).lo, ((gt l x10).iv).lo, false, false⟩ : Iv), (gt l x10).f⟩ : U Int)] eZ rfl rfl rfl (by decide)) rfl ?_; clear h ac wo; intro sv2 ac wo nnsv2 h
   refine on2 h 3 0 rfl rfl (dY (xs := out) (ys := [(⟨(⟨((gt l x10).iv).lo, ((gt l x10).iv).lo, false, false⟩ : Iv), (gt l x10).f⟩ : U Int)]) eZ (fun w hs => (row_view hs 0 rfl)) rfl rfl (by first | omega | assumption | grind)) rfl ?_; clear h ac wo; intro sv3 ac wo apsv3 h
   refine st h 4 [sv3] rfl zz26 rfl rfl (fq (h.row_sl 0 rfl)) rfl (iM (h.row_sl 0 rfl)) rfl rfl <| gx (fun _ _ => bn) ?_; clear h ac wo; intro ac wo h
   refine nX (rs := []) (vs := []) h rfl .nil rfl (hR1 _ _ _ h.bel h.sep ?_)
   clear h ac hR1; intro ac h
   refine gz h <| gn hK10 <| gq fun K13 hK13 => gr fun K14 hK14 => g0 (bH uu57 rfl zz55 (by decide) rfl rfl (k' := 0)) rfl <| g1 3 rfl (aT aa55 zz55 rfl rfl rfl (v := (vV ((gt l x10).iv))) rfl) rfl <| gc (cB Tryz.call83 rfl) (kk (bS ((gt l x10).iv))) rfl <| gn hK14 ?_; clear h ac wo; intro ac wo h
   replace h := h.sub (F' := [(3, (ptr b1 0)), (4, (.func (.func 150) #[] #[(ptr b1 0)])), (8, lv), (9, (.int .i64 ((l.length : Nat) : Int))), (10, (.int .i64 ((x10 : Nat) : Int))), (6, (ptr b2 0)), (27, (.bool (aC ((gt l x10).iv))))]) ⟨rfl, rfl, rfl, rfl, rfl, rfl, rfl, trivial⟩
   refine cN h rfl (fun hc3 => ?_) (fun hc3 => ?_)
   ·
    have hq3 := hc3; try simp at hq3
    refine gz h <| gE <| gx hK8 <| gR <| g0 (bt rfl rfl (r := ((x10 + 1 : Nat) : Int)) (by rw [IntKind.wrap_i64]; first | omega | grind)) rfl <| g0 (af rfl) rfl <| gx (fun _ _ => bn) ?_; clear h ac wo; intro ac wo h
    exact aD ⟨m1, (by omega), _, _, _, (by first | omega | assumption | grind), bI hL1 (show bB l x10 out = .go _ from (Eq.trans (cT hc1) (Eq.trans (cT hc2) (cT hc3)))), (by first | omega | assumption | grind), (All.app zout (All.cons ⟨(All.gt zl (cK _)).1, (All.gt zl (cK _)).1⟩ All.nil)), (by first | omega | assumption | grind), (h.pick [0, 4] (by decide)).sub ⟨rfl, rfl, rfl, rfl, rfl, trivial⟩⟩
   ·
    have hq3 := hc3; try simp at hq3
    refine gz h <| gS <| gx hK13 <| gr fun K15 hK15 => g1 4 rfl (aT aa26 zz26 rfl rfl rfl (v := sv3) rfl) rfl <| g0 (bH uu57 rfl zz55 (by decide) rfl rfl (k' := 0)) rfl <| g0 (bH uu55 rfl zz53 (by decide) rfl rfl (k' := 0)) rfl <| g1 3 rfl (aT aa53 zz53 rfl rfl rfl (v := (vR (((gt l x10).iv).lo))) rfl) rfl <| g0 (bH uu57 rfl zz55 (by decide) rfl rfl (k' := 0)) rfl <| g0 (bH uu55 rfl zz53 (by decide) rfl rfl (k' := 9)) rfl <| g1 3 rfl (aT aa53 zz53 rfl rfl rfl (v := (vR (((gt l x10).iv).hi))) rfl) rfl <| g0 (bK jl rfl rfl (v := (vV (⟨((gt l x10).iv).lo, ((gt l x10).iv).hi, true, true⟩ : Iv))) rfl) rfl <| g0 (bH uu57 rfl zz3 (by decide) rfl rfl (k' := 20)) rfl <| g1 3 rfl (aT aa3 zz3 rfl rfl rfl (v := (.int .i64 ((gt l x10).f))) rfl) rfl <| g0 (bK lI rfl rfl (v := (vUI (⟨(⟨((gt l x10).iv).lo, ((gt l x10).iv).hi, true, true⟩ : Iv), (gt l x10).f⟩ : U Int))) rfl) rfl ?_; clear h ac wo; intro ac wo h
    refine nw h (cg (α := U Int) (xs := [.tmp 38]) (vs := [(vUI (⟨(⟨((gt l x10).iv).lo, ((gt l x10).iv).hi, true, true⟩ : Iv), (gt l x10).f⟩ : U Int))]) [(⟨(⟨((gt l x10).iv).lo, ((gt l x10).iv).hi, true, true⟩ : Iv), (gt l x10).f⟩ : U Int)] eZ rfl rfl rfl (by decide)) rfl ?_; clear h ac wo; intro sv4 ac wo nnsv4 h
    refine on2 h 1 0 rfl rfl (dY (xs := (out ++ [(⟨(⟨((gt l x10).iv).lo, ((gt l x10).iv).lo, false, false⟩ : Iv), (gt l x10).f⟩ : U Int)])) (ys := [(⟨(⟨((gt l x10).iv).lo, ((gt l x10).iv).hi, true, true⟩ : Iv), (gt l x10).f⟩ : U Int)]) eZ (fun w hs => (row_view hs 0 rfl)) rfl rfl (by first | omega | assumption | grind)) rfl ?_; clear h ac wo; intro sv5 ac wo apsv5 h
    refine st h 5 [sv5] rfl zz26 rfl rfl (fq (h.row_sl 0 rfl)) rfl (iM (h.row_sl 0 rfl)) rfl rfl <| gn hK15 <| gr fun K16 hK16 => g0 (bH uu57 rfl zz55 (by decide) rfl rfl (k' := 0)) rfl <| g0 (bH uu55 rfl zz4 (by decide) rfl rfl (k' := 19)) rfl <| g1 4 rfl (aT aa4 zz4 rfl rfl rfl (v := (.bool (((gt l x10).iv).openHi))) rfl) rfl <| g0 (eM rfl) rfl <| gn hK16 ?_; clear h ac wo; intro ac wo h
    replace h := h.sub (F' := [(3, (ptr b1 0)), (4, (.func (.func 150) #[] #[(ptr b1 0)])), (8, lv), (9, (.int .i64 ((l.length : Nat) : Int))), (10, (.int .i64 ((x10 : Nat) : Int))), (6, (ptr b2 0)), (44, (.bool (!((gt l x10).iv).openHi)))]) ⟨rfl, rfl, rfl, rfl, rfl, rfl, rfl, trivial⟩
    refine cN h rfl (fun hc4 => ?_) (fun hc4 => ?_)
    ·
     have hq4 := hc4; try simp at hq4
     refine gz h <| gR <| g0 (af rfl) rfl <| g0 (bH uu57 rfl zz55 (by decide) rfl rfl (k' := 0)) rfl <| g0 (bH uu55 rfl zz53 (by decide) rfl rfl (k' := 9)) rfl <| g1 4 rfl (aT aa53 zz53 rfl rfl rfl (v := (vR (((gt l x10).iv).hi))) rfl) rfl <| g0 (bH uu57 rfl zz3 (by decide) rfl rfl (k' := 20)) rfl <| g1 4 rfl (aT aa3 zz3 rfl rfl rfl (v := (.int .i64 ((gt l x10).f))) rfl) rfl ?_; clear h ac wo; intro ac wo h
     refine inl (vs := [(vR (((gt l x10).iv).hi)), (.int .i64 ((gt l x10).f)), (ptr b1 0)]) (M := 13) h (jM (vs := [(vR (((gt l x10).iv).hi)), (.int .i64 ((gt l x10).f))]) (cap := [(ptr b1 0)]) cc150 rfl rfl) Tryz.func150 rfl rfl rfl ?_
     clear h ac; intro R2 hR2 ac h
     refine gz h <| gr fun K17 hK17 => gb (cR (((gt l x10).iv).hi)) rfl rfl rfl fun b4 => gn hK17 <| gR <| g1 6 rfl (aT aa26 zz26 rfl rfl rfl (v := sv5) rfl) rfl <| g1 0 rfl (aT aa53 zz53 rfl rfl rfl (v := (vR (((gt l x10).iv).hi))) rfl) rfl <| g1 0 rfl (aT aa53 zz53 rfl rfl rfl (v := (vR (((gt l x10).iv).hi))) rfl) rfl <| g0 (bK jl rfl rfl (v := (vV (⟨((gt l x10).iv).hi, ((gt l x10).iv).hi, false, false⟩ : Iv))) rfl) rfl <| g0 (af rfl) rfl <| g0 (bK lI rfl rfl (v := (vUI (⟨(⟨((gt l x10).iv).hi, ((gt l x10).iv).hi, false, false⟩ : Iv), (gt l x10).f⟩ : U Int))) rfl) rfl ?_; clear h ac wo; intro ac wo h
     refine nw h (cg (α := U Int) (xs := [.tmp 10]) (vs := [(vUI (⟨(⟨((gt l x10).iv).hi, ((gt l x10).iv).hi, false, false⟩ : Iv), (gt l x10).f⟩ : U Int))]) [(⟨(⟨((gt l x10).iv).hi, ((gt l x10).iv).hi, false, false⟩ : Iv), (gt l x10).f⟩ : U Int)] eZ rfl rfl rfl (by decide)) rfl ?_; clear h ac wo; intro sv6 ac wo nnsv6 h
     refine on2 h 2 0 rfl rfl (dY (xs := ((out ++ [(⟨(⟨((gt l x10).iv).lo, ((gt l x10).iv).lo, false, false⟩ : Iv), (gt l x10).f⟩ : U Int)]) ++ [(⟨(⟨((gt l x10).iv).lo, ((gt l x10).iv).hi, true, true⟩ : Iv), (gt l x10).f⟩ : U Int)])) (ys := [(⟨(⟨((gt l x10).iv).hi, ((gt l x10).iv).hi, false, false⟩ : Iv), (gt l x10).f⟩ : U Int)]) eZ (fun w hs => (row_view hs 0 rfl)) rfl rfl (by first | omega | assumption | grind)) rfl ?_; clear h ac wo; intro sv7 ac wo apsv7 h
     refine st h 7 [sv7] rfl zz26 rfl rfl (fq (h.row_sl 0 rfl)) rfl (iM (h.row_sl 0 rfl)) rfl rfl <| gx (fun _ _ => bn) ?_; clear h ac wo; intro ac wo h
     refine nX (rs := []) (vs := []) h rfl .nil rfl (hR2 _ _ _ h.bel h.sep ?_)
     clear h ac hR2; intro ac h
     refine gz h <| gx (fun _ _ => bn) <| gN <| gx hK8 <| gR <| g0 (bt rfl rfl (r := ((x10 + 1 : Nat) : Int)) (by rw [IntKind.wrap_i64]; first | omega | grind)) rfl <| g0 (af rfl) rfl <| gx (fun _ _ => bn) ?_; clear h ac wo; intro ac wo h
     exact aD ⟨m1, (by omega), _, _, _, (by first | omega | assumption | grind), bI hL1 (show bB l x10 out = .go _ from (Eq.trans (cT hc1) (Eq.trans (cT hc2) (Eq.trans (cF hc3) (cT hc4))))), (by first | omega | assumption | grind), (All.app (All.app (All.app zout (All.cons ⟨(All.gt zl (cK _)).1, (All.gt zl (cK _)).1⟩ All.nil)) (All.cons ⟨(All.gt zl (cK _)).1, (All.gt zl (cK _)).2⟩ All.nil)) (All.cons ⟨(All.gt zl (cK _)).2, (All.gt zl (cK _)).2⟩ All.nil)), (by first | omega | assumption | grind), (h.pick [0, 7] (by decide)).sub ⟨rfl, rfl, rfl, rfl, rfl, trivial⟩⟩
    ·
     have hq4 := hc4; try simp at hq4
     refine gz h <| gS <| gN <| gx hK8 <| gR <| g0 (bt rfl rfl (r := ((x10 + 1 : Nat) : Int)) (by rw [IntKind.wrap_i64]; first | omega | grind)) rfl <| g0 (af rfl) rfl <| gx (fun _ _ => bn) ?_; clear h ac wo; intro ac wo h
     exact aD ⟨m1, (by omega), _, _, _, (by first | omega | assumption | grind), bI hL1 (show bB l x10 out = .go _ from (Eq.trans (cT hc1) (Eq.trans (cT hc2) (Eq.trans (cF hc3) (cF hc4))))), (by first | omega | assumption | grind), (All.app (All.app zout (All.cons ⟨(All.gt zl (cK _)).1, (All.gt zl (cK _)).1⟩ All.nil)) (All.cons ⟨(All.gt zl (cK _)).1, (All.gt zl (cK _)).2⟩ All.nil)), (by first | omega | assumption | grind), (h.pick [0, 5] (by decide)).sub ⟨rfl, rfl, rfl, rfl, rfl, trivial⟩⟩
  ·
   have hq2 := hc2; try simp at hq2
   refine gz h <| gS <| gx hK10 <| gq fun K18 hK18 => gr fun K19 hK19 => g0 (bH uu57 rfl zz55 (by decide) rfl rfl (k' := 0)) rfl <| g1 0 rfl (aT aa55 zz55 rfl rfl rfl (v := (vV ((gt l x10).iv))) rfl) rfl <| gc (cB Tryz.call83 rfl) (kk (bS ((gt l x10).iv))) rfl <| gn hK19 ?_; clear h ac wo; intro ac wo h
   refine cN h rfl (fun hc5 => ?_) (fun hc5 => ?_)
   ·
    have hq5 := hc5; try simp at hq5
    refine gz h <| gE <| gx hK8 <| gR <| g0 (bt rfl rfl (r := ((x10 + 1 : Nat) : Int)) (by rw [IntKind.wrap_i64]; first | omega | grind)) rfl <| g0 (af rfl) rfl <| gx (fun _ _ => bn) ?_; clear h ac wo; intro ac wo h
    exact aD ⟨m1, (by omega), _, _, _, (by first | omega | assumption | grind), bI hL1 (show bB l x10 out = .go _ from (Eq.trans (cT hc1) (Eq.trans (cF hc2) (cT hc5)))), (by first | omega | assumption | grind), zout, (by first | omega | assumption | grind), (h.pick [1, 2] (by decide)).sub ⟨rfl, rfl, rfl, rfl, rfl, trivial⟩⟩
   ·
    have hq5 := hc5; try simp at hq5
    refine gz h <| gS <| gx hK18 <| gr fun K20 hK20 => g1 2 rfl (aT aa26 zz26 rfl rfl rfl (v := outv) rfl) rfl <| g0 (bH uu57 rfl zz55 (by decide) rfl rfl (k' := 0)) rfl <| g0 (bH uu55 rfl zz53 (by decide) rfl rfl (k' := 0)) rfl <| g1 0 rfl (aT aa53 zz53 rfl rfl rfl (v := (vR (((gt l x10).iv).lo))) rfl) rfl <| g0 (bH uu57 rfl zz55 (by decide) rfl rfl (k' := 0)) rfl <| g0 (bH uu55 rfl zz53 (by decide) rfl rfl (k' := 9)) rfl <| g1 0 rfl (aT aa53 zz53 rfl rfl rfl (v := (vR (((gt l x10).iv).hi))) rfl) rfl <| g0 (bK jl rfl rfl (v := (vV (⟨((gt l x10).iv).lo, ((gt l x10).iv).hi, true, true⟩ : Iv))) rfl) rfl <| g0 (bH uu57 rfl zz3 (by decide) rfl rfl (k' := 20)) rfl <| g1 0 rfl (aT aa3 zz3 rfl rfl rfl (v := (.int .i64 ((gt l x10).f))) rfl) rfl <| g0 (bK lI rfl rfl (v := (vUI (⟨(⟨((gt l x10).iv).lo, ((gt l x10).iv).hi, true, true⟩ : Iv), (gt l x10).f⟩ : U Int))) rfl) rfl ?_; clear h ac wo; intro ac wo h
    refine nw h (cg (α := U Int) (xs := [.tmp 38]) (vs := [(vUI (⟨(⟨((gt l x10).iv).lo, ((gt l x10).iv).hi, true, true⟩ : Iv), (gt l x10).f⟩ : U Int))]) [(⟨(⟨((gt l x10).iv).lo, ((gt l x10).iv).hi, true, true⟩ : Iv), (gt l x10).f⟩ : U Int)] eZ rfl rfl rfl (by decide)) rfl ?_; clear h ac wo; intro sv8 ac wo nnsv8 h
    refine on2 h 2 0 rfl rfl (dY (xs := out) (ys := [(⟨(⟨((gt l x10).iv).lo, ((gt l x10).iv).hi, true, true⟩ : Iv), (gt l x10).f⟩ : U Int)]) eZ (fun w hs => (row_view hs 0 rfl)) rfl rfl (by first | omega | assumption | grind)) rfl ?_; clear h ac wo; intro sv9 ac wo apsv9 h
    refine st h 3 [sv9] rfl zz26 rfl rfl (fq (h.row_sl 0 rfl)) rfl (iM (h.row_sl 0 rfl)) rfl rfl <| gn hK20 ?_; clear h ac wo; intro ac wo h
    replace h := h.sub (F' := [(3, (ptr b1 0)), (4, (.func (.func 150) #[] #[(ptr b1 0)])), (8, lv), (9, (.int .i64 ((l.length : Nat) : Int))), (10, (.int .i64 ((x10 : Nat) : Int))), (6, (ptr b2 0))]) ⟨rfl, rfl, rfl, rfl, rfl, rfl, trivial⟩
    refine gz h <| gr fun K21 hK21 => g0 (bH uu57 rfl zz55 (by decide) rfl rfl (k' := 0)) rfl <| g0 (bH uu55 rfl zz4 (by decide) rfl rfl (k' := 19)) rfl <| g1 2 rfl (aT aa4 zz4 rfl rfl rfl (v := (.bool (((gt l x10).iv).openHi))) rfl) rfl <| g0 (eM rfl) rfl <| gn hK21 ?_; clear h ac wo; intro ac wo h
    refine cN h rfl (fun hc6 => ?_) (fun hc6 => ?_)
    ·
     have hq6 := hc6; try simp at hq6
     refine gz h <| gR <| g0 (af rfl) rfl <| g0 (bH uu57 rfl zz55 (by decide) rfl rfl (k' := 0)) rfl <| g0 (bH uu55 rfl zz53 (by decide) rfl rfl (k' := 9)) rfl <| g1 2 rfl (aT aa53 zz53 rfl rfl rfl (v := (vR (((gt l x10).iv).hi))) rfl) rfl <| g0 (bH uu57 rfl zz3 (by decide) rfl rfl (k' := 20)) rfl <| g1 2 rfl (aT aa3 zz3 rfl rfl rfl (v := (.int .i64 ((gt l x10).f))) rfl) rfl ?_; clear h ac wo; intro ac wo h
     refine inl (vs := [(vR (((gt l x10).iv).hi)), (.int .i64 ((gt l x10).f)), (ptr b1 0)]) (M := 13) h (jM (vs := [(vR (((gt l x10).iv).hi)), (.int .i64 ((gt l x10).f))]) (cap := [(ptr b1 0)]) cc150 rfl rfl) Tryz.func150 rfl rfl rfl ?_
     clear h ac; intro R3 hR3 ac h
     refine gz h <| gr fun K22 hK22 => gb (cR (((gt l x10).iv).hi)) rfl rfl rfl fun b5 => gn hK22 <| gR <| g1 4 rfl (aT aa26 zz26 rfl rfl rfl (v := sv9) rfl) rfl <| g1 0 rfl (aT aa53 zz53 rfl rfl rfl (v := (vR (((gt l x10).iv).hi))) rfl) rfl <| g1 0 rfl (aT aa53 zz53 rfl rfl rfl (v := (vR (((gt l x10).iv).hi))) rfl) rfl <| g0 (bK jl rfl rfl (v := (vV (⟨((gt l x10).iv).hi, ((gt l x10).iv).hi, false, false⟩ : Iv))) rfl) rfl <| g0 (af rfl) rfl <| g0 (bK lI rfl rfl (v := (vUI (⟨(⟨((gt l x10).iv).hi, ((gt l x10).iv).hi, false, false⟩ : Iv), (gt l x10).f⟩ : U Int))) rfl) rfl ?_; clear h ac wo; intro ac wo h
     refine nw h (cg (α := U Int) (xs := [.tmp 10]) (vs := [(vUI (⟨(⟨((gt l x10).iv).hi, ((gt l x10).iv).hi, false, false⟩ : Iv), (gt l x10).f⟩ : U Int))]) [(⟨(⟨((gt l x10).iv).hi, ((gt l x10).iv).hi, false, false⟩ : Iv), (gt l x10).f⟩ : U Int)] eZ rfl rfl rfl (by decide)) rfl ?_; clear h ac wo; intro sv10 ac wo nnsv10 h
     refine on2 h 2 0 rfl rfl (dY (xs := (out ++ [(⟨(⟨((gt l x10).iv).lo, ((gt l x10).iv).hi, true, true⟩ : Iv), (gt l x10).f⟩ : U Int)])) (ys := [(⟨(⟨((gt l x10).iv).hi, ((gt l x10).iv).hi, false, false⟩ : Iv), (gt l x10).f⟩ : U Int)]) eZ (fun w hs => (row_view hs 0 rfl)) rfl rfl (by first | omega | assumption | grind)) rfl ?_; clear h ac wo; intro sv11 ac wo apsv11 h
     refine st h 5 [sv11] rfl zz26 rfl rfl (fq (h.row_sl 0 rfl)) rfl (iM (h.row_sl 0 rfl)) rfl rfl <| gx (fun _ _ => bn) ?_; clear h ac wo; intro ac wo h
     refine nX (rs := []) (vs := []) h rfl .nil rfl (hR3 _ _ _ h.bel h.sep ?_)
     clear h ac hR3; intro ac h
     refine gz h <| gx (fun _ _ => bn) <| gN <| gx hK8 <| gR <| g0 (bt rfl rfl (r := ((x10 + 1 : Nat) : Int)) (by rw [IntKind.wrap_i64]; first | omega | grind)) rfl <| g0 (af rfl) rfl <| gx (fun _ _ => bn) ?_; clear h ac wo; intro ac wo h
     exact aD ⟨m1, (by omega), _, _, _, (by first | omega | assumption | grind), bI hL1 (show bB l x10 out = .go _ from (Eq.trans (cT hc1) (Eq.trans (cF hc2) (Eq.trans (cF hc5) (cT hc6))))), (by first | omega | assumption | grind), (All.app (All.app zout (All.cons ⟨(All.gt zl (cK _)).1, (All.gt zl (cK _)).2⟩ All.nil)) (All.cons ⟨(All.gt zl (cK _)).2, (All.gt zl (cK _)).2⟩ All.nil)), (by first | omega | assumption | grind), (h.pick [0, 5] (by decide)).sub ⟨rfl, rfl, rfl, rfl, rfl, trivial⟩⟩
    ·
     have hq6 := hc6; try simp at hq6
     refine gz h <| gS <| gN <| gx hK8 <| gR <| g0 (bt rfl rfl (r := ((x10 + 1 : Nat) : Int)) (by rw [IntKind.wrap_i64]; first | omega | grind)) rfl <| g0 (af rfl) rfl <| gx (fun _ _ => bn) ?_; clear h ac wo; intro ac wo h
     exact aD ⟨m1, (by omega), _, _, _, (by first | omega | assumption | grind), bI hL1 (show bB l x10 out = .go _ from (Eq.trans (cT hc1) (Eq.trans (cF hc2) (Eq.trans (cF hc5) (cF hc6))))), (by first | omega | assumption | grind), (All.app zout (All.cons ⟨(All.gt zl (cK _)).1, (All.gt zl (cK _)).2⟩ All.nil)), (by first | omega | assumption | grind), (h.pick [0, 3] (by decide)).sub ⟨rfl, rfl, rfl, rfl, rfl, trivial⟩⟩
 ·
  have hd1 := of_decide_eq_false hc1
  refine dC ?_
  have hx1 := de hL1 (show bB l x10 out = .out (x10, out) from (cF hc1))
  refine gz h <| gx hK4 <| gr fun K23 hK23 => g1 1 rfl (aT aa26 zz26 rfl rfl rfl (v := outv) rfl) rfl <| g0 (ag rfl) rfl <| gn hK23 <| gT ?_; clear h ac wo; intro ac wo h
  have hd : ae l = out := (eo (hX1.trans hx1))
  exact ret h rfl (.tmp rfl .nil) rfl (by rw [hd]; exact h.retR 0 rfl ⟨zout, (by first | omega | assumption | grind)⟩)
attribute [irreducible] ae
end Go.Sx
namespace Go.Sx
open Go Go.RowKit Go.Proofs
set_option maxRecDepth 100000
set_option maxHeartbeats 40000000
attribute [local irreducible] ax ch aq aL cn bj aI bb cE bu aC
def pi (x : List Int) (x8 : Nat) : Int :=
 0
def fg (x : List Int) (x8 : Nat) : Nx Nat Int :=
 bif (decide (((x8 : Nat) : Int) < ((x.length : Nat) : Int))) then
  bif ((gt x x8) != 0) then
   .ret (gt x x8)
  else
   .go (x8 + 1)
 else
  .out x8
def iB (x : List Int) : Int :=
 fin (bM (fun s => fg x s) ((x.length - 0) + 1) 0) (fun s => pi x s) (fun r => r)
theorem mh (x : List Int) (xv : Value) (w0 : World) (hxv : View w0 xv x) : Calls Tryz.prog 148 #[xv] w0 (ec w0 (.int .i64 (iB x)) (True)) := by
 refine enter (N := 18) (args := [xv]) Tryz.func148 rfl rfl ?_; intro ac h
 have hlenx := hxv.len
 refine dQ fun K1 hK1 => ?_
 refine rd0 h (ag rfl) rfl <| gn hK1 <| gr fun K2 hK2 => g0 (ag rfl) rfl <| gn hK2 <| gq fun K3 hK3 => gr fun K4 hK4 => g0 (af rfl) rfl <| g0 (db uu256 rfl hxv.sl) rfl <| g0 (af rfl) rfl <| gn hK4 <| gB ?_; clear h ac; intro ac wo h
 obtain ⟨X1, hX1⟩ : ∃ X, bM (fun s => fg x s) ((x.length - 0) + 1) 0 = X := ⟨_, rfl⟩
 refine wp_loop_ghost (fun n_ a_ w_ => ∃ (x8 : Nat), ((x.length - x8) < n_) ∧ (bM (fun s => fg x s) n_ x8 = X1) ∧ (x8 ≤ x.length) ∧ St w0 18 [(3, (.int .i64 0)), (6, xv), (7, (.int .i64 ((x.length : Nat) : Int))), (8, (.int .i64 ((x8 : Nat) : Int)))] [] a_ w_) ((x.length - 0) + 1) ⟨0, (by omega), hX1, (by first | omega | assumption | grind), (h.sub ⟨rfl, rfl, rfl, rfl, trivial⟩)⟩ ?_
 clear h ac wo; rintro n1 ac wo ⟨x8, hm1, hL1, hx8, h⟩
 obtain ⟨m1, rfl⟩ : ∃ m, n1 = m + 1 := ⟨n1 - 1, by omega⟩
 refine gz h <| gr fun K5 hK5 => g0 (dx rfl rfl) rfl <| gn hK5 <| gq fun K6 hK6 => ?_; clear h ac wo; intro ac wo h
 refine cN h rfl (fun hc1 => ?_) (fun hc1 => ?_)
 ·
  have hd1 := of_decide_eq_true hc1
  refine gz h <| gS <| gx hK6 <| gq fun K7 hK7 => gB <| gr fun K8 hK8 => g0 (cZ (i := x8) uu256 zz3 rfl rfl (hxv.nn (i := x8) (by first | omega | assumption | grind)) (by first | omega | assumption | grind)) rfl <| g0 (eB (k := 0) aa3 zz3 hxv (bk (by first | omega | assumption | grind)) rfl (Nat.add_zero _) rfl rfl (v := (.int .i64 (gt x x8))) rfl) rfl <| g0 (ag rfl) rfl <| gn hK8 <| gr fun K9 hK9 => g0 (af rfl) rfl <| g0 (af rfl) rfl <| g0 (oo rfl rfl) rfl <| gn hK9 ?_; clear h ac wo; intro ac wo h
  refine cN h rfl (fun hc2 => ?_) (fun hc2 => ?_)
  ·
   have hq2 := hc2; try simp at hq2
   refine gz h <| gr fun K10 hK10 => g0 (af rfl) rfl <| g0 (ag rfl) rfl <| gn hK10 <| gT ?_; clear h ac wo; intro ac wo h
   have hr1 := g8 hL1 (show fg x x8 = .ret (gt x x8) from (Eq.trans (cT hc1) (cT hc2)))
   have hd : iB x = (gt x x8) := (lr (hX1.trans hr1))
   exact ret h rfl (.tmp rfl .nil) rfl (h.retP (by rw [hd] <;> rfl) trivial)
  ·
   have hq2 := hc2; try simp at hq2
   refine gz h <| gS <| gN <| gx hK7 <| gR <| g0 (bt rfl rfl (r := ((x8 + 1 : Nat) : Int)) (by rw [IntKind.wrap_i64]; first | omega | grind)) rfl <| g0 (af rfl) rfl <| gx (fun _ _ => bn) ?_; clear h ac wo; intro ac wo h
   exact aD ⟨m1, (by omega), _, (by first | omega | assumption | grind), bI hL1 (show fg x x8 = .go _ from (Eq.trans (cT hc1) (cF hc2))), (by first | omega | assumption | grind), (h.pick [] (by decide)).sub ⟨rfl, rfl, rfl, rfl, trivial⟩⟩
 ·
  have hd1 := of_decide_eq_false hc1
  refine dC ?_
  have hx1 := de hL1 (show fg x x8 = .out x8 from (cF hc1))
  refine gz h <| gx hK3 <| gr fun K11 hK11 => g0 (af rfl) rfl <| g0 (ag rfl) rfl <| gn hK11 <| gT ?_; clear h ac wo; intro ac wo h
  have hd : iB x = 0 := (eo (hX1.trans hx1))
  exact ret h rfl (.tmp rfl .nil) rfl (h.retP (by rw [hd] <;> rfl) trivial)
attribute [irreducible] iB
def cP (a : U Int) (b : U Int) : Int :=
 (iB ([(ax a.iv.lo b.iv.lo), (cE (aM a.iv) (aM b.iv)), (ax a.iv.hi b.iv.hi)]))
theorem ii (a : U Int) (b : U Int) (za : iH 30 a) (zb : iH 30 b) (w0 : World)  : Calls Tryz.prog 146 #[(vUI a), (vUI b)] w0 (ec w0 (.int .i64 (cP a b)) (True)) := by
 refine enter (N := 31) (args := [(vUI a), (vUI b)]) Tryz.func146 rfl rfl ?_; intro ac h
 have p2 := aA ((bU a.iv.lo b.iv.lo 10 (by omega) za.1 zb.1) w0)
 refine dQ fun K1 hK1 => ?_
 refine bx h (cUI a) rfl rfl rfl fun b1 => gb (cUI b) rfl rfl rfl fun b2 => g0 (ag rfl) rfl <| gn hK1 <| gr fun K2 hK2 => g0 (ag rfl) rfl <| gn hK2 <| gq fun K3 hK3 => ?_; clear h ac; intro ac wo h
 have s3 := Calls.pr ((fun w_ hB_ hS_ => dK a.iv za w_ ) _ h.bel h.sep)
 have p4 := s3
 have s5 := Calls.pr ((fun w_ hB_ hS_ => dK b.iv zb w_ ) _ h.bel h.sep)
 have p6 := s5
 have p8 := aA ((fC (aM a.iv) (aM b.iv)) w0)
 have p10 := aA ((bU a.iv.hi b.iv.hi 10 (by omega) za.2 zb.2) w0)
 replace h := h.emps 1
 refine cu mixed [dv _, dv _, dw _ [1], dv _, dv _, dw _ [0], dv _, dv _, dv _, dw _ [1], dv _, dv _, dv _, dw _ [0], dv _, dv _, dv _, dv _, dw _ [1], dv _, dv _, dw _ [0], dv _, ⟨.nd (.one 23 fun v => NN v 3), [2]⟩, dw _ [2], dv _] [⟨_, []⟩, ⟨_, []⟩, ⟨.emp, [(23, .one 23 fun v => .row (α := Int) 3 v ([(ax a.iv.lo b.iv.lo), (cE (aM a.iv) (aM b.iv)), (ax a.iv.hi b.iv.hi)]))]⟩] h rfl (by kernel_rfl) ⟨fun _ _ => aw (bH uu57 rfl zz55 (by decide) rfl rfl (k' := 0)), fun _ _ => aw (bH uu55 rfl zz53 (by decide) rfl rfl (k' := 0)), fun _ _ => cM _ rfl rfl (aT aa53 zz53 rfl rfl rfl (v := (vR a.iv.lo)) rfl), fun _ _ => aw (bH uu57 rfl zz55 (by decide) rfl rfl (k' := 0)), fun _ _ => aw (bH uu55 rfl zz53 (by decide) rfl rfl (k' := 0)), fun _ _ => cM _ rfl rfl (aT aa53 zz53 rfl rfl rfl (v := (vR b.iv.lo)) rfl), fun _ _ => dU (dO (cB Tryz.call115 rfl) (kk (bU a.iv.lo b.iv.lo 10 (by omega) za.1 zb.1))), fun _ _ => om rfl, fun _ _ => aw (bH uu57 rfl zz55 (by decide) rfl rfl (k' := 0)), fun _ _ => cM _ rfl rfl (aT aa55 zz55 rfl rfl rfl (v := (vV a.iv)) rfl), fun _ _ => dU (dO (jM (cap := []) Tryz.call147 rfl rfl) (kk (dK a.iv za))), fun _ _ => om rfl, fun _ _ => aw (bH uu57 rfl zz55 (by decide) rfl rfl (k' := 0)), fun _ _ => cM _ rfl rfl (aT aa55 zz55 rfl rfl rfl (v := (vV b.iv)) rfl), fun _ _ => dU (dO (jM (cap := []) Tryz.call147 rfl rfl) (kk (dK b.iv zb))), fun _ _ => dU (dO (cB Tryz.call149 rfl) (kk (fC (aM a.iv) (aM b.iv)))), fun _ _ => aw (bH uu57 rfl zz55 (by decide) rfl rfl (k' := 0)), fun _ _ => aw (bH uu55 rfl zz53 (by decide) rfl rfl (k' := 9)), fun _ _ => cM _ rfl rfl (aT aa53 zz53 rfl rfl rfl (v := (vR a.iv.hi)) rfl), fun _ _ => aw (bH uu57 rfl zz55 (by decide) rfl rfl (k' := 0)), fun _ _ => aw (bH uu55 rfl zz53 (by decide) rfl rfl (k' := 9)), fun _ _ => cM _ rfl rfl (aT aa53 zz53 rfl rfl rfl (v := (vR b.iv.hi)) rfl), fun _ _ => dU (dO (cB Tryz.call115 rfl) (kk (bU a.iv.hi b.iv.hi 10 (by omega) za.2 zb.2))), fun _ _ => kx (ψ := fun v => NN v 3) (B := fun v => [.row (α := Int) 3 v ([(ax a.iv.lo b.iv.lo), (cE (aM a.iv) (aM b.iv)), (ax a.iv.hi b.iv.hi)])]) [.emp] rfl (fun v _ => by simp only [ef, bJ] <;> rfl) (fun v hv => by simpa [DF.one, bJ] using hv) (jo (cg (α := Int) (xs := [.tmp 12, .tmp 21, .tmp 28]) (vs := [(.int .i64 (ax a.iv.lo b.iv.lo)), (.int .i64 (cE (aM a.iv) (aM b.iv))), (.int .i64 (ax a.iv.hi b.iv.hi))]) [(ax a.iv.lo b.iv.lo), (cE (aM a.iv) (aM b.iv)), (ax a.iv.hi b.iv.hi)] n9 rfl rfl rfl (by decide))), fun ξ hφ => g5 _ [.row (α := Int) 3 (ξ 23) ([(ax a.iv.lo b.iv.lo), (cE (aM a.iv) (aM b.iv)), (ax a.iv.hi b.iv.hi)])] rfl rfl (dO (cB Tryz.call148 rfl) (fun w_ hB_ hS_ => mh ([(ax a.iv.lo b.iv.lo), (cE (aM a.iv) (aM b.iv)), (ax a.iv.hi b.iv.hi)]) (ξ 23) w_ (row_view hS_ 0 rfl))), fun _ _ => aw (ag rfl), trivial⟩ ?_
 clear h ac wo; intro ξ ac wo hφ h
 replace h : St w0 31 [(4, (.int .i64 (iB ([(ax a.iv.lo b.iv.lo), (cE (aM a.iv) (aM b.iv)), (ax a.iv.hi b.iv.hi)]))))] [.blk b2 (cUI b) 57, .blk b1 (cUI a) 57] ac wo := (h.pick [0, 1] (by decide)).sub ⟨rfl, trivial⟩
 clear hφ ξ
 refine hK3 _ _ ?_
 refine fh ?_
 exact ret h rfl (.tmp rfl .nil) rfl (h.retP (by unfold cP; rfl) trivial)
attribute [irreducible] cP
def e8 (data : List (U Int)) (a : Nat) (b : Nat) (i : Nat) (data1 : List (U Int)) : List (U Int) :=
 data1
def e7 (data : List (U Int)) (a : Nat) (b : Nat) (i : Nat) (data1 : List (U Int)) (j : Nat) (data2 : List (U Int)) : Nx (Nat × (List (U Int))) (List (U Int)) :=
 .go ((i + 1), data2)
def cb (data : List (U Int)) (a : Nat) (b : Nat) (i : Nat) (data1 : List (U Int)) (j : Nat) (data2 : List (U Int)) : Nx (Nat × (List (U Int))) (List (U Int)) :=
 bif ((decide (((j : Nat) : Int) > ((a : Nat) : Int))) && (decide ((cP (gt data2 j) (gt data2 (j - 1))) < 0))) then
  .go ((j - 1), ((data2.set j (gt data2 (j - 1))).set (j - 1) (gt data2 j)))
 else
  .out (j, data2)
def cc (data : List (U Int)) (a : Nat) (b : Nat) (i : Nat) (data1 : List (U Int)) : Nx (Nat × (List (U Int))) (List (U Int)) :=
 bif (decide (((i : Nat) : Int) < ((b : Nat) : Int))) then
  fin (bM (fun s => cb data a b i data1 s.1 s.2) (i + 1) (i, data1)) (fun s => e7 data a b i data1 s.1 s.2) (fun r => .ret r)
 else
  .out (i, data1)
def aY (data : List (U Int)) (a : Nat) (b : Nat) : List (U Int) :=
 fin (bM (fun s => cc data a b s.1 s.2) ((b + 1 - (a + 1)) + 1) ((a + 1), data)) (fun s => e8 data a b s.1 s.2) (fun r => r)
theorem e6 (data : List (U Int)) (datav : Value) (a : Nat) (b : Nat) (hab : a ≤ b) (hb : b ≤ data.length) (hb2 : b ≤ 1000) (zdata : All (iH 30) data) (w0 w : World) (B : Asn) (hbel : Below w0.heap.size w0 w) (hsep : ∃ Z_, Sep w0.heap.size w [.row (α := U Int) 57 datav data, B] Z_)  : Calls Tryz.prog 208 #[datav, (.int .i64 ((a : Nat) : Int)), (.int .i64 ((b : Nat) : Int)), (.func (.func 146) #[] #[])] w (RetY w0 (fun v => v = .tuple #[] ∧ (All (iH 30) (aY data a b) ∧ (aY data a b).length = data.length)) (fun v => [.row (α := U Int) 57 datav (aY data a b), B])) := by
 refine jj (N := 53) (args := [datav, (.int .i64 ((a : Nat) : Int)), (.int .i64 ((b : Nat) : Int)), (.func (.func 146) #[] #[])]) Tryz.func208 rfl rfl hbel hsep ?_; intro ac h
 have hlendata := h.len 0 rfl
 refine dQ fun K1 hK1 => ?_
 refine rd0 h (af rfl) rfl <| g0 (bt rfl rfl (r := ((a + 1 : Nat) : Int)) (by rw [IntKind.wrap_i64]; first | omega | grind)) rfl <| g0 (ag rfl) rfl <| gn hK1 <| gB ?_; clear h ac; intro ac wo h
 obtain ⟨X1, hX1⟩ : ∃ X, bM (fun s => cc data a b s.1 s.2) ((b + 1 - (a + 1)) + 1) ((a + 1), data) = X := ⟨_, rfl⟩
 refine wp_loop_ghost (fun n_ a_ w_ => ∃ (i : Nat) (data1 : List (U Int)), ((b + 1 - i) < n_) ∧ (bM (fun s => cc data a b s.1 s.2) n_ (i, data1) = X1) ∧ (i ≤ b + 1) ∧ (All (iH 30) data1) ∧ (data1.length = data.length) ∧ St w0 53 [(0, datav), (1, (.int .i64 ((a : Nat) : Int))), (2, (.int .i64 ((b : Nat) : Int))), (3, (.func (.func 146) #[] #[])), (8, (.int .i64 ((i : Nat) : Int)))] [.row (α := U Int) 57 datav data1, B] a_ w_) ((b + 1 - (a + 1)) + 1) ⟨(a + 1), data, (by omega), hX1, (by first | omega | assumption | grind), zdata, (by first | omega | assumption | grind), (h.sub ⟨rfl, rfl, rfl, rfl, rfl, trivial⟩)⟩ ?_
 clear h ac wo; rintro n1 ac wo ⟨i, data1, hm1, hL1, hi, zdata1, hdl, h⟩
 obtain ⟨m1, rfl⟩ : ∃ m, n1 = m + 1 := ⟨n1 - 1, by omega⟩
 refine gz h <| gq fun K2 hK2 => gr fun K3 hK3 => g0 (af rfl) rfl <| g0 (af rfl) rfl <| g0 (dx rfl rfl) rfl <| gn hK3 ?_; clear h ac wo; intro ac wo h
 refine cN h rfl (fun hc1 => ?_) (fun hc1 => ?_)
 ·
  have hd1 := of_decide_eq_true hc1
  refine gz h <| gS <| gx hK2 <| gq fun K4 hK4 => gB <| gr fun K5 hK5 => g0 (af rfl) rfl <| g0 (ag rfl) rfl <| gn hK5 <| gB ?_; clear h ac wo; intro ac wo h
  obtain ⟨X2, hX2⟩ : ∃ X, bM (fun s => cb data a b i data1 s.1 s.2) (i + 1) (i, data1) = X := ⟨_, rfl⟩
  refine wp_loop_ghost (fun n_ a_ w_ => ∃ (j : Nat) (data2 : List (U Int)), (j < n_) ∧ (bM (fun s => cb data a b i data1 s.1 s.2) n_ (j, data2) = X2) ∧ (All (iH 30) data2) ∧ (j ≤ i) ∧ (data2.length = data.length) ∧ St w0 53 [(0, datav), (1, (.int .i64 ((a : Nat) : Int))), (2, (.int .i64 ((b : Nat) : Int))), (3, (.func (.func 146) #[] #[])), (8, (.int .i64 ((i : Nat) : Int))), (9, (.int .i64 ((j : Nat) : Int)))] [.row (α := U Int) 57 datav data2, B] a_ w_) (i + 1) ⟨i, data1, (by omega), hX2, zdata1, (by first | omega | assumption | grind), (by first | omega | assumption | grind), (h.sub ⟨rfl, rfl, rfl, rfl, rfl, rfl, trivial⟩)⟩ ?_
  clear h ac wo; rintro n2 ac wo ⟨j, data2, hm2, hL2, zdata2, hj, hdl2, h⟩
  obtain ⟨m2, rfl⟩ : ∃ m, n2 = m + 1 := ⟨n2 - 1, by omega⟩
  refine cH fun K6 hK6 => ?_
  refine cH fun K7 hK7 => ?_
  refine cu mixed [dv _, dv _, dv _, dv _, dv _, dv _, dv _, dv _, dw _ [0], dv _, dv _, dv _, dv _, dw _ [0], dv _, dv _, dv _] [⟨_, []⟩, ⟨_, []⟩] h rfl (by kernel_rfl) ⟨fun _ _ => om rfl, fun _ _ => om rfl, fun _ _ => aw (gY rfl rfl), fun _ _ => om rfl, fun _ _ => oh rfl rfl rfl rfl (fun hg => af rfl), fun _ _ => oh rfl rfl rfl rfl (fun hg => af rfl), fun _ _ => oh rfl rfl rfl rfl (fun hg => af rfl), fun _ _ => oh rfl rfl rfl rfl (fun hg => cZ (i := j) uu26 zz57 (aj rfl hg) (aj rfl hg) (h.row_nn 0 rfl (by first | omega | (simp at hg; omega) | grind)) (by first | omega | (simp at hg; omega) | grind)), fun _ _ => oh rfl rfl rfl rfl (fun hg => cA (k := 0) aa57 zz57 (bk (by first | omega | (simp at hg; omega) | grind)) (aj rfl hg) (Nat.add_zero _) rfl rfl (v := (vUI (gt data2 j))) rfl), fun _ _ => oh rfl rfl rfl rfl (fun hg => af rfl), fun _ _ => oh rfl rfl rfl rfl (fun hg => af rfl), fun _ _ => oh rfl rfl rfl rfl (fun hg => cY (aj rfl hg) rfl (r := (((j - 1) : Nat) : Int)) (by rw [IntKind.wrap_i64]; first | omega | (simp at hg; omega) | grind)), fun _ _ => oh rfl rfl rfl rfl (fun hg => cZ (i := (j - 1)) uu26 zz57 (aj rfl hg) (aj rfl hg) (h.row_nn 0 rfl (by first | omega | (simp at hg; omega) | grind)) (by first | omega | (simp at hg; omega) | grind)), fun _ _ => oh rfl rfl rfl rfl (fun hg => cA (k := 0) aa57 zz57 (bk (by first | omega | (simp at hg; omega) | grind)) (aj rfl hg) (Nat.add_zero _) rfl rfl (v := (vUI (gt data2 (j - 1)))) rfl), fun _ _ => og1 rfl rfl rfl rfl (fun hg => dO (jM (cap := []) Tryz.call146 (aj rfl hg) (a8 (aj rfl hg) (a8 (aj rfl hg) rfl))) (kk (ii (gt data2 j) (gt data2 (j - 1)) (All.gt zdata2 (cK _)) (All.gt zdata2 (cK _))))), fun _ _ => oh rfl rfl rfl rfl (fun hg => dx (aj rfl hg) rfl), fun _ _ => aw (df rfl (fun e => (aj rfl e))), trivial⟩ ?_
  clear h ac wo; intro ξ ac wo hφ h
  replace h : St w0 53 [(0, datav), (1, (.int .i64 ((a : Nat) : Int))), (2, (.int .i64 ((b : Nat) : Int))), (3, (.func (.func 146) #[] #[])), (8, (.int .i64 ((i : Nat) : Int))), (9, (.int .i64 ((j : Nat) : Int))), (34, (.bool ((decide (((j : Nat) : Int) > ((a : Nat) : Int))) && (decide ((cP (gt data2 j) (gt data2 (j - 1))) < 0)))))] [.row (α := U Int) 57 datav data2, B] ac wo := (h.pick [0, 1] (by decide)).sub ⟨rfl, rfl, rfl, rfl, rfl, rfl, rfl, trivial⟩
  clear hφ ξ
  refine hK7 _ _ ?_
  refine cN h rfl (fun hc2 => ?_) (fun hc2 => ?_)
  ·
   have hq2 := hc2; try simp at hq2
   refine dM ?_
   refine hK6 _ _ ?_
   refine cH fun K8 hK8 => ?_
   refine eI ?_
   refine cu mixed [dv _, dv _, dv _, dv _, dv _, dv _, dv _, dv _, dv _, dw _ [0], dv _, dv _, dv _, dw _ [0], dv _, dw _ [0], dv _, dw _ [0]] [⟨.row (α := U Int) 57 datav data2, [(15, .con (.row (α := U Int) 57 datav (data2.set j (gt data2 (j - 1))))), (17, .con (.row (α := U Int) 57 datav ((data2.set j (gt data2 (j - 1))).set (j - 1) (gt data2 j))))]⟩, ⟨_, []⟩] h rfl (by kernel_rfl) ⟨fun _ _ => om rfl, fun _ _ => om rfl, fun _ _ => om rfl, fun _ _ => om rfl, fun _ _ => aw (cY rfl rfl (r := (((j - 1) : Nat) : Int)) (by rw [IntKind.wrap_i64]; first | omega | grind)), fun _ _ => om rfl, fun _ _ => om rfl, fun _ _ => aw (cY rfl rfl (r := (((j - 1) : Nat) : Int)) (by rw [IntKind.wrap_i64]; first | omega | grind)), fun _ _ => aw (cZ (i := (j - 1)) uu26 zz57 rfl rfl (h.row_nn 0 rfl (by first | omega | assumption | grind)) (by first | omega | assumption | grind)), fun _ _ => cM _ rfl rfl (cA (k := 0) aa57 zz57 (bk (by first | omega | assumption | grind)) rfl (Nat.add_zero _) rfl rfl (v := (vUI (gt data2 (j - 1)))) rfl), fun _ _ => om rfl, fun _ _ => om rfl, fun _ _ => aw (cZ (i := j) uu26 zz57 rfl rfl (h.row_nn 0 rfl (by first | omega | assumption | grind)) (by first | omega | assumption | grind)), fun _ _ => cM _ rfl rfl (cA (k := 0) aa57 zz57 (bk (by first | omega | assumption | grind)) rfl (Nat.add_zero _) rfl rfl (v := (vUI (gt data2 j))) rfl), fun _ _ => aw (cZ (i := j) uu26 zz57 rfl rfl (h.row_nn 0 rfl (by first | omega | assumption | grind)) (by first | omega | assumption | grind)), fun _ _ => g5 _ [.row (α := U Int) 57 datav (data2.set j (gt data2 (j - 1)))] rfl rfl (eD (k := 0) (u' := (gt data2 (j - 1))) zz57 (bk (by first | omega | assumption | grind)) rfl (Nat.add_zero _) rfl rfl rfl rfl rfl rfl), fun _ _ => aw (cZ (i := (j - 1)) uu26 zz57 rfl rfl (h.row_nn 0 rfl (by first | omega | assumption | grind)) (by first | omega | assumption | grind)), fun _ _ => g5 _ [.row (α := U Int) 57 datav ((data2.set j (gt data2 (j - 1))).set (j - 1) (gt data2 j))] rfl rfl (eD (k := 0) (u' := (gt data2 j)) zz57 (bk (by first | omega | assumption | grind)) rfl (Nat.add_zero _) rfl rfl rfl rfl rfl rfl), trivial⟩ ?_
   clear h ac wo; intro ξ ac wo hφ h
   replace h : St w0 53 [(0, datav), (1, (.int .i64 ((a : Nat) : Int))), (2, (.int .i64 ((b : Nat) : Int))), (3, (.func (.func 146) #[] #[])), (8, (.int .i64 ((i : Nat) : Int))), (9, (.int .i64 ((j : Nat) : Int)))] [.row (α := U Int) 57 datav ((data2.set j (gt data2 (j - 1))).set (j - 1) (gt data2 j)), B] ac wo := (h.pick [0, 1] (by decide)).sub ⟨rfl, rfl, rfl, rfl, rfl, rfl, trivial⟩
   clear hφ ξ
   refine gz h <| gN <| gx hK8 <| gR <| g0 (af rfl) rfl <| g0 (cY rfl rfl (r := (((j - 1) : Nat) : Int)) (by rw [IntKind.wrap_i64]; first | omega | grind)) rfl <| g0 (ag rfl) rfl <| gx (fun _ _ => bn) ?_; clear h ac wo; intro ac wo h
   exact aD ⟨m2, (by omega), _, _, (by first | omega | assumption | grind), bI hL2 (show cb data a b i data1 j data2 = .go _ from (cT hc2)), (All.set (All.set zdata2 (All.gt zdata2 (cK _))) (All.gt zdata2 (cK _))), (by first | omega | assumption | grind), (by first | omega | assumption | grind), (h.pick [0, 1] (by decide)).sub ⟨rfl, rfl, rfl, rfl, rfl, rfl, trivial⟩⟩
  ·
   have hq2 := hc2; try simp at hq2
   refine dC ?_
   have hx2 := de hL2 (show cb data a b i data1 j data2 = .out (j, data2) from (cF hc2))
   refine gz h <| gx hK4 <| gR <| g0 (af rfl) rfl <| g0 (bt rfl rfl (r := ((i + 1 : Nat) : Int)) (by rw [IntKind.wrap_i64]; first | omega | grind)) rfl <| g0 (ag rfl) rfl <| gx (fun _ _ => bn) ?_; clear h ac wo; intro ac wo h
   exact aD ⟨m1, (by omega), _, _, (by first | omega | assumption | grind), bI hL1 (show cc data a b i data1 = .go _ from (Eq.trans (cT hc1) (eo (hX2.trans hx2)))), (by first | omega | assumption | grind), zdata2, (by first | omega | assumption | grind), (h.pick [0, 1] (by decide)).sub ⟨rfl, rfl, rfl, rfl, rfl, trivial⟩⟩
 ·
  have hd1 := of_decide_eq_false hc1
  refine dC ?_
  have hx1 := de hL1 (show cc data a b i data1 = .out (i, data1) from (cF hc1))
  have hd : aY data a b = data1 := (eo (hX1.trans hx1))
  exact nX (vs := []) h rfl .nil rfl ((h.pick [0, 1] (by decide)).retY ⟨rfl, (by rw [hd]; exact ⟨zdata1, (by first | omega | assumption | grind)⟩)⟩ (by rw [hd]; rfl))
attribute [irreducible] aY
def fV (data : List (U Int)) (n : Nat) (a : Nat) (b : Nat) (data1 : List (U Int)) (blockSize : Nat) : List (U Int) :=
 (aY data1 a n)
def dq (data : List (U Int)) (n : Nat) (a : Nat) (b : Nat) (data1 : List (U Int)) (blockSize : Nat) : Nx Nat (List (U Int)) :=
 .out blockSize
def fW (data : List (U Int)) (n : Nat) (a : Nat) (b : Nat) (data1 : List (U Int)) : List (U Int) :=
 fin (bM (fun s => dq data n a b data1 s) (0 + 1) 20) (fun s => fV data n a b data1 s) (fun r => r)
def dr (data : List (U Int)) (n : Nat) (a : Nat) (b : Nat) (data1 : List (U Int)) : Nx (Nat × Nat × (List (U Int))) (List (U Int)) :=
 .out (a, b, data1)
def bR (data : List (U Int)) (n : Nat) : List (U Int) :=
 fin (bM (fun s => dr data n s.1 s.2.1 s.2.2) (0 + 1) (0, 20, data)) (fun s => fW data n s.1 s.2.1 s.2.2) (fun r => r)
theorem fU (data : List (U Int)) (datav : Value) (n : Nat) (hn : n = data.length) (hl : data.length < 20) (zdata : All (iH 30) data) (w0 w : World) (B : Asn) (hbel : Below w0.heap.size w0 w) (hsep : ∃ Z_, Sep w0.heap.size w [.row (α := U Int) 57 datav data, B] Z_)  : Calls Tryz.prog 185 #[datav, (.int .i64 ((n : Nat) : Int)), (.func (.func 146) #[] #[])] w (RetY w0 (fun v => v = .tuple #[] ∧ (All (iH 30) (bR data n) ∧ (bR data n).length = data.length)) (fun v => [.row (α := U Int) 57 datav (bR data n), B])) := by
 refine jj (N := 63) (args := [datav, (.int .i64 ((n : Nat) : Int)), (.func (.func 146) #[] #[])]) Tryz.func185 rfl rfl hbel hsep ?_; intro ac h
 have hlendata := h.len 0 rfl
 refine dQ fun K1 hK1 => ?_
 refine rd0 h (ag rfl) rfl <| gn hK1 <| gr fun K2 hK2 => g0 (af rfl) rfl <| g0 (ag rfl) rfl <| g0 (ag rfl) rfl <| gn hK2 <| gq fun K3 hK3 => gB ?_; clear h ac; intro ac wo h
 obtain ⟨X1, hX1⟩ : ∃ X, bM (fun s => dr data n s.1 s.2.1 s.2.2) (0 + 1) (0, 20, data) = X := ⟨_, rfl⟩
 refine wp_loop_ghost (fun n_ a_ w_ => ∃ (a : Nat) (b : Nat) (data1 : List (U Int)), (0 < n_) ∧ (bM (fun s => dr data n s.1 s.2.1 s.2.2) n_ (a, b, data1) = X1) ∧ (All (iH 30) data1) ∧ (a = 0) ∧ (b = 20) ∧ (data1.length = data.length) ∧ St w0 63 [(0, datav), (1, (.int .i64 ((n : Nat) : Int))), (2, (.func (.func 146) #[] #[])), (6, (.int .i64 20)), (7, (.int .i64 ((a : Nat) : Int))), (8, (.int .i64 ((b : Nat) : Int)))] [.row (α := U Int) 57 datav data1, B] a_ w_) (0 + 1) ⟨0, 20, data, (by omega), hX1, zdata, (by first | omega | assumption | grind), (by first | omega | assumption | grind), (by first | omega | assumption | grind), (h.sub ⟨rfl, rfl, rfl, rfl, rfl, rfl, trivial⟩)⟩ ?_
 clear h ac wo; rintro n1 ac wo ⟨a, b, data1, hm1, hL1, zdata1, ha0, hb0, hdl, h⟩
 obtain ⟨m1, rfl⟩ : ∃ m, n1 = m + 1 := ⟨n1 - 1, by omega⟩
 refine gz h <| gq fun K4 hK4 => gr fun K5 hK5 => g0 (af rfl) rfl <| g0 (af rfl) rfl <| g0 (r_leq rfl rfl) rfl <| gn hK5 ?_; clear h ac wo; intro ac wo h
 refine lG h rfl ?_ (decide_eq_false (by omega))
 refine dC ?_
 have hx1 := de hL1 (show dr data n a b data1 = .out (a, b, data1) from rfl)
 refine gz h <| gx hK3 <| gr fun K6 hK6 => g0 (af rfl) rfl <| g0 (af rfl) rfl <| g0 (af rfl) rfl <| g0 (af rfl) rfl ?_; clear h ac wo; intro ac wo h
 refine on1 h 0 rfl (kv (vs := [datav, (.int .i64 ((a : Nat) : Int)), (.int .i64 ((n : Nat) : Int)), (.func (.func 146) #[] #[])]) (A := fun v => [.row (α := U Int) 57 datav (aY data1 a n)]) (cB Tryz.call208 rfl) (fun w_ B_ hB_ hS_ => e6 data1 datav a n (by first | omega | assumption | grind) (by first | omega | assumption | grind) (by first | omega | assumption | grind) zdata1 w0 w_ B_ hB_ hS_ )) rfl ?_; clear h ac wo; intro vc ac wo s2 h
 obtain rfl : vc = _ := s2.1
 have p3 := s2.2.2
 refine bn ?_
 refine hK6 _ _ ?_
 refine eI ?_
 obtain ⟨X2, hX2⟩ : ∃ X, bM (fun s => dq data n a b data1 s) (0 + 1) 20 = X := ⟨_, rfl⟩
 refine wp_loop_ghost (fun n_ a_ w_ => ∃ (blockSize : Nat), (0 < n_) ∧ (bM (fun s => dq data n a b data1 s) n_ blockSize = X2) ∧ (blockSize = 20) ∧ St w0 63 [(0, datav), (1, (.int .i64 ((n : Nat) : Int))), (2, (.func (.func 146) #[] #[])), (6, (.int .i64 ((blockSize : Nat) : Int)))] [.row (α := U Int) 57 datav (aY data1 a n), B] a_ w_) (0 + 1) ⟨20, (by omega), hX2, (by first | omega | assumption | grind), (h.sub ⟨rfl, rfl, rfl, rfl, trivial⟩)⟩ ?_
 clear h ac wo; rintro n2 ac wo ⟨blockSize, hm2, hL2, hbs, h⟩
 obtain ⟨m2, rfl⟩ : ∃ m, n2 = m + 1 := ⟨n2 - 1, by omega⟩
 refine gz h <| gq fun K7 hK7 => gr fun K8 hK8 => g0 (af rfl) rfl <| g0 (af rfl) rfl <| g0 (dx rfl rfl) rfl <| gn hK8 ?_; clear h ac wo; intro ac wo h
 refine lG h rfl ?_ (decide_eq_false (by omega))
 refine dC ?_
 have hx2 := de hL2 (show dq data n a b data1 blockSize = .out blockSize from rfl)
 have hd : bR data n = (aY data1 a n) := (Eq.trans (eo (hX1.trans hx1)) (eo (hX2.trans hx2)))
 exact nX (vs := []) h rfl .nil rfl ((h.pick [0, 1] (by decide)).retY ⟨rfl, (by rw [hd]; exact ⟨s2.2.1, (by first | omega | assumption | grind)⟩)⟩ (by rw [hd]; rfl))
attribute [irreducible] bR
def aW (x : List (U Int)) : List (U Int) :=
 (bR x x.length)
theorem en (x : List (U Int)) (xv : Value) (hl : x.length < 20) (zx : All (iH 30) x) (w0 w : World) (B : Asn) (hbel : Below w0.heap.size w0 w) (hsep : ∃ Z_, Sep w0.heap.size w [.row (α := U Int) 57 xv x, B] Z_)  : Calls Tryz.prog 145 #[xv, (.func (.func 146) #[] #[])] w (RetY w0 (fun v => v = .tuple #[] ∧ (All (iH 30) (aW x) ∧ (aW x).length = x.length)) (fun v => [.row (α := U Int) 57 xv (aW x), B])) := by
 refine jj (N := 9) (args := [xv, (.func (.func 146) #[] #[])]) Tryz.func145 rfl rfl hbel hsep ?_; intro ac h
 have hlenx := h.len 0 rfl
 refine c_r ?_
 refine rd0 h (af rfl) rfl <| g0 (af rfl) rfl ?_; clear h ac; intro ac wo h
 refine rd0 h (db uu26 rfl (h.row_sl 0 rfl)) rfl <| g0 (af rfl) rfl ?_; clear h ac wo; intro ac wo h
 refine on1 h 0 rfl (kv (vs := [xv, (.int .i64 ((x.length : Nat) : Int)), (.func (.func 146) #[] #[])]) (A := fun v => [.row (α := U Int) 57 xv (bR x x.length)]) (cB Tryz.call185 rfl) (fun w_ B_ hB_ hS_ => fU x xv x.length (by first | omega | assumption | grind) (by first | omega | assumption | grind) zx w0 w_ B_ hB_ hS_ )) rfl ?_; clear h ac wo; intro vc ac wo s2 h
 obtain rfl : vc = _ := s2.1
 have p3 := s2.2.2
 refine bn ?_
 have hd : aW x = (bR x x.length) := rfl
 exact nX (vs := []) h rfl .nil rfl ((h.pick [0, 1] (by decide)).retY ⟨rfl, (by rw [hd]; exact ⟨s2.2.1, (by first | omega | assumption | grind)⟩)⟩ (by rw [hd]; rfl))
attribute [irreducible] aW
def aa (l : List (U Int)) : (List (U Int)) :=
 (aW (aR l))
theorem fJ (l : List (U Int)) (lv : Value) (hl : l.length < 20) (zl : All (iH 30) l) (w0 : World) (hlv : View w0 lv l) : Calls Tryz.prog 80 #[lv] w0 (RetR w0 57 (aa l) (All (iH 30) (aa l) ∧ (aa l).length = l.length)) := by
 refine enter (N := 9) (args := [lv]) Tryz.func80 rfl rfl ?_; intro ac h
 have hlenl := hlv.len
 refine dQ fun K1 hK1 => ?_
 refine rd0 h (ag rfl) rfl <| gn hK1 <| gr fun K2 hK2 => g0 (af rfl) rfl ?_; clear h ac; intro ac wo h
 have s1 := RetR.pr ((fun w_ hB_ hS_ => dX l lv (by first | omega | assumption | grind) zl w_ (hlv.below hB_)) _ h.bel h.sep)
 have p2 := s1.2
 have p2_0 := p2.1
 have p2_1 := p2.2
 refine kE (xs := (aR l)) h (cB Tryz.call144 rfl) (fun w_ hB_ hS_ => dX l lv (by first | omega | assumption | grind) zl w_ (hlv.below hB_)) rfl ?_; clear h ac wo; intro sv3 ac wo _ h
 refine rd0 h (ag rfl) rfl <| gn hK2 <| gr fun K3 hK3 => g0 (af rfl) rfl ?_; clear h ac wo; intro ac wo h
 refine on1 h 0 rfl (kv (vs := [sv3, (.func (.func 146) #[] #[])]) (A := fun v => [.row (α := U Int) 57 sv3 (aW (aR l))]) (cB Tryz.call145 rfl) (fun w_ B_ hB_ hS_ => en (aR l) sv3 (by first | omega | assumption | grind) s1.1 w0 w_ B_ hB_ hS_ )) rfl ?_; clear h ac wo; intro vc ac wo s5 h
 obtain rfl : vc = _ := s5.1
 have p6 := s5.2.2
 refine gz h <| gn hK3 <| gr fun K4 hK4 => g0 (af rfl) rfl <| g0 (ag rfl) rfl <| gn hK4 <| gT ?_; clear h ac wo; intro ac wo h
 exact ret h rfl (.tmp rfl .nil) rfl (by unfold aa; exact h.retR 0 rfl ⟨s5.2.1, (by first | omega | assumption | grind)⟩)
attribute [irreducible] aa
end Go.Sx
