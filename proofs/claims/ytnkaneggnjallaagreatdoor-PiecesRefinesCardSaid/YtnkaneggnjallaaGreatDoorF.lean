/- A part of the proof that the law PiecesRefines answers true at every input and leaves its arguments as they were. -/
import Derived.Test.YtnkaneggnjallaaGreatDoorE2
import Derived.Test.YtnkaneggnjallaaGreatDoorN2
set_option linter.unusedVariables false
set_option linter.unusedSimpArgs false
open Go.Proofs.Tryz renaming runUnderlying24 → uu24, runUnderlying26 → uu26, runUnderlying87 → uu87, sizeOf55 → zz55, isAgg55 → aa55, runUnderlying57 → uu57, runUnderlying101 → uu101, runUnderlying99 → uu99, sizeOf104 → zz104, runUnderlying104 → uu104, sizeOf69 → zz69, sizeOf3 → zz3, isAgg3 → aa3
namespace Go.Sx
open Go Go.RowKit Go.Proofs
set_option maxRecDepth 100000
set_option maxHeartbeats 40000000
attribute [local irreducible] ao bU aj az bE aP aE aA dG cj aQ
def fe (l : List Stp) (m : List Stp) (ct_ : Nat) (i : Nat) : Bool :=
 ((((ct_ : Nat) : Int)) == ((((ca (aJ (aw l)) (aV (a6 (aw m)))).length : Nat) : Int)))
def fd (l : List Stp) (m : List Stp) (ct_ : Nat) (i : Nat) (ct_2 : Nat) (k2 : Nat) : Nx (Nat × Nat) Bool :=
 .go (ct_2, (i + 1))
def bf (l : List Stp) (m : List Stp) (ct_ : Nat) (i : Nat) (ct_2 : Nat) (k2 : Nat) : Nx (Nat × Nat) Bool :=
 bif (decide (((k2 : Nat) : Int) < (((aV (a6 (aw m))).length : Nat) : Int))) then
  bif (((((aZ ([(gt (aJ (aw l)) i).iv]) ([(gt (aV (a6 (aw m))) k2).iv])).length : Nat) : Int)) == (((0 : Nat) : Int))) then
   .go (ct_2, (k2 + 1))
  else
   bif ((((decide (((ct_2 : Nat) : Int) ≥ (((ca (aJ (aw l)) (aV (a6 (aw m)))).length : Nat) : Int))) || (!(decide ((gt (ca (aJ (aw l)) (aV (a6 (aw m)))) ct_2).iv = (gt (aZ ([(gt (aJ (aw l)) i).iv]) ([(gt (aV (a6 (aw m))) k2).iv])) 0))))) || (!(decide ((gt (ca (aJ (aw l)) (aV (a6 (aw m)))) ct_2).f = (gt (aJ (aw l)) i).f)))) || (((gt (ca (aJ (aw l)) (aV (a6 (aw m)))) ct_2).g) != ((gt (aV (a6 (aw m))) k2).f))) then
    .ret false
   else
    .go ((ct_2 + 1), (k2 + 1))
 else
  .out (ct_2, k2)
def bg (l : List Stp) (m : List Stp) (ct_ : Nat) (i : Nat) : Nx (Nat × Nat) Bool :=
 bif (decide (((i : Nat) : Int) < (((aJ (aw l)).length : Nat) : Int))) then
  fin (bQ (fun s => bf l m ct_ i s.1 s.2) (((aV (a6 (aw m))).length - 0) + 1) (ct_, 0)) (fun s => fd l m ct_ i s.1 s.2) (fun r => .ret r)
 else
  .out (ct_, i)
def cX (l : List Stp) (m : List Stp) : Bool :=
 bif (!eN) then
  false
 else
  fin (bQ (fun s => bg l m s.1 s.2) (((aJ (aw l)).length - 0) + 1) (0, 0)) (fun s => fe l m s.1 s.2) (fun r => r)
theorem gO (l : List Stp) (lv : Value) (m : List Stp) (mv : Value) (w0 : World) (hlv : View w0 lv l) (hmv : View w0 mv m) : Calls Tryz.prog 9 #[lv, mv] w0 (eE w0 (.bool (cX l m)) (True)) := by
 refine enter (N := 103) (args := [lv, mv]) Tryz.func9 rfl rfl ?_; intro ac h
 have hlenl := hlv.len
 have hlenm := hmv.len
 refine d8 fun K1 hK1 => ?_
 refine rd0 h (ae rfl) rfl <| gn hK1 <| gq fun K2 hK2 => gr fun K3 hK3 => gc (c8 Tryz.call14 rfl) (kk (jm)) rfl <| g0 (dV rfl) rfl <| gn hK3 ?_; clear h ac; intro ac wo h
 refine dg h rfl (fun hc1 => ?_) (fun hc1 => ?_)
 ·
  have hq1 := hc1; try simp at hq1
  refine gz h <| gr fun K4 hK4 => g0 (ae rfl) rfl <| gn hK4 <| gT ?_; clear h ac wo; intro ac wo h
  have hd : cX l m = false := (cT hc1)
  exact ret h rfl (.tmp rfl .nil) rfl (h.retP (by rw [hd] <;> rfl) trivial)
 ·
  have hq1 := hc1; try simp at hq1
  refine gz h <| gS <| gx hK2 <| gr fun K5 hK5 => g0 (bG bld73 rfl rfl (v := .agg #[]) rfl) rfl <| g0 (nK Tryz.runUnderlying73 rfl rfl (v := (.agg #[]))) rfl <| g0 (af rfl) rfl ?_; clear h ac wo; intro ac wo h
  have s1 := RetR.pr ((fun w_ hB_ hS_ => eM l lv w_ (hlv.below hB_)) _ h.bel h.sep)
  have p2 := s1.2
  refine j9 (xs := (aw l)) h (c8 Tryz.call15 rfl) (fun w_ hB_ hS_ => eM l lv w_ (hlv.below hB_)) rfl ?_; clear h ac wo; intro sv3 ac wo _ h
  obtain ⟨N1, hN1⟩ : ∃ q_, (aw l) = q_ := ⟨_, rfl⟩
  try rw [hN1] at s1
  try rw [hN1] at h
  have s4 := RetR.pr ((fun w_ hB_ hS_ => fo N1 sv3 (by first | omega | grind) s1.1 w_ (row_view hS_ 0 rfl)) _ h.bel h.sep)
  have p5 := s4.2
  refine j9 (xs := (aJ N1)) h (c8 Tryz.call42 rfl) (fun w_ hB_ hS_ => fo N1 sv3 (by first | omega | grind) s1.1 w_ (row_view hS_ 0 rfl)) rfl ?_; clear h ac wo; intro sv6 ac wo _ h
  obtain ⟨N2, hN2⟩ : ∃ q_, (aJ N1) = q_ := ⟨_, rfl⟩
  try rw [hN2] at s4
  try rw [hN2] at h
  refine rd0 h (bG bld31 rfl rfl (v := .agg #[]) rfl) rfl <| g0 (nK Tryz.runUnderlying31 rfl rfl (v := (.agg #[]))) rfl <| g0 (af rfl) rfl ?_; clear h ac wo; intro ac wo h
  have s7 := RetR.pr ((fun w_ hB_ hS_ => eM m mv w_ (hmv.below hB_)) _ h.bel h.sep)
  have p8 := s7.2
  refine j9 (xs := (aw m)) h (c8 Tryz.call15 rfl) (fun w_ hB_ hS_ => eM m mv w_ (hmv.below hB_)) rfl ?_; clear h ac wo; intro sv9 ac wo _ h
  obtain ⟨N3, hN3⟩ : ∃ q_, (aw m) = q_ := ⟨_, rfl⟩
  try rw [hN3] at s7
  try rw [hN3] at h
  have s10 := RetR.pr ((fun w_ hB_ hS_ => gp N3 sv9 (by first | omega | grind) s7.1 w_ (row_view hS_ 0 rfl)) _ h.bel h.sep)
  have p11 := s10.2
  refine j9 (xs := (a6 N3)) h (c8 Tryz.call18 rfl) (fun w_ hB_ hS_ => gp N3 sv9 (by first | omega | grind) s7.1 w_ (row_view hS_ 0 rfl)) rfl ?_; clear h ac wo; intro sv12 ac wo _ h
  obtain ⟨N4, hN4⟩ : ∃ q_, (a6 N3) = q_ := ⟨_, rfl⟩
  try rw [hN4] at s10
  try rw [hN4] at h
  have s13 := RetR.pr ((fun w_ hB_ hS_ => fu N4 sv12 (by first | omega | grind) s10.1 w_ (row_view hS_ 0 rfl)) _ h.bel h.sep)
  have p14 := s13.2
  refine j9 (xs := (aV N4)) h (c8 Tryz.call23 rfl) (fun w_ hB_ hS_ => fu N4 sv12 (by first | omega | grind) s10.1 w_ (row_view hS_ 0 rfl)) rfl ?_; clear h ac wo; intro sv15 ac wo _ h
  obtain ⟨N5, hN5⟩ : ∃ q_, (aV N4) = q_ := ⟨_, rfl⟩
  try rw [hN5] at s13
  try rw [hN5] at h
  refine rd0 h (ae rfl) rfl <| g0 (ae rfl) rfl <| gn hK5 ?_; clear h ac wo; intro ac wo h
  replace h := h.sub (F' := [(5, sv6), (6, sv15)]) ⟨rfl, rfl, trivial⟩
  refine d8 fun K6 hK6 => ?_
  have hzN2 : All (i3 30) N2 := by rw [← hN2, ← hN1]; exact bn_sz l
  refine rd0 h (af rfl) rfl <| g0 (af rfl) rfl ?_; clear h ac wo; intro ac wo h
  have s16 := RetR.pr ((fun w_ hB_ hS_ => gJ N2 sv6 N5 sv15 (by first | omega | grind) (by first | omega | grind) hzN2 s13.1 w_ (row_view hS_ 3 rfl) (row_view hS_ 0 rfl)) _ h.bel h.sep)
  have p17 := s16.2
  refine j9 (xs := (ca N2 N5)) h (c8 Tryz.call54 rfl) (fun w_ hB_ hS_ => gJ N2 sv6 N5 sv15 (by first | omega | grind) (by first | omega | grind) hzN2 s13.1 w_ (row_view hS_ 3 rfl) (row_view hS_ 0 rfl)) rfl ?_; clear h ac wo; intro sv18 ac wo _ h
  obtain ⟨N6, hN6⟩ : ∃ q_, (ca N2 N5) = q_ := ⟨_, rfl⟩
  try rw [hN6] at s16
  try rw [hN6] at h
  refine rd0 h (ae rfl) rfl <| gn hK6 <| gr fun K7 hK7 => g0 (ae rfl) rfl <| gn hK7 <| gq fun K8 hK8 => gr fun K9 hK9 => g0 (ae rfl) rfl <| gn hK9 <| gB ?_; clear h ac wo; intro ac wo h
  obtain ⟨X1, hX1⟩ : ∃ X, bQ (fun s => bg l m s.1 s.2) ((N2.length - 0) + 1) (0, 0) = X := ⟨_, rfl⟩
  refine wp_loop_ghost (fun n_ a_ w_ => ∃ (ct_ : Nat) (i : Nat), ((N2.length - i) < n_) ∧ (bQ (fun s => bg l m s.1 s.2) n_ (ct_, i) = X1) ∧ (i ≤ N2.length) ∧ (ct_ ≤ N6.length) ∧ St w0 103 [(5, sv6), (6, sv15), (7, sv18), (8, (.int .i64 ((ct_ : Nat) : Int))), (9, (.int .i64 ((i : Nat) : Int)))] [.row (α := Bt Qd Int) 104 sv18 N6, .row (α := U Int) 57 sv15 N5, .row (α := U Int) 57 sv12 N4, .row (α := U Qd) 87 sv9 N3, .row (α := U Qd) 87 sv6 N2, .row (α := U Qd) 87 sv3 N1] a_ w_) ((N2.length - 0) + 1) ⟨0, 0, (by omega), hX1, (by first | omega | grind), (by first | omega | grind), (h.sub ⟨rfl, rfl, rfl, rfl, rfl, trivial⟩)⟩ ?_
  clear h ac wo; rintro n1 ac wo ⟨ct_, i, hm1, hL1, hi, hn, h⟩
  obtain ⟨m1, rfl⟩ : ∃ m, n1 = m + 1 := ⟨n1 - 1, by omega⟩
  refine gz h <| gq fun K10 hK10 => gr fun K11 hK11 => g0 (af rfl) rfl <| g0 (af rfl) rfl ?_; clear h ac wo; intro ac wo h
  refine rd0 h (dp uu24 rfl (h.row_sl 4 rfl)) rfl <| g0 (dk rfl rfl) rfl <| gn hK11 ?_; clear h ac wo; intro ac wo h
  refine dg h rfl (fun hc2 => ?_) (fun hc2 => ?_)
  ·
   have hd2 := of_decide_eq_true hc2
   refine gz h <| gS <| gx hK10 <| gq fun K12 hK12 => gB <| gr fun K13 hK13 => g0 (ae rfl) rfl <| gn hK13 <| gB ?_; clear h ac wo; intro ac wo h
   obtain ⟨X2, hX2⟩ : ∃ X, bQ (fun s => bf l m ct_ i s.1 s.2) ((N5.length - 0) + 1) (ct_, 0) = X := ⟨_, rfl⟩
   refine wp_loop_ghost (fun n_ a_ w_ => ∃ (ct_2 : Nat) (k2 : Nat), ((N5.length - k2) < n_) ∧ (bQ (fun s => bf l m ct_ i s.1 s.2) n_ (ct_2, k2) = X2) ∧ (k2 ≤ N5.length) ∧ (ct_2 ≤ N6.length) ∧ St w0 103 [(5, sv6), (6, sv15), (7, sv18), (8, (.int .i64 ((ct_2 : Nat) : Int))), (9, (.int .i64 ((i : Nat) : Int))), (10, (.int .i64 ((k2 : Nat) : Int)))] [.row (α := Bt Qd Int) 104 sv18 N6, .row (α := U Int) 57 sv15 N5, .row (α := U Int) 57 sv12 N4, .row (α := U Qd) 87 sv9 N3, .row (α := U Qd) 87 sv6 N2, .row (α := U Qd) 87 sv3 N1] a_ w_) ((N5.length - 0) + 1) ⟨ct_, 0, (by omega), hX2, (by first | omega | grind), (by first | omega | grind), (h.sub ⟨rfl, rfl, rfl, rfl, rfl, rfl, trivial⟩)⟩ ?_
   clear h ac wo; rintro n2 ac wo ⟨ct_2, k2, hm2, hL2, hk2, hn2, h⟩
   obtain ⟨m2, rfl⟩ : ∃ m, n2 = m + 1 := ⟨n2 - 1, by omega⟩
   refine gz h <| gq fun K14 hK14 => gr fun K15 hK15 => g0 (af rfl) rfl <| g0 (af rfl) rfl ?_; clear h ac wo; intro ac wo h
   refine rd0 h (dp uu26 rfl (h.row_sl 1 rfl)) rfl <| g0 (dk rfl rfl) rfl <| gn hK15 ?_; clear h ac wo; intro ac wo h
   refine dg h rfl (fun hc3 => ?_) (fun hc3 => ?_)
   ·
    have hd3 := of_decide_eq_true hc3
    refine dI ?_
    refine hK14 _ _ ?_
    refine di fun K16 hK16 => ?_
    refine eX ?_
    refine di fun K17 hK17 => ?_
    replace h := h.emps 3
    refine cb mixed [dv _, dv _, dv _, dv _, dw _ [4], ⟨.nd (.one 5 fun v => NN v 1), [6]⟩, dv _, dv _, dv _, dv _, dw _ [1], ⟨.nd (.one 11 fun v => NN v 1), [7]⟩, ⟨.nd (.con (All (SzV 30) (aZ ([(gt N2 i).iv]) ([(gt N5 k2).iv])) ∧ (aZ ([(gt N2 i).iv]) ([(gt N5 k2).iv])).length ≤ 12)), [8, 6, 7]⟩, ⟨.nd (.two 13 12 fun a b => a = b), []⟩] [⟨_, []⟩, ⟨_, []⟩, ⟨_, []⟩, ⟨_, []⟩, ⟨_, []⟩, ⟨_, []⟩, ⟨.emp, [(5, .one 5 fun v => .row (α := Iv) 55 v ([(gt N2 i).iv]))]⟩, ⟨.emp, [(11, .one 11 fun v => .row (α := Iv) 55 v ([(gt N5 k2).iv]))]⟩, ⟨.emp, [(12, .one 12 fun v => .row (α := Iv) 55 v (aZ ([(gt N2 i).iv]) ([(gt N5 k2).iv])))]⟩] h rfl (by kernel_rfl) ⟨fun _ _ => om rfl, fun _ _ => om rfl, fun _ _ => aq (dh (i := i) uu24 Tryz.sizeOf87 rfl rfl (h.row_nn 4 rfl (by first | omega | grind)) (by first | omega | grind)), fun _ _ => aq (fs uu87 rfl zz55 rfl (h.row_nn 4 rfl (by first | omega | grind)) rfl rfl (k' := i * 32 + 0)), fun _ _ => cp _ rfl rfl (dA (k := 0) aa55 zz55 (bi (by first | omega | grind)) rfl rfl rfl rfl (v := (vV ((gt N2 i).iv))) rfl), fun _ _ => iD (ψ := fun v => NN v 1) (B := fun v => [.row (α := Iv) 55 v ([(gt N2 i).iv])]) [.emp] rfl (fun v _ => by simp only [dO, aX] <;> rfl) (fun v hv => by simpa [DF.one, aX] using hv) (gV (cn (α := Iv) (xs := [.tmp 44]) (vs := [(vV ((gt N2 i).iv))]) [(gt N2 i).iv] ob rfl rfl rfl (by decide))), fun _ _ => om rfl, fun _ _ => om rfl, fun _ _ => aq (dh (i := k2) uu26 Tryz.sizeOf57 rfl rfl (h.row_nn 1 rfl (by first | omega | grind)) (by first | omega | grind)), fun _ _ => aq (fs uu57 rfl zz55 rfl (h.row_nn 1 rfl (by first | omega | grind)) rfl rfl (k' := k2 * 21 + 0)), fun _ _ => cp _ rfl rfl (dA (k := 0) aa55 zz55 (bi (by first | omega | grind)) rfl rfl rfl rfl (v := (vV ((gt N5 k2).iv))) rfl), fun _ _ => iD (ψ := fun v => NN v 1) (B := fun v => [.row (α := Iv) 55 v ([(gt N5 k2).iv])]) [.emp] rfl (fun v _ => by simp only [dO, aX] <;> rfl) (fun v hv => by simpa [DF.one, aX] using hv) (gV (cn (α := Iv) (xs := [.tmp 50]) (vs := [(vV ((gt N5 k2).iv))]) [(gt N5 k2).iv] ob rfl rfl rfl (by decide))), fun ξ hφ => iD (ψ := fun v => SL v (aZ ([(gt N2 i).iv]) ([(gt N5 k2).iv])).length ∧ (All (SzV 30) (aZ ([(gt N2 i).iv]) ([(gt N5 k2).iv])) ∧ (aZ ([(gt N2 i).iv]) ([(gt N5 k2).iv])).length ≤ 12)) (B := fun v => [.row (α := Iv) 55 v (aZ ([(gt N2 i).iv]) ([(gt N5 k2).iv])), .row (α := Iv) 55 (ξ 5) ([(gt N2 i).iv]), .row (α := Iv) 55 (ξ 11) ([(gt N5 k2).iv])]) [.emp, .row (α := Iv) 55 (ξ 5) ([(gt N2 i).iv]), .row (α := Iv) 55 (ξ 11) ([(gt N5 k2).iv])] rfl (fun v _ => by simp only [dO, aX] <;> rfl) (fun v hv => hv.2) (s_empR (s_row (vs := [(ξ 5), (ξ 11)]) (c8 Tryz.call55 rfl) (fun w_ hB_ hS_ => jF ([(gt N2 i).iv]) (ξ 5) ([(gt N5 k2).iv]) (ξ 11) (by first | omega | grind) (All.cons (All.gt hzN2 (bW _)).1 All.nil) (All.cons (All.gt s13.1 (ji _)) All.nil) w_ (row_view hS_ 0 rfl) (row_view hS_ 1 rfl)))), (fun ξ hφ => by have of12_12 : All (SzV 30) (aZ ([(gt N2 i).iv]) ([(gt N5 k2).iv])) ∧ (aZ ([(gt N2 i).iv]) ([(gt N5 k2).iv])).length ≤ 12 := hφ 12 rfl; have pof12_12 := of12_12.2; exact o8 (φ := .two 13 12 fun a b => a = b) (v := ξ 12) [] rfl rfl (by show upd ξ 13 (ξ 12) 13 = upd ξ 13 (ξ 12) 12; rw [aX, fO (by decide)]) (ae rfl)), trivial⟩ ?_
    clear h ac wo; intro ξ ac wo hφ h
    replace h : St w0 103 [(5, sv6), (6, sv15), (7, sv18), (8, (.int .i64 ((ct_2 : Nat) : Int))), (9, (.int .i64 ((i : Nat) : Int))), (10, (.int .i64 ((k2 : Nat) : Int))), (11, ξ 13)] [.row (α := Bt Qd Int) 104 sv18 N6, .row (α := U Int) 57 sv15 N5, .row (α := U Int) 57 sv12 N4, .row (α := U Qd) 87 sv9 N3, .row (α := U Qd) 87 sv6 N2, .row (α := U Qd) 87 sv3 N1, .row (α := Iv) 55 (ξ 12) (aZ ([(gt N2 i).iv]) ([(gt N5 k2).iv]))] ac wo := (h.pick [0, 1, 2, 3, 4, 5, 8] (by decide)).sub ⟨rfl, rfl, rfl, rfl, rfl, rfl, rfl, trivial⟩
    have of12_12 : All (SzV 30) (aZ ([(gt N2 i).iv]) ([(gt N5 k2).iv])) ∧ (aZ ([(gt N2 i).iv]) ([(gt N5 k2).iv])).length ≤ 12 := hφ 12
    have pof12_12 := of12_12.2
    rw [show ξ 13 = ξ 12 from hφ 13] at h
    generalize hsv12 : ξ 12 = sv19 at h; clear hsv12
    clear hφ ξ
    refine gz h <| gx hK17 <| gq fun K18 hK18 => gr fun K19 hK19 => g0 (af rfl) rfl ?_; clear h ac wo; intro ac wo h
    refine rd0 h (dp uu101 rfl (h.row_sl 6 rfl)) rfl <| g0 (es rfl rfl (m := (((aZ ([(gt N2 i).iv]) ([(gt N5 k2).iv])).length : Nat) : Int)) (n := ((0 : Nat) : Int))) rfl <| gn hK19 ?_; clear h ac wo; intro ac wo h
    refine dg h rfl (fun hc4 => ?_) (fun hc4 => ?_)
    ·
     have hd4 := eq_of_beq hc4
     refine gz h <| gE <| gx hK16 <| gR <| g0 (af rfl) rfl <| g0 (bt rfl rfl (r := ((k2 + 1 : Nat) : Int)) (by rw [IntKind.wrap_i64]; first | omega | grind)) rfl <| g0 (ae rfl) rfl <| gx (fun _ _ => bo) ?_; clear h ac wo; intro ac wo h
     have hgo2 : bf l m ct_ i ct_2 k2 = .go (ct_2, (k2 + 1)) := by subst hN6; subst hN5; subst hN4; subst hN3; subst hN2; subst hN1; exact (Eq.trans (cT hc3) (cT hc4))
     exact aC ⟨m2, (by omega), _, _, (by first | omega | grind), bA hL2 hgo2, (by first | omega | grind), (by first | omega | grind), (h.pick [0, 1, 2, 3, 4, 5] (by decide)).sub ⟨rfl, rfl, rfl, rfl, rfl, rfl, trivial⟩⟩
    ·
     have hd4 := ne_of_beq_false hc4
     refine dI ?_
     refine hK18 _ _ ?_
     refine di fun K20 hK20 => ?_
     refine di fun K21 hK21 => ?_
     refine cb mixed [dv _, dv _, dv _, dv _, dv _, dv _, dv _, dv _, dv _, dw _ [0], dv _, dv _, dw _ [6], dv _, dv _, dv _, dv _, dv _, dv _, dv _, dw _ [0], dv _, dv _, dv _, dv _, dw _ [4], dv _, dv _, dv _, dv _, dv _, dv _, dv _, dw _ [0], dv _, dv _, dv _, dv _, dw _ [1], dv _, dv _] [⟨_, []⟩, ⟨_, []⟩, ⟨_, []⟩, ⟨_, []⟩, ⟨_, []⟩, ⟨_, []⟩, ⟨_, []⟩] h rfl (by kernel_rfl) ⟨fun _ _ => om rfl, fun _ _ => om rfl, fun _ _ => aq (dp uu99 rfl (h.row_sl 0 rfl)), fun _ _ => aq (lG rfl rfl), fun _ _ => om rfl, fun _ _ => og2 rfl rfl rfl rfl (fun hg => Rd.step (af rfl)), fun _ _ => og2 rfl rfl rfl rfl (fun hg => Rd.step (af rfl)), fun _ _ => og2 rfl rfl rfl rfl (fun hg => Rd.step (dh (i := ct_2) uu99 zz104 (an rfl hg) (an rfl hg) (h.row_nn 0 rfl (by first | omega | (simp at hg; omega) | grind)) (by first | omega | (simp at hg; omega) | grind))), fun _ _ => og2 rfl rfl rfl rfl (fun hg => Rd.step (fs uu104 rfl zz55 rfl (h.row_nn 0 rfl (by first | omega | (simp at hg; omega) | grind)) (an rfl hg) rfl (k' := ct_2 * 33 + 0))), fun _ _ => og2 rfl rfl rfl rfl (fun hg => Rd.step (dA (k := 0) aa55 zz55 (bi (by first | omega | (simp at hg; omega) | grind)) (an rfl hg) rfl rfl rfl (v := (vV ((gt N6 ct_2).iv))) rfl)), fun _ _ => og2 rfl rfl rfl rfl (fun hg => Rd.step (af rfl)), fun _ _ => og2 rfl rfl rfl rfl (fun hg => Rd.step (dh (i := 0) uu101 zz55 (an rfl hg) rfl (h.row_nn 6 rfl (by first | omega | (simp at hg; omega) | grind)) (by first | omega | (simp at hg; omega) | grind))), fun _ _ => og2 rfl rfl rfl rfl (fun hg => Rd.step (dA (k := 0) aa55 zz55 (bi (by first | omega | (simp at hg; omega) | grind)) (an rfl hg) (Nat.add_zero _) rfl rfl (v := (vV (gt (aZ ([(gt N2 i).iv]) ([(gt N5 k2).iv])) 0))) rfl)), fun _ _ => og2 rfl rfl rfl rfl (fun hg => Rd.step (oc eqp55 (an rfl hg) (an rfl hg))), fun _ _ => aq (kI rfl (fun e => (an rfl (kM e)))), fun _ _ => om rfl, fun _ _ => og2 rfl rfl rfl rfl (fun hg => Rd.step (af rfl)), fun _ _ => og2 rfl rfl rfl rfl (fun hg => Rd.step (af rfl)), fun _ _ => og2 rfl rfl rfl rfl (fun hg => Rd.step (dh (i := ct_2) uu99 zz104 (an rfl hg) (an rfl hg) (h.row_nn 0 rfl (by first | omega | (simp at hg; omega) | grind)) (by first | omega | (simp at hg; omega) | grind))), fun _ _ => og2 rfl rfl rfl rfl (fun hg => Rd.step (fs uu104 rfl zz69 rfl (h.row_nn 0 rfl (by first | omega | (simp at hg; omega) | grind)) (an rfl hg) rfl (k' := ct_2 * 33 + 20))), fun _ _ => og2 rfl rfl rfl rfl (fun hg => Rd.step (dA (k := 20) Tryz.isAgg69 zz69 (bi (by first | omega | (simp at hg; omega) | grind)) (an rfl hg) rfl rfl rfl (v := (vD ((gt N6 ct_2).f))) rfl)), fun _ _ => og2 rfl rfl rfl rfl (fun hg => Rd.step (af rfl)), fun _ _ => og2 rfl rfl rfl rfl (fun hg => Rd.step (af rfl)), fun _ _ => og2 rfl rfl rfl rfl (fun hg => Rd.step (dh (i := i) uu24 Tryz.sizeOf87 (an rfl hg) (an rfl hg) (h.row_nn 4 rfl (by first | omega | (simp at hg; omega) | grind)) (by first | omega | (simp at hg; omega) | grind))), fun _ _ => og2 rfl rfl rfl rfl (fun hg => Rd.step (fs uu87 rfl zz69 rfl (h.row_nn 4 rfl (by first | omega | (simp at hg; omega) | grind)) (an rfl hg) rfl (k' := i * 32 + 20))), fun _ _ => og2 rfl rfl rfl rfl (fun hg => Rd.step (dA (k := 20) Tryz.isAgg69 zz69 (bi (by first | omega | (simp at hg; omega) | grind)) (an rfl hg) rfl rfl rfl (v := (vD ((gt N2 i).f))) rfl)), fun _ _ => og2 rfl rfl rfl rfl (fun hg => Rd.step (oc pk (an rfl hg) (an rfl hg))), fun _ _ => aq (kI rfl (fun e => (an rfl (kM e)))), fun _ _ => om rfl, fun _ _ => og2 rfl rfl rfl rfl (fun hg => Rd.step (af rfl)), fun _ _ => og2 rfl rfl rfl rfl (fun hg => Rd.step (af rfl)), fun _ _ => og2 rfl rfl rfl rfl (fun hg => Rd.step (dh (i := ct_2) uu99 zz104 (an rfl hg) (an rfl hg) (h.row_nn 0 rfl (by first | omega | (simp at hg; omega) | grind)) (by first | omega | (simp at hg; omega) | grind))), fun _ _ => og2 rfl rfl rfl rfl (fun hg => Rd.step (fs uu104 rfl zz3 rfl (h.row_nn 0 rfl (by first | omega | (simp at hg; omega) | grind)) (an rfl hg) rfl (k' := ct_2 * 33 + 32))), fun _ _ => og2 rfl rfl rfl rfl (fun hg => Rd.step (dA (k := 32) aa3 zz3 (bi (by first | omega | (simp at hg; omega) | grind)) (an rfl hg) rfl rfl rfl (v := (.int .i64 ((gt N6 ct_2).g))) rfl)), fun _ _ => og2 rfl rfl rfl rfl (fun hg => Rd.step (af rfl)), fun _ _ => og2 rfl rfl rfl rfl (fun hg => Rd.step (af rfl)), fun _ _ => og2 rfl rfl rfl rfl (fun hg => Rd.step (dh (i := k2) uu26 Tryz.sizeOf57 (an rfl hg) (an rfl hg) (h.row_nn 1 rfl (by first | omega | (simp at hg; omega) | grind)) (by first | omega | (simp at hg; omega) | grind))), fun _ _ => og2 rfl rfl rfl rfl (fun hg => Rd.step (fs uu57 rfl zz3 rfl (h.row_nn 1 rfl (by first | omega | (simp at hg; omega) | grind)) (an rfl hg) rfl (k' := k2 * 21 + 20))), fun _ _ => og2 rfl rfl rfl rfl (fun hg => Rd.step (dA (k := 20) aa3 zz3 (bi (by first | omega | (simp at hg; omega) | grind)) (an rfl hg) rfl rfl rfl (v := (.int .i64 ((gt N5 k2).f))) rfl)), fun _ _ => og2 rfl rfl rfl rfl (fun hg => Rd.step (kJ (an rfl hg) (an rfl hg))), fun _ _ => aq (kI rfl (fun e => (an rfl (kM e)))), trivial⟩ ?_
     clear h ac wo; intro ξ ac wo hφ h
     replace h : St w0 103 [(5, sv6), (6, sv15), (7, sv18), (8, (.int .i64 ((ct_2 : Nat) : Int))), (9, (.int .i64 ((i : Nat) : Int))), (10, (.int .i64 ((k2 : Nat) : Int))), (96, (.bool ((((decide (((ct_2 : Nat) : Int) ≥ ((N6.length : Nat) : Int))) || (!(decide ((gt N6 ct_2).iv = (gt (aZ ([(gt N2 i).iv]) ([(gt N5 k2).iv])) 0))))) || (!(decide ((gt N6 ct_2).f = (gt N2 i).f)))) || (((gt N6 ct_2).g) != ((gt N5 k2).f)))))] [.row (α := Bt Qd Int) 104 sv18 N6, .row (α := U Int) 57 sv15 N5, .row (α := U Int) 57 sv12 N4, .row (α := U Qd) 87 sv9 N3, .row (α := U Qd) 87 sv6 N2, .row (α := U Qd) 87 sv3 N1, .row (α := Iv) 55 sv19 (aZ ([(gt N2 i).iv]) ([(gt N5 k2).iv]))] ac wo := (h.pick [0, 1, 2, 3, 4, 5, 6] (by decide)).sub ⟨rfl, rfl, rfl, rfl, rfl, rfl, rfl, trivial⟩
     clear hφ ξ
     refine hK21 _ _ ?_
     refine dg h rfl (fun hc5 => ?_) (fun hc5 => ?_)
     ·
      have hq5 := hc5; try simp at hq5
      refine gz h <| gr fun K22 hK22 => g0 (ae rfl) rfl <| gn hK22 <| gT ?_; clear h ac wo; intro ac wo h
      subst hN6
      subst hN5
      subst hN4
      subst hN3
      subst hN2
      subst hN1
      have hr2 := jl hL2 (show bf l m ct_ i ct_2 k2 = .ret false from (Eq.trans (cT hc3) (Eq.trans (cF hc4) (cT hc5))))
      have hr1 := jl hL1 (show bg l m ct_ i = .ret false from (Eq.trans (cT hc2) (pj (hX2.trans hr2))))
      have hd : cX l m = false := (Eq.trans (cF hc1) (pj (hX1.trans hr1)))
      exact ret h rfl (.tmp rfl .nil) rfl (h.retP (by rw [hd] <;> rfl) trivial)
     ·
      have hq5 := hc5; try simp at hq5
      refine gz h <| gS <| gx hK20 <| gR <| g0 (af rfl) rfl <| g0 (bt rfl rfl (r := ((ct_2 + 1 : Nat) : Int)) (by rw [IntKind.wrap_i64]; first | omega | grind)) rfl <| g0 (ae rfl) rfl <| gx (fun _ _ => bo) <| gN <| gx hK16 <| gR <| g0 (af rfl) rfl <| g0 (bt rfl rfl (r := ((k2 + 1 : Nat) : Int)) (by rw [IntKind.wrap_i64]; first | omega | grind)) rfl <| g0 (ae rfl) rfl <| gx (fun _ _ => bo) ?_; clear h ac wo; intro ac wo h
      have hgo2 : bf l m ct_ i ct_2 k2 = .go ((ct_2 + 1), (k2 + 1)) := by subst hN6; subst hN5; subst hN4; subst hN3; subst hN2; subst hN1; exact (Eq.trans (cT hc3) (Eq.trans (cF hc4) (cF hc5)))
      exact aC ⟨m2, (by omega), _, _, (by first | omega | grind), bA hL2 hgo2, (by first | omega | grind), (by first | omega | grind), (h.pick [0, 1, 2, 3, 4, 5] (by decide)).sub ⟨rfl, rfl, rfl, rfl, rfl, rfl, trivial⟩⟩
   ·
    have hd3 := of_decide_eq_false hc3
    refine dK ?_
    have hou2 : bf l m ct_ i ct_2 k2 = .out (ct_2, k2) := by subst hN6; subst hN5; subst hN4; subst hN3; subst hN2; subst hN1; exact (cF hc3)
    have hx2 := dz hL2 hou2
    refine gz h <| gx hK12 <| gR <| g0 (af rfl) rfl <| g0 (bt rfl rfl (r := ((i + 1 : Nat) : Int)) (by rw [IntKind.wrap_i64]; first | omega | grind)) rfl <| g0 (ae rfl) rfl <| gx (fun _ _ => bo) ?_; clear h ac wo; intro ac wo h
    have hgo1 : bg l m ct_ i = .go (ct_2, (i + 1)) := by subst hN6; subst hN5; subst hN4; subst hN3; subst hN2; subst hN1; exact (Eq.trans (cT hc2) (ew (hX2.trans hx2)))
    exact aC ⟨m1, (by omega), _, _, (by first | omega | grind), bA hL1 hgo1, (by first | omega | grind), (by first | omega | grind), (h.pick [0, 1, 2, 3, 4, 5] (by decide)).sub ⟨rfl, rfl, rfl, rfl, rfl, trivial⟩⟩
  ·
   have hd2 := of_decide_eq_false hc2
   refine dK ?_
   have hou1 : bg l m ct_ i = .out (ct_, i) := by subst hN6; subst hN5; subst hN4; subst hN3; subst hN2; subst hN1; exact (cF hc2)
   have hx1 := dz hL1 hou1
   refine gz h <| gx hK8 <| gr fun K23 hK23 => g0 (af rfl) rfl <| g0 (af rfl) rfl ?_; clear h ac wo; intro ac wo h
   refine rd0 h (dp uu99 rfl (h.row_sl 0 rfl)) rfl <| g0 (es rfl rfl (m := ((ct_ : Nat) : Int)) (n := ((N6.length : Nat) : Int))) rfl <| g0 (ae rfl) rfl <| gn hK23 <| gT ?_; clear h ac wo; intro ac wo h
   subst hN6
   subst hN5
   subst hN4
   subst hN3
   subst hN2
   subst hN1
   have hd : cX l m = ((((ct_ : Nat) : Int)) == ((((ca (aJ (aw l)) (aV (a6 (aw m)))).length : Nat) : Int))) := (Eq.trans (cF hc1) (ew (hX1.trans hx1)))
   exact ret h rfl (.tmp rfl .nil) rfl (h.retP (by rw [hd] <;> rfl) trivial)
attribute [irreducible] cX
end Go.Sx
