/- A part of the proof that the law PiecesShifts answers true at every input and leaves its arguments as they were. -/
import Derived.Test.YtnkaneggnjallaaGreatDoorSh
set_option linter.unusedVariables false
set_option linter.unusedSimpArgs false
open Go.Proofs.Tryz renaming runUnderlying73 → uu73, sizeOf40 → zz40, isAgg40 → aa40, runUnderlying24 → uu24, sizeOf87 → zz87, runUnderlying87 → uu87, sizeOf55 → zz55, runUnderlying55 → uu55, sizeOf53 → zz53, isAgg53 → aa53, sizeOf69 → zz69
namespace Go.Sx
open Go Go.RowKit Go.Proofs
set_option maxRecDepth 100000
set_option maxHeartbeats 40000000
attribute [local irreducible] aD bN ah aL bt aN aK aF cY bj ar
def fe (l : List Stp) (halves : Int) (i : Nat) : Bool :=
 (ca (bY (a8 (ay (aw l)) ((ak halves 2).1) ((ak halves 2).1)) (az ((ak halves 2).1)) ((ak halves 2).1)) (ay (aw l)))
def bJ (l : List Stp) (halves : Int) (i : Nat) : Nx Nat Bool :=
 bif (decide (((i : Nat) : Int) < (((a8 (ay (aw l)) ((ak halves 2).1) ((ak halves 2).1)).length : Nat) : Int))) then
  bif (((!(decide (((gt (a8 (ay (aw l)) ((ak halves 2).1) ((ak halves 2).1)) i).iv).lo = (aH (((gt (ay (aw l)) i).iv).lo) ((ak halves 2).1))))) || (!(decide (((gt (a8 (ay (aw l)) ((ak halves 2).1) ((ak halves 2).1)) i).iv).hi = (aH (((gt (ay (aw l)) i).iv).hi) ((ak halves 2).1)))))) || (!(decide ((gt (a8 (ay (aw l)) ((ak halves 2).1) ((ak halves 2).1)) i).f = (bK ((gt (ay (aw l)) i).f) ((ak halves 2).1)))))) then
   .ret false
  else
   .go (i + 1)
 else
  .out i
def cd (l : List Stp) (halves : Int) : Bool :=
 bif (!eJ) then
  false
 else
  bif (((ak halves 2).2) != 0) then
   false
  else
   bif ((((((a8 (ay (aw l)) ((ak halves 2).1) ((ak halves 2).1)).length : Nat) : Int)) != ((((ay (aw l)).length : Nat) : Int))) || ((ck (a8 (ay (aw l)) ((ak halves 2).1) ((ak halves 2).1))) != 0)) then
    false
   else
    fin (b9 (fun s => bJ l halves s) (((a8 (ay (aw l)) ((ak halves 2).1) ((ak halves 2).1)).length - 0) + 1) 0) (fun s => fe l halves s) (fun r => r)
theorem gZ (l : List Stp) (lv : Value) (halves : Int) (hb_ : -128 ≤ halves ∧ halves ≤ 127) (w0 : World) (hlv : View w0 lv l) : Calls Tryz.prog 8 #[lv, (.int .i8 halves)] w0 (ec w0 (.bool (cd l halves)) (True)) := by
 refine enter (N := 109) (args := [lv, (.int .i8 halves)]) Tryz.func8 rfl rfl ?_; intro ac h
 have hlenl := hlv.len
 refine dU fun K1 hK1 => ?_
 refine rd0 h (ae rfl) rfl <| gn hK1 <| gq fun K2 hK2 => gr fun K3 hK3 => gc (bL Tryz.call14 rfl) (kk (jz)) rfl <| g0 (eZ rfl) rfl <| gn hK3 ?_; clear h ac; intro ac wo h
 refine cO h rfl (fun hc1 => ?_) (fun hc1 => ?_)
 ·
  have hq1 := hc1; try simp at hq1
  refine gz h <| gr fun K4 hK4 => g0 (ae rfl) rfl <| gn hK4 <| gT ?_; clear h ac wo; intro ac wo h
  have hd : cd l halves = false := (cT hc1)
  exact ret h rfl (.tmp rfl .nil) rfl (h.retP (by rw [hd] <;> rfl) trivial)
 ·
  have hq1 := hc1; try simp at hq1
  refine gz h <| gS <| gx hK2 <| gr fun K5 hK5 => g0 (bC oJ rfl rfl (v := .agg #[]) rfl) rfl <| g0 (kA uu73 rfl rfl (v := (.agg #[]))) rfl <| g0 (af rfl) rfl ?_; clear h ac wo; intro ac wo h
  have s1 := RetR.pr ((fun w_ hB_ hS_ => gF l lv w_ (hlv.below hB_)) _ h.bel h.sep)
  have p2 := s1.2
  refine lU (xs := (aw l)) h (bL Tryz.call15 rfl) (fun w_ hB_ hS_ => gF l lv w_ (hlv.below hB_)) rfl ?_; clear h ac wo; intro sv3 ac wo _ h
  obtain ⟨N1, hN1⟩ : ∃ q_, (aw l) = q_ := ⟨_, rfl⟩
  try rw [hN1] at s1
  try rw [hN1] at h
  have s4 := RetR.pr ((fun w_ hB_ hS_ => fk N1 sv3 (by first | omega | grind) s1.1 w_ (row_view hS_ 0 rfl)) _ h.bel h.sep)
  have p5 := s4.2
  refine lU (xs := (ay N1)) h (bL Tryz.call42 rfl) (fun w_ hB_ hS_ => fk N1 sv3 (by first | omega | grind) s1.1 w_ (row_view hS_ 0 rfl)) rfl ?_; clear h ac wo; intro sv6 ac wo _ h
  obtain ⟨N2, hN2⟩ : ∃ q_, (ay N1) = q_ := ⟨_, rfl⟩
  try rw [hN2] at s4
  try rw [hN2] at h
  have c7 := jC halves 2 (by omega) (by omega)
  have s7 := Calls.pr (c7 w0)
  refine rd0 h (ae rfl) rfl <| gn hK5 <| gr fun K6 hK6 => g0 (af rfl) rfl <| g0 (be Tryz.runUnderlying63 Tryz.runUnderlying3 rfl (r := halves) (by rw [IntKind.wrap_i64]; first | omega | grind)) rfl <| gc (bL Tryz.call47 rfl) (kk c7) rfl <| g0 (af rfl) rfl <| g0 (bg rfl rfl) rfl <| g0 (bg rfl rfl) rfl <| ga (cQ oQ) Tryz.zeroValue40 rfl rfl fun b1 => gs 0 (cQ ((ak halves 2).1)) rfl zz40 rfl rfl rfl rfl rfl rfl rfl <| g0 (ae rfl) rfl <| gn hK6 ?_; clear h ac wo; intro ac wo h
  replace h := h.sub (F' := [(5, sv6), (6, (ptr b1 0)), (7, (.int .i64 ((ak halves 2).2)))]) ⟨rfl, rfl, rfl, trivial⟩
  refine gz h <| gq fun K7 hK7 => gr fun K8 hK8 => g0 (af rfl) rfl <| g0 (gw rfl rfl) rfl <| gn hK8 ?_; clear h ac wo; intro ac wo h
  refine cO h rfl (fun hc2 => ?_) (fun hc2 => ?_)
  ·
   have hq2 := hc2; try simp at hq2
   refine gz h <| gr fun K9 hK9 => g0 (ae rfl) rfl <| gn hK9 <| gT ?_; clear h ac wo; intro ac wo h
   subst hN2
   subst hN1
   have hd : cd l halves = false := (Eq.trans (cF hc1) (cT hc2))
   exact ret h rfl (.tmp rfl .nil) rfl (h.retP (by rw [hd] <;> rfl) trivial)
  ·
   have hq2 := hc2; try simp at hq2
   refine gz h <| gS <| gx hK7 <| gr fun K10 hK10 => g0 (jq rfl) rfl <| g0 (ae rfl) rfl <| gn hK10 <| gr fun K11 hK11 => ?_; clear h ac wo; intro ac wo h
   have hzN2 : All (fI 30) N2 := by rw [← hN2, ← hN1]; exact bn_sz l
   have hlN2 : N2.length < 18 := by have hq := bn_len l; rw [hN1, hN2] at hq; omega
   have hz1 : All (fI 30) (N2.map (shA (ak halves 2).1 (ak halves 2).1)) := by rw [← hN2, ← hN1]; exact ask_z1 l hb_
   refine rd0 h (bC oJ rfl rfl (v := .agg #[]) rfl) rfl <| g0 (kA uu73 rfl rfl (v := (.agg #[]))) rfl <| g0 (af rfl) rfl <| g1 0 rfl (aX aa40 zz40 rfl rfl rfl (v := (vQ ((ak halves 2).1))) rfl) rfl <| g0 (af rfl) rfl ?_; clear h ac wo; intro ac wo h
   have s8 := RetR.pr ((fun w_ hB_ hS_ => fV N2 sv6 ((ak halves 2).1) b1 ((ak halves 2).1) (by omega) hz1 hzN2 (cZ s7 (by omega)) (cZ s7 (by omega)) w_ (row_view hS_ 1 rfl) (nV hS_ 0 rfl)) _ h.bel h.sep)
   have p9 := s8.2
   refine lU (xs := (a8 N2 ((ak halves 2).1) ((ak halves 2).1))) h (bL Tryz.call50 rfl) (fun w_ hB_ hS_ => fV N2 sv6 ((ak halves 2).1) b1 ((ak halves 2).1) (by omega) hz1 hzN2 (cZ s7 (by omega)) (cZ s7 (by omega)) w_ (row_view hS_ 1 rfl) (nV hS_ 0 rfl)) rfl ?_; clear h ac wo; intro sv10 ac wo _ h
   obtain ⟨N3, hN3⟩ : ∃ q_, (a8 N2 ((ak halves 2).1) ((ak halves 2).1)) = q_ := ⟨_, rfl⟩
   try rw [hN3] at s8
   try rw [hN3] at h
   refine rd0 h (ae rfl) rfl <| gn hK11 <| gq fun K12 hK12 => gr fun K13 hK13 => ?_; clear h ac wo; intro ac wo h
   have hzN3 : All (fI 30) N3 := by rw [← hN3, ← hN2, ← hN1]; exact ask_x l hb_
   have hlq : N3.length = N2.length := by rw [← hN3, ← hN2, ← hN1]; exact ask_len l halves
   have hlN3 : N3.length < 18 := by omega
   have hvN3 : ∀ j, RtV (gt N3 j).iv := by rw [← hN3, ← hN2, ← hN1]; exact ask_rt l halves
   refine rd0 h (af rfl) rfl ?_; clear h ac wo; intro ac wo h
   refine rd0 h (du uu24 rfl (h.row_sl 0 rfl)) rfl <| g0 (af rfl) rfl ?_; clear h ac wo; intro ac wo h
   refine rd0 h (du uu24 rfl (h.row_sl 2 rfl)) rfl <| g0 (gw rfl rfl (m := ((N3.length : Nat) : Int)) (n := ((N2.length : Nat) : Int))) rfl <| g0 (af rfl) rfl <| ge2 rfl rfl (fun hg => (Rd.of_nil (bC oJ rfl rfl (v := .agg #[]) rfl)).step) rfl <| ge2 rfl rfl (fun hg => (Rd.of_nil (kA uu73 rfl (ap rfl hg) (v := (.agg #[])))).step) rfl <| ge2 rfl rfl (fun hg => (Rd.of_nil (af rfl)).step) rfl <| ge2 rfl rfl (fun hg => dr (bL Tryz.call43 (br (ap rfl hg) (br (ap rfl hg) rfl))) (fun w_ hB_ hS_ => jE N3 sv10 (by omega) hvN3 hzN3 w_ (row_view hS_ 0 rfl))) rfl <| ge2 rfl rfl (fun hg => (Rd.of_nil (gw (ap rfl hg) rfl)).step) rfl <| g0 (np rfl (fun e => (ap rfl (nq e)))) rfl <| gn hK13 ?_; clear h ac wo; intro ac wo h
   replace h := h.sub (F' := [(5, sv6), (6, (ptr b1 0)), (9, sv10), (44, (.bool (((((N3.length : Nat) : Int)) != (((N2.length : Nat) : Int))) || ((ck N3) != 0))))]) ⟨rfl, rfl, rfl, rfl, trivial⟩
   refine cO h rfl (fun hc3 => ?_) (fun hc3 => ?_)
   ·
    have hq3 := hc3; try simp at hq3
    refine gz h <| gr fun K14 hK14 => g0 (ae rfl) rfl <| gn hK14 <| gT ?_; clear h ac wo; intro ac wo h
    subst hN3
    subst hN2
    subst hN1
    have hd : cd l halves = false := (Eq.trans (cF hc1) (Eq.trans (cF hc2) (cT hc3)))
    exact ret h rfl (.tmp rfl .nil) rfl (h.retP (by rw [hd] <;> rfl) trivial)
   ·
    have hq3 := hc3; try simp at hq3
    refine gz h <| gS <| gx hK12 <| gq fun K15 hK15 => gr fun K16 hK16 => g0 (ae rfl) rfl <| gn hK16 <| gB ?_; clear h ac wo; intro ac wo h
    obtain ⟨X1, hX1⟩ : ∃ X, b9 (fun s => bJ l halves s) ((N3.length - 0) + 1) 0 = X := ⟨_, rfl⟩
    refine wp_loop_ghost (fun n_ a_ w_ => ∃ (i : Nat), ((N3.length - i) < n_) ∧ (b9 (fun s => bJ l halves s) n_ i = X1) ∧ (i ≤ N3.length) ∧ St w0 109 [(5, sv6), (6, (ptr b1 0)), (9, sv10), (10, (.int .i64 ((i : Nat) : Int)))] [.row (α := U Qd) 87 sv10 N3, .blk b1 (cQ ((ak halves 2).1)) 40, .row (α := U Qd) 87 sv6 N2, .row (α := U Qd) 87 sv3 N1] a_ w_) ((N3.length - 0) + 1) ⟨0, (by omega), hX1, (by first | omega | grind), (h.sub ⟨rfl, rfl, rfl, rfl, trivial⟩)⟩ ?_
    clear h ac wo; rintro n1 ac wo ⟨i, hm1, hL1, hi, h⟩
    obtain ⟨m1, rfl⟩ : ∃ m, n1 = m + 1 := ⟨n1 - 1, by omega⟩
    refine gz h <| gq fun K17 hK17 => gr fun K18 hK18 => g0 (af rfl) rfl <| g0 (af rfl) rfl ?_; clear h ac wo; intro ac wo h
    refine rd0 h (du uu24 rfl (h.row_sl 0 rfl)) rfl <| g0 (dY rfl rfl) rfl <| gn hK18 ?_; clear h ac wo; intro ac wo h
    refine cO h rfl (fun hc4 => ?_) (fun hc4 => ?_)
    ·
     have hd4 := of_decide_eq_true hc4
     refine dZ ?_
     refine hK17 _ _ ?_
     refine dy fun K19 hK19 => ?_
     refine fH ?_
     refine dy fun K20 hK20 => ?_
     have s11 := Calls.pr ((fun w_ hB_ hS_ => dz (((gt N2 i).iv).lo) ((ak halves 2).1) ((All.gt hzN2 (bp _)).1).1 (cZ s7 (by omega)) w_ ) _ h.bel h.sep)
     have s12 := Calls.pr ((fun w_ hB_ hS_ => dz (((gt N2 i).iv).hi) ((ak halves 2).1) ((All.gt hzN2 (bp _)).1).2 (cZ s7 (by omega)) w_ ) _ h.bel h.sep)
     have s13 := Calls.pr ((fun w_ hB_ hS_ => ex ((gt N2 i).f) ((ak halves 2).1) (All.gt hzN2 (bp _)).2 (cZ s7 (by omega)) w_ ) _ h.bel h.sep)
     refine cv mixed [dv _, dv _, dv _, dv _, dv _, dw _ [0], dv _, dv _, dv _, dv _, dv _, dw _ [2], dw _ [1], dv _, dv _, dv _, dv _, dv _, dv _, dv _, dv _, dw _ [0], dv _, dv _, dv _, dv _, dv _, dw _ [2], dw _ [1], dv _, dv _, dv _, dv _, dv _, dv _, dv _, dv _, dw _ [0], dv _, dv _, dv _, dv _, dw _ [2], dw _ [1], dv _, dv _, dv _] [⟨_, []⟩, ⟨_, []⟩, ⟨_, []⟩, ⟨_, []⟩] h rfl (by kernel_rfl) ⟨fun _ _ => om rfl, fun _ _ => om rfl, fun _ _ => aC (dK (i := i) uu24 zz87 rfl rfl (h.row_nn 0 rfl (by first | omega | grind)) (by first | omega | grind)), fun _ _ => aC (fs uu87 rfl zz55 rfl (h.row_nn 0 rfl (by first | omega | grind)) rfl rfl (k' := i * 32 + 0)), fun _ _ => aC (fs uu55 rfl zz53 rfl (h.row_nn 0 rfl (by first | omega | grind)) rfl (by first | rfl | (simp only [Nat.add_assoc] <;> rfl)) (k' := i * 32 + 0)), fun _ _ => cr _ rfl rfl (dL (k := 0) aa53 zz53 (bU (by first | omega | grind)) rfl rfl rfl rfl (v := (vR (((gt N3 i).iv).lo))) rfl), fun _ _ => om rfl, fun _ _ => om rfl, fun _ _ => aC (dK (i := i) uu24 zz87 rfl rfl (h.row_nn 2 rfl (by first | omega | grind)) (by first | omega | grind)), fun _ _ => aC (fs uu87 rfl zz55 rfl (h.row_nn 2 rfl (by first | omega | grind)) rfl rfl (k' := i * 32 + 0)), fun _ _ => aC (fs uu55 rfl zz53 rfl (h.row_nn 2 rfl (by first | omega | grind)) rfl (by first | rfl | (simp only [Nat.add_assoc] <;> rfl)) (k' := i * 32 + 0)), fun _ _ => cr _ rfl rfl (dL (k := 0) aa53 zz53 (bU (by first | omega | grind)) rfl rfl rfl rfl (v := (vR (((gt N2 i).iv).lo))) rfl), fun _ _ => cr _ rfl rfl (aX aa40 zz40 rfl rfl rfl (v := (vQ ((ak halves 2).1))) rfl), fun _ _ => dW (dr (bL Tryz.call51 rfl) (kk (dz (((gt N2 i).iv).lo) ((ak halves 2).1) ((All.gt hzN2 (bp _)).1).1 (cZ s7 (by omega))))), fun _ _ => aC (lC m0 rfl rfl), fun _ _ => om rfl, fun _ _ => og2 rfl rfl rfl rfl (fun hg => Rd.step (af rfl)), fun _ _ => og2 rfl rfl rfl rfl (fun hg => Rd.step (af rfl)), fun _ _ => og2 rfl rfl rfl rfl (fun hg => Rd.step (dK (i := i) uu24 zz87 (ap rfl hg) (ap rfl hg) (h.row_nn 0 rfl (by first | omega | (simp at hg; omega) | grind)) (by first | omega | (simp at hg; omega) | grind))), fun _ _ => og2 rfl rfl rfl rfl (fun hg => Rd.step (fs uu87 rfl zz55 rfl (h.row_nn 0 rfl (by first | omega | (simp at hg; omega) | grind)) (ap rfl hg) rfl (k' := i * 32 + 0))), fun _ _ => og2 rfl rfl rfl rfl (fun hg => Rd.step (fs uu55 rfl zz53 rfl (h.row_nn 0 rfl (by first | omega | (simp at hg; omega) | grind)) (ap rfl hg) (by first | rfl | (simp only [Nat.add_assoc] <;> rfl)) (k' := i * 32 + 9))), fun _ _ => og2 rfl rfl rfl rfl (fun hg => Rd.step (dL (k := 9) aa53 zz53 (bU (by first | omega | (simp at hg; omega) | grind)) (ap rfl hg) rfl rfl rfl (v := (vR (((gt N3 i).iv).hi))) rfl)), fun _ _ => og2 rfl rfl rfl rfl (fun hg => Rd.step (af rfl)), fun _ _ => og2 rfl rfl rfl rfl (fun hg => Rd.step (af rfl)), fun _ _ => og2 rfl rfl rfl rfl (fun hg => Rd.step (dK (i := i) uu24 zz87 (ap rfl hg) (ap rfl hg) (h.row_nn 2 rfl (by first | omega | (simp at hg; omega) | grind)) (by first | omega | (simp at hg; omega) | grind))), fun _ _ => og2 rfl rfl rfl rfl (fun hg => Rd.step (fs uu87 rfl zz55 rfl (h.row_nn 2 rfl (by first | omega | (simp at hg; omega) | grind)) (ap rfl hg) rfl (k' := i * 32 + 0))), fun _ _ => og2 rfl rfl rfl rfl (fun hg => Rd.step (fs uu55 rfl zz53 rfl (h.row_nn 2 rfl (by first | omega | (simp at hg; omega) | grind)) (ap rfl hg) (by first | rfl | (simp only [Nat.add_assoc] <;> rfl)) (k' := i * 32 + 9))), fun _ _ => og2 rfl rfl rfl rfl (fun hg => Rd.step (dL (k := 9) aa53 zz53 (bU (by first | omega | (simp at hg; omega) | grind)) (ap rfl hg) rfl rfl rfl (v := (vR (((gt N2 i).iv).hi))) rfl)), fun _ _ => og2 rfl rfl rfl rfl (fun hg => Rd.step (aX aa40 zz40 rfl rfl rfl (v := (vQ ((ak halves 2).1))) rfl)), fun _ _ => og2 rfl rfl rfl rfl (fun hg => dr (bL Tryz.call51 (br (ap rfl hg) (br (ap rfl hg) rfl))) (kk (dz (((gt N2 i).iv).hi) ((ak halves 2).1) ((All.gt hzN2 (bp _)).1).2 (cZ s7 (by omega))))), fun _ _ => og2 rfl rfl rfl rfl (fun hg => Rd.step (lC m0 (ap rfl hg) (ap rfl hg))), fun _ _ => aC (np rfl (fun e => (ap rfl (nq e)))), fun _ _ => om rfl, fun _ _ => og2 rfl rfl rfl rfl (fun hg => Rd.step (af rfl)), fun _ _ => og2 rfl rfl rfl rfl (fun hg => Rd.step (af rfl)), fun _ _ => og2 rfl rfl rfl rfl (fun hg => Rd.step (dK (i := i) uu24 zz87 (ap rfl hg) (ap rfl hg) (h.row_nn 0 rfl (by first | omega | (simp at hg; omega) | grind)) (by first | omega | (simp at hg; omega) | grind))), fun _ _ => og2 rfl rfl rfl rfl (fun hg => Rd.step (fs uu87 rfl zz69 rfl (h.row_nn 0 rfl (by first | omega | (simp at hg; omega) | grind)) (ap rfl hg) rfl (k' := i * 32 + 20))), fun _ _ => og2 rfl rfl rfl rfl (fun hg => Rd.step (dL (k := 20) Tryz.isAgg69 zz69 (bU (by first | omega | (simp at hg; omega) | grind)) (ap rfl hg) rfl rfl rfl (v := (vD ((gt N3 i).f))) rfl)), fun _ _ => og2 rfl rfl rfl rfl (fun hg => Rd.step (af rfl)), fun _ _ => og2 rfl rfl rfl rfl (fun hg => Rd.step (af rfl)), fun _ _ => og2 rfl rfl rfl rfl (fun hg => Rd.step (dK (i := i) uu24 zz87 (ap rfl hg) (ap rfl hg) (h.row_nn 2 rfl (by first | omega | (simp at hg; omega) | grind)) (by first | omega | (simp at hg; omega) | grind))), fun _ _ => og2 rfl rfl rfl rfl (fun hg => Rd.step (fs uu87 rfl zz69 rfl (h.row_nn 2 rfl (by first | omega | (simp at hg; omega) | grind)) (ap rfl hg) rfl (k' := i * 32 + 20))), fun _ _ => og2 rfl rfl rfl rfl (fun hg => Rd.step (dL (k := 20) Tryz.isAgg69 zz69 (bU (by first | omega | (simp at hg; omega) | grind)) (ap rfl hg) rfl rfl rfl (v := (vD ((gt N2 i).f))) rfl)), fun _ _ => og2 rfl rfl rfl rfl (fun hg => Rd.step (aX aa40 zz40 rfl rfl rfl (v := (vQ ((ak halves 2).1))) rfl)), fun _ _ => og2 rfl rfl rfl rfl (fun hg => dr (bL Tryz.call49 (br (ap rfl hg) (br (ap rfl hg) rfl))) (kk (ex ((gt N2 i).f) ((ak halves 2).1) (All.gt hzN2 (bp _)).2 (cZ s7 (by omega))))), fun _ _ => og2 rfl rfl rfl rfl (fun hg => Rd.step (lC pW (ap rfl hg) (ap rfl hg))), fun _ _ => aC (np rfl (fun e => (ap rfl (nq e)))), trivial⟩ ?_
     clear h ac wo; intro ξ ac wo hφ h
     replace h : St w0 109 [(5, sv6), (6, (ptr b1 0)), (9, sv10), (10, (.int .i64 ((i : Nat) : Int))), (97, (.bool (((!(decide (((gt N3 i).iv).lo = (aH (((gt N2 i).iv).lo) ((ak halves 2).1))))) || (!(decide (((gt N3 i).iv).hi = (aH (((gt N2 i).iv).hi) ((ak halves 2).1)))))) || (!(decide ((gt N3 i).f = (bK ((gt N2 i).f) ((ak halves 2).1))))))))] [.row (α := U Qd) 87 sv10 N3, .blk b1 (cQ ((ak halves 2).1)) 40, .row (α := U Qd) 87 sv6 N2, .row (α := U Qd) 87 sv3 N1] ac wo := (h.pick [0, 1, 2, 3] (by decide)).sub ⟨rfl, rfl, rfl, rfl, rfl, trivial⟩
     clear hφ ξ
     obtain ⟨N5, hN5⟩ : ∃ q_, (aH (((gt N2 i).iv).lo) ((ak halves 2).1)) = q_ := ⟨_, rfl⟩
     try rw [hN5] at s11
     obtain ⟨N6, hN6⟩ : ∃ q_, (aH (((gt N2 i).iv).hi) ((ak halves 2).1)) = q_ := ⟨_, rfl⟩
     try rw [hN6] at s12
     obtain ⟨N7, hN7⟩ : ∃ q_, (bK ((gt N2 i).f) ((ak halves 2).1)) = q_ := ⟨_, rfl⟩
     try rw [hN7] at s13
     try rw [hN5] at h
     try rw [hN6] at h
     try rw [hN7] at h
     refine hK20 _ _ ?_
     refine cO h rfl (fun hc5 => ?_) (fun hc5 => ?_)
     ·
      have hq5 := hc5; try simp at hq5
      refine gz h <| gr fun K21 hK21 => g0 (ae rfl) rfl <| gn hK21 <| gT ?_; clear h ac wo; intro ac wo h
      subst hN7
      subst hN6
      subst hN5
      subst hN3
      subst hN2
      subst hN1
      have hr1 := fy hL1 (show bJ l halves i = .ret false from (Eq.trans (cT hc4) (cT hc5)))
      have hd : cd l halves = false := (Eq.trans (cF hc1) (Eq.trans (cF hc2) (Eq.trans (cF hc3) (k9 (hX1.trans hr1)))))
      exact ret h rfl (.tmp rfl .nil) rfl (h.retP (by rw [hd] <;> rfl) trivial)
     ·
      have hq5 := hc5; try simp at hq5
      refine gz h <| gS <| gN <| gx hK19 <| gR <| g0 (af rfl) rfl <| g0 (bM rfl rfl (r := ((i + 1 : Nat) : Int)) (by rw [IntKind.wrap_i64]; first | omega | grind)) rfl <| g0 (ae rfl) rfl <| gx (fun _ _ => bR) ?_; clear h ac wo; intro ac wo h
      exact aM ⟨m1, (by omega), _, (by first | omega | grind), b0 hL1 (show bJ l halves i = .go _ from by subst hN7; subst hN6; subst hN5; subst hN3; subst hN2; subst hN1; exact (Eq.trans (cT hc4) (cF hc5))), (by first | omega | grind), (h.pick [0, 1, 2, 3] (by decide)).sub ⟨rfl, rfl, rfl, rfl, trivial⟩⟩
    ·
     have hd4 := of_decide_eq_false hc4
     refine d8 ?_
     have hx1 := dX hL1 (show bJ l halves i = .out i from by subst hN3; subst hN2; subst hN1; exact (cF hc4))
     refine hK15 _ _ ?_
     refine dU fun K22 hK22 => ?_
     have hz2 : All (fI 30) (N3.map (shB (az (ak halves 2).1) (ak halves 2).1)) := by rw [← hN3, ← hN2, ← hN1]; exact ask_z2 l halves
     have c14 := d7 ((ak halves 2).1) 32 (by omega) s7
     have s14 := aA (c14 w0)
     refine rd0 h (bC oJ rfl rfl (v := .agg #[]) rfl) rfl <| g0 (kA uu73 rfl rfl (v := (.agg #[]))) rfl <| g0 (bC oJ rfl rfl (v := .agg #[]) rfl) rfl <| g0 (kA uu73 rfl rfl (v := (.agg #[]))) rfl <| g0 (af rfl) rfl <| g1 1 rfl (aX aa40 zz40 rfl rfl rfl (v := (vQ ((ak halves 2).1))) rfl) rfl <| gc (bL Tryz.call52 rfl) (kk c14) rfl <| g0 (jq rfl) rfl ?_; clear h ac wo; intro ac wo h
     have s15 := RetR.pr ((fun w_ hB_ hS_ => fT N3 sv10 (az ((ak halves 2).1)) b1 ((ak halves 2).1) (by omega) hz2 hzN3 (cZ s14 (by omega)) (cZ s7 (by omega)) w_ (row_view hS_ 0 rfl) (nV hS_ 1 rfl)) _ h.bel h.sep)
     have p16 := s15.2
     refine lU (xs := (bY N3 (az ((ak halves 2).1)) ((ak halves 2).1))) h (bL Tryz.call50 rfl) (fun w_ hB_ hS_ => fT N3 sv10 (az ((ak halves 2).1)) b1 ((ak halves 2).1) (by omega) hz2 hzN3 (cZ s14 (by omega)) (cZ s7 (by omega)) w_ (row_view hS_ 0 rfl) (nV hS_ 1 rfl)) rfl ?_; clear h ac wo; intro sv17 ac wo _ h
     obtain ⟨N8, hN8⟩ : ∃ q_, (bY N3 (az ((ak halves 2).1)) ((ak halves 2).1)) = q_ := ⟨_, rfl⟩
     try rw [hN8] at s15
     try rw [hN8] at h
     refine rd0 h (af rfl) rfl <| gc (bL Tryz.call41 rfl) (fun w_ hB_ hS_ => iB N8 sv17 N2 sv6 s15.1 (All.mono hzN2 (fun _ h_ => nl h_ (by omega))) w_ (row_view hS_ 0 rfl) (row_view hS_ 3 rfl)) rfl <| g0 (ae rfl) rfl <| gn hK22 ?_; clear h ac wo; intro ac wo h
     replace h := h.sub (F' := [(4, (.bool (ca N8 N2)))]) ⟨rfl, trivial⟩
     refine fw ?_
     subst hN8
     subst hN3
     subst hN2
     subst hN1
     have hd : cd l halves = (ca (bY (a8 (ay (aw l)) ((ak halves 2).1) ((ak halves 2).1)) (az ((ak halves 2).1)) ((ak halves 2).1)) (ay (aw l))) := (Eq.trans (cF hc1) (Eq.trans (cF hc2) (Eq.trans (cF hc3) (eQ (hX1.trans hx1)))))
     exact ret h rfl (.tmp rfl .nil) rfl (h.retP (by rw [hd] <;> rfl) trivial)
attribute [irreducible] cd
end Go.Sx
