/- Part of piecesMaps. -/
import Derived.Test.YtbenbmdkhcfcfaaGreatDoorC1
set_option linter.unusedVariables false
set_option linter.unusedSimpArgs false
open Go.Proofs.Tryz renaming runUnderlying55 → uu55, runUnderlying59 → uu59, underlying4 → nn4
namespace Go.Sx
open Go Go.RowKit Go.Proofs
set_option maxRecDepth 100000
set_option maxHeartbeats 40000000
attribute [local irreducible] Code.wp wpList Rd iq ObS Ent
attribute [local irreducible] ar bS ao aR aG cX
def gy (l : List Stp) (m : List Stp) (i : Nat) : Bool :=
 true
def cq (l : List Stp) (m : List Stp) (i : Nat) : Nx Nat Bool :=
 bif (decide ((i : Int) < ((((aw (am (an l))) ++ (aw (am (an m)))).length : Nat) : Int))) then
  bif ((((((dL (cf (am (an l))) (gt ((aw (am (an l))) ++ (aw (am (an m)))) i)).2) != (a7 (am (an l)) (gt ((aw (am (an l))) ++ (aw (am (an m)))) i)).2) || ((cO (bu (am (an l)) (am (an m))) (gt ((aw (am (an l))) ++ (aw (am (an m)))) i)).2 != ((a7 (am (an l)) (gt ((aw (am (an l))) ++ (aw (am (an m)))) i)).2 && (a7 (am (an m)) (gt ((aw (am (an l))) ++ (aw (am (an m)))) i)).2))) || ((dL (cf (am (an l))) (gt ((aw (am (an l))) ++ (aw (am (an m)))) i)).2 && (((dL (cf (am (an l))) (gt ((aw (am (an l))) ++ (aw (am (an m)))) i)).1) != (aR (a7 (am (an l)) (gt ((aw (am (an l))) ++ (aw (am (an m)))) i)).1.c1)))) || ((cO (bu (am (an l)) (am (an m))) (gt ((aw (am (an l))) ++ (aw (am (an m)))) i)).2 && (!(eR (cO (bu (am (an l)) (am (an m))) (gt ((aw (am (an l))) ++ (aw (am (an m)))) i)).1 (eD (a7 (am (an l)) (gt ((aw (am (an l))) ++ (aw (am (an m)))) i)).1 (a7 (am (an m)) (gt ((aw (am (an l))) ++ (aw (am (an m)))) i)).1) (gt ((aw (am (an l))) ++ (aw (am (an m)))) i))))) then
   .ret false
  else
   .go (i + 1)
 else
  .out i
def dB (l : List Stp) (m : List Stp) : Bool :=
 bif (!gO) then
  false
 else
  bif (((dq (cf (am (an l)))) != 0) || ((cN (bu (am (an l)) (am (an m)))) != 0)) then
   false
  else
   fin (bo (fun s => cq l m s) ((((aw (am (an l))) ++ (aw (am (an m)))).length - 0) + 1) 0) (fun s => gy l m s) (fun r => r)
theorem ll (l : List Stp) (lv : Value) (m : List Stp) (mv : Value) (w0 : World) (hlv : View w0 lv l) (hmv : View w0 mv m) : Calls Tryz.prog 5 #[lv, mv] w0 (RetP w0 (.bool (dB l m)) (True)) := by
 refine enter (N := 135) Tryz.func5 rfl rfl ?_; intro ac h
 have hlenl := hlv.len
 have hlenm := hmv.len
 refine gz h <| (xk (m0)) <| (ai) ?_ ?_ <;> clear h <;> intro _ _ h hc1
 ·
  have q := hc1; try simp at q
  have hd : dB l m = false := pt
  exact (rx h) fun _ _ h => (h.retP (by rw [hd] <;> rfl) trivial)
 ·
  have q := hc1; try simp at q
  refine gz h <| (xo (hs := by exact bM xN exs rfl (v := .agg #[]) rfl)) <| (xo (hs := by exact nq uu55 rfl rfl (v := (.agg #[])))) <| (W) ?_; clear h; intro _ _ h
  have s1 := RetR.pr ((fun w_ hB_ hS_ => gH l lv w_ (hlv.below hB_)) _ h.bel h.sep)
  have p2 := s1.2
  refine lX (xs := (an l)) h (cB Tryz.call27 rfl) (fun w_ hB_ hS_ => gH l lv w_ (hlv.below hB_)) rfl ?_; clear h; intro sv3 _ _ _ h
  obtain ⟨N1, hN1⟩ : ∃ q_, (an l) = q_ := ⟨_, rfl⟩
  try rw [hN1] at s1
  try rw [hN1] at h
  have s4 := RetR.pr ((fun w_ hB_ hS_ => fe N1 sv3 og s1.1 w_ (row_view hS_ 0 rfl)) _ h.bel h.sep)
  have p5 := s4.2
  refine lX (xs := (am N1)) h (cB Tryz.call26 rfl) (fun w_ hB_ hS_ => fe N1 sv3 og s1.1 w_ (row_view hS_ 0 rfl)) rfl ?_; clear h; intro sv6 _ _ _ h
  obtain ⟨N2, hN2⟩ : ∃ q_, (am N1) = q_ := ⟨_, rfl⟩
  try rw [hN2] at s4
  try rw [hN2] at h
  refine gz h <| (xo (hs := by exact bM xN exs rfl (v := .agg #[]) rfl)) <| (xo (hs := by exact nq uu55 rfl rfl (v := (.agg #[])))) <| (W) ?_; clear h; intro _ _ h
  have s7 := RetR.pr ((fun w_ hB_ hS_ => gH m mv w_ (hmv.below hB_)) _ h.bel h.sep)
  have p8 := s7.2
  refine lX (xs := (an m)) h (cB Tryz.call27 rfl) (fun w_ hB_ hS_ => gH m mv w_ (hmv.below hB_)) rfl ?_; clear h; intro sv9 _ _ _ h
  obtain ⟨N3, hN3⟩ : ∃ q_, (an m) = q_ := ⟨_, rfl⟩
  try rw [hN3] at s7
  try rw [hN3] at h
  have s10 := RetR.pr ((fun w_ hB_ hS_ => fe N3 sv9 og s7.1 w_ (row_view hS_ 0 rfl)) _ h.bel h.sep)
  have p11 := s10.2
  refine lX (xs := (am N3)) h (cB Tryz.call26 rfl) (fun w_ hB_ hS_ => fe N3 sv9 og s7.1 w_ (row_view hS_ 0 rfl)) rfl ?_; clear h; intro sv12 _ _ _ h
  obtain ⟨N4, hN4⟩ : ∃ q_, (am N3) = q_ := ⟨_, rfl⟩
  try rw [hN4] at s10
  try rw [hN4] at h
  refine gz h <| (W) ?_; clear h; intro _ _ h
  have hzN2 : All (gM 30) N2 := by rw [← hN2, ← hN1]; exact bn_sz l
  have hlN2 : N2.length < 18 := by have hq := xM l; rw [hN1, hN2] at hq; omega
  have hzN4 : All (gM 30) N4 := by rw [← hN4, ← hN3]; exact bn_sz m
  have hlN4 : N4.length < 18 := by have hq := xM m; rw [hN3, hN4] at hq; omega
  have hz1 : All (gM 30) ((au N2 N4).map vj) := by rw [← hN2, ← hN1, ← hN4, ← hN3]; exact mp_z l m
  refine gz h <| (xo (hs := by exact bM bld59 exs rfl (v := .agg #[]) rfl)) <| (xo (hs := by exact nq uu59 rfl rfl (v := (.agg #[])))) <| (W) ?_; clear h; intro _ _ h
  have s13 := RetR.pr ((fun w_ hB_ hS_ => lH N2 sv6 og hzN2 w_ (row_view hS_ 2 rfl)) _ h.bel h.sep)
  have p14 := s13.2
  refine lX (xs := (cf N2)) h (cB Tryz.call28 rfl) (fun w_ hB_ hS_ => lH N2 sv6 og hzN2 w_ (row_view hS_ 2 rfl)) rfl ?_; clear h; intro sv15 _ _ _ h
  obtain ⟨N5, hN5⟩ : ∃ q_, (cf N2) = q_ := ⟨_, rfl⟩
  try rw [hN5] at s13
  try rw [hN5] at h
  refine gz h <| (xo (hs := by exact bM xN exs rfl (v := .agg #[]) rfl)) <| (xo (hs := by exact nq uu55 rfl rfl (v := (.agg #[])))) <| (W) ?_; clear h; intro _ _ h
  have s16 := RetR.pr ((fun w_ hB_ hS_ => jH N2 sv6 N4 sv12 og og hz1 hzN2 hzN4 w_ (row_view hS_ 3 rfl) (row_view hS_ 1 rfl)) _ h.bel h.sep)
  have p17 := s16.2
  refine lX (xs := (bu N2 N4)) h (cB Tryz.call31 rfl) (fun w_ hB_ hS_ => jH N2 sv6 N4 sv12 og og hz1 hzN2 hzN4 w_ (row_view hS_ 3 rfl) (row_view hS_ 1 rfl)) rfl ?_; clear h; intro sv18 _ _ _ h
  obtain ⟨N6, hN6⟩ : ∃ q_, (bu N2 N4) = q_ := ⟨_, rfl⟩
  try rw [hN6] at s16
  try rw [hN6] at h
  refine gz h <| (W) ?_; clear h; intro _ _ h
  have hlN5 : N5.length < 20 := by rw [← hN5, ← hN2, ← hN1]; exact wG l (by first | omega | (rw [hN1]; omega))
  have hvN5 : ∀ j, RtV (gt N5 j).iv := by rw [← hN5, ← hN2, ← hN1]; exact mp_rt1 l
  have hzN6 : All (gM 30) N6 := by rw [← hN6, ← hN2, ← hN1, ← hN4, ← hN3]; exact mp_z2 l m
  have hlN6 : N6.length ≤ 300 := by rw [← hN6, ← hN2, ← hN1, ← hN4, ← hN3]; exact Nat.le_trans (wF l m (by first | omega | (rw [hN1]; omega)) (by first | omega | (rw [hN3]; omega))) DC
  have hvN6 : ∀ j, RtV (gt N6 j).iv := by rw [← hN6, ← hN2, ← hN1, ← hN4, ← hN3]; exact mp_rt2 l m
  refine gz h <| (xo (hs := by exact bM bld59 exs rfl (v := .agg #[]) rfl)) <| (xo (hs := by exact nq uu59 rfl rfl (v := (.agg #[])))) <| (xc (ct := by exact fun w_ hB_ hS_ => ns N5 sv15 og hvN5 s13.1 w_ (row_view hS_ 1 rfl))) <| (xg (hs := by exact fun hg => (Rd.of_nil (bM xN exs rfl (v := .agg #[]) rfl)).step)) <| (xg (hs := by exact fun hg => (Rd.of_nil (nq uu55 rfl (cm rfl hg) (v := (.agg #[])))).step)) <| (xg (hs := by exact fun hg => eV enA (fun w_ hB_ hS_ => mu N6 sv18 og hvN6 hzN6 w_ (row_view hS_ 0 rfl)))) <| (ai) ?_ ?_ <;> clear h <;> intro _ _ h hc2
  ·
   have q := hc2; try simp at q
   refine gz h <| (W) ?_; clear h; intro _ _ h
   subst hN6
   subst hN5
   subst hN4
   subst hN3
   subst hN2
   subst hN1
   have hd : dB l m = false := pt
   exact (rt h) (h.retP (by rw [hd] <;> rfl) trivial)
  ·
   have q := hc2; try simp at q
   refine gz h <| (W) ?_; clear h; intro _ _ h
   have hg2 : ∀ i, 0 < i → i < (ak N2 []).length → BtP (gt (ak N2 []) (i - 1)) (gt (ak N2 []) i) := by rw [← hN2, ← hN1]; exact mp_gap l
   have hg4 : ∀ i, 0 < i → i < (ak N4 []).length → BtP (gt (ak N4 []) (i - 1)) (gt (ak N4 []) i) := by rw [← hN4, ← hN3]; exact mp_gap m
   refine gz h <| (W) ?_; clear h; intro _ _ h
   have s19 := RetR.pr ((fun w_ hB_ hS_ => eS N2 sv6 og hg2 hzN2 w_ (row_view hS_ 4 rfl)) _ h.bel h.sep)
   have p20 := s19.2
   refine lX (xs := (aw N2)) h (cB Tryz.call35 rfl) (fun w_ hB_ hS_ => eS N2 sv6 og hg2 hzN2 w_ (row_view hS_ 4 rfl)) rfl ?_; clear h; intro sv21 _ _ _ h
   obtain ⟨N7, hN7⟩ : ∃ q_, (aw N2) = q_ := ⟨_, rfl⟩
   try rw [hN7] at s19
   try rw [hN7] at h
   refine gz h <| (W) ?_; clear h; intro _ _ h
   have s22 := RetR.pr ((fun w_ hB_ hS_ => eS N4 sv12 og hg4 hzN4 w_ (row_view hS_ 3 rfl)) _ h.bel h.sep)
   have p23 := s22.2
   refine lX (xs := (aw N4)) h (cB Tryz.call35 rfl) (fun w_ hB_ hS_ => eS N4 sv12 og hg4 hzN4 w_ (row_view hS_ 3 rfl)) rfl ?_; clear h; intro sv24 _ _ _ h
   obtain ⟨N8, hN8⟩ : ∃ q_, (aw N4) = q_ := ⟨_, rfl⟩
   try rw [hN8] at s22
   try rw [hN8] at h
   refine on2 h 1 0 rfl rfl (er (xs := N7) (ys := N8) od (fun w hs => (row_view hs 0 rfl)) rfl rfl og) rfl ?_; clear h; intro sv25 _ _ apsv25 h
   obtain ⟨X1, hX1⟩ : ∃ X, bo (fun s => cq l m s) (((N7 ++ N8).length - 0) + 1) 0 = X := ⟨_, rfl⟩
   refine gz h <| (W) ?_; clear h; intro _ _ h
   refine wp_loop_ghost (fun n_ a_ w_ => ∃ (i : Nat), (((N7 ++ N8).length - i) < n_) ∧ (bo (fun s => cq l m s) n_ i = X1) ∧ (i ≤ (N7 ++ N8).length) ∧ St w0 135 [(5, sv6), (6, sv12), (7, sv15), (8, sv18), (9, sv25), (10, (iN i))] [.row (α := GR) 71 sv25 (N7 ++ N8), .row (α := GR) 71 sv24 N8, .row (α := U Qd) 126 sv18 N6, .row (α := U Int) 176 sv15 N5, .row (α := U Qd) 126 sv12 N4, .row (α := U Qd) 126 sv9 N3, .row (α := U Qd) 126 sv6 N2, .row (α := U Qd) 126 sv3 N1] a_ w_) (((N7 ++ N8).length - 0) + 1) ⟨0, og, hX1, og, h.rs⟩ ?_
   clear h; rintro n1 _ _ ⟨i, hm1, hL1, hi, h⟩
   obtain ⟨m1, rfl⟩ : ∃ m, n1 = m + 1 := ⟨n1 - 1, by omega⟩
   refine gz h <| (ai) ?_ ?_ <;> clear h <;> intro _ _ h hc3
   ·
    have hd3 := of_decide_eq_true hc3
    refine gz h <| (W) ?_; clear h; intro _ _ h
    have s26 := Calls.pr ((fun w_ hB_ hS_ => fv N2 sv6 (gt (N7 ++ N8) i) hzN2 (All.gt (All.app s19.1 s22.1) (kT _)) w_ (row_view hS_ 6 rfl)) _ h.bel h.sep)
    refine gz h <| (xc (ct := by exact fun w_ hB_ hS_ => fv N2 sv6 (gt (N7 ++ N8) i) hzN2 (All.gt (All.app s19.1 s22.1) (kT _)) w_ (row_view hS_ 6 rfl))) <| ?_; clear h; intro _ _ h
    obtain ⟨N9, hN9⟩ : ∃ q_, (a7 N2 (gt (N7 ++ N8) i)) = q_ := ⟨_, rfl⟩
    try rw [hN9] at s26
    try rw [hN9] at h
    refine gz h <| (xa) fun b1 => (W) ?_; clear h; intro _ _ h
    have s27 := Calls.pr ((fun w_ hB_ hS_ => fv N4 sv12 (gt (N7 ++ N8) i) hzN4 (All.gt (All.app s19.1 s22.1) (kT _)) w_ (row_view hS_ 5 rfl)) _ h.bel h.sep)
    refine gz h <| (xc (ct := by exact fun w_ hB_ hS_ => fv N4 sv12 (gt (N7 ++ N8) i) hzN4 (All.gt (All.app s19.1 s22.1) (kT _)) w_ (row_view hS_ 5 rfl))) <| ?_; clear h; intro _ _ h
    obtain ⟨N10, hN10⟩ : ∃ q_, (a7 N4 (gt (N7 ++ N8) i)) = q_ := ⟨_, rfl⟩
    try rw [hN10] at s27
    try rw [hN10] at h
    refine gz h <| (xa) fun b2 => (xc (ct := by exact fun w_ hB_ hS_ => o9 N5 sv15 (gt (N7 ++ N8) i) og s13.1 (All.gt (All.app s19.1 s22.1) (kT _)) w_ (row_view hS_ 5 rfl))) <| (W) ?_; clear h; intro _ _ h
    have s28 := Calls.pr ((fun w_ hB_ hS_ => lI N6 sv18 (gt (N7 ++ N8) i) og hzN6 (All.gt (All.app s19.1 s22.1) (kT _)) w_ (row_view hS_ 4 rfl)) _ h.bel h.sep)
    refine gz h <| (xc (ct := by exact fun w_ hB_ hS_ => lI N6 sv18 (gt (N7 ++ N8) i) og hzN6 (All.gt (All.app s19.1 s22.1) (kT _)) w_ (row_view hS_ 4 rfl))) <| ?_; clear h; intro _ _ h
    obtain ⟨N11, hN11⟩ : ∃ q_, (cO N6 (gt (N7 ++ N8) i)) = q_ := ⟨_, rfl⟩
    try rw [hN11] at s28
    try rw [hN11] at h
    refine gz h <| (xa) fun b3 => (W) ?_; clear h; intro _ _ h
    have p30 := aA ((cG N9.1.c1) w0)
    have s31 := Calls.pr ((fun w_ hB_ hS_ => lF N9.1 N10.1 s26 s27 w_ ) _ h.bel h.sep)
    refine gz h <| (dr0 (hob := (oX (h := by exact fun _ => a6 (qA nn4 rfl rfl))) <| (oX (h := by exact fun _ => og2 (acc := []) rfl rfl rfl rfl (fun hg => Rd.step (qA nn4 (cm rfl hg) (cm rfl hg))))) <| (oG (by exact fun hg => cG N9.1.c1)) <| (oG (by exact fun hg => lF N9.1 N10.1 s26 s27)) <| (oG (by exact fun hg => lE N11.1 (eD N9.1 N10.1) (gt (N7 ++ N8) i) 2 og (dh s28 og) s31 (cJ (All.gt (All.app s19.1 s22.1) (kT _)) og))) <| oE)) <| (W) ?_; clear h; intro _ _ h
    obtain ⟨N12, hN12⟩ : ∃ q_, (eD N9.1 N10.1) = q_ := ⟨_, rfl⟩
    try rw [hN12] at s31
    try rw [hN12] at h
    refine gz h <| (ai) ?_ ?_ <;> clear h <;> intro _ _ h hc4
    ·
     have q := hc4; try simp at q
     refine gz h <| (W) ?_; clear h; intro _ _ h
     subst hN12
     subst hN11
     subst hN10
     subst hN9
     subst hN8
     subst hN7
     subst hN6
     subst hN5
     subst hN4
     subst hN3
     subst hN2
     subst hN1
     have hr1 := fR hL1 pt
     have hd : dB l m = false := pt
     exact (rt h) (h.retP (by rw [hd] <;> rfl) trivial)
    ·
     have q := hc4; try simp at q
     refine gz h <| (W) ?_; clear h; intro _ _ h
     have hgo1 : cq l m i = .go (i + 1) := by subst hN12; subst hN11; subst hN10; subst hN9; subst hN8; subst hN7; subst hN6; subst hN5; subst hN4; subst hN3; subst hN2; subst hN1; exact (Eq.trans (cT hc3) (cF hc4))
     exact aE ⟨m1, og, _, og, bq hL1 hgo1, og, h.re [3, 4, 5, 6, 7, 8, 9, 10]⟩
   ·
    have hd3 := of_decide_eq_false hc3
    refine gz h <| (W) ?_; clear h; intro _ _ h
    have hou1 : cq l m i = .out i := by subst hN8; subst hN7; subst hN6; subst hN5; subst hN4; subst hN3; subst hN2; subst hN1; exact (cF hc3)
    have hx1 := ck hL1 hou1
    refine gz h <| (W) ?_; clear h; intro _ _ h
    subst hN8
    subst hN7
    subst hN6
    subst hN5
    subst hN4
    subst hN3
    subst hN2
    subst hN1
    have hd : dB l m = true := pt
    exact (rt h) (h.retP (by rw [hd] <;> rfl) trivial)
attribute [irreducible] dB
end Go.Sx
namespace Go.Sx
theorem mom_in {l m : List Stp} {i : Nat} (hi : i < (aw (nb l) ++ aw (nb m)).length) : Tm (gt (aw (nb l) ++ aw (nb m)) i) := by
 have h := gC hi
 rcases List.mem_append.1 h with h | h
 ·exact qH (kX l).wv (wD l) _ h
 ·exact qH (kX m).wv (wD m) _ h
theorem wM (l m : List Stp) : dB l m = true := by
 unfold dB
 rw [knw]
 have c1 : dq (cf (am (an l))) = 0 := mp_chk1 l (qb l)
 have c2 : cN (bu (am (an l)) (am (an m))) = 0 := mp_chk2 l m (qb l) (qb m)
 rw [c1, c2]
 show fin (bo (fun s => cq l m s) (((aw (nb l) ++ aw (nb m)).length - 0) + 1) 0) (fun s => gy l m s) (fun r => r) = true
 refine (gD (mj (n := (aw (nb l) ++ aw (nb m)).length) (r := false) (bad := fun _ => false) (fun i hi => ?_) ?_ ((aw (nb l) ++ aw (nb m)).length - 0 + 1) 0 (Nat.zero_le _) og (fun _ _ _ => rfl))).trans (by unfold gy; rfl)
 ·show cq l m i = .go (i + 1)
  unfold cq
  have ht := mom_in hi
  obtain ⟨p1, p2⟩ := mp_one l ht
  obtain ⟨q1, q2⟩ := mp_two l m ht
  unfold nb at hi p1 p2 q1 q2
  rw [decide_eq_true (by omega : (i : Int) < (((aw (am (an l)) ++ aw (am (an m))).length : Nat) : Int)), cond_true]
  generalize gt (aw (am (an l)) ++ aw (am (an m))) i = t at *
  generalize dL (cf (am (an l))) t = A at *
  generalize cO (bu (am (an l)) (am (an m))) t = B at *
  generalize a7 (am (an l)) t = V at *
  generalize a7 (am (an m)) t = W at *
  obtain ⟨A1, A2⟩ := A
  obtain ⟨B1, B2⟩ := B
  obtain ⟨V1, V2⟩ := V
  obtain ⟨W1, W2⟩ := W
  dsimp only at p1 p2 q1 q2 ⊢
  have r1 : (A2 && (A1 != aR V1.c1)) = false := by
   cases A2
   ·rfl
   ·rw [p2 p1.symm, bne_self_eq_false]; rfl
  have r2 : (B2 && !(eR B1 (eD V1 W1) t)) = false := by
   cases B2
   ·rfl
   ·rw [q2 rfl]; rfl
  rw [r1, r2, q1, p1]
  simp only [bne_self_eq_false, Bool.or_false, cond_false]
 ·show cq l m (aw (nb l) ++ aw (nb m)).length = _
  unfold cq
  unfold nb
  rw [decide_eq_false og]; rfl
end Go.Sx
