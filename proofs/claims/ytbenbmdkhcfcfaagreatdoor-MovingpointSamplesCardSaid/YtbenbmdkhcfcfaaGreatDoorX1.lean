/- A part of the proof of movingpointSamples. -/
import Derived.Test.YtbenbmdkhcfcfaaGreatDoorW9
set_option linter.unusedVariables false
set_option linter.unusedSimpArgs false
open Go.Proofs.Tryz renaming isAgg27 → aa27, sizeOf27 → zz27, runUnderlying9 → uu9
namespace Go.Sx
def GqS (a : Smp) : Prop := Gq a.t ∧ Gq a.p.x ∧ Gq a.p.y
theorem gq_s {a : Smp} (h : GqS a) : SOk a := ⟨gq_bq h.1, gq_bq h.2.1, gq_bq h.2.2⟩
theorem gs_bad {a : Smp} (h : GqS a) : te a = false := by unfold te; rw [rT h.1.1, rT h.2.1.1, rT h.2.2.1]; rfl
def smK (l : List Smp) (r : GQ) : List GQ := (List.range l.length).map (fun i => (gt l i).t) ++ (List.range (l.length - 1)).map fun i => tdv (gt l i) (gt l (i + 1)) r
theorem smK_b {l : List Smp} {r : GQ} (hg : ∀ i, i < l.length → SOk (gt l i)) (hr : Bq 4 r) : ∀ q ∈ smK l r, Bq 200 q := by
  intro q h
  unfold smK at h
  rcases List.mem_append.1 h with h | h
  · obtain ⟨i, hi, rfl⟩ := List.mem_map.1 h
    exact (hg i (List.mem_range.1 hi)).1.le (by decide)
  · obtain ⟨i, hi, rfl⟩ := List.mem_map.1 h
    have := List.mem_range.1 hi
    exact tdv_bq (hg i (by omega)).1 (hg (i + 1) (by omega)).1 hr
theorem rM {x y : Rat} : rcmp x y ≤ 0 ↔ rcmp y x ≥ 0 := by
  unfold rcmp
  by_cases h1 : x < y
  · by_cases h2 : y < x
    · exfalso; grind
    · rw [if_pos h1, if_neg h2, if_pos h1]; decide
  · by_cases h2 : y < x
    · rw [if_neg h1, if_pos h2, if_pos h2]; exact ⟨fun h => absurd h (by decide), fun h => absurd h (by decide)⟩
    · rw [if_neg h1, if_neg h2, if_neg h2, if_neg h1]
theorem rcmp_ltq {x y : Rat} (h : ¬ rcmp x y ≤ 0) : y < x := by
  unfold rcmp at h
  by_cases h1 : x < y
  · rw [if_pos h1] at h; exact absurd (by decide) h
  · by_cases h2 : y < x
    · exact h2
    · rw [if_neg h1, if_neg h2] at h; exact absurd (by decide) h
theorem l8 {l : List Smp} {r : GQ} (hl : l.length ≤ 300) : (smK l r).length < 1000 := by
  unfold smK; rw [List.length_append, List.length_map, List.length_map, List.length_range, List.length_range]; omega
theorem ups_of {l : List Smp} {r : GQ} (hl : l.length ≤ 300) (hg : ∀ i, i < l.length → SOk (gt l i)) (hr : Bq 4 r) (hup : ∀ i, i + 1 < l.length → aX (gt l i).t < aX (gt l (i + 1)).t) :
    @Ups (keyQ (smK l r) (smK_b hg hr) (l8 hl)) l := by
  letI := keyQ (smK l r) (smK_b hg hr) (l8 hl)
  exact ⟨hg, fun i hi => tm_kq' (List.mem_append_left _ (List.mem_map.2 ⟨i, List.mem_range.2 hi, rfl⟩)), hup⟩
theorem sam_all (l : List Smp) (hl : l.length ≤ 12) (hg : ∀ i, i < l.length → GqS (gt l i)) (r : GQ) (hr : Bq 4 r) (r0 : 0 ≤ aX r) (r1 : aX r ≤ 1) :
    ∃ (p : List (U Ln)) (e : Int), frS l (aQ (frP l (l.length - 1))) = (p, e) ∧ frW l (aQ (frT l)).1 = (p, e) ∧ p.length ≤ 12 ∧ All (gk 30) p ∧
      (e = 0 → ∀ i, i + 1 < l.length → pq p (tdv (gt l i) (gt l (i + 1)) r) = (d9 (gt l i).p (gt l (i + 1)).p r, true)) := by
  have hgs : ∀ i, i < l.length → SOk (gt l i) := fun i hi => gq_s (hg i hi)
  have h256 : ¬ 256 < l.length := by omega
  have h5 : ¬ ∃ i, i < l.length ∧ te (gt l i) = true := fun ⟨i, h1, h2⟩ => by rw [gs_bad (hg i h1)] at h2; cases h2
  have hc : ∀ i, i < l.length → aR (gt l i).t (gt l (i - 1)).t = rcmp (aX (gt l i).t) (aX (gt l (i - 1)).t) := fun i hi => ja (hg i hi).1.1 (hg (i - 1) (by omega)).1.1
  have hc2 : ∀ i, i < l.length → aR (gt l (i - 1)).t (gt l i).t = rcmp (aX (gt l (i - 1)).t) (aX (gt l i).t) := fun i hi => ja (hg (i - 1) (by omega)).1.1 (hg i hi).1.1
  by_cases h7 : ∃ i, i < l.length ∧ kG l i = true
  · have h7' : ∃ i, i < l.length ∧ (1 ≤ i ∧ kF l i = true) := by
      obtain ⟨i, hi, h⟩ := h7
      unfold kG at h
      rw [Bool.and_eq_true, decide_eq_true_eq, decide_eq_true_eq] at h
      refine ⟨i, hi, h.1, ?_⟩
      unfold kF
      rw [decide_eq_true_eq, hc2 i hi]
      have := h.2
      rw [hc i hi] at this
      exact rM.1 this
    refine ⟨[], 7, ?_, ?_, by decide, (fun u hu => by cases hu), fun e => absurd e (by decide)⟩
    · unfold frS; rw [if_neg h256, if_neg h5, if_pos h7]
    · unfold frW; rw [if_neg h256, if_neg h5, if_pos h7']
  · have h7' : ¬ ∃ i, i < l.length ∧ (1 ≤ i ∧ kF l i = true) := fun ⟨i, hi, h1, h⟩ => by
      refine h7 ⟨i, hi, ?_⟩
      unfold kF at h
      rw [decide_eq_true_eq, hc2 i hi] at h
      unfold kG
      rw [Bool.and_eq_true, decide_eq_true_eq, decide_eq_true_eq, hc i hi]
      exact ⟨h1, rM.2 h⟩
    have hup : ∀ i, i + 1 < l.length → aX (gt l i).t < aX (gt l (i + 1)).t := fun i hi => by
      refine rcmp_ltq fun h => h7 ⟨i + 1, hi, ?_⟩
      unfold kG
      rw [Bool.and_eq_true, decide_eq_true_eq, decide_eq_true_eq, hc (i + 1) hi, Nat.add_sub_cancel]
      exact ⟨by omega, h⟩
    have hU := ups_of (r := r) (by omega) hgs hr hup
    letI : Key := keyQ (smK l r) (smK_b hgs hr) (l8 (by omega))
    haveI : KeyR := kqR (smK l r) (smK_b hgs hr) (l8 (by omega))
    have hTd : ∀ i, i + 1 < l.length → Tm (an (tdv (gt l i) (gt l (i + 1)) r)) := fun i hi => tm_kq' (List.mem_append_right _ (List.mem_map.2 ⟨i, List.mem_range.2 (by omega), rfl⟩))
    have hsz : ∀ u : U Ln, Wv u.iv → DSm u.f → gk 30 u := fun u h1 h2 => ⟨⟨rj h1.1.1, rj h1.1.2⟩, h2.sz⟩
    by_cases h1 : l.length = 1
    · have e1 : frT l = [frO l] := by unfold frT; rw [if_pos h1]
      have t0 := hU.tm 0 (by omega)
      have o0 := hU.ok 0 (by omega)
      refine ⟨[frO l], 0, ?_, ?_, by show 1 ≤ 12; decide, fun u hu => ?_, fun _ i hi => by omega⟩
      · unfold frS; rw [if_neg h256, if_neg h5, if_neg h7, if_pos h1]
      · unfold frW; rw [if_neg h256, if_neg h5, if_neg h7', e1, hU.one h1]
      · rw [List.mem_singleton.1 hu]
        exact hsz _ ⟨⟨t0, t0⟩, Nat.le_refl _, fun _ => ⟨rfl, rfl⟩⟩ (.inl ⟨o0.2.1.le (by decide), Bq.zero (by decide), o0.2.2.le (by decide), Bq.zero (by decide)⟩)
    · have e1 : frT l = frP l (l.length - 1) := by unfold frT; rw [if_neg h1]
      obtain ⟨N, e, hN⟩ := hU.normal
      have hlen := hN.len
      rw [kO] at hlen
      refine ⟨N, 0, ?_, ?_, by omega, fun u hu => hsz u (hN.nf.wv u hu) (hN.ok u hu), fun _ i hi => hU.at hN hi hr.1 r0 r1 (hTd i hi)⟩
      · unfold frS; rw [if_neg h256, if_neg h5, if_neg h7, if_neg h1, e]
      · unfold frW; rw [if_neg h256, if_neg h5, if_neg h7', e1, e]
theorem smp_sz {a : Smp} (h : GqS a) : tu 40 a := by
  have k := gq_s h
  exact ⟨k.1.sz (by decide), k.2.1.sz (by decide), k.2.2.sz (by decide)⟩
end Go.Sx
namespace Go.Sx
open Go Go.RowKit Go.Proofs
set_option maxRecDepth 100000
set_option maxHeartbeats 40000000
attribute [local irreducible] Code.wp wpList Rd Step ObS Ent
attribute [local irreducible] aq aK ak au ay bA an aH
attribute [local irreducible] aD aL aj av aP ah aR cP gV bH ar
def q3 (s : Smp) : List GQ := [s.t, s.p.x, s.p.y]
theorem q3_sz {s : Smp} (h : GqS s) {k : Nat} (hk : k < 3) : (bs (gt (q3 s) k).num.mag).size + (bs (gt (q3 s) k).den.mag).size ≤ 16 := by
 have key : ∀ {a : GQ}, Gq a → (bs a.num.mag).size + (bs a.den.mag).size ≤ 16 := fun {a} g => by
  rw [dg, dg]
  have u1 := (bI 8 a.num.mag).2 g.2.1
  have u2 := (bI 8 a.den.mag).2 g.2.2
  omega
 obtain rfl | rfl | rfl : k = 0 ∨ k = 1 ∨ k = 2 := by omega
 · exact key h.1
 · exact key h.2.1
 · exact key h.2.2
theorem eqi29 : EqIn Tryz.prog 4 29 vPt := eqS (c := cPt) (fun _ => rfl) Tryz.underlying29 Tryz.stoodInHeld29 fun d x y w hd => by
 refine Eq.trans (eqF (by decide) (bQ aa27 zz27 (v := vQ x.x) rfl w) (bQ aa27 zz27 (v := vQ y.x) rfl w) (j9 d _ _ w og) (eqF (by decide) (bQ aa27 zz27 (v := vQ x.y) rfl w) (bQ aa27 zz27 (v := vQ y.y) rfl w) (j9 d _ _ w og) eqF0)) ?_
 congr 1
 rw [decide_eq_decide]
 cases x; cases y; simp
theorem eqp29 : EqP Tryz.prog 29 vPt := EqIn.p (k := 4) rfl (c := fun x => (cPt x).toArray) (fun _ => rfl) Tryz.eqGuardType29 eqi29
instance ep29 : Ep Tryz.prog 29 Pnt inferInstance vPt := ⟨eqp29⟩
theorem bld47 : BuildF Tryz.prog 47 (cSg ⟨oQ, oQ⟩ ⟨oQ, oQ⟩) [(0, 8), (8, 8)] := BuildF.of Tryz.zeroValue47 rfl Tryz.runUnderlying47 (by intro w; simp [Tryz.sizeOf29])
instance bu47 (a b : Pnt) : Bu Tryz.prog 47 [0, 1] [vPt a, vPt b] (vSg a b) := Bu.of bld47 rfl rfl
instance cf24 : Cf Tryz.prog 24 := ⟨Tryz.call24⟩
theorem samG_ct (l : List Smp) (lv : Value) (x : Nat) (hx : x < 256) (hg : ∀ i, i < l.length → GqS (gt l i)) (w0 : World) (hlv : View w0 lv l) : Calls Tryz.prog 4 #[lv, .int .u8 (x : Int)] w0 (RetP w0 (.bool true) True) := by
 refine enter (N := 153) (args := [lv, .int .u8 (x : Int)]) Tryz.func4 rfl rfl ?_; intro ac h
 have hlen := hlv.len
 refine gz h <| (xk ki) <| (ai) ?_ ?_ <;> clear h ac <;> intro ac wo h hc1
 · refine gz h <| (xk ki) <| (W) ?_; clear h ac wo; intro ac wo h
   exact (rt h) (h.retP rfl trivial)
 have hl : l.length ≤ 12 := by
  rw [Bool.or_eq_false_iff] at hc1
  have := of_decide_eq_false hc1.2; omega
 refine gz h <| (W) ?_; clear h ac wo; intro ac wo h
 refine wp_loop_ghost (fun n_ a_ w_ => ∃ (i : Nat), (l.length - i < n_) ∧ (i ≤ l.length) ∧ St w0 153 [(0, lv), (1, .int .u8 (x : Int)), (5, iN i)] [] a_ w_) (l.length + 1) ⟨0, by omega, by omega, h.rs⟩ ?_
 clear h ac wo; rintro n1 ac wo ⟨i, hm1, hi, h⟩
 obtain ⟨m1, rfl⟩ : ∃ m, n1 = m + 1 := ⟨n1 - 1, by omega⟩
 refine gz h <| (ai) ?_ ?_ <;> clear h ac wo <;> intro ac wo h hc2
 ·
  have hd1 : i < l.length := by have := of_decide_eq_true hc2; omega
  have n1' := hlv.nn hd1
  have gi := hg i hd1
  obtain ⟨s, hs⟩ : ∃ s, gt l i = s := ⟨_, rfl⟩
  refine gz h <| (W) ?_; clear h ac wo; intro ac wo h
  replace h := h.emps 1
  refine d4 mixed [dv _, dv _, dv _, dv _, dv (vQ (gt l i).t), dv _, dv _, dv _, dv _, dv _, dv (vQ (gt l i).p.x), dv _, dv _, dv _, dv _, dv _, dv (vQ (gt l i).p.y), ⟨.nd (.one 17 fun v => NN v 3), [0]⟩, ⟨.nd (.two 18 17 fun a b => a = b), []⟩]
   [⟨.emp, [(17, .one 17 fun v => .row (α := GQ) 27 v (q3 (gt l i)))]⟩] h rfl (by kernel_rfl)
   ⟨oA obA, oA obA, oA obA, oA obA, oA obA, oA obA, oA obA, oA obA, oA obA, oA obA, oA obA, oA obA, oA obA, oA obA, oA obA, oA obA, oA obA, 
    fun _ _ => kE (ψ := fun v => NN v 3) (B := fun v => [.row (α := GQ) 27 v (q3 (gt l i))]) [.emp] rfl (fun v _ => by simp only [cc, bc] <;> rfl) (fun v hv => by simpa [DF.one, bc] using hv) (gC (cX (α := GQ) (xs := [.tmp 36, .tmp 42, .tmp 48]) (vs := [vQ (gt l i).t, vQ (gt l i).p.x, vQ (gt l i).p.y]) (q3 (gt l i)) slt38X rfl rfl rfl (by decide))),
    fun _ _ => oT (j := 17) (by decide) rfl, trivial⟩ ?_
  clear h ac wo; intro ξ ac wo hφ h
  replace h : St w0 153 [(0, lv), (1, .int .u8 (x : Int)), (5, iN i), (6, ξ 18)] [.row (α := GQ) 27 (ξ 17) (q3 (gt l i))] ac wo := h.sub ⟨rfl, rfl, rfl, rfl, trivial⟩
  rw [show ξ 18 = ξ 17 from hφ 18, hs] at h
  rw [hs] at gi
  generalize ξ 17 = sv at h; clear hφ ξ
  refine gz h <| (W) ?_; clear h ac wo; intro ac wo h
  refine wp_loop_ghost (fun n_ a_ w_ => ∃ (k : Nat), (3 - k < n_) ∧ (k ≤ 3) ∧ St w0 153 [(0, lv), (1, .int .u8 (x : Int)), (5, iN i), (6, sv), (7, iN k)] [.row (α := GQ) 27 sv (q3 s)] a_ w_) 4 ⟨0, by omega, by omega, h.re [0]⟩ ?_
  clear h ac wo; rintro n2 ac wo ⟨k, hm2, hk, h⟩
  obtain ⟨m2, rfl⟩ : ∃ m, n2 = m + 1 := ⟨n2 - 1, by omega⟩
  refine gz h <| (ai) ?_ ?_ <;> clear h ac wo <;> intro ac wo h hc3
  ·
   have hk1 : k < 3 := by have := of_decide_eq_true hc3; omega
   have hk3 : k < (q3 s).length := hk1
   have nk := (row_view h.sep 0 rfl).nn hk3
   have hs' := q3_sz gi hk1
   refine gz h <| (dr0 (hob := (oX (h := by exact fun _ => a7 (ib uu9 rfl))) <| (oX (h := by exact fun _ => a7 (ib uu9 rfl))) <| oE)) <| (ai) ?_ ?_ <;> clear h ac wo <;> intro ac wo h hc4
   · refine gz h <| (W) ?_; clear h ac wo; intro ac wo h
     exact (rt h) (h.retP rfl trivial)
   · refine gz h <| (W) ?_; clear h ac wo; intro ac wo h
     exact aG ⟨m2, by omega, k + 1, by omega, by omega, h.re [0]⟩
  ·
   refine gz h <| (W) ?_; clear h ac wo; intro ac wo h
   exact aG ⟨m1, by omega, i + 1, by omega, by omega, h.re []⟩
 clear hc2 hi hm1
 have hx9 : x % 9 < 16 := by omega
 have rq := ptQ_bq hx9
 obtain ⟨P, e, e1, e2, hP, zP, hA⟩ := sam_all l hl hg (ptQ (x % 9)) rq (ptQ_ge _) (ptQ_le (by omega))
 have hgl : ∀ i, i < l.length → tu 40 (gt l i) := fun i hi => smp_sz (hg i hi)
 have zl : ∀ i, tu 40 (gt l i) := fun i => by
  by_cases h : i < l.length
  · exact hgl i h
  · have e : gt l i = default := by unfold gt; rw [List.getD_eq_getElem?_getD, List.getElem?_eq_none (by omega)]; rfl
    rw [e]; exact mO.2.2.2.2
 have zF : ∀ n, All (gk 30) (frP l n) := fun n u hu => by
  obtain ⟨i, _, rfl⟩ := pe hu
  exact ⟨⟨dN (am (cm (gt l i).t 40 og (zl i).1 w0)) og, dN (am (cm (gt l (i + 1)).t 40 og (zl _).1 w0)) og⟩, am (lF (gt l i) (gt l (i + 1)) ⟨zl i, zl _⟩ w0)⟩
 have zO : gk 30 (frO l) := ⟨⟨dN (am (cm (gt l 0).t 40 og (zl 0).1 w0)) og, dN (am (cm (gt l 0).t 40 og (zl 0).1 w0)) og⟩, iH (am (pC (gt l 0).p 40 og (zl 0).2 w0)) og⟩
 have zT : All (gk 30) (frT l) := by
  unfold frT
  by_cases h1 : l.length = 1
  · rw [if_pos h1]; intro u hu; rw [List.mem_singleton.1 hu]; exact zO
  · rw [if_neg h1]; exact zF _
 have lT : (frT l).length < 20 := by
  unfold frT
  by_cases h1 : l.length = 1
  · rw [if_pos h1]; show 1 < 20; decide
  · rw [if_neg h1, kO]; omega
 have cS : ∀ w, View w lv l → Calls Tryz.prog 16 #[lv] w (RetT w 88 P [.int .i64 e] True) := fun w hv => by
  have := frS_ct l lv (by omega) zl (aQ (frP l (l.length - 1))) _ (fun lv' w' hv' => lM (frP l (l.length - 1)) lv' (by rw [kO]; omega) (zF _) w' hv') w hv
  rw [e1] at this; exact this
 have cW : ∀ w, View w lv l → Calls Tryz.prog 17 #[lv] w (RetT w 88 P [.int .i64 e] True) := fun w hv => by
  have := frW_ct l lv (by omega) zl (aQ (frT l)).1 _ _ (fun lv' w' hv' => qq (frT l) lv' lT zT w' hv') w hv
  rw [e2] at this; exact this
 refine gz h <| (W) ?_; clear h ac wo; intro ac wo h
 refine mT (xs := P) h (dH Tryz.call16 rfl) (fun w_ hB_ hS_ => cS w_ (hlv.below hB_)) rfl ?_; clear h ac wo; intro pv ac wo _ h
 refine gz h <| (W) ?_; clear h ac wo; intro ac wo h
 refine mT (xs := P) h (dH Tryz.call17 rfl) (fun w_ hB_ hS_ => cW w_ (hlv.below hB_)) rfl ?_; clear h ac wo; intro qv ac wo _ h
 have cp := jZ (x % 9) (by omega)
 have zp := am (cp w0)
 refine gz h <| (xc (ct := by exact fun w_ hB_ hS_ => rC P pv qv (by omega) w_ (row_view hS_ 1 rfl) (row_view hS_ 0 rfl))) <| (W) ?_; clear h ac wo; intro ac wo h
 refine gz h <| (ai) ?_ ?_ <;> clear h ac wo <;> intro ac wo h hc3
 · exfalso; simp at hc3
 refine gz h <| (xo (hs := by exact rmN 9 rfl rfl rfl)) <| (xo (hs := by exact cvI (by omega) rfl)) <| (xk cp) <| (xa) fun b5 => (W) ?_; clear h ac wo; intro ac wo h
 clear hc1 hc3
 refine wp_loop_ghost (fun n_ a_ w_ => ∃ (i : Nat), (l.length - i < n_) ∧ (i ≤ l.length) ∧ St w0 153 [(0, lv), (8, pv), (9, .int .i64 e), (12, ptr b5 0), (14, iN i)] [.blk b5 (cQ (ptQ (x % 9))) 27, .row (α := U Ln) 88 pv P] a_ w_) (l.length + 1) ⟨0, by omega, by omega, h.re [0, 2]⟩ ?_
 clear h ac wo i; rintro n1 ac wo ⟨i, hm1, hi, h⟩
 obtain ⟨m1, rfl⟩ : ∃ m, n1 = m + 1 := ⟨n1 - 1, by omega⟩
 obtain ⟨r, hr⟩ : ∃ r, ptQ (x % 9) = r := ⟨_, rfl⟩
 rw [hr] at h hA rq zp
 refine gz h <| (ai) ?_ ?_ <;> clear h ac wo <;> intro ac wo h hc4
 ·
  rw [Bool.and_eq_true] at hc4
  have hd1 : i + 1 < l.length := by have := of_decide_eq_true hc4.1; omega
  have he : e = 0 := by have := hc4.2; simpa using this
  have hd0 : i < l.length := by omega
  have n0 := hlv.nn hd0
  have za := zl i
  have zb := zl (i + 1)
  have hA1 := hA he i hd1
  have c1 := bu (gt l (i + 1)).t (gt l i).t 35 og (bM zb.1 og) (bM za.1 og)
  have s1 := am (c1 w0)
  have c2 := aT r (ah (gt l (i + 1)).t (gt l i).t) 33 og zp s1
  have s2 := am (c2 w0)
  have c3 := bq (gt l i).t (aj r (ah (gt l (i + 1)).t (gt l i).t)) 30 og (bM za.1 og) s2
  have s3 := am (c3 w0)
  obtain ⟨t, ht⟩ : ∃ t, tdv (gt l i) (gt l (i + 1)) r = t := ⟨_, rfl⟩
  have ht' : av (gt l i).t (aj r (ah (gt l (i + 1)).t (gt l i).t)) = t := ht
  rw [ht'] at c3 s3
  rw [ht] at hA1
  have c4 := fun w hv => atRat_ct P pv t (by omega) zP s3 w hv
  rw [hA1] at c4
  have c5 := oR (gt l i).p (gt l (i + 1)).p r za.2 zb.2 (rq.sz (by decide))
  refine gz h <| (W) ?_; clear h ac wo; intro ac wo h
  replace h := h.emps 1
  refine d4 mixed [dv _, dv _, dv _, dv _, dv (vQ (gt l i).t), dw (vQ r) [0], dv _, dv _, dv _, dv _, dv _, dv (vQ (gt l (i + 1)).t), dv _, dv _, dv _, dv _, dv (vQ (gt l i).t), dv _, dv _, dv (vQ t), ⟨.nd (.one 20 fun x => ∃ b, x = ptr b 0), [2]⟩, dw undef [2]]
   [⟨_, []⟩, ⟨_, []⟩, ⟨.emp, [(20, .one 20 fun x => .blk (bp x) (cQ default) 27), (21, .one 20 fun x => .blk (bp x) (cQ t) 27)]⟩] h rfl (by kernel_rfl)
   ⟨oA obA, oA obA, oA obA, oA obA, oA obA, oA obA, oA obA, oA obA, oA obA, oA obA, oA obA, oA obA, oA obA, oA obA, oA obA, oA obA, oA obA, oA fun _ => fT (fg Tryz.call22 rfl c1), oA fun _ => fT (fg Tryz.call21 rfl c2), oA fun _ => fT (fg Tryz.call20 rfl c3), fun _ _ => lc 2 rfl (fun _ => rfl), fun ξ hφ => la (u := vQ t) 2 (hφ 20 rfl) rfl rfl rfl rfl rfl rfl rfl, trivial⟩ ?_
  clear h ac wo; intro ξ ac wo hφ h
  obtain ⟨b6, hb6⟩ : ∃ b, ξ 20 = ptr b 0 := hφ 20
  replace h : St w0 153 [(0, lv), (8, pv), (9, .int .i64 e), (12, ptr b5 0), (14, iN i), (15, ξ 20)] [.blk b5 (cQ r) 27, .row (α := U Ln) 88 pv P, .blk (bp (ξ 20)) (cQ t) 27] ac wo := (h.pick [0, 1, 2] (by decide)).sub ⟨rfl, rfl, rfl, rfl, rfl, rfl, trivial⟩
  rw [hb6] at h
  clear hb6 hφ ξ
  refine gz h <| (xc (ct := by exact fun w_ hB_ hS_ => c4 w_ (row_view hS_ 1 rfl))) <| (xa) fun b7 => (W) ?_; clear h ac wo; intro ac wo h
  refine gz h <| (dr0 (hob := (oG (by exact fun hg => c5)) <| oE)) <| (ai) ?_ ?_ <;> clear h ac wo <;> intro ac wo h hc5
  · exfalso; simp at hc5
  refine gz h <| (W) ?_; clear h ac wo; intro ac wo h
  exact aG ⟨m1, by omega, i + 1, by omega, by omega, by rw [hr]; exact h.re [1, 2]⟩
 ·
  refine gz h <| (W) ?_; clear h ac wo; intro ac wo h
  exact (rt h) (h.retP rfl trivial)
theorem qx (l : List XS) (lv : Value) (x : Nat) (hx : x < 256) (hz : ∀ s ∈ l, Sz63 s) (w0 : World) (hlv : View w0 lv l) : Calls Tryz.prog 4 #[lv, .int .u8 (x : Int)] w0 (RetP w0 (.bool true) True) := by
 by_cases hg : ∀ s ∈ l, Gs s
 · obtain ⟨l', rfl, k⟩ := gs_all hg
   exact samG_ct l' lv x hx (fun i hi => k _ (sw hi)) w0 hlv.sX
 · exact samX_ct l lv x hx (fun i hi => hz _ (sw hi)) (fun h => hg fun s hs => by
    obtain ⟨i, hi, rfl⟩ := memL hs
    exact h i hi) w0 hlv
end Go.Sx
