/- Part of piecesMaps. -/
import Derived.Test.YtbenbmdkhcfcfaaGreatDoorR1
import Derived.Test.YtbenbmdkhcfcfaaGreatDoorCo
import Derived.Test.YtbenbmdkhcfcfaaGreatDoorS1
set_option linter.unusedVariables false
set_option linter.unusedSimpArgs false
open Go.Proofs.Tryz renaming prog → zP, runUnderlying179 → uu179, sizeOf182 → zz182, runUnderlying182 → uu182, sizeOf53 → zz53, isAgg53 → aa53
set_option maxRecDepth 100000
set_option maxHeartbeats 40000000
namespace Go.Sx
open Go Go.RowKit Go.Proofs
attribute [local irreducible] Code.wp wpList Rd iq ObS Ent
attribute [local irreducible] ar bS ao aR aG cX
def dy (l : List (U Qd)) : (List (U Qd)) :=
 (bT l).1
theorem jF (l : List (U Qd)) (lv : Value) (hl : l.length ≤ 300) (zl : All (gM 30) l) (w0 : World) (hlv : View w0 lv l) : Calls zP 117 #[(.iface 55 (.agg #[])), lv] w0 (RetR w0 126 (dy l) (All (gM 20) (dy l) ∧ (dy l).length ≤ 3 * l.length)) := by
 refine enter (N := 14) Tryz.func117 rfl rfl ?_; intro ac h
 have hlenl := hlv.len
 refine gz h <| (W) ?_; clear h; intro _ _ h
 have s1 := RetT.pr ((fun w_ hB_ hS_ => fi l lv og zl w_ (hlv.below hB_)) _ h.bel h.sep)
 have p2 := s1.2
 refine xG (xs := (bT l).1) h (cB Tryz.call55 rfl) (fun w_ hB_ hS_ => fi l lv og zl w_ (hlv.below hB_)) rfl ?_; clear h; intro sv3 _ _ _ h
 exact (rx h) fun _ _ h => (by unfold dy; exact h.retR 0 rfl ⟨s1.1, og⟩)
attribute [irreducible] dy
def it (a : List (U Qd)) (b : List (U Qd)) (out : List (U Qd)) (x16 : Nat) : (List (U Qd)) :=
 (dy out)
def dC (a : List (U Qd)) (b : List (U Qd)) (out : List (U Qd)) (x16 : Nat) : Nx ((List (U Qd)) × Nat) (List (U Qd)) :=
 bif (decide ((x16 : Int) < ((au a b).length : Int))) then
  .go ((out ++ [(⟨(gt (au a b) x16).iv, (cd ((gt (au a b) x16).f) ((gt (au a b) x16).g))⟩ : U Qd)]), (x16 + 1))
 else
  .out (out, x16)
def bu (a : List (U Qd)) (b : List (U Qd)) : (List (U Qd)) :=
 fin (bo (fun s => dC a b s.1 s.2) (((au a b).length - 0) + 1) ([], 0)) (fun s => it a b s.1 s.2) (fun r => r)
def vj (x : Bt Qd Qd) : U Qd := ⟨x.iv, cd x.f x.g⟩
theorem jH (a : List (U Qd)) (av : Value) (b : List (U Qd)) (bv : Value) (hla : a.length ≤ 100) (hlb : b.length ≤ 100) (hz : All (gM 30) ((au a b).map vj)) (za : All (gM 30) a) (zb : All (gM 30) b) (w0 : World) (hav : View w0 av a) (hbv : View w0 bv b) : Calls zP 31 #[(.iface 55 (.agg #[])), av, bv, (.func (.func 32) #[] #[])] w0 (RetR w0 126 (bu a b) (All (gM 20) (bu a b) ∧ (bu a b).length ≤ 600)) := by
 refine enter (N := 36) Tryz.func31 rfl rfl ?_; intro ac h
 have hlena := hav.len
 have hlenb := hbv.len
 refine nG fun K1 hK1 => ?_
 refine rd0 h (az rfl) rfl <| gn hK1 <| gr fun K2 hK2 => g0 (az rfl) rfl <| gn hK2 <| gq fun K3 hK3 => gr fun K4 hK4 => g0 (ay rfl) rfl <| g0 (ay rfl) rfl ?_; clear h ac; intro ac wo h
 have s1 := RetR.pr ((fun w_ hB_ hS_ => j6 a av b bv og og za zb w_ (hav.below hB_) (hbv.below hB_)) _ h.bel h.sep)
 have p2 := s1.2
 refine lX (xs := (au a b)) h (cB Tryz.call116 rfl) (fun w_ hB_ hS_ => j6 a av b bv og og za zb w_ (hav.below hB_) (hbv.below hB_)) rfl ?_; clear h ac wo; intro sv3 ac wo _ h
 refine rd0 h (gZ uu179 rfl (h.row_sl 0 rfl)) rfl <| g0 (ay rfl) rfl <| gn hK4 <| gB ?_; clear h ac wo; intro ac wo h
 replace h := h.nilRow (α := U Qd) 126
 obtain ⟨X1, hX1⟩ : ∃ X, bo (fun s => dC a b s.1 s.2) (((au a b).length - 0) + 1) ([], 0) = X := ⟨_, rfl⟩
 refine wp_loop_ghost (fun n_ a_ w_ => ∃ (out : List (U Qd)) (x16 : Nat) (outv : Value), (((au a b).length - x16) < n_) ∧ (bo (fun s => dC a b s.1 s.2) n_ (out, x16) = X1) ∧ (x16 ≤ (au a b).length) ∧ (All (gM 6) out) ∧ (out = ((au a b).take x16).map vj) ∧ (out.length = x16) ∧ St w0 36 [(0, (.iface 55 (.agg #[]))), (3, (.func (.func 32) #[] #[])), (9, outv), (14, sv3), (15, (iN ((au a b).length))), (16, (iN x16))] [.row (α := U Qd) 126 outv out, .row (α := Bt Qd Qd) 182 sv3 (au a b)] a_ w_) (((au a b).length - 0) + 1) ⟨[], 0, (.slice none 0 0), og, hX1, og, All.nil, rfl, rfl, h.rs⟩ ?_
 clear h ac wo; rintro n1 ac wo ⟨out, x16, outv, hm1, hL1, hx16, zout, hu, hol, h⟩
 obtain ⟨m1, rfl⟩ : ∃ m, n1 = m + 1 := ⟨n1 - 1, by omega⟩
 refine gz h <| gr fun K5 hK5 => g0 (jq rfl rfl) rfl <| gn hK5 <| gq fun K6 hK6 => ?_; clear h ac wo; intro ac wo h
 refine jV h rfl (fun hc1 => ?_) (fun hc1 => ?_)
 ·skip
  have hd1 := of_decide_eq_true hc1
  refine la ?_
  refine hK6 _ _ ?_
  refine nB fun K7 hK7 => ?_
  refine nC ?_
  refine nG fun K8 hK8 => ?_
  refine rd0 h (gG (i := x16) uu179 zz182 rfl rfl (h.row_nn 1 rfl og) og) rfl <| g1 1 rfl (iA (k := 0) Tryz.isAgg182 zz182 (dM og) rfl (Nat.add_zero _) rfl rfl (v := (vBD (gt (au a b) x16))) rfl) rfl <| ga (cBD (⟨(⟨(⟨oQ, oQ, false⟩ : GR), (⟨oQ, oQ, false⟩ : GR), false, false⟩ : Iv), oD, oD⟩ : Bt Qd Qd)) Tryz.zeroValue182 rfl rfl fun b1 => gs 0 (cBD (gt (au a b) x16)) rfl zz182 rfl rfl rfl rfl rfl rfl rfl <| gn hK8 ?_; clear h ac wo; intro ac wo h
  have c5 := o7 ((gt (au a b) x16).f) ((gt (au a b) x16).g) (All.gt s1.1 (xW _)).2.1 (All.gt s1.1 (xW _)).2.2
  have s5 := Calls.pr (c5 w0)
  replace h := h.emps 1
  refine gm mixed [⟨.det outv, []⟩, ⟨.det (ptr b1 0), []⟩, ⟨.det (vV ((gt (au a b) x16).iv)), [0]⟩, ⟨.det (.func (.func 32) #[] #[]), []⟩, ⟨.det (ptr b1 20), []⟩, ⟨.det (vD ((gt (au a b) x16).f)), [0]⟩, ⟨.det (ptr b1 32), []⟩, ⟨.det (vD ((gt (au a b) x16).g)), [0]⟩, ⟨.det (vD (cd ((gt (au a b) x16).f) ((gt (au a b) x16).g))), []⟩, ⟨.det (vUD (⟨(gt (au a b) x16).iv, (cd ((gt (au a b) x16).f) ((gt (au a b) x16).g))⟩ : U Qd)), []⟩, ⟨.nd (.one 10 fun v => NN v 1), [3]⟩, ⟨.nd (.con True), [1, 3]⟩, ⟨.nd (.two 12 11 fun a b => a = b), []⟩] [⟨.blk b1 (cBD (gt (au a b) x16)) 182, []⟩, ⟨.row (α := U Qd) 126 outv out, [(11, .one 11 fun v => .row (α := U Qd) 126 v (out ++ [(⟨(gt (au a b) x16).iv, (cd ((gt (au a b) x16).f) ((gt (au a b) x16).g))⟩ : U Qd)]))]⟩, ⟨.row (α := Bt Qd Qd) 182 sv3 (au a b), []⟩, ⟨.emp, [(10, .one 10 fun v => .row (α := U Qd) 126 v ([(⟨(gt (au a b) x16).iv, (cd ((gt (au a b) x16).f) ((gt (au a b) x16).g))⟩ : U Qd)]))]⟩] h rfl (by kernel_rfl) ⟨?_, ?_, ?_, ?_, ?_, ?_, ?_, ?_, ?_, ?_, ?_, ?_, ?_, trivial⟩ ?_
  ·intro ξ hφ; exact a6 (ay rfl)
  ·intro ξ hφ; exact a6 (fa uu182 rfl Tryz.sizeOf86 rfl rfl rfl (k' := 0))
  ·intro ξ hφ; exact iM [.blk b1 (cBD (gt (au a b) x16)) 182] rfl rfl (iB Tryz.isAgg86 Tryz.sizeOf86 rfl rfl rfl (v := (vV ((gt (au a b) x16).iv))) rfl)
  ·intro ξ hφ; exact a6 (ay rfl)
  ·intro ξ hφ; exact a6 (fa uu182 rfl zz53 rfl rfl rfl (k' := 20))
  ·intro ξ hφ; exact iM [.blk b1 (cBD (gt (au a b) x16)) 182] rfl rfl (iB aa53 zz53 rfl rfl rfl (v := (vD ((gt (au a b) x16).f))) rfl)
  ·intro ξ hφ; exact a6 (fa uu182 rfl zz53 rfl rfl rfl (k' := 32))
  ·intro ξ hφ; exact iM [.blk b1 (cBD (gt (au a b) x16)) 182] rfl rfl (iB aa53 zz53 rfl rfl rfl (v := (vD ((gt (au a b) x16).g))) rfl)
  ·intro ξ hφ; exact kd (eV (nA (cap := []) Tryz.call32 rfl rfl) (kk c5))
  ·intro ξ hφ; exact a6 (bM jy rfl rfl (v := (vUD (⟨(gt (au a b) x16).iv, (cd ((gt (au a b) x16).f) ((gt (au a b) x16).g))⟩ : U Qd))) rfl)
  ·intro ξ hφ; exact ls (ψ := fun v => NN v 1) (B := fun v => [.row (α := U Qd) 126 v ([(⟨(gt (au a b) x16).iv, (cd ((gt (au a b) x16).f) ((gt (au a b) x16).g))⟩ : U Qd)])]) [.emp] rfl (fun v _ => by simp only [dJ, bm] <;> rfl) (fun v hv => by simpa [DF.one, bm] using hv) (jo (cj (α := U Qd) (xs := [.tmp 29]) (vs := [(vUD (⟨(gt (au a b) x16).iv, (cd ((gt (au a b) x16).f) ((gt (au a b) x16).g))⟩ : U Qd))]) [(⟨(gt (au a b) x16).iv, (cd ((gt (au a b) x16).f) ((gt (au a b) x16).g))⟩ : U Qd)] fM rfl rfl rfl DC))
  ·intro ξ hφ; exact ls (B := fun v => [.row (α := U Qd) 126 v (out ++ [(⟨(gt (au a b) x16).iv, (cd ((gt (au a b) x16).f) ((gt (au a b) x16).g))⟩ : U Qd)]), .row (α := U Qd) 126 (ξ 10) ([(⟨(gt (au a b) x16).iv, (cd ((gt (au a b) x16).f) ((gt (au a b) x16).g))⟩ : U Qd)])]) [.row (α := U Qd) 126 outv out, .row (α := U Qd) 126 (ξ 10) ([(⟨(gt (au a b) x16).iv, (cd ((gt (au a b) x16).f) ((gt (au a b) x16).g))⟩ : U Qd)])] rfl (fun v _ => by simp only [dJ, bm] <;> rfl) (fun _ _ => trivial) (er (xs := out) (ys := [(⟨(gt (au a b) x16).iv, (cd ((gt (au a b) x16).f) ((gt (au a b) x16).g))⟩ : U Qd)]) fM (fun w hs => (row_view hs 0 rfl)) rfl rfl og)
  ·intro ξ hφ; exact ob_n (φ := .two 12 11 fun a b => a = b) (v := ξ 11) [] rfl rfl (by show upd ξ 12 (ξ 11) 12 = upd ξ 12 (ξ 11) 11; rw [bm, kv DC]) (az rfl)
  clear h ac wo; intro ξ ac wo hφ h
  replace h : St w0 36 [(0, (.iface 55 (.agg #[]))), (3, (.func (.func 32) #[] #[])), (9, ξ 12), (14, sv3), (15, (iN ((au a b).length))), (16, (iN x16))] [.blk b1 (cBD (gt (au a b) x16)) 182, .row (α := U Qd) 126 (ξ 11) (out ++ [(⟨(gt (au a b) x16).iv, (cd ((gt (au a b) x16).f) ((gt (au a b) x16).g))⟩ : U Qd)]), .row (α := Bt Qd Qd) 182 sv3 (au a b)] ac wo := (h.pick [0, 1, 2] DC).sub ⟨rfl, rfl, rfl, rfl, rfl, rfl, trivial⟩
  rw [show ξ 12 = ξ 11 from hφ 12] at h
  generalize hsv11 : ξ 11 = sv6 at h; clear hsv11
  clear hφ ξ
  refine gz h <| gN <| gx hK7 <| gR <| g0 (eL rfl rfl (r := ((x16 + 1 : Nat) : Int)) (by rw [IntKind.wrap_i64]; first | omega | grind)) rfl <| g0 (ay rfl) rfl <| gx (fun _ _ => fS) ?_; clear h ac wo; intro ac wo h
  have hg := bq hL1 pt
  exact aE ⟨m1, og, _, _, _, og, hg, og, (All.app zout (All.cons ⟨(iI (All.gt s1.1 (xW _)).1 og), s5⟩ All.nil)), (by rw [hu, take_gt2 og, List.map_append]; rfl), og, h.re [1, 2]⟩
 ·skip
  have hd1 := of_decide_eq_false hc1
  refine jj ?_
  have hx1 := ck hL1 pt
  refine hK3 _ _ ?_
  refine nG fun K9 hK9 => ?_
  have hu2 : out = ((au a b).map vj) := by rw [hu, List.take_of_length_le og]
  have hnz : All (gM 30) out := by rw [hu2]; exact hz
  refine rd0 h (ay rfl) rfl <| g0 (ay rfl) rfl ?_; clear h ac wo; intro ac wo h
  have s7 := RetR.pr ((fun w_ hB_ hS_ => jF out outv og hnz w_ (row_view hS_ 0 rfl)) _ h.bel h.sep)
  have p8 := s7.2
  refine lX (xs := (dy out)) h (cB Tryz.call117 rfl) (fun w_ hB_ hS_ => jF out outv og hnz w_ (row_view hS_ 0 rfl)) rfl ?_; clear h ac wo; intro sv9 ac wo _ h
  refine rd0 h (az rfl) rfl <| gn hK9 <| gT ?_; clear h ac wo; intro ac wo h
  have hd : bu a b = (dy out) := pt
  exact (rt h) (by rw [hd]; exact h.retR 0 rfl ⟨s7.1, og⟩)
attribute [irreducible] bu
def iH (l : List (U Qd)) (x16 : Nat) : Int :=
 bif ((((bT l).2) != 0) || (!(fo l ((bT l).1)))) then
  5
 else
  0
def fF (l : List (U Qd)) (x16 : Nat) : Nx Nat Int :=
 bif (decide ((x16 : Int) < (l.length : Int))) then
  bif ((cc ((gt l x16).iv)) != 0) then
   .ret (cc ((gt l x16).iv))
  else
   bif ((dG ((gt l x16).f)) != 0) then
    .ret (dG ((gt l x16).f))
   else
    bif ((decide ((x16 : Int) > 0)) && (!(dp ((gt l (x16 - 1)).iv) ((gt l x16).iv)))) then
     .ret 7
    else
     .go (x16 + 1)
 else
  .out x16
def cN (l : List (U Qd)) : Int :=
 bif (decide ((l.length : Int) > 256)) then
  3
 else
  fin (bo (fun s => fF l s) ((l.length - 0) + 1) 0) (fun s => iH l s) (fun r => r)
theorem mu (l : List (U Qd)) (lv : Value) (hl : l.length ≤ 300) (hv : ∀ j, RtV (gt l j).iv) (zl : All (gM 30) l) (w0 : World) (hlv : View w0 lv l) : Calls zP 34 #[(.iface 55 (.agg #[])), lv] w0 (RetP w0 (.int .i64 (cN l)) (True)) := by
 refine enter (N := 64) Tryz.func34 rfl rfl ?_; intro ac h
 have hlenl := hlv.len
 refine gz h <| (ai) ?_ ?_ <;> clear h <;> intro _ _ h hc1
 ·
  have hd1 := of_decide_eq_true hc1
  have hd : cN l = 3 := pt
  exact (rx h) fun _ _ h => (h.retP (by rw [hd] <;> rfl) trivial)
 ·
  have hd1 := of_decide_eq_false hc1
  obtain ⟨X1, hX1⟩ : ∃ X, bo (fun s => fF l s) ((l.length - 0) + 1) 0 = X := ⟨_, rfl⟩
  refine gz h <| (W) ?_; clear h; intro _ _ h
  refine wp_loop_ghost (fun n_ a_ w_ => ∃ (x16 : Nat), ((l.length - x16) < n_) ∧ (bo (fun s => fF l s) n_ x16 = X1) ∧ (x16 ≤ l.length) ∧ St w0 64 [(0, (.iface 55 (.agg #[]))), (1, lv), (14, lv), (15, (iN l.length)), (16, (iN x16))] [] a_ w_) ((l.length - 0) + 1) ⟨0, og, hX1, og, h.rs⟩ ?_
  clear h; rintro n1 _ _ ⟨x16, hm1, hL1, hx16, h⟩
  obtain ⟨m1, rfl⟩ : ∃ m, n1 = m + 1 := ⟨n1 - 1, by omega⟩
  refine gz h <| (ai) ?_ ?_ <;> clear h <;> intro _ _ h hc2
  ·
   have hd2 := of_decide_eq_true hc2
   refine gz h <| (xa) fun b1 => (xk (jt ((gt l x16).iv) (hv _) (All.gt zl (bK _)).1)) <| (ai) ?_ ?_ <;> clear h <;> intro _ _ h hc3
   ·
    have q := hc3; try simp at q
    have hr1 := fR hL1 pt
    have hd : cN l = (cc ((gt l x16).iv)) := pt
    exact (rx h) fun _ _ h => (h.retP (by rw [hd] <;> rfl) trivial)
   ·
    have q := hc3; try simp at q
    refine gz h <| (xk (mr ((gt l x16).f) (All.gt zl (bK _)).2)) <| (ai) ?_ ?_ <;> clear h <;> intro _ _ h hc4
    ·
     have q := hc4; try simp at q
     have hr1 := fR hL1 pt
     have hd : cN l = (dG ((gt l x16).f)) := pt
     exact (rx h) fun _ _ h => (h.retP (by rw [hd] <;> rfl) trivial)
    ·
     have q := hc4; try simp at q
     refine gz h <| (dr0 (hob := (oG (by exact fun hg => jr ((gt l (x16 - 1)).iv) ((gt l x16).iv) 10 og (All.gt zl (bK _)).1 (All.gt zl (bK _)).1)) <| oE)) <| (ai) ?_ ?_ <;> clear h <;> intro _ _ h hc5
     ·
      have q := hc5; try simp at q
      have hr1 := fR hL1 pt
      have hd : cN l = 7 := pt
      exact (rx h) fun _ _ h => (h.retP (by rw [hd] <;> rfl) trivial)
     ·
      have q := hc5; try simp at q
      have hg := bq hL1 pt
      exact (nx h) fun _ _ h => by exact ⟨m1, og, _, og, hg, og, h.re []⟩
  ·
   have hd2 := of_decide_eq_false hc2
   have hx1 := ck hL1 pt
   refine gz h <| (W) ?_; clear h; intro _ _ h
   have s1 := RetT.pr ((fun w_ hB_ hS_ => fi l lv og zl w_ (hlv.below hB_)) _ h.bel h.sep)
   have p2 := s1.2
   refine xG (xs := (bT l).1) h (cB Tryz.call55 rfl) (fun w_ hB_ hS_ => fi l lv og zl w_ (hlv.below hB_)) rfl ?_; clear h; intro sv3 _ _ _ h
   refine gz h <| (xg (hs := by exact fun hg => eV enA (fun w_ hB_ hS_ => m8 l lv ((bT l).1) sv3 (All.mono zl (fun _ h_ => tH h_ og)) s1.1 w_ (hlv.below hB_) (row_view hS_ 0 rfl)))) <| (ai) ?_ ?_ <;> clear h <;> intro _ _ h hc6
   ·
    have q := hc6; try simp at q
    have hd : cN l = 5 := pt
    exact (rx h) fun _ _ h => (h.retP (by rw [hd] <;> rfl) trivial)
   ·
    have q := hc6; try simp at q
    have hd : cN l = 0 := pt
    exact (rx h) fun _ _ h => (h.retP (by rw [hd] <;> rfl) trivial)
attribute [irreducible] cN
end Go.Sx
namespace Go.Sx
theorem nt {γ : Type} [Inhabited γ] {N : List (U γ)} (ho : N.Pairwise fun a b => ey a.iv < (d4 b.iv : Int)) {p q : Nat} (h : p < q) (hq : q < N.length) : ey (gt N p).iv < (d4 (gt N q).iv : Int) := by
 have := List.pairwise_iff_getElem.1 ho p q og hq h
 rw [hH og, hH hq]; exact this
theorem pJ {x y : Iv} (hx : Wv x) (hy : Wv y) (h : (bc x y).2 = true) :
 Wv (bc x y).1 ∧ ∀ q, inU (bc x y).1 q ↔ inU x q ∧ inU y q := by
 rw [ti hx.1 hy.1] at h ⊢
 have hk := of_decide_eq_true h
 have tF : Tm (mF x y).at_ := by unfold mF; split; · rw [pf]; exact hy.1.1
                                 ·rw [pf]; exact hx.1.1
 have tL : Tm (mL x y).at_ := by unfold mL; split; · rw [pl]; exact hy.1.2
                                 ·rw [pl]; exact hx.1.2
 have e1 : d4 (ed (mF x y) (mL x y)) = kB (mF x y) := by unfold ed; rfl
 have e2 : ey (ed (mF x y) (mL x y)) = (kB (mL x y) : Int) - 1 := by
  unfold ed ey kB
  cases (mL x y).behind <;> simp <;> omega
 have hF : kB (mF x y) = max (kB (bI x)) (kB (bI y)) := by unfold mF; split <;> omega
 have hL : kB (mL x y) = min (kB (bE x)) (kB (bE y)) := by unfold mL; split <;> omega
 constructor
 ·refine ⟨⟨by unfold ed; exact tF, by unfold ed; exact tL⟩, ?_, ?_⟩
  ·unfold ed; dsimp only
   unfold kB at hk
   cases h1 : (mF x y).behind <;> cases h2 : (mL x y).behind <;> rw [h1, h2] at hk <;> simp at hk <;> omega
  ·unfold ed; dsimp only
   intro e
   unfold kB at hk
   rw [e] at hk
   cases h1 : (mF x y).behind <;> cases h2 : (mL x y).behind <;> rw [h1, h2] at hk <;> simp only [cond_true, cond_false] at hk <;> first | (exfalso; omega) | simp
 ·intro q
  unfold inU
  rw [e1, e2, hF, hL]
  have a1 := mU x
  have a2 := mU y
  have b1 := oB x
  have b2 := oB y
  omega
theorem meet_no {x y : Iv} (hx : Wv x) (hy : Wv y) (h : (bc x y).2 = false) : ∀ q, ¬ (inU x q ∧ inU y q) := by
 rw [ti hx.1 hy.1] at h
 have hk := of_decide_eq_false h
 have hF : kB (mF x y) = max (kB (bI x)) (kB (bI y)) := by unfold mF; split <;> omega
 have hL : kB (mL x y) = min (kB (bE x)) (kB (bE y)) := by unfold mL; split <;> omega
 intro q ⟨h1, h2⟩
 unfold inU at h1 h2
 have a1 := mU x
 have a2 := mU y
 have b1 := oB x
 have b2 := oB y
 omega
section
variable {α β : Type} [Inhabited α] [Inhabited β]
theorem vT {u : List (U α)} {v : List (U β)} {x : Bt α β} : x ∈ rfA (rfQ u v) v.length u.length 0 ↔ ∃ i k, i < u.length ∧ k < v.length ∧ (bc (gt u i).iv (gt v k).iv).2 = true ∧ x = ⟨(bc (gt u i).iv (gt v k).iv).1, (gt u i).f, (gt v k).f⟩ := by
 unfold rfA
 simp only [List.range_zero, List.flatMap_nil, List.append_nil, List.mem_flatMap, List.mem_range]
 constructor
 ·rintro ⟨i, hi, k, hk, hx⟩
  unfold rfQ at hx
  rw [decide_eq_true hi] at hx
  cases h : (bc (gt u i).iv (gt v k).iv).2 with
  | false => rw [h] at hx; cases hx
  | true => rw [h] at hx; exact ⟨i, k, hi, hk, h, List.mem_singleton.1 hx⟩
 ·rintro ⟨i, k, hi, hk, h, rfl⟩
  refine ⟨i, hi, k, hk, ?_⟩
  unfold rfQ
  rw [decide_eq_true hi, h]; exact List.mem_singleton.2 rfl
theorem rf_ord {u : List (U α)} {v : List (U β)} (hu : Od u) (hv : Od v) : (rfA (rfQ u v) v.length u.length 0).Pairwise fun a b => ey a.iv < (d4 b.iv : Int) := by
 have key : ∀ i i' k k' x y, x ∈ rfQ u v i k → y ∈ rfQ u v i' k' → k < v.length → k' < v.length → (i < i' ∨ i = i' ∧ k < k') → ey x.iv < (d4 y.iv : Int) := by
  intro i i' k k' x y hx hy hk hk' h
  unfold rfQ at hx hy
  by_cases hi : i < u.length
  ·by_cases hi' : i' < u.length
   ·rw [decide_eq_true hi] at hx
    rw [decide_eq_true hi'] at hy
    cases h1 : (bc (gt u i).iv (gt v k).iv).2 with
    | false => rw [h1] at hx; cases hx
    | true =>
     cases h2 : (bc (gt u i').iv (gt v k').iv).2 with
     | false => rw [h2] at hy; cases hy
     | true =>
      rw [h1] at hx; rw [h2] at hy
      rw [List.mem_singleton.1 hx, List.mem_singleton.1 hy]
      obtain ⟨w1, p1⟩ := pJ (hu.gt hi) (hv.gt hk) h1
      obtain ⟨w2, p2⟩ := pJ (hu.gt hi') (hv.gt hk') h2
      have c0 : (0 : Int) ≤ ey (bc (gt u i).iv (gt v k).iv).1 := Int.le_trans (Int.natCast_nonneg _) w1.le
      have q1 := (p1 (ey (bc (gt u i).iv (gt v k).iv).1).toNat).1 ⟨by have := w1.le; omega, by omega⟩
      have q2 := (p2 (d4 (bc (gt u i').iv (gt v k').iv).1)).1 ⟨Nat.le_refl _, w2.le⟩
      show ey (bc (gt u i).iv (gt v k).iv).1 < (d4 (bc (gt u i').iv (gt v k').iv).1 : Int)
      rcases h with h | ⟨rfl, h⟩
      ·have o := nt hu.ord h hi'
       have := q1.1.2; have := q2.1.1
       omega
      ·have o := nt hv.ord h hk'
       have := q1.2.2; have := q2.2.1
       omega
   ·rw [decide_eq_false hi'] at hy; cases hy
  ·rw [decide_eq_false hi] at hx; cases hx
 unfold rfA
 rw [List.range_zero, List.flatMap_nil, List.append_nil, List.pairwise_flatMap]
 refine ⟨fun i _ => ?_, List.pairwise_lt_range.imp fun {i i'} h x hx y hy => ?_⟩
 ·rw [List.pairwise_flatMap]
  refine ⟨fun k hk => ?_, List.pairwise_lt_range.imp_of_mem fun {k k'} hk hk' h x hx y hy => key i i k k' x y hx hy (List.mem_range.1 hk) (List.mem_range.1 hk') (.inr ⟨rfl, h⟩)⟩
  unfold rfQ
  cases decide (i < u.length)
  ·exact .nil
  ·cases (bc (gt u i).iv (gt v k).iv).2
   ·exact .nil
   ·exact List.pairwise_singleton _ _
 ·obtain ⟨k, hk, hx⟩ := List.mem_flatMap.1 hx
  obtain ⟨k', hk', hy⟩ := List.mem_flatMap.1 hy
  exact key i i' k k' x y hx hy (List.mem_range.1 hk) (List.mem_range.1 hk') (.inl h)
theorem rf_len (u : List (U α)) (v : List (U β)) : (rfA (rfQ u v) v.length u.length 0).length ≤ u.length * v.length := by
 have one : ∀ i k, (rfQ u v i k).length ≤ 1 := fun i k => by
  unfold rfQ
  cases decide (i < u.length)
  ·exact Nat.zero_le _
  ·cases (bc (gt u i).iv (gt v k).iv).2
   ·exact Nat.zero_le _
   ·exact Nat.le_refl _
 have flat : ∀ {δ : Type} (g : Nat → List δ) (c n : Nat), (∀ k, (g k).length ≤ c) → ((List.range n).flatMap g).length ≤ n * c := fun g c n h => by
  induction n with
  | zero => simp
  | succ n ih => rw [nY, List.length_append, Nat.succ_mul]; have := h n; omega
 unfold rfA
 rw [List.range_zero, List.flatMap_nil, List.append_nil]
 refine flat _ _ _ fun i => ?_
 have := flat (rfQ u v i) 1 v.length (one i)
 omega
end
end Go.Sx
namespace Go.Sx
section
variable {α : Type} [Inhabited α] {eqf : α → α → Bool} {same : α → α → GR → Bool} {red : α → GR → α}
theorem step_mem {L out : List (U α)} {x : Nat} {u : U α} (hu : u ∈ dr eqf same red L out x) : u ∈ out ∨ (0 < out.length ∧ u.f = (gt out (out.length - 1)).f) ∨ u.f = (gt L x).f ∨ u.f = red (gt L x).f (gt L x).iv.lo := by
 have hs : ∀ z : U α, u ∈ out.set (out.length - 1) z → z.f = (gt out (out.length - 1)).f → u ∈ out ∨ (0 < out.length ∧ u.f = (gt out (out.length - 1)).f) := fun z hu' hz => by
  rcases List.mem_or_eq_of_mem_set hu' with h | h
  ·exact .inl h
  ·by_cases h0 : 0 < out.length
   ·exact .inr ⟨h0, by rw [h, hz]⟩
   ·exact absurd (List.length_pos_of_mem hu') (by rw [List.length_set]; exact h0)
 have ha : ∀ z : U α, u ∈ out ++ [z] → (z.f = (gt L x).f ∨ z.f = red (gt L x).f (gt L x).iv.lo) → u ∈ out ∨ u.f = (gt L x).f ∨ u.f = red (gt L x).f (gt L x).iv.lo := fun z h hz => by
  rcases List.mem_append.1 h with h | h
  ·exact .inl h
  ·rw [List.mem_singleton.1 h]; exact .inr hz
 have wa : (u ∈ out ∨ u.f = (gt L x).f ∨ u.f = red (gt L x).f (gt L x).iv.lo) → u ∈ out ∨ (0 < out.length ∧ u.f = (gt out (out.length - 1)).f) ∨ u.f = (gt L x).f ∨ u.f = red (gt L x).f (gt L x).iv.lo := fun h => by
  rcases h with h | h
  ·exact .inl h
  ·exact .inr (.inr h)
 have ws : (u ∈ out ∨ (0 < out.length ∧ u.f = (gt out (out.length - 1)).f)) → u ∈ out ∨ (0 < out.length ∧ u.f = (gt out (out.length - 1)).f) ∨ u.f = (gt L x).f ∨ u.f = red (gt L x).f (gt L x).iv.lo := fun h => by
  rcases h with h | h
  ·exact .inl h
  ·exact .inr (.inl h)
 simp only [dr, jh, kp, Bool.cond_eq_ite] at hu
 repeat' split at hu
 all_goals first | exact .inl hu | exact wa (ha _ hu (.inl rfl)) | exact wa (ha _ hu (.inr rfl)) | exact ws (hs _ hu rfl)
theorem norm_f {L : List (U α)} : ∀ k, k ≤ L.length → ∀ u ∈ es (dr eqf same red L) [] k, ∃ i, i < L.length ∧ (u.f = (gt L i).f ∨ u.f = red (gt L i).f (gt L i).iv.lo)
 | 0, _, u, hu => by cases hu
 | k + 1, hk, u, hu => by
  have ih : ∀ u ∈ es (dr eqf same red L) [] k, ∃ i, i < L.length ∧ (u.f = (gt L i).f ∨ u.f = red (gt L i).f (gt L i).iv.lo) := norm_f k og
  have hu : u ∈ dr eqf same red L (es (dr eqf same red L) [] k) k := hu
  generalize es (dr eqf same red L) [] k = out at *
  rcases step_mem hu with h | ⟨h0, h⟩ | h
  ·exact ih u h
  ·rw [h]; exact ih _ (gC og)
  ·exact ⟨k, by omega, h⟩
end
def Bf (B : Nat) (f : Qd) : Prop := DOk f ∧ RB B (g7 f.c0) ∧ RB B (g7 f.c1) ∧ RB B (g7 f.c2)
theorem Bf.mono {B C : Nat} {f : Qd} (h : Bf B f) (hc : B ≤ C) : Bf C f := ⟨h.1, h.2.1.mono hc, h.2.2.1.mono hc, h.2.2.2.mono hc⟩
theorem Bf.sz {n : Nat} {f : Qd} (h : Bf (256 ^ n - 1) f) (hn : n * 2 ^ 30 ≤ 70368744177664) : SzD 30 f :=
 ⟨qQ h.1.1 h.2.1 hn, qQ h.1.2.1 h.2.2.1 hn, qQ h.1.2.2 h.2.2.2 hn⟩
theorem add_bf {B : Nat} {f g : Qd} (hf : Bf B f) (hg : Bf B g) : Bf (2 * (B * B)) (cd f g) := by
 obtain ⟨⟨a0, a1, a2⟩, b0, b1, b2⟩ := hf
 obtain ⟨⟨c0, c1, c2⟩, d0, d1, d2⟩ := hg
 obtain ⟨p0, q0⟩ := oa a0 c0
 obtain ⟨p1, q1⟩ := oa a1 c1
 obtain ⟨p2, q2⟩ := oa a2 c2
 unfold cd Bf
 dsimp only
 rw [q0, q1, q2]
 exact ⟨⟨p0, p1, p2⟩, b0.add d0, b1.add d1, b2.add d2⟩
def tsm (x : GR) : Bool := decide (x.p.num.mag ≤ 1024 ∧ o8 x.p ≤ 1024 ∧ x.r.num.mag ≤ 1024 ∧ o8 x.r ≤ 1024)
theorem tm_rb {t : GR} (ht : Tm t) : RB 1024 (g7 t.p) ∧ RB 1024 (g7 t.r) := by
 have h := qw (p := tsm) (by decide +kernel) ht
 obtain ⟨h1, h2, h3, h4⟩ := of_decide_eq_true h
 have ok := nl ht
 rw [oq ok.1, oq ok.2]
 exact ⟨⟨by show (iX t.p.num).natAbs ≤ 1024; rw [kK]; exact h1, h2⟩, ⟨by show (iX t.r.num).natAbs ≤ 1024; rw [kK]; exact h3, h4⟩⟩
theorem red_bf {B : Nat} {f : Qd} {t : GR} (hB : 1 ≤ B) (hf : Bf B f) (ht : Tm t) : Bf (4294967296 * (B * B * B)) (aI f t) := by
 obtain ⟨hd, b0, b1, b2⟩ := hf
 obtain ⟨rp, rr⟩ := tm_rb ht
 obtain ⟨k0, k1, k2, k3⟩ := j0 hd (nl ht)
 have z : RB 1 (0 : Rat) := ⟨Nat.zero_le _, Nat.le_refl _⟩
 have m1 : B * B ≤ B * B * B := Nat.le_mul_of_pos_right _ hB
 have m2 : B ≤ B * B := Nat.le_mul_of_pos_right _ hB
 unfold aI Bf
 rw [k1, k2, k3, l8.2]
 refine ⟨k0, ?_, ?_, z.mono og⟩
 ·unfold lv
  split
  ·refine (b0.add (rp.mul (b1.add (rp.mul b2)))).mono ?_
   have : 2 * (B * (1024 * (2 * (B * (1024 * B))))) = 4194304 * (B * B * B) := by grind
   omega
  ·refine (b0.add (b2.mul (rr.sub (rp.mul rp)))).mono ?_
   have : 2 * (B * (B * (2 * (1024 * (1024 * 1024))))) = 4294967296 * (B * B) := by grind
   omega
 ·unfold lv
  split
  ·exact z.mono og
  ·refine (b1.add ((b2.add b2).mul rp)).mono ?_
   have : 2 * (B * (2 * (B * B) * 1024)) = 4096 * (B * B * B) := by grind
   omega
end Go.Sx
namespace Go.Sx
def fsm (a : GQ) : Bool := decide (a.num.mag ≤ 8 ∧ o8 a ≤ 8)
theorem wZ {a : GQ} (h : QOk a) (hs : fsm a = true) : RB 8 (g7 a) := by
 obtain ⟨h1, h2⟩ := of_decide_eq_true hs
 rw [oq h]
 exact ⟨by show (iX a.num).natAbs ≤ 8; rw [kK]; exact h1, h2⟩
theorem fs_bf {f : Qd} (hf : Fs f) : Bf 8 f := by
 have hd := fs_ok hf
 obtain ⟨a, ha, b, hb, c, hc, rfl⟩ := fs_qd hf
 have h : (J3.all fun a => J2.all fun b => J1.all fun c => fsm (qd a b c).c0 && fsm (qd a b c).c1 && fsm (qd a b c).c2) = true := by decide +kernel
 have := List.all_eq_true.1 (List.all_eq_true.1 (List.all_eq_true.1 h a ha) b hb) c hc
 rw [Bool.and_eq_true, Bool.and_eq_true] at this
 exact ⟨hd, wZ hd.1 this.1.1, wZ hd.2.1 this.1.2, wZ hd.2.2 this.2⟩
def nb (l : List Stp) : List (U Qd) := am (an l)
theorem kX (l : List Stp) : Od (nb l) := ⟨(ve l).1.wv, (ve l).1.ord⟩
theorem nb_bf (l : List Stp) : ∀ x ∈ nb l, Bf 2199023255552 x.f := fun x hx => by
 have hE := (mY (l := (an l).map (·.iv)) (fun i hi => by obtain ⟨x, hx, rfl⟩ := List.mem_map.1 hi; exact (qL l x hx).1.1)).1
 unfold nb am at hx
 rw [kt, mI, mZ] at hx
 obtain ⟨i, hi, hh, hf⟩ := tB _ (Nat.le_refl _) x hx
 have hl : (iP (default : Qd) (an l) (kY ((an l).map (·.iv)))).length = (gb (default : Qd) (kY ((an l).map (·.iv)))).length := by unfold iP; rw [List.length_map]
 have hb : gt (gb (default : Qd) (kY ((an l).map (·.iv)))) i ∈ gb (default : Qd) (kY ((an l).map (·.iv))) := by rw [hH (hl ▸ hi)]; exact List.getElem_mem _
 have hT := (rL hE hb).1
 rw [lV hi] at hh hf
 have hfs : Fs (kQ (an l) (gt (gb default (kY ((an l).map (·.iv)))) i)).f := by
  rcases n7 _ _ hh with ⟨h1, _⟩ | ⟨y, hy, h2⟩
  ·rcases kr.1 hb with ⟨t, _, e⟩ | ⟨t, t', _, e⟩
   ·rw [e] at h1; cases h1
   ·rw [e] at h1; cases h1
  ·rw [h2]; exact ((lc l).1 y hy).2
 rcases hf with e | e
 ·rw [e]; exact (fs_bf hfs).mono DC
 ·rw [e, (gL _ _).1]; exact (red_bf DC (fs_bf hfs) hT).mono DC
def cml (l m : List Stp) : List (U Qd) := (rfA (rfQ (nb l) (nb m)) (nb m).length (nb l).length 0).map vj
theorem cml_is (l m : List Stp) : (au (nb l) (nb m)).map vj = cml l m := by rw [s0 (kX l) (kX m)]; rfl
theorem sM (l m : List Stp) : ∀ x ∈ cml l m, Wv x.iv ∧ Bf 9671406556917033397649408 x.f := fun x hx => by
 obtain ⟨b, hb, rfl⟩ := List.mem_map.1 hx
 obtain ⟨i, k, hi, hk, h, rfl⟩ := vT.1 hb
 refine ⟨(pJ ((kX l).gt hi) ((kX m).gt hk) h).1, ?_⟩
 exact (add_bf (nb_bf l _ (gC hi)) (nb_bf m _ (gC hk))).mono DC
theorem cml_ord (l m : List Stp) : (cml l m).Pairwise fun a b => ey a.iv < (d4 b.iv : Int) := List.pairwise_map.2 (rf_ord (kX l) (kX m))
theorem wC (l : List Stp) (h : (an l).length ≤ 16) : (nb l).length ≤ 16 := Nat.le_trans (xM l) h
theorem cml_len (l m : List Stp) (h1 : (an l).length ≤ 16) (h2 : (an m).length ≤ 16) : (cml l m).length ≤ 256 := by
 unfold cml
 rw [List.length_map]
 refine Nat.le_trans (rf_len (nb l) (nb m)) (Nat.le_trans (Nat.mul_le_mul (wC l h1) (wC m h2)) DC)
theorem szv_of {i : Iv} (h : Wv i) : SzV 30 i := ⟨cJ (qk h.1.1) DC, cJ (qk h.1.2) DC⟩
theorem mp_z (l m : List Stp) : All (gM 30) ((au (am (an l)) (am (an m))).map vj) := by
 show All (gM 30) ((au (nb l) (nb m)).map vj)
 rw [cml_is]
 exact fun x hx => ⟨szv_of (sM l m x hx).1, ((sM l m x hx).2.mono DC).sz (n := 11) DC⟩
end Go.Sx
namespace Go.Sx
theorem comb_is (a b : List (U Qd)) : bu a b = dy ((au a b).map vj) := by
 have h := nX (R := List (U Qd)) (f := fun (o : List (U Qd)) (x : Bt Qd Qd) => o ++ [vj x]) (au a b) (B := fun s => dC a b s.1 s.2) (fun o i hi => by
  show dC a b o i = _
  unfold dC
  rw [decide_eq_true (by omega : (i : Int) < ((au a b).length : Int))]; rfl) (fun o => by
  show dC a b o (au a b).length = _
  unfold dC
  rw [decide_eq_false (by omega : ¬ ((au a b).length : Int) < ((au a b).length : Int))]; rfl) (au a b) [] [] ((au a b).length - 0 + 1) rfl og
 unfold bu
 refine (gD h).trans ?_
 show it a b _ _ = _
 unfold it
 rw [mH, List.nil_append]
 congr 1
 clear h
 generalize au a b = l
 show (l.flatMap fun x => [vj x]) = l.map vj
 induction l with
 | nil => rfl
 | cons u l ih => rw [List.flatMap_cons, List.map_cons, ih]; rfl
theorem kU_lt {α : Type} {a b : U α} (ha : Wv a.iv) (hb : Wv b.iv) (h : ey a.iv < (d4 b.iv : Int)) : kU a.iv < kU b.iv := by
 have h1 := ha.le
 have h2 := sX ha.1.2
 have e : ∀ i : Iv, kU i = d4 i * 100000 + tk i.hi := fun i => by unfold kU d4; omega
 rw [e, e]
 have : d4 a.iv < d4 b.iv := by omega
 have := Nat.mul_le_mul_right 100000 (show d4 a.iv + 1 ≤ d4 b.iv from this)
 rw [Nat.add_mul] at this
 omega
theorem rW {n : List (U Qd)} (hW : ∀ x ∈ n, Wv x.iv) (ho : n.Pairwise fun a b => ey a.iv < (d4 b.iv : Int)) : ag n = n ∧ ax n = n :=
 rY (fun u hu => (hW u hu).1) (.refl _) (ho.imp_of_mem fun ha hb h => kU_lt (hW _ ha) (hW _ hb) h)
theorem wt {n : List (U Qd)} (hW : ∀ x ∈ n, Wv x.iv ∧ DOk x.f) (ho : n.Pairwise fun a b => ey a.iv < (d4 b.iv : Int)) :
 bT n = (es (dr bF aW aI (n.flatMap atU)) [] (n.flatMap atU).length, 0) := by
 obtain ⟨e1, e2⟩ := rW (fun x hx => (hW x hx).1) ho
 rw [qE (e1.trans e2.symm), iV (by rw [e2]) fun i h0 h1 => by
  rw [e2, kS (hW _ (gC og)).1.1 (hW _ (gC h1)).1.1]
  exact decide_eq_true (nt ho og h1), iW, kI, e2]
structure NFs (n N : List (U Qd)) : Prop where
 nf : NF bF aW aI N
 ok : ∀ x ∈ N, DOk x.f
 sem : Sem aW n N
 len : N.length ≤ n.length
 fn : ∀ x ∈ N, ∃ w ∈ n, x.f = w.f ∨ ∃ t, Tm t ∧ x.f = aI w.f t
theorem ww {n : List (U Qd)} (hW : ∀ x ∈ n, Wv x.iv ∧ DOk x.f) (ho : n.Pairwise fun a b => ey a.iv < (d4 b.iv : Int)) : ∃ N, bT n = (N, 0) ∧ NFs n N := by
 refine ⟨_, wt hW ho, ?_⟩
 have h := tU (eqf := bF) (red := aI) quads_ru (fun a b => (i7 a b).1) hW ho
 refine ⟨h.1, h.2.1, h.2.2, uh (fun a b => (i7 a b).1) (fun x hx => (hW x hx).1) (fun x hx t ht => quads_ru.refl t ht _ (hW x hx).2) _ [] rfl ⟨fun _ h => (by cases h), Nat.le_refl 0⟩, fun x hx => ?_⟩
 obtain ⟨i, hi, e⟩ := norm_f _ (Nat.le_refl _) x hx
 have hm := gC hi
 obtain ⟨w, hw, ha⟩ := List.mem_flatMap.1 hm
 refine ⟨w, hw, ?_⟩
 have hf := at_f ha
 rcases e with e | e
 ·exact .inl (by rw [e, hf])
 ·right
  refine ⟨(gt (n.flatMap atU) i).iv.lo, ?_, by rw [e, hf]⟩
  rcases (uC (hW w hw).1 (hW w hw).2 ha).1.2 with ⟨t, ht, e⟩ | ⟨t, t', ht, _, _, e⟩
  ·rw [e]; exact ht
  ·rw [e]; exact ht
theorem xF {n : List (U Qd)} (hl : n.length ≤ 256) (h : NF bF aW aI n) (hD : ∀ x ∈ n, DOk x.f) : cN n = 0 := by
 obtain ⟨e1, e2⟩ := rW h.wv h.ord
 have e := qE (e1.trans e2.symm)
 rw [← check_nf hl h hD]
 unfold cN iK
 have k1 : iH n = gK n := by
  funext i
  unfold iH gK
  rw [e]
 have b1 : fF n = eY n := by
  funext i
  unfold fF eY
  rfl
 rw [k1, b1]
section
variable (l m : List Stp)
theorem oL : NFs (cml l m) (bu (nb l) (nb m)) := by
 obtain ⟨N, e, h⟩ := ww (fun x hx => ⟨(sM l m x hx).1, (sM l m x hx).2.1⟩) (cml_ord l m)
 rw [comb_is, cml_is]
 unfold dy
 rw [e]; exact h
theorem mp_z2 : All (gM 30) (bu (nb l) (nb m)) := fun x hx => by
 have h := oL l m
 obtain ⟨w, hw, hf⟩ := h.fn x hx
 have hb := (sM l m w hw).2
 refine ⟨szv_of (h.nf.wv x hx), Bf.sz (n := 36) ?_ DC⟩
 rcases hf with e | ⟨t, ht, e⟩
 ·rw [e]; exact hb.mono (by decide +kernel)
 ·rw [e]; exact (red_bf DC hb ht).mono (by decide +kernel)
theorem wF (h1 : (an l).length ≤ 16) (h2 : (an m).length ≤ 16) : (bu (nb l) (nb m)).length ≤ 256 := Nat.le_trans (oL l m).len (cml_len l m h1 h2)
theorem mp_rt2 : ∀ j, RtV (gt (bu (nb l) (nb m)) j).iv := nf_rt (oL l m).nf.wv
theorem mp_chk2 (h1 : (an l).length ≤ 16) (h2 : (an m).length ≤ 16) : cN (bu (nb l) (nb m)) = 0 := xF (wF l m h1 h2) (oL l m).nf (oL l m).ok
end
end Go.Sx
namespace Go.Sx
open Go Go.RowKit Go.Proofs
attribute [local irreducible] Code.wp wpList Rd iq ObS Ent
attribute [local irreducible] ar bS ao aR aG cX
def d7 (f : Int) : Int :=
 0
theorem md (f : Int) (w0 : World) : Calls zP 371 #[(.agg #[]), (.int .i64 f)] w0 (RetP w0 (.int .i64 (d7 f)) (True)) := by
 refine enter (N := 5) Tryz.func371 rfl rfl ?_; intro ac h
 refine gz h <| (xb) fun b1 => (W) ?_; clear h; intro _ _ h
 exact (rt h) (h.retP (by unfold d7; rfl) trivial)
attribute [irreducible] d7
def kG (l : List (U Int)) (x16 : Nat) : Int :=
 bif ((((bX l).2) != 0) || (!(gg l ((bX l).1)))) then
  5
 else
  0
def fp (l : List (U Int)) (x16 : Nat) : Nx Nat Int :=
 bif (decide ((x16 : Int) < (l.length : Int))) then
  bif ((cc ((gt l x16).iv)) != 0) then
   .ret (cc ((gt l x16).iv))
  else
   bif ((d7 ((gt l x16).f)) != 0) then
    .ret (d7 ((gt l x16).f))
   else
    bif ((decide ((x16 : Int) > 0)) && (!(dp ((gt l (x16 - 1)).iv) ((gt l x16).iv)))) then
     .ret 7
    else
     .go (x16 + 1)
 else
  .out x16
def dq (l : List (U Int)) : Int :=
 bif (decide ((l.length : Int) > 256)) then
  3
 else
  fin (bo (fun s => fp l s) ((l.length - 0) + 1) 0) (fun s => kG l s) (fun r => r)
theorem ns (l : List (U Int)) (lv : Value) (hl : l.length < 20) (hv : ∀ j, RtV (gt l j).iv) (zl : All (mh 30) l) (w0 : World) (hlv : View w0 lv l) : Calls zP 33 #[(.iface 59 (.agg #[])), lv] w0 (RetP w0 (.int .i64 (dq l)) (True)) := by
 refine enter (N := 64) Tryz.func33 rfl rfl ?_; intro ac h
 have hlenl := hlv.len
 refine gz h <| (ai) ?_ ?_ <;> clear h <;> intro _ _ h hc1
 ·
  have hd1 := of_decide_eq_true hc1
  have hd : dq l = 3 := pt
  exact (rx h) fun _ _ h => (h.retP (by rw [hd] <;> rfl) trivial)
 ·
  have hd1 := of_decide_eq_false hc1
  obtain ⟨X1, hX1⟩ : ∃ X, bo (fun s => fp l s) ((l.length - 0) + 1) 0 = X := ⟨_, rfl⟩
  refine gz h <| (W) ?_; clear h; intro _ _ h
  refine wp_loop_ghost (fun n_ a_ w_ => ∃ (x16 : Nat), ((l.length - x16) < n_) ∧ (bo (fun s => fp l s) n_ x16 = X1) ∧ (x16 ≤ l.length) ∧ St w0 64 [(0, (.iface 59 (.agg #[]))), (1, lv), (14, lv), (15, (iN l.length)), (16, (iN x16))] [] a_ w_) ((l.length - 0) + 1) ⟨0, og, hX1, og, h.rs⟩ ?_
  clear h; rintro n1 _ _ ⟨x16, hm1, hL1, hx16, h⟩
  obtain ⟨m1, rfl⟩ : ∃ m, n1 = m + 1 := ⟨n1 - 1, by omega⟩
  refine gz h <| (ai) ?_ ?_ <;> clear h <;> intro _ _ h hc2
  ·
   have hd2 := of_decide_eq_true hc2
   refine gz h <| (xa) fun b1 => (xk (jt ((gt l x16).iv) (hv _) (All.gt zl (dN _)))) <| (ai) ?_ ?_ <;> clear h <;> intro _ _ h hc3
   ·
    have q := hc3; try simp at q
    have hr1 := fR hL1 pt
    have hd : dq l = (cc ((gt l x16).iv)) := pt
    exact (rx h) fun _ _ h => (h.retP (by rw [hd] <;> rfl) trivial)
   ·
    have q := hc3; try simp at q
    refine gz h <| (xk (md ((gt l x16).f))) <| (ai) ?_ ?_ <;> clear h <;> intro _ _ h hc4
    ·
     have q := hc4; try simp at q
     have hr1 := fR hL1 pt
     have hd : dq l = (d7 ((gt l x16).f)) := pt
     exact (rx h) fun _ _ h => (h.retP (by rw [hd] <;> rfl) trivial)
    ·
     have q := hc4; try simp at q
     refine gz h <| (dr0 (hob := (oG (by exact fun hg => jr ((gt l (x16 - 1)).iv) ((gt l x16).iv) 10 og (All.gt zl (dN _)) (All.gt zl (dN _)))) <| oE)) <| (ai) ?_ ?_ <;> clear h <;> intro _ _ h hc5
     ·
      have q := hc5; try simp at q
      have hr1 := fR hL1 pt
      have hd : dq l = 7 := pt
      exact (rx h) fun _ _ h => (h.retP (by rw [hd] <;> rfl) trivial)
     ·
      have q := hc5; try simp at q
      have hg := bq hL1 pt
      exact (nx h) fun _ _ h => by exact ⟨m1, og, _, og, hg, og, h.re []⟩
  ·
   have hd2 := of_decide_eq_false hc2
   have hx1 := ck hL1 pt
   refine gz h <| (W) ?_; clear h; intro _ _ h
   have s1 := RetT.pr ((fun w_ hB_ hS_ => gI l lv og zl w_ (hlv.below hB_)) _ h.bel h.sep)
   have p2 := s1.2
   refine xG (xs := (bX l).1) h (cB Tryz.call119 rfl) (fun w_ hB_ hS_ => gI l lv og zl w_ (hlv.below hB_)) rfl ?_; clear h; intro sv3 _ _ _ h
   refine gz h <| (xg (hs := by exact fun hg => eV enA (fun w_ hB_ hS_ => nr l lv ((bX l).1) sv3 zl s1.1 w_ (hlv.below hB_) (row_view hS_ 0 rfl)))) <| (ai) ?_ ?_ <;> clear h <;> intro _ _ h hc6
   ·
    have q := hc6; try simp at q
    have hd : dq l = 5 := pt
    exact (rx h) fun _ _ h => (h.retP (by rw [hd] <;> rfl) trivial)
   ·
    have q := hc6; try simp at q
    have hd : dq l = 0 := pt
    exact (rx h) fun _ _ h => (h.retP (by rw [hd] <;> rfl) trivial)
attribute [irreducible] dq
end Go.Sx
namespace Go.Sx
def mpU (u : U Qd) : U Int := ⟨u.iv, bC u.f⟩
theorem map_is (a : List (U Qd)) : cf a = (bX (a.map mpU)).1 := by
 have h := nX (R := List (U Int)) (f := fun (o : List (U Int)) (x : U Qd) => o ++ [mpU x]) a (B := fun s => eM a s.1 s.2) (fun o i hi => by
  show eM a o i = _
  unfold eM
  rw [decide_eq_true (by omega : (i : Int) < (a.length : Int))]; rfl) (fun o => by
  show eM a o a.length = _
  unfold eM
  rw [decide_eq_false (by omega : ¬ (a.length : Int) < (a.length : Int))]; rfl) a [] [] (a.length - 0 + 1) rfl og
 unfold cf
 refine (gD h).trans ?_
 show jN a _ _ = _
 unfold jN ej
 rw [mH, List.nil_append]
 congr 2
 clear h
 show (a.flatMap fun x => [mpU x]) = a.map mpU
 induction a with
 | nil => rfl
 | cons u l ih => rw [List.flatMap_cons, List.map_cons, ih]; rfl
theorem qS {n : List (U Int)} (hW : ∀ x ∈ n, Wv x.iv) (ho : n.Pairwise fun a b => ey a.iv < (d4 b.iv : Int)) : ah n = n := by
 obtain ⟨q1, q2⟩ := uO (fun u hu => (hW u hu).1)
 exact (jS q1.symm (ho.imp_of_mem fun ha hb h => kU_lt (hW _ ha) (hW _ hb) h) q2).symm
theorem sc {n : List (U Int)} (hW : ∀ x ∈ n, Wv x.iv) (ho : n.Pairwise fun a b => ey a.iv < (d4 b.iv : Int)) :
 bX n = (es (dr ch bV bp (n.flatMap atU)) [] (n.flatMap atU).length, 0) := by
 have e2 := qS hW ho
 rw [q9 (by rw [e2]) fun i h0 h1 => by
  rw [e2, kS (hW _ (gC og)).1 (hW _ (gC h1)).1]
  exact decide_eq_true (nt ho og h1), wn, uW, e2]
structure NFi (n N : List (U Int)) : Prop where
 nf : NF ch bV bp N
 sem : Sem bV n N
 len : N.length ≤ n.length
theorem wr {n : List (U Int)} (hW : ∀ x ∈ n, Wv x.iv) (ho : n.Pairwise fun a b => ey a.iv < (d4 b.iv : Int)) : ∃ N, bX n = (N, 0) ∧ NFi n N := by
 refine ⟨_, sc hW ho, ?_⟩
 have h := tU (eqf := ch) (red := bp) labels_ru (fun a b => (mB a b).1) (fun u hu => ⟨hW u hu, trivial⟩) ho
 exact ⟨h.1, h.2.2, uh (fun a b => (mB a b).1) hW (fun x hx t ht => labels_ru.refl t ht _ trivial) _ [] rfl ⟨fun _ h => (by cases h), Nat.le_refl 0⟩⟩
theorem normI_nf {n : List (U Int)} (h : NF ch bV bp n) : bX n = (n, 0) := by
 rw [sc h.wv h.ord, wy h (fun x hx t ht => labels_ru.refl t ht _ trivial) n [] rfl rfl]
theorem tu (n : List (U Int)) : gg n n = true := by
 unfold gg eqUI
 rw [show (((n.length : Int)) != ((n.length : Int))) = false by simp, cond_false]
 refine (gD (mj (n := n.length) (r := false) (bad := fun i => !(et (gt n i) (gt n i))) (fun i hi => by
  unfold pV
  rw [decide_eq_true (by omega : (i : Int) < (n.length : Int)), cond_true]) (by
  unfold pV
  rw [decide_eq_false (by omega : ¬ (n.length : Int) < (n.length : Int))]
  rfl) (n.length - 0 + 1) 0 (Nat.zero_le _) og fun i _ _ => ?_)).trans rfl
 show (!(et (gt n i) (gt n i))) = false
 unfold et
 rw [decide_eq_true rfl, (mB _ _).2 rfl]; rfl
theorem xE {n : List (U Int)} (hl : n.length ≤ 256) (h : NF ch bV bp n) : dq n = 0 := by
 unfold dq
 rw [decide_eq_false (by omega : ¬ (n.length : Int) > 256), cond_false]
 have hB : ∀ i, i < n.length → fp n i = bif false then .ret 0 else .go (i + 1) := fun i hi => by
  have hm : gt n i ∈ n := gC hi
  unfold fp
  have hc : d7 (gt n i).f = 0 := by unfold d7; rfl
  rw [decide_eq_true (by omega : (i : Int) < (n.length : Int)), cond_true, vcheck (h.wv _ hm), hc]
  have ha : ((decide ((i : Int) > 0)) && (!(dp ((gt n (i - 1)).iv) ((gt n i).iv)))) = false := by
   by_cases h0 : 0 < i
   ·have hm' : gt n (i - 1) ∈ n := gC og
    rw [kS (h.wv _ hm').1 (h.wv _ hm).1, decide_eq_true (nt h.ord og hi), Bool.not_true, Bool.and_false]
   ·rw [decide_eq_false (by omega : ¬ (i : Int) > 0)]; rfl
  rw [ha]; rfl
 refine (gD (mj (bad := fun _ => false) hB (by
  unfold fp
  rw [decide_eq_false (by omega : ¬ (n.length : Int) < (n.length : Int))]
  rfl) (n.length - 0 + 1) 0 (Nat.zero_le _) og fun _ _ _ => rfl)).trans ?_
 unfold kG
 rw [normI_nf h, tu]
 rfl
section
variable (l : List Stp)
theorem rm : NFi ((nb l).map mpU) (cf (nb l)) := by
 obtain ⟨N, e, h⟩ := wr (n := (nb l).map mpU) (fun x hx => by obtain ⟨u, hu, rfl⟩ := List.mem_map.1 hx; exact (kX l).wv u hu) (List.pairwise_map.2 (kX l).ord)
 rw [map_is, e]; exact h
theorem wG (h : (an l).length ≤ 16) : (cf (nb l)).length < 20 := by
 have h1 := (rm l).len
 rw [List.length_map] at h1
 have := wC l h
 omega
theorem mp_rt1 : ∀ j, RtV (gt (cf (nb l)) j).iv := fun j => by
 by_cases hj : j < (cf (nb l)).length
 ·have := (rm l).nf.wv _ (gC hj)
  exact ⟨tm_rt this.1.1, tm_rt this.1.2⟩
 ·rw [gt_out og]; exact ⟨.inl rfl, .inl rfl⟩
theorem mp_chk1 (h : (an l).length ≤ 16) : dq (cf (nb l)) = 0 := xE (by have := wG l h; omega) (rm l).nf
end
end Go.Sx
namespace Go.Sx
section
variable {α : Type} [Inhabited α] {eqf : α → α → Bool} {same : α → α → GR → Bool} {red : α → GR → α}
def EnL (L : List (U α)) (e : GR) : Prop := ∃ x ∈ L, e = x.iv.lo ∨ e = x.iv.hi
theorem step_end {L out : List (U α)} {x : Nat} (hx : x < L.length) (ih : ∀ u ∈ out, EnL L u.iv.lo ∧ EnL L u.iv.hi) {u : U α} (hu : u ∈ dr eqf same red L out x) : EnL L u.iv.lo ∧ EnL L u.iv.hi := by
 have hg : EnL L (gt L x).iv.lo ∧ EnL L (gt L x).iv.hi := ⟨⟨_, gC hx, .inl rfl⟩, ⟨_, gC hx, .inr rfl⟩⟩
 have hl : 0 < out.length → EnL L (gt out (out.length - 1)).iv.lo ∧ EnL L (gt out (out.length - 1)).iv.hi := fun h0 => ih _ (gC og)
 have hs : ∀ z : U α, u ∈ out.set (out.length - 1) z → (0 < out.length → EnL L z.iv.lo ∧ EnL L z.iv.hi) → EnL L u.iv.lo ∧ EnL L u.iv.hi := fun z h hz => by
  have h0 : 0 < out.length := by have := List.length_pos_of_mem h; rwa [List.length_set] at this
  rcases List.mem_or_eq_of_mem_set h with h | h
  ·exact ih u h
  ·rw [h]; exact hz h0
 have ha : ∀ z : U α, u ∈ out ++ [z] → (EnL L z.iv.lo ∧ EnL L z.iv.hi) → EnL L u.iv.lo ∧ EnL L u.iv.hi := fun z h hz => by
  rcases List.mem_append.1 h with h | h
  ·exact ih u h
  ·rw [List.mem_singleton.1 h]; exact hz
 simp only [dr, jh, kp, Bool.cond_eq_ite] at hu
 repeat' split at hu
 all_goals first | exact ih u hu | exact ha _ hu hg | exact hs _ hu (fun h0 => ⟨(hl h0).1, hg.2⟩) | exact hs _ hu (fun h0 => hl h0)
theorem uc {L : List (U α)} : ∀ k, k ≤ L.length → ∀ u ∈ es (dr eqf same red L) [] k, EnL L u.iv.lo ∧ EnL L u.iv.hi
 | 0, _, u, hu => by cases hu
 | k + 1, hk, u, hu => step_end og (uc k og) hu
end
theorem en_atoms {n : List (U Qd)} {e : GR} (h : EnL (n.flatMap atU) e) : En n e := by
 obtain ⟨a, ha, he⟩ := h
 obtain ⟨u, hu, ha⟩ := List.mem_flatMap.1 ha
 refine ⟨u, hu, ?_⟩
 unfold atU at ha
 cases h1 : u.iv.openLo <;> cases h2 : aL u.iv <;> cases h3 : u.iv.openHi <;> rw [h1, h2, h3] at ha <;> simp at ha <;> (try rcases ha with ha | ha | ha) <;> (try rcases ha with ha | ha) <;> first | (rcases he with he | he <;> first | exact .inl he | exact .inr he) | (subst ha; rcases he with he | he <;> first | exact .inl he | exact .inr he) | (exact absurd ha (by simp))
theorem wD (l : List Stp) : FarE (nb l) := by
 have key : ∀ e, En (nb l) e → En (an l) e := fun e ⟨x, hx, he⟩ => by
  have hb := qL l
  obtain ⟨s1, s2⟩ := kw (fun x hx => (hb x hx).1.1)
  have h := bn_is l
  rw [iV s1.length_eq fun i h0 h1 => (po (fun x hx => (hb x hx).1) s1 s2).2 (lc l).2 i h0 (by rw [s1.length_eq]; exact h1), iW, kI] at h
  have h1 := congrArg Prod.fst h
  dsimp only at h1
  have hx' : x ∈ am (an l) := hx
  rw [← h1] at hx'
  have hE := uc _ (Nat.le_refl _) x hx'
  have hE2 : EnL ((ax (an l)).flatMap atU) e := by
   rcases he with he | he
   ·rw [he]; exact hE.1
   ·rw [he]; exact hE.2
  obtain ⟨w, hw, he⟩ := en_atoms hE2
  exact ⟨w, s1.mem_iff.1 hw, he⟩
 exact ⟨fun e he => (sQ l).1 e (key e he), fun e f he hf => (sQ l).2 e f (key e he) (key f hf)⟩
theorem mp_gap (l : List Stp) : ∀ i, 0 < i → i < (ak (nb l) []).length → BtP (gt (ak (nb l) []) (i - 1)) (gt (ak (nb l) []) i) := fun i h0 hi => (xi (kX l).wv (wD l) i h0 hi).1
end Go.Sx
namespace Go.Sx
theorem bps_len (s : Stp) (b : Qd) (t : GR) (k : Bool) : (bPs s b t k).length ≤ 1 := by
 unfold bPs bPt
 simp only [Bool.cond_eq_ite]
 repeat' split
 all_goals simp
theorem bgp_len (s : Stp) (t t' : GR) (k : Bool) : (bGp s t t' k).length ≤ 1 := by
 unfold bGp
 simp only [Bool.cond_eq_ite]
 repeat' split
 all_goals simp
def LI (s : (List (U Qd)) × Nat × Bool × Bool × Nat × Qd) : Prop := s.2.2.2.2.1 ≤ 8 ∧ s.1.length ≤ 2 * s.2.2.2.2.1
theorem len_inv (l : List Stp) (s : (List (U Qd)) × Nat × Bool × Bool × Nat × Qd) (h : LI s) :
 nxP LI (fun _ => False) (cY l s.1 s.2.1 s.2.2.1 s.2.2.2.1 s.2.2.2.2.1 s.2.2.2.2.2) := by
 obtain ⟨out, a, root, taken, i, before⟩ := s
 obtain ⟨h1, h2⟩ := h
 simp only at h1 h2
 rw [oM]
 cases hc : ((decide ((i : Int) < (l.length : Int))) && (decide ((i : Int) < 8))) with
 | false => exact ⟨h1, h2⟩
 | true =>
  have hi : (i : Int) < 8 := of_decide_eq_true (by rw [Bool.and_eq_true] at hc; exact hc.2)
  refine ⟨by dsimp only; omega, ?_⟩
  dsimp only
  simp only [List.length_append]
  have q1 := fun k => bps_len (gt l i) before (ae a root) k
  have q2 := fun t' k => bgp_len (gt l i) (ae a root) t' k
  have := q1 taken
  grind
theorem qb (l : List Stp) : (an l).length ≤ 16 := by
 have h := pk (R := List (U Qd)) (Q := fun _ => False) (B := fun s => cY l s.1 s.2.1 s.2.2.1 s.2.2.2.1 s.2.2.2.2.1 s.2.2.2.2.2) (I := LI) (len_inv l) ((8 - 0) + 1) ([], 0, false, false, 0, default)
  ⟨by decide, by decide⟩
 have e : ∃ s, LI s ∧ an l = s.1 := by
  unfold an
  revert h
  generalize bo _ _ _ = X
  intro h
  cases X with
  | inl s =>
   refine ⟨s, h, ?_⟩
   show fL l s.1 s.2.1 s.2.2.1 s.2.2.2.1 s.2.2.2.2.1 s.2.2.2.2.2 = _
   unfold fL
   rfl
  | inr r => exact h.elim
 obtain ⟨s, ⟨h1, h2⟩, e⟩ := e
 rw [e]; omega
end Go.Sx
namespace Go.Sx
theorem rJ {N : List (U Int)} (hw : ∀ u ∈ N, Tv u.iv) {t : GR} (ht : Tm t) (hm : ∀ p q, p < q → q < N.length → tk (gt N p).iv.hi ≤ tk (gt N q).iv.hi) :
 ∀ k i j, j - i < k → i ≤ j → j ≤ N.length → (∀ p, p < i → tk (gt N p).iv.hi < tk t) → (∀ p, j ≤ p → p < N.length → tk t ≤ tk (gt N p).iv.hi) →
  ∃ m, m ≤ N.length ∧ bo (fun s => aS N t s.1 s.2) k (i, j) = .inl (m, m) ∧ (∀ p, p < m → tk (gt N p).iv.hi < tk t) ∧ (∀ p, m ≤ p → p < N.length → tk t ≤ tk (gt N p).iv.hi)
 | k + 1, i, j, hk, hij, hj, h1, h2 => by
  by_cases e : i < j
  ·have hlt : (i + j) / 2 < N.length := by omega
   have hc : fG (gt N ((i + j) / 2)) t = sgn (tk (gt N ((i + j) / 2)).iv.hi) (tk t) := by
    unfold fG; exact (hw _ (gtm hlt)).2.cmp ht
   by_cases hlt2 : tk (gt N ((i + j) / 2)).iv.hi < tk t
   ·have hB : aS N t i j = .go (((i + j) / 2) + 1, j) := by
     unfold aS
     rw [decide_eq_true (by omega : (i : Int) < (j : Int)), hc, f7 hlt2]; rfl
    rw [fJ (B := fun s => aS N t s.1 s.2) k hB]
    refine rJ hw ht hm k _ _ og og hj (fun p hp => ?_) h2
    by_cases e2 : p = (i + j) / 2
    ·rw [e2]; exact hlt2
    ·have := hm p ((i + j) / 2) og hlt
     omega
   ·have hB : aS N t i j = .go (i, (i + j) / 2) := by
     unfold aS
     rw [decide_eq_true (by omega : (i : Int) < (j : Int)), hc]
     have : decide (sgn (tk (gt N ((i + j) / 2)).iv.hi) (tk t) < 0) = false := by
      rcases Nat.lt_or_eq_of_le (Nat.le_of_not_lt hlt2) with h3 | h3
      ·rw [gW h3]; rfl
      ·rw [h3, ee]; rfl
     rw [this]; rfl
    rw [fJ (B := fun s => aS N t s.1 s.2) k hB]
    refine rJ hw ht hm k _ _ og og og h1 (fun p hp hp2 => ?_)
    by_cases e2 : p = (i + j) / 2
    ·rw [e2]; omega
    ·have := hm ((i + j) / 2) p og hp2
     omega
  ·have hB : aS N t i j = .out (i, j) := by
    unfold aS
    rw [decide_eq_false (by omega : ¬ (i : Int) < (j : Int))]; rfl
   have e3 : i = j := by omega
   subst e3
   exact ⟨i, hj, gj k hB, h1, h2⟩
theorem uE {N : List (U Int)} (hw : ∀ u ∈ N, Wv u.iv) (ho : N.Pairwise fun a b => ey a.iv < (d4 b.iv : Int)) {t : GR} (ht : Tm t) :
 (∃ u ∈ N, inU u.iv (2 * tk t) ∧ dL N t = (u.f, true)) ∨ ((∀ u ∈ N, ¬ inU u.iv (2 * tk t)) ∧ (dL N t).2 = false) := by
 have par : ∀ i : Iv, (d4 i = 2 * tk i.lo ∧ i.openLo = false ∨ d4 i = 2 * tk i.lo + 1 ∧ i.openLo = true) ∧ (ey i = 2 * (tk i.hi : Int) ∧ i.openHi = false ∨ ey i = 2 * (tk i.hi : Int) - 1 ∧ i.openHi = true) := fun i => by
  rcases wY i with ⟨a1, a2⟩ | ⟨a1, a2⟩ <;> rcases wN i with ⟨b1, b2⟩ | ⟨b1, b2⟩ <;> simp [a1, a2, b1, b2]
 have hm : ∀ p q, p < q → q < N.length → tk (gt N p).iv.hi ≤ tk (gt N q).iv.hi := fun p q h hq => by
  have h1 := nt ho h hq
  have h2 := (hw _ (gtm hq)).le
  have := par (gt N p).iv
  have := par (gt N q).iv
  omega
 have hm2 : ∀ p q, p < q → q < N.length → tk (gt N p).iv.lo ≤ tk (gt N q).iv.lo := fun p q h hq => by
  have h1 := nt ho h hq
  have h2 := (hw _ (gtm (by omega : p < N.length))).le
  have := par (gt N p).iv
  have := par (gt N q).iv
  omega
 obtain ⟨m, hmn, hl, i1, i2⟩ := rJ (fun u hu => (hw u hu).1) ht hm (N.length - 0 + 1) 0 N.length og (Nat.zero_le _) (Nat.le_refl _) (fun p hp => by omega) (fun p h1 h2 => by omega)
 have hbs : (aK N t).1 = (m : Int) := by
  unfold aK
  rw [gD hl]; rfl
 unfold dL
 rw [hbs, Int.toNat_natCast]
 obtain ⟨b, b1, b2, b3, b4⟩ := pi (B := fun s => fc N t s) (fun i => i) (n := N.length) (brk := fun i => decide ((ar (((gt N i).iv).lo) t) > 0))
  (hit := fun i => ((decide ((ar (((gt N i).iv).lo) t) < 0)) || (!((gt N i).iv).openLo)) && ((!(decide (((gt N i).iv).hi = t))) || (!((gt N i).iv).openHi))) (r := fun i => ((gt N i).f, true)) (o := fun i => i)
  (fun i hi => by
    show fc N t i = _
    unfold fc
    rw [decide_eq_true (by omega : (i : Int) < (N.length : Int))]; rfl)
  (by
    show fc N t N.length = _
    unfold fc
    rw [decide_eq_false (by omega : ¬ (N.length : Int) < (N.length : Int))]; rfl) (N.length - m + 1) m hmn og
 have hk : ∀ i, i < N.length → m ≤ i → decide ((ar (((gt N i).iv).lo) t) > 0) = false →
  ((((decide ((ar (((gt N i).iv).lo) t) < 0)) || (!((gt N i).iv).openLo)) && ((!(decide (((gt N i).iv).hi = t))) || (!((gt N i).iv).openHi))) = true ↔ inU (gt N i).iv (2 * tk t)) := fun i hi hmi hb => by
  have hv := (hw _ (gtm hi)).1
  rw [hv.1.cmp ht] at hb ⊢
  have h2 := i2 i hmi hi
  have hp := par (gt N i).iv
  have he : decide ((gt N i).iv.hi = t) = decide (tk (gt N i).iv.hi = tk t) := decide_eq_decide.2 (hv.2.inj ht).symm
  rw [he]
  unfold inU
  rcases Nat.lt_trichotomy (tk (gt N i).iv.lo) (tk t) with h1 | h1 | h1
  ·rw [f7 h1]
   rcases hp with ⟨hp1 | hp1, hp2 | hp2⟩ <;> simp [hp1.1, hp1.2, hp2.1, hp2.2] <;> omega
  ·rw [h1, ee]
   rcases hp with ⟨hp1 | hp1, hp2 | hp2⟩ <;> simp [hp1.1, hp1.2, hp2.1, hp2.2] <;> omega
  ·rw [gW h1] at hb; cases hb
 rcases b4 with ⟨c1, c2, c3, c4⟩ | ⟨c1, c2⟩
 ·exact .inl ⟨gt N b, gtm c1, (hk b c1 b1 c2).1 c3, fin_r c4⟩
 ·right
  refine ⟨fun u hu hi => ?_, by rw [gD c2]; rfl⟩
  obtain ⟨i, hi2, rfl⟩ := sm hu
  have hp := par (gt N i).iv
  have hi1 := hi.1
  have hi3 := hi.2
  by_cases e1 : i < m
  ·have := i1 i e1
   omega
  ·by_cases e2 : i < b
   ·obtain ⟨d1, d2⟩ := b3 i og e2
    rw [(hk i hi2 og d1).2 hi] at d2; cases d2
   ·rcases c1 with c1 | ⟨c1, c3⟩
    ·omega
    ·have hv := (hw _ (gtm c1)).1
     rw [hv.1.cmp ht] at c3
     have h3 : tk t < tk (gt N b).iv.lo := by
      rcases Nat.lt_trichotomy (tk (gt N b).iv.lo) (tk t) with h1 | h1 | h1
      ·rw [f7 h1] at c3; cases c3
      ·rw [h1, ee] at c3; cases c3
      ·exact h1
     by_cases e3 : i = b
     ·subst e3; omega
     ·have := hm2 b i og hi2
      omega
end Go.Sx
namespace Go.Sx
open Go Go.RowKit Go.Proofs
attribute [local irreducible] Code.wp wpList Rd iq ObS Ent
attribute [local irreducible] ar bS ao aR aG cX
def eD (p : Qd) (q : Qd) : Qd :=
 (⟨(aV p.c0 q.c0), (aV p.c1 q.c1), (aV p.c2 q.c2)⟩ : Qd)
theorem lF (p : Qd) (q : Qd) (zp : SzD 30 p) (zq : SzD 30 q) (w0 : World) : Calls zP 32 #[(vD p), (vD q)] w0 (RetP w0 (vD (eD p q)) (SzD 16 (eD p q))) := by
 refine enter (N := 21) Tryz.func32 rfl rfl ?_; intro ac h
 refine gz h <| (xb) fun b1 => (xb) fun b2 => (xa) fun b3 => (W) ?_; clear h; intro _ _ h
 have c1 := bU p.c0 q.c0 27 og zp.1 zq.1
 have s1 := aA (c1 w0)
 have s2 := aA ((bU p.c1 q.c1 27 og zp.2.1 zq.2.1) w0)
 have s3 := aA ((bU p.c2 q.c2 27 og zp.2.2 zq.2.2) w0)
 refine gz h <| (dr1 (H := [⟨.blk b3 (cD oD) 53, [(16, .con (.blk b3 (cD (⟨(aV p.c0 q.c0), (aV p.c1 q.c1), (aV p.c2 q.c2)⟩ : Qd)) 53))]⟩, ⟨.blk b2 (cD q) 53, []⟩, ⟨.blk b1 (cD p) 53, []⟩]) (hob := (oK (c1)) <| (oK (bU p.c1 q.c1 27 og zp.2.1 zq.2.1)) <| (oK (bU p.c2 q.c2 27 og zp.2.2 zq.2.2)) <| (oX (h := by exact fun _ => a6 (bM tG exs rfl (v := (vD (⟨(aV p.c0 q.c0), (aV p.c1 q.c1), (aV p.c2 q.c2)⟩ : Qd))) rfl))) <| oE)) <| (W) ?_; clear h; intro _ _ h
 exact ret h rfl (.cell (v := (vD (⟨(aV p.c0 q.c0), (aV p.c1 q.c1), (aV p.c2 q.c2)⟩ : Qd))) rfl (i := 0) rfl aa53 zz53 rfl rfl rfl .nil) rfl (h.retP (by unfold eD; rfl) (by unfold eD; exact ⟨(fu s1 og), (fu s2 og), (fu s3 og)⟩))
attribute [irreducible] eD
end Go.Sx
namespace Go.Sx
theorem lsame (f g : Int) (t : GR) : bV f g t = true ↔ f = g := by unfold bV; simp
section
variable (l m : List Stp) {t : GR} (ht : Tm t)
include ht
theorem mp_one : (dL (cf (nb l)) t).2 = (a7 (nb l) t).2 ∧ ((a7 (nb l) t).2 = true → (dL (cf (nb l)) t).1 = aR (a7 (nb l) t).1.c1) := by
 have hs := rm l
 have inn : ∀ y ∈ cf (nb l), inU y.iv (2 * tk t) → ∃ x ∈ nb l, inU x.iv (2 * tk t) ∧ y.f = aR x.f.c1 := fun y hy hi => by
  obtain ⟨w, hw, h1, h2⟩ := hs.sem.s1 t ht y hy hi
  obtain ⟨x, hx, rfl⟩ := List.mem_map.1 hw
  have e := (lsame _ _ _).1 h2
  have e2 : (mpU x).f = aR x.f.c1 := by unfold mpU bC; rfl
  exact ⟨x, hx, h1, e.trans e2⟩
 rcases lx (fun u hu => ((kX l).wv u hu).1) ht with ⟨x, hx, hi, e⟩ | ⟨hn, e⟩
 ·rw [e]
  rcases uE hs.nf.wv hs.nf.ord ht with ⟨y, hy, hj, e'⟩ | ⟨hn', e'⟩
  ·rw [e']
   obtain ⟨x', hx', hi', hf⟩ := inn y hy hj
   have : x = x' := (ve l).1.one hx hx' hi hi'
   subst this
   exact ⟨rfl, fun _ => hf⟩
  ·obtain ⟨y, hy, hj, _⟩ := hs.sem.c1 t ht (mpU x) (List.mem_map_of_mem hx) hi
   exact absurd hj (hn' y hy)
 ·rw [e]
  rcases uE hs.nf.wv hs.nf.ord ht with ⟨y, hy, hj, e'⟩ | ⟨hn', e'⟩
  ·obtain ⟨x', hx', hi', _⟩ := inn y hy hj
   exact absurd hi' (hn x' hx')
  ·exact ⟨e', fun h => by cases h⟩
end
end Go.Sx
namespace Go.Sx
theorem addL_eq (f g : Qd) : eD f g = cd f g := by with_unfolding_all rfl
theorem cml_mem {l m : List Stp} {x : U Qd} (hx : x ∈ cml l m) : ∃ a ∈ nb l, ∃ b ∈ nb m, (∀ q, inU x.iv q ↔ inU a.iv q ∧ inU b.iv q) ∧ x.f = cd a.f b.f := by
 obtain ⟨b, hb, rfl⟩ := List.mem_map.1 hx
 obtain ⟨i, k, hi, hk, h, rfl⟩ := vT.1 hb
 exact ⟨_, gC hi, _, gC hk, (pJ ((kX l).gt hi) ((kX m).gt hk) h).2, rfl⟩
theorem cml_at {l m : List Stp} {a b : U Qd} (ha : a ∈ nb l) (hb : b ∈ nb m) {q : Nat} (h1 : inU a.iv q) (h2 : inU b.iv q) : ∃ x ∈ cml l m, inU x.iv q ∧ x.f = cd a.f b.f := by
 obtain ⟨i, hi, rfl⟩ := sm ha
 obtain ⟨k, hk, rfl⟩ := sm hb
 cases h : (bc (gt (nb l) i).iv (gt (nb m) k).iv).2 with
 | false => exact absurd ⟨h1, h2⟩ (meet_no ((kX l).gt hi) ((kX m).gt hk) h q)
 | true => exact ⟨_, List.mem_map_of_mem (vT.2 ⟨i, k, hi, hk, h, rfl⟩), ((pJ ((kX l).gt hi) ((kX m).gt hk) h).2 q).2 ⟨h1, h2⟩, rfl⟩
section
variable (l m : List Stp) {t : GR} (ht : Tm t)
include ht
theorem mp_two : (cO (bu (nb l) (nb m)) t).2 = ((a7 (nb l) t).2 && (a7 (nb m) t).2) ∧
 ((cO (bu (nb l) (nb m)) t).2 = true → eR (cO (bu (nb l) (nb m)) t).1 (eD (a7 (nb l) t).1 (a7 (nb m) t).1) t = true) := by
 have hs := oL l m
 have inn : ∀ y ∈ bu (nb l) (nb m), inU y.iv (2 * tk t) → ∃ a ∈ nb l, ∃ b ∈ nb m, inU a.iv (2 * tk t) ∧ inU b.iv (2 * tk t) ∧ eR y.f (cd a.f b.f) t = true := fun y hy hi => by
  obtain ⟨w, hw, h1, h2⟩ := hs.sem.s1 t ht y hy hi
  obtain ⟨a, ha, b, hb, hp, hf⟩ := cml_mem hw
  obtain ⟨p1, p2⟩ := (hp _).1 h1
  refine ⟨a, ha, b, hb, p1, p2, ?_⟩
  rw [← hf]
  unfold aW at h2; exact h2
 rcases At_spec hs.nf.wv hs.nf.ord ht with ⟨y, hy, hj, e'⟩ | ⟨hn', e'⟩
 ·obtain ⟨a, ha, b, hb, p1, p2, hsame⟩ := inn y hy hj
  rcases lx (fun u hu => ((kX l).wv u hu).1) ht with ⟨x, hx, hi, e⟩ | ⟨hn, e⟩
  ·rcases lx (fun u hu => ((kX m).wv u hu).1) ht with ⟨x2, hx2, hi2, e2⟩ | ⟨hn2, e2⟩
   ·have q1 : a = x := (ve l).1.one ha hx p1 hi
    have q2 : b = x2 := (ve m).1.one hb hx2 p2 hi2
    subst q1; subst q2
    rw [e', e, e2, addL_eq]
    exact ⟨rfl, fun _ => hsame⟩
   ·exact absurd p2 (hn2 b hb)
  ·exact absurd p1 (hn a ha)
 ·rw [e']
  refine ⟨?_, fun h => by cases h⟩
  rcases lx (fun u hu => ((kX l).wv u hu).1) ht with ⟨x, hx, hi, e⟩ | ⟨hn, e⟩
  ·rcases lx (fun u hu => ((kX m).wv u hu).1) ht with ⟨x2, hx2, hi2, e2⟩ | ⟨hn2, e2⟩
   ·obtain ⟨w, hw, hw1, _⟩ := cml_at hx hx2 hi hi2
    obtain ⟨y, hy, hj, _⟩ := hs.sem.c1 t ht w hw hw1
    exact absurd hj (hn' y hy)
   ·rw [e2, Bool.and_false]
  ·rw [e, Bool.false_and]
end
end Go.Sx
