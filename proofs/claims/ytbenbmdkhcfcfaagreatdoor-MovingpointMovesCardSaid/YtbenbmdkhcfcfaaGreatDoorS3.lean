/- A part of the proof of movingpointMoves. -/
import Derived.Test.YtbenbmdkhcfcfaaGreatDoorR8
import Derived.Test.YtbenbmdkhcfcfaaGreatDoorS1
set_option linter.unusedVariables false
set_option linter.unusedSimpArgs false
open Go.Proofs.Tryz renaming runUnderlying232 → uu232, runUnderlying80 → uu80, isAgg27 → aa27, sizeOf27 → zz27, call164 → cc164
namespace Go.Sx
def kcL (p q : Nat) : List GR := (List.range 65).map inZ ++ [ap (qa p), ap (qa (p + q)), gX p]
theorem inZ0 : (default : GR) = inZ 0 := by
  have e : au 0 = ⟨false, 0⟩ := sU (jo 0) (fun _ => rfl) (by rw [eZ]; rfl)
  have h : ah ((0 : Nat) : Int) = ⟨⟨false, 0⟩, ⟨false, 0⟩⟩ := by unfold ah; rw [show ((0 : Nat) : Int) = 0 from rfl, e]
  unfold inZ
  rw [h]
  unfold ap
  rfl
theorem rX {p q : Nat} {x : GR} (h : x ∈ kcL p q) : (∃ n, n ≤ 64 ∧ x = inZ n) ∨ x = ap (qa p) ∨ x = ap (qa (p + q)) ∨ x = gX p := by
  unfold kcL at h
  rcases List.mem_append.1 h with h | h
  · obtain ⟨n, hn, rfl⟩ := List.mem_map.1 h
    exact .inl ⟨n, by have := List.mem_range.1 hn; omega, rfl⟩
  · simp at h; exact .inr h
theorem kcL_z {p q n : Nat} (h : n ≤ 64) : inZ n ∈ kcL p q := List.mem_append_left _ (List.mem_map_of_mem (List.mem_range.2 (by omega)))
theorem kc_ok {p q : Nat} {x : GR} (h : x ∈ kcL p q) : ROk x := by
  rcases rX h with ⟨n, _, rfl⟩ | rfl | rfl | rfl
  · exact inZ_ok n
  · exact uf (nB _).1
  · exact uf (nB _).1
  · exact gX_ok p
theorem kc_bq {p q : Nat} (hp : p < 256) (hq : q < 256) {x : GR} (h : x ∈ kcL p q) : Bq 100 x.p ∧ Bq 100 x.r := by
  rcases rX h with ⟨n, hn, rfl⟩ | rfl | rfl | rfl
  · exact ⟨Bq.int _ (by omega) (by decide), Bq.zero (by decide)⟩
  · exact ⟨(qa_bq (by omega)).le (by decide), Bq.zero (by decide)⟩
  · exact ⟨(qa_bq (by omega)).le (by decide), Bq.zero (by decide)⟩
  · exact ⟨(qa_bq (by omega)).le (by decide), Bq.int _ (by decide) (by decide)⟩
theorem kc_rt {p q : Nat} {x : GR} (h : x ∈ kcL p q) : RtR x := by
  rcases rX h with ⟨n, _, rfl⟩ | rfl | rfl | rfl
  · rw [show inZ n = ap (ah (n : Int)) from rfl]; unfold RtR; rw [(fr_p _).2.1]; exact ⟨by decide, rfl⟩
  · unfold RtR; rw [(fr_p _).2.1]; exact ⟨by decide, rfl⟩
  · unfold RtR; rw [(fr_p _).2.1]; exact ⟨by decide, rfl⟩
  · exact ⟨by show (ah ((2 : Nat) : Int)).num.mag < 4; rw [show (ah ((2 : Nat) : Int)).num = au ((2 : Nat) : Int) by unfold ah; rfl, ← gh, eZ]; decide, by show (ah 2).den = _; unfold ah; rfl⟩
abbrev keyC (p q : Nat) (hp : p < 256) (hq : q < 256) : Key where
  l := kcL p q
  ok := fun _ => kc_ok
  sz := by unfold kcL; simp
  z := by rw [inZ0]; exact kcL_z (by decide)
  rt := fun x h => kc_rt h
  szr := fun x h => ⟨bQ ((kc_bq hp hq h).1.sz (by decide)) (by decide), bQ ((kc_bq hp hq h).2.sz (by decide)) (by decide)⟩
theorem uJ {p q : Nat} {hp : p < 256} {hq : q < 256} {x : GR} : @Tm (keyC p q hp hq) x ↔ x ∈ kcL p q := by
  letI := keyC p q hp hq
  rw [← Tm.iff, decide_eq_true_iff]; rfl
theorem kcZ (p q : Nat) (hp : p < 256) (hq : q < 256) : @KeyZ (keyC p q hp hq) := @KeyZ.mk (keyC p q hp hq) fun n hn => uJ.2 (kcL_z hn)
theorem kcB (p q : Nat) (hp : p < 256) (hq : q < 256) : @KeyB (keyC p q hp hq) := @KeyB.mk (keyC p q hp hq) fun t ht => (kc_bq hp hq (uJ.1 ht)).1
theorem kcG (p q : Nat) (hp : p < 256) (hq : q < 256) : @KeyG (keyC p q hp hq) p q := @KeyG.mk (keyC p q hp hq) p q (uJ.2 (List.mem_append_right _ (by simp))) (uJ.2 (List.mem_append_right _ (by simp))) (uJ.2 (List.mem_append_right _ (by simp)))
end Go.Sx
namespace Go.Sx
open Go Go.RowKit Go.Proofs
set_option maxRecDepth 100000
set_option maxHeartbeats 40000000
attribute [local irreducible] Code.wp wpList Rd Step ObS Ent
attribute [local irreducible] ao aN ah aw ay bP ap aM
attribute [local irreducible] aU aR ak an aD aj aY dR iP bG au
theorem short_ct (c : Crq) (s : List Stq) (sv : Value) (w0 : World) (hsv : View w0 sv s) : Calls Tryz.prog 49 #[vCr c sv] w0 (dh w0 (.bool (decide (((s.length : Nat) : Int) ≤ 6))) True) := by
 refine enter (N := 7) (args := [vCr c sv]) Tryz.func49 rfl rfl ?_; intro ac h
 have hlen := hsv.len
 refine gz h <| (xb) fun b1 => (W) ?_; clear h ac; intro ac wo h
 exact (rt h) (h.retP rfl trivial)
section
variable [K : Key] [KeyZ] [KeyB]
omit [KeyZ] [KeyB] in
theorem mv_sz {l : List (U Ln)} (hN : NFl l) (hD : ∀ u ∈ l, DT u.f) (k : Nat) (hk : k ≤ 30) : All (gG k) l := fun u hu => pM (rq (hN.wv u hu) ((hD u hu).bl (by decide)) (by decide)) hk
omit [KeyZ] [KeyB] in
end
end Go.Sx
namespace Go.Sx
open Go Go.RowKit Go.Proofs
set_option maxRecDepth 100000
set_option maxHeartbeats 40000000
attribute [local irreducible] Code.wp wpList Rd Step ObS Ent
attribute [local irreducible] ao aN ah aw ay bP ap aM
attribute [local irreducible] aU aR ak an aD aj aY dR iP bG au
instance yS3_1 : Sz Tryz.prog 232 32 := ⟨Tryz.sizeOf232⟩
instance yS3_2 : Ag Tryz.prog 232 true := ⟨Tryz.isAgg232⟩
instance yS3_3 : Un Tryz.prog 118 (.slice 232) := ⟨Tryz.runUnderlying118⟩
instance yS3_4 : Fl Tryz.prog 232 0 86 0 := ⟨⟨_, _, uu232, rfl, rfl, rfl⟩⟩
instance yS3_5 : Fl Tryz.prog 232 1 53 20 := ⟨⟨_, _, uu232, rfl, rfl, rfl⟩⟩
instance yS3_6 : Cf Tryz.prog 237 := ⟨Tryz.call237⟩
instance yS3_7 : Cf Tryz.prog 173 := ⟨Tryz.call173⟩
instance yS3_8 : Cf Tryz.prog 174 := ⟨Tryz.call174⟩
end Go.Sx
namespace Go.Sx
open Go Go.RowKit Go.Proofs
set_option maxRecDepth 100000
set_option maxHeartbeats 40000000
attribute [local irreducible] Code.wp wpList Rd Step ObS Ent
attribute [local irreducible] ao aN ah aw ay bP ap aM
attribute [local irreducible] aU aR ak an aD aj aY dR iP bG au dA
theorem qu (w : World) : (method (Tryz.prog.types.size + Made.depth) 80 (.agg #[]) "Check").run Tryz.prog w = .ok (45, .agg #[]) w := jY (P := Tryz.prog) (T := 80) Tryz.type80 (by kernel_rfl) uu80 w
instance yS3_9 : Mt Tryz.prog 80 (.agg #[]) "Check" 45 := ⟨qu⟩
theorem o8 (w : World) : (nilAhead (Tryz.prog.types.size + Made.depth) 80 (.agg #[]) "Check").run Tryz.prog w = .ok (some false) w := iH (P := Tryz.prog) (T := 80) (f := 45) Tryz.type80 (by kernel_rfl) uu80 w
instance yS3_10 : Nl Tryz.prog 80 (.agg #[]) "Check" := ⟨o8⟩
theorem ke (l : List (U Ln)) (lv : Value) (hl : l.length < 20) (zl : All (gG 30) l) (w0 : World) (hlv : View w0 lv l) : Calls Tryz.prog 234 #[(.iface 80 (.agg #[])), lv] w0 (RetR w0 199 (az l).1 (All (gG 20) (az l).1 ∧ (az l).1.length ≤ 3 * l.length)) := by
 refine enter (N := 14) (args := [(.iface 80 (.agg #[])), lv]) Tryz.func234 rfl rfl ?_; intro ac h
 have p1 := RetT.pr (dL l lv hl zl w0 hlv)
 refine gz h <| (W) ?_; clear h ac; intro ac wo h
 refine rb (xs := (az l).1) h (cP Tryz.call132 rfl) (fun w_ hB_ hS_ => dL l lv hl zl w_ (hlv.below hB_)) rfl ?_; clear h ac wo; intro s2 ac wo _ h
 refine gz h <| (W) ?_; clear h ac wo; intro ac wo h
 exact (rt h) (h.retR 0 rfl p1)
end Go.Sx
namespace Go.Sx
open Go Go.RowKit Go.Proofs
set_option maxRecDepth 100000
set_option maxHeartbeats 40000000
attribute [local irreducible] Code.wp wpList Rd Step ObS Ent
attribute [local irreducible] ao aN ah aw ay bP ap aM
attribute [local irreducible] aU aR ak an aD aj aY dR iP bG au
def bp (x : GR) (r : GQ) : GR := ⟨an x.p r, x.r, x.neg⟩
theorem iA (x : GR) (r : GQ) (k : Nat) (hk : k + 3 ≤ 40) (zx : SzR (k + 3) x) (zr : SzQ (k + 3) r) (w0 : World) : Calls Tryz.prog 233 #[vR x, vQ r] w0 (dh w0 (vR (bp x r)) (SzR k (bp x r))) := by
 refine enter (N := 11) (args := [vR x, vQ r]) Tryz.func233 rfl rfl ?_; intro ac h
 have c1 := bt x.p r k hk zx.1 zr
 have s1 := am (c1 w0)
 refine gz h <| (xb) fun b1 => (xb) fun b2 => (xa) fun b3 => (xk c1) <| (xs 2 (cR ⟨an x.p r, x.r, x.neg⟩)) <| (W) ?_; clear h ac; intro ac wo h
 exact rtc 0 h (h.retP (u := vR (bp x r)) rfl ⟨s1, bQ zx.2 (by omega)⟩)
instance yS3_11 (a b c : GQ) : Bu Tryz.prog 53 [0, 1, 2] [vQ a, vQ b, vQ c] (vD ⟨a, b, c⟩) := Bu.of ur rfl rfl
def aW (q : Qd) (r : GQ) : Qd := ⟨aU q (aD r), an q.c1 (ak (an q.c2 q.c2) (aD r)), q.c2⟩
theorem fF (q : Qd) (r : GQ) (k : Nat) (hk : k + 10 ≤ 40) (zq : SzD (k + 10) q) (zr : SzQ (k + 10) r) (w0 : World) : Calls Tryz.prog 164 #[vD q, vQ r] w0 (dh w0 (vD (aW q r)) (SzD k (aW q r))) := by
 refine enter (N := 26) (args := [vD q, vQ r]) Tryz.func164 rfl rfl ?_; intro ac h
 have c1 := cY r (k + 10) og zr
 have s1 := am (c1 w0)
 have c2 := bt q.c2 q.c2 (k + 7) og zq.2.2 zq.2.2
 have s2 := am (c2 w0)
 have c3 := gO q (aD r) k og zq s1
 have s3 := am (c3 w0)
 have c4 := be (an q.c2 q.c2) (aD r) (k + 5) og s2 (bQ s1 (by omega))
 have s4 := am (c4 w0)
 have c5 := bt q.c1 (ak (an q.c2 q.c2) (aD r)) (k + 2) og (bQ zq.2.1 (by omega)) s4
 have s5 := am (c5 w0)
 refine gz h <| (xb) fun b1 => (xb) fun b2 => (xa) fun b3 => (xk c1) <| (xa) fun b4 => (xk c2) <| (xa) fun b5 => (dr1 (H := [⟨.blk b5 (cQ (an q.c2 q.c2)) 27, []⟩, ⟨.blk b4 (cQ (aD r)) 27, []⟩, ⟨.blk b3 (cD ⟨oQ, oQ, oQ⟩) 53, [(12, .con (.blk b3 (cD (aW q r)) 53))]⟩, ⟨.blk b2 (cQ r) 27, []⟩, ⟨.blk b1 (cD q) 53, []⟩]) (hob := (oK c3) <| (oK c4) <| (oK c5) <| oE)) <| (W) ?_; clear h ac; intro ac wo h
 exact rtc 2 h (h.retP (u := vD (aW q r)) rfl ⟨s3, bQ s5 (by omega), bQ zq.2.2 (by omega)⟩)
def im (v : GQ) (f : Ln) : Ln := ⟨(aW (lxs f) v).c0, (aW (lxs f) v).c1, (aW (lys f) v).c0, (aW (lys f) v).c1⟩
theorem shf_ct (f : Ln) (b : Nat) (v : GQ) (k : Nat) (hk : k + 10 ≤ 40) (zf : SzN (k + 10) f) (zv : SzQ (k + 10) v) (w0 : World) (hb : PV w0 b (cQ v)) : Calls Tryz.prog 163 #[vN f, ptr b 0] w0 (dh w0 (vN (im v f)) (SzN k (im v f))) := by
 refine enter (N := 23) (args := [vN f, ptr b 0]) Tryz.func163 rfl rfl ?_; intro ac h
 have c1 := lxs_ct f (k + 10) og zf
 have c2 := lys_ct f (k + 10) og zf
 have c3 := fF (lxs f) v k og (am (c1 w0)) zv
 have s3 := am (c3 w0)
 have c4 := fF (lys f) v k og (am (c2 w0)) zv
 have s4 := am (c4 w0)
 refine gz h <| (xb) fun b2 => (xa) fun b3 => (W) ?_; clear h ac; intro ac wo h
 replace h := h.emps 2
 obtain ⟨qx, hx⟩ : ∃ q, aW (lxs f) v = q := ⟨_, rfl⟩
 obtain ⟨qy, hy⟩ : ∃ q, aW (lys f) v = q := ⟨_, rfl⟩
 have e : im v f = ⟨qx.c0, qx.c1, qy.c0, qy.c1⟩ := by unfold im; rw [hx, hy]
 rw [hx] at c3 s3
 rw [hy] at c4 s4
 rw [e]
 refine ef mixed [dw (vN f) [1], dv (vD (lxs f)), dv (vQ v), dv (vD qx), dw (vN f) [1], dv (vD (lys f)), dv (vQ v), dv (vD qy), ⟨.nd (.one 8 fun x => ∃ b, x = ptr b 0), [2]⟩, ⟨.nd (.one 9 fun x => ∃ b, x = ptr b 0), [3]⟩, dw undef [2], dw undef [3]]
  [⟨_, []⟩, ⟨_, []⟩, ⟨.emp, [(8, .one 8 fun x => .blk (bo x) (cD default) 53), (10, .one 8 fun x => .blk (bo x) (cD qx) 53)]⟩, ⟨.emp, [(9, .one 9 fun x => .blk (bo x) (cD default) 53), (11, .one 9 fun x => .blk (bo x) (cD qy) 53)]⟩] h rfl (by kernel_rfl)
  ⟨oA obA, oA fun _ => fJ (eH Tryz.call102 rfl c1), oA fun _ => a6 (r_ldP hb aa27 zz27 rfl rfl rfl (v := vQ v) rfl), oA fun _ => fJ (eH cc164 rfl c3), oA obA, oA fun _ => fJ (eH Tryz.call103 rfl c2), oA fun _ => a6 (r_ldP hb aa27 zz27 rfl rfl rfl (v := vQ v) rfl), oA fun _ => fJ (eH cc164 rfl c4), fun _ _ => iY 2 rfl (fun _ => rfl), fun _ _ => iY 3 rfl (fun _ => rfl), fun ξ hφ => iX (u := vD qx) 2 (hφ 8 rfl) rfl rfl rfl rfl rfl rfl rfl, fun ξ hφ => iX (u := vD qy) 3 (hφ 9 rfl) rfl rfl rfl rfl rfl rfl rfl, trivial⟩ ?_
 clear h ac wo; intro ξ ac wo hφ h
 obtain ⟨b4, hb4⟩ : ∃ b, ξ 8 = ptr b 0 := hφ 8
 obtain ⟨b5, hb5⟩ : ∃ b, ξ 9 = ptr b 0 := hφ 9
 replace h : St w0 23 [(2, ptr b2 0), (3, ptr b3 0), (4, ξ 8), (5, ξ 9)] [.blk b3 (cN default) 79, .blk b2 (cN f) 79, .blk (bo (ξ 8)) (cD qx) 53, .blk (bo (ξ 9)) (cD qy) 53] ac wo := h.sub ⟨rfl, rfl, rfl, rfl, trivial⟩
 rw [hb4, hb5] at h
 clear hb4 hb5 hφ ξ
 refine gz h <| (W) ?_; clear h ac wo; intro ac wo h
 exact rtc 0 h (h.retP (u := vN ⟨qx.c0, qx.c1, qy.c0, qy.c1⟩) rfl ⟨s3.1, s3.2.1, s4.1, s4.2.1⟩)
end Go.Sx
namespace Go.Sx
open Go Go.RowKit Go.Proofs
set_option maxRecDepth 100000
set_option maxHeartbeats 40000000
attribute [local irreducible] Code.wp wpList Rd Step ObS Ent
attribute [local irreducible] ao aN ah aw ay bP ap aM
attribute [local irreducible] aU aR ak an aD aj aY dR iP bG au aW im
instance yS3_12 : Cf Tryz.prog 163 := ⟨Tryz.call163⟩
instance yS3_13 : Cf Tryz.prog 166 := ⟨Tryz.call166⟩
def shV (v : GQ) (i : Iv) : Iv := ⟨bp i.lo v, bp i.hi v, i.openLo, i.openHi⟩
def shU (v : GQ) (u : U Ln) : U Ln := ⟨shV v u.iv, im v u.f⟩
theorem vA (l : List (U Ln)) (lv : Value) (v : GQ) (b : Nat) (hl : l.length < 20) (zl : All (gG 30) l) (zv : SzQ 30 v) (zr : All (gG 30) (l.map (shU v))) (w0 : World) (hlv : View w0 lv l) (hb : PV w0 b (cQ v)) :
    Calls Tryz.prog 162 #[(.iface 80 (.agg #[])), lv, vQ v, .func (.func 163) #[] #[ptr b 0]] w0 (RetR w0 199 (az (l.map (shU v))).1 ((az (l.map (shU v))).1.length ≤ 1000)) := by
 refine enter (N := 44) (args := [(.iface 80 (.agg #[])), lv, vQ v, .func (.func 163) #[] #[ptr b 0]]) Tryz.func162 rfl rfl ?_; intro ac h
 have hlen := hlv.len
 refine gz h <| (xb) fun b6 => (W) ?_; clear h ac; intro ac wo h
 replace h := h.nilRow (α := U Ln) 199
 refine wp_loop_ghost (fun n_ a_ w_ => ∃ (i : Nat) (sv : Value), (l.length - i < n_) ∧ (i ≤ l.length) ∧ St w0 44 [(0, (.iface 80 (.agg #[]))), (3, .func (.func 163) #[] #[ptr b 0]), (6, ptr b6 0), (9, sv), (13, lv), (14, iN l.length), (15, iN i)] [.row (α := U Ln) 199 sv ((l.take i).map (shU v)), .blk b6 (cQ v) 27] a_ w_) (l.length + 1) ⟨0, _, by omega, by omega, h.re [0, 1]⟩ ?_
 clear h ac wo; rintro n1 ac wo ⟨i, sv, hm1, hi, h⟩
 obtain ⟨m1, rfl⟩ : ∃ m, n1 = m + 1 := ⟨n1 - 1, by omega⟩
 refine gz h <| (ai) ?_ ?_ <;> clear h ac wo <;> intro ac wo h hc1
 ·
  have hd1 : i < l.length := by have := of_decide_eq_true hc1; omega
  have n1' := hlv.nn hd1
  have z := All.gt zl (i := i) (bZ _)
  obtain ⟨u, hu⟩ : ∃ u, gt l i = u := ⟨_, rfl⟩
  rw [hu] at z
  have c1 := iA u.iv.lo v 27 og z.1.1 zv
  have c2 := iA u.iv.hi v 27 og z.1.2 zv
  refine gz h <| (xa) fun b11 => (xa) fun b12 => (W) ?_; clear h ac wo; intro ac wo h
  rw [hu] at h
  refine gz h <| (dr1 (H := [⟨.blk b12 (cV u.iv) 86, [(9, .con (.blk b12 (cV ⟨bp u.iv.lo v, u.iv.hi, u.iv.openLo, u.iv.openHi⟩) 86)), (11, .con (.blk b12 (cV (shV v u.iv)) 86))]⟩, ⟨.blk b11 (cUN u) 199, []⟩, ⟨_, []⟩, ⟨_, []⟩]) (hob := (oK c1) <| (oK c2) <| oE)) <| (W) ?_; clear h ac wo; intro ac wo h
  replace h := h.emps 1
  obtain ⟨x, hx⟩ : ∃ x : U Ln, (⟨shV v u.iv, im v u.f⟩ : U Ln) = x := ⟨_, rfl⟩
  obtain ⟨o, ho⟩ : ∃ o, (l.take i).map (shU v) = o := ⟨_, rfl⟩
  have hol : o.length ≤ i := by rw [← ho, List.length_map, List.length_take]; omega
  rw [ho] at h
  refine ef mixed [dv _, dw (vV (shV v u.iv)) [0], dv _, dv _, dw (vN u.f) [1], dv (vN (im v u.f)), dv (vUN x), ⟨.nd (.one 7 fun v => NN v 1), [4]⟩, ⟨.nd (.con True), [2, 4]⟩, ⟨.nd (.two 9 8 fun a b => a = b), []⟩]
   [⟨_, []⟩, ⟨_, []⟩, ⟨.row (α := U Ln) 199 sv o, [(8, .one 8 fun v => .row (α := U Ln) 199 v (o ++ [x]))]⟩, ⟨_, []⟩, ⟨.emp, [(7, .one 7 fun v => .row (α := U Ln) 199 v [x])]⟩] h rfl (by kernel_rfl)
   ⟨oA obA, oA obA, oA obA, oA obA, oA obA, oA fun _ => fJ (fb (qS (cap := [ptr b 0]) Tryz.call163 rfl rfl) (fun w_ hB_ hS_ => shf_ct u.f b v 20 og z.2 zv w_ (hb.below hB_))), (by rw [← hx]; exact oA fun _ => a6 (bA lF rfl rfl rfl)), fun _ _ => kY 4 x fS rfl rfl, fun _ _ => qo (j := 7) 2 4 fS rfl rfl (by omega) rfl (fun v => by simp only [cA, bn] <;> rfl), fun _ _ => kZ (j := 8) (by decide) rfl, trivial⟩ ?_
  clear h ac wo; intro ξ ac wo hφ h
  replace h : St w0 44 [(0, (.iface 80 (.agg #[]))), (3, .func (.func 163) #[] #[ptr b 0]), (6, ptr b6 0), (9, ξ 9), (13, lv), (14, iN l.length), (15, iN i)] [.row (α := U Ln) 199 (ξ 8) (o ++ [x]), .blk b6 (cQ v) 27] ac wo := (h.pick [2, 3] (by decide)).sub ⟨rfl, rfl, rfl, rfl, rfl, rfl, rfl, trivial⟩
  rw [show ξ 9 = ξ 8 from hφ 9, ← ho, ← hx, show (l.take i).map (shU v) ++ [⟨shV v u.iv, im v u.f⟩] = (l.take (i + 1)).map (shU v) by rw [← iS hd1, List.map_append, hu]; rfl] at h
  generalize ξ 8 = s2 at h; clear hφ ξ
  refine gz h <| (W) ?_; clear h ac wo; intro ac wo h
  exact aK ⟨m1, by omega, i + 1, s2, by omega, by omega, h.re [0, 1]⟩
 ·
  have hd1 := of_decide_eq_false hc1
  obtain rfl : i = l.length := by omega
  rw [List.take_length] at h
  have hlm : (l.map (shU v)).length < 20 := by rw [List.length_map]; omega
  have p1 := RetR.pr (ke (l.map (shU v)) sv hlm zr wo (row_view h.sep 0 rfl))
  refine gz h <| (W) ?_; clear h ac wo; intro ac wo h
  refine fN (xs := (az (l.map (shU v))).1) h (cP Tryz.call234 rfl) (fun w_ hB_ hS_ => ke (l.map (shU v)) sv hlm zr w_ (row_view hS_ 0 rfl)) rfl ?_; clear h ac wo; intro s3 ac wo _ h
  refine gz h <| (W) ?_; clear h ac wo; intro ac wo h
  exact (rt h) (h.retR 0 rfl (by omega))
end Go.Sx
namespace Go.Sx
open Go Go.RowKit Go.Proofs
set_option maxRecDepth 100000
set_option maxHeartbeats 40000000
attribute [local irreducible] Code.wp wpList Rd Step ObS Ent
attribute [local irreducible] ao aN ah aw ay bP ap aM
attribute [local irreducible] aU aR ak an aD aj aY dR iP bG au aW im
def lTr (p : Pnt) (f : Ln) : Ln := ⟨an f.x0 p.x, f.x1, an f.y0 p.y, f.y1⟩
def SzP (k : Nat) (p : Pnt) : Prop := SzQ k p.x ∧ SzQ k p.y
theorem trf_ct (f : Ln) (b : Nat) (p : Pnt) (k : Nat) (hk : k + 3 ≤ 40) (zf : SzN (k + 3) f) (zp : SzP (k + 3) p) (w0 : World) (hb : PV w0 b (cPt p)) : Calls Tryz.prog 166 #[vN f, ptr b 0] w0 (dh w0 (vN (lTr p f)) (SzN k (lTr p f))) := by
 refine enter (N := 17) (args := [vN f, ptr b 0]) Tryz.func166 rfl rfl ?_; intro ac h
 have c1 := bt f.x0 p.x k og zf.1 zp.1
 have c2 := bt f.y0 p.y k og zf.2.2.1 zp.2
 refine gz h <| (xb) fun b2 => (xa) fun b3 => (dr1 (H := [⟨.blk b3 (cN default) 79, []⟩, ⟨.blk b2 (cN f) 79, [(11, .con (.blk b2 (cN ⟨an f.x0 p.x, f.x1, f.y0, f.y1⟩) 79)), (13, .con (.blk b2 (cN (lTr p f)) 79))]⟩])
   (hob := (oX (h := by exact fun _ => a6 (r_ldP hb aa27 zz27 rfl rfl rfl (v := vQ p.x) rfl))) <| (oK c1) <| (oX (h := by exact fun _ => a6 (r_ldP hb aa27 zz27 rfl rfl rfl (v := vQ p.y) rfl))) <| (oK c2) <| oE)) <| (W) ?_; clear h ac; intro ac wo h
 exact rtc 0 h (h.retP (u := vN (lTr p f)) rfl ⟨am (c1 w0), bQ zf.2.1 (by omega), am (c2 w0), bQ zf.2.2.2 (by omega)⟩)
def tlU (p : Pnt) (u : U Ln) : U Ln := ⟨u.iv, lTr p u.f⟩
theorem vH (l : List (U Ln)) (lv : Value) (p : Pnt) (b : Nat) (hl : l.length < 20) (zl : All (gG 30) l) (zp : SzP 30 p) (zr : All (gG 30) (l.map (tlU p))) (w0 : World) (hlv : View w0 lv l) (hb : PV w0 b (cPt p)) :
    Calls Tryz.prog 165 #[(.iface 80 (.agg #[])), lv, .func (.func 166) #[] #[ptr b 0]] w0 (RetR w0 199 (az (l.map (tlU p))).1 ((az (l.map (tlU p))).1.length ≤ 1000)) := by
 refine enter (N := 34) (args := [(.iface 80 (.agg #[])), lv, .func (.func 166) #[] #[ptr b 0]]) Tryz.func165 rfl rfl ?_; intro ac h
 have hlen := hlv.len
 refine gz h <| (W) ?_; clear h ac; intro ac wo h
 replace h := h.nilRow (α := U Ln) 199
 refine wp_loop_ghost (fun n_ a_ w_ => ∃ (i : Nat) (sv : Value), (l.length - i < n_) ∧ (i ≤ l.length) ∧ St w0 34 [(0, (.iface 80 (.agg #[]))), (1, lv), (2, .func (.func 166) #[] #[ptr b 0]), (7, sv), (10, iN l.length), (11, iN i)] [.row (α := U Ln) 199 sv ((l.take i).map (tlU p))] a_ w_) (l.length + 1) ⟨0, _, by omega, by omega, h.re [0]⟩ ?_
 clear h ac wo; rintro n1 ac wo ⟨i, sv, hm1, hi, h⟩
 obtain ⟨m1, rfl⟩ : ∃ m, n1 = m + 1 := ⟨n1 - 1, by omega⟩
 refine gz h <| (ai) ?_ ?_ <;> clear h ac wo <;> intro ac wo h hc1
 ·
  have hd1 : i < l.length := by have := of_decide_eq_true hc1; omega
  have n1' := hlv.nn hd1
  have z := All.gt zl (i := i) (bZ _)
  refine gz h <| (W) ?_; clear h ac wo; intro ac wo h
  replace h := h.emps 1
  obtain ⟨x, hx⟩ : ∃ x : U Ln, (⟨(gt l i).iv, lTr p (gt l i).f⟩ : U Ln) = x := ⟨_, rfl⟩
  obtain ⟨o, ho⟩ : ∃ o, (l.take i).map (tlU p) = o := ⟨_, rfl⟩
  have hol : o.length ≤ i := by rw [← ho, List.length_map, List.length_take]; omega
  rw [ho] at h
  refine ef mixed [dv _, dv _, dv _, dv _, dv _, dv (vV (gt l i).iv), dv _, dv _, dv _, dv _, dv _, dv (vN (gt l i).f), dv (vN (lTr p (gt l i).f)), dv (vUN x), ⟨.nd (.one 14 fun v => NN v 1), [1]⟩, ⟨.nd (.con True), [0, 1]⟩, ⟨.nd (.two 16 15 fun a b => a = b), []⟩]
   [⟨.row (α := U Ln) 199 sv o, [(15, .one 15 fun v => .row (α := U Ln) 199 v (o ++ [x]))]⟩, ⟨.emp, [(14, .one 14 fun v => .row (α := U Ln) 199 v [x])]⟩] h rfl (by kernel_rfl)
   ⟨oA obA, oA obA, oA obA, oA obA, oA obA, oA obA, oA obA, oA obA, oA obA, oA obA, oA obA, oA obA, oA fun _ => fJ (fb (qS (cap := [ptr b 0]) Tryz.call166 rfl rfl) (fun w_ hB_ hS_ => trf_ct (gt l i).f b p 27 og z.2 zp w_ (hb.below hB_))), (by rw [← hx]; exact oA fun _ => a6 (bA lF rfl rfl rfl)), fun _ _ => kY 1 x fS rfl rfl, fun _ _ => qo (j := 14) 0 1 fS rfl rfl (by omega) rfl (fun v => by simp only [cA, bn] <;> rfl), fun _ _ => kZ (j := 15) (by decide) rfl, trivial⟩ ?_
  clear h ac wo; intro ξ ac wo hφ h
  replace h : St w0 34 [(0, (.iface 80 (.agg #[]))), (1, lv), (2, .func (.func 166) #[] #[ptr b 0]), (7, ξ 16), (10, iN l.length), (11, iN i)] [.row (α := U Ln) 199 (ξ 15) (o ++ [x])] ac wo := (h.pick [0] (by decide)).sub ⟨rfl, rfl, rfl, rfl, rfl, rfl, trivial⟩
  rw [show ξ 16 = ξ 15 from hφ 16, ← ho, ← hx, show (l.take i).map (tlU p) ++ [⟨(gt l i).iv, lTr p (gt l i).f⟩] = (l.take (i + 1)).map (tlU p) by rw [← iS hd1, List.map_append]; rfl] at h
  generalize ξ 15 = s2 at h; clear hφ ξ
  refine gz h <| (W) ?_; clear h ac wo; intro ac wo h
  exact aK ⟨m1, by omega, i + 1, s2, by omega, by omega, h.re [0]⟩
 ·
  have hd1 := of_decide_eq_false hc1
  obtain rfl : i = l.length := by omega
  rw [List.take_length] at h
  have hlm : (l.map (tlU p)).length < 20 := by rw [List.length_map]; omega
  have p1 := RetR.pr (ke (l.map (tlU p)) sv hlm zr wo (row_view h.sep 0 rfl))
  refine gz h <| (W) ?_; clear h ac wo; intro ac wo h
  refine fN (xs := (az (l.map (tlU p))).1) h (cP Tryz.call234 rfl) (fun w_ hB_ hS_ => ke (l.map (tlU p)) sv hlm zr w_ (row_view hS_ 0 rfl)) rfl ?_; clear h ac wo; intro s3 ac wo _ h
  refine gz h <| (W) ?_; clear h ac wo; intro ac wo h
  exact (rt h) (h.retR 0 rfl (by omega))
theorem mtr_ct (l : List (U Ln)) (lv : Value) (p : Pnt) (hl : l.length < 20) (zl : All (gG 30) l) (zp : SzP 30 p) (zr : All (gG 30) (l.map (tlU p))) (w0 : World) (hlv : View w0 lv l) :
    Calls Tryz.prog 65 #[lv, vPt p] w0 (RetR w0 88 (az (l.map (tlU p))).1 True) := by
 refine enter (N := 12) (args := [lv, vPt p]) Tryz.func65 rfl rfl ?_; intro ac h
 refine gz h <| (xb) fun b3 => (W) ?_; clear h ac; intro ac wo h
 refine fN (xs := l) h (cP Tryz.call100 rfl) (fun w_ hB_ hS_ => to_ct l lv (by omega) w_ (hlv.below hB_)) rfl ?_; clear h ac wo; intro s1 ac wo _ h
 have p1 := RetR.pr (vH l s1 p b3 hl zl zp zr wo (row_view h.sep 0 rfl) (xj h.sep 1 rfl))
 refine gz h <| (xo (hs := by exact kd (vs := [ptr b3 0]) rfl)) <| (W) ?_; clear h ac wo; intro ac wo h
 refine fN (xs := (az (l.map (tlU p))).1) h (cP Tryz.call165 rfl) (fun w_ hB_ hS_ => vH l s1 p b3 hl zl zp zr w_ (row_view hS_ 0 rfl) (xj hS_ 1 rfl)) rfl ?_; clear h ac wo; intro s2 ac wo _ h
 refine gz h <| (W) ?_; clear h ac wo; intro ac wo h
 refine fN (xs := (az (l.map (tlU p))).1) h (cP Tryz.call138 rfl) (fun w_ hB_ hS_ => r6 _ s2 p1 w_ (row_view hS_ 0 rfl)) rfl ?_; clear h ac wo; intro s3 ac wo _ h
 refine gz h <| (W) ?_; clear h ac wo; intro ac wo h
 exact (rt h) (h.retR 0 rfl trivial)
end Go.Sx
namespace Go.Sx
open Go Go.RowKit Go.Proofs
set_option maxRecDepth 100000
set_option maxHeartbeats 40000000
attribute [local irreducible] Code.wp wpList Rd Step ObS Ent
attribute [local irreducible] ao aN ah aw ay bP ap aM
attribute [local irreducible] aU aR ak an aD aj aY dR iP bG au aW im
theorem msh_ct (l : List (U Ln)) (lv : Value) (v : GQ) (hl : l.length < 20) (zl : All (gG 30) l) (zv : SzQ 30 v) (zr : All (gG 30) (l.map (shU v))) (hN : (az (l.map (shU v))).1.length ≤ 1000) (w0 : World) (hlv : View w0 lv l) :
    Calls Tryz.prog 64 #[lv, vQ v] w0 (RetR w0 88 (az (l.map (shU v))).1 True) := by
 refine enter (N := 13) (args := [lv, vQ v]) Tryz.func64 rfl rfl ?_; intro ac h
 refine gz h <| (xb) fun b3 => (W) ?_; clear h ac; intro ac wo h
 replace h := h.emps 3
 obtain ⟨m, hm⟩ : ∃ m, (az (l.map (shU v))).1 = m := ⟨_, rfl⟩
 rw [hm] at hN ⊢
 refine ef mixed [dv (.agg #[]), dv (.iface 80 (.agg #[])), dv lv, ⟨.nd (.con True), [1]⟩, dw (vQ v) [0], dv (.func (.func 163) #[] #[ptr b3 0]), ⟨.nd (.con True), [2, 1, 0]⟩, ⟨.nd (.con True), [3, 2]⟩, ⟨.nd (.two 8 7 fun a b => a = b), []⟩]
  [⟨_, []⟩, ⟨.emp, [(3, .one 3 fun x => .row (α := U Ln) 199 x l)]⟩, ⟨.emp, [(6, .one 6 fun x => .row (α := U Ln) 199 x m)]⟩, ⟨.emp, [(7, .one 7 fun x => .row (α := U Ln) 88 x m)]⟩] h rfl (by kernel_rfl)
  ⟨oA obA, oA obA, oA obA,
   fun ξ _ => l8 (B := fun x => [.row (α := U Ln) 199 x l]) [.emp] rfl (fun v _ => by simp only [cA, bn] <;> rfl) (fun _ _ => trivial) (nP (tM (cP Tryz.call100 rfl) (fun w_ hB_ hS_ => to_ct l lv (by omega) w_ (hlv.below hB_)))),
   oA obA, oA fun _ => a6 (kd (vs := [ptr b3 0]) rfl),
   fun ξ _ => l8 (B := fun x => [.row (α := U Ln) 199 x m, .row (α := U Ln) 199 (ξ 3) l, .blk b3 (cQ v) 27]) [.emp, .row (α := U Ln) 199 (ξ 3) l, .blk b3 (cQ v) 27] rfl (fun v _ => by simp only [cA, bn] <;> rfl) (fun _ _ => trivial) (nP (tM (cP Tryz.call162 rfl) (fun w_ hB_ hS_ => by rw [← hm]; exact vA l (ξ 3) v b3 hl zl zv zr w_ (row_view hS_ 0 rfl) (xj hS_ 1 rfl)))),
   fun ξ _ => l8 (B := fun x => [.row (α := U Ln) 88 x m, .row (α := U Ln) 199 (ξ 6) m]) [.emp, .row (α := U Ln) 199 (ξ 6) m] rfl (fun v _ => by simp only [cA, bn] <;> rfl) (fun _ _ => trivial) (nP (tM (cP Tryz.call138 rfl) (fun w_ hB_ hS_ => r6 m (ξ 6) hN w_ (row_view hS_ 0 rfl)))),
   fun _ _ => kZ (j := 7) (by decide) rfl, trivial⟩ ?_
 clear h ac wo; intro ξ ac wo hφ h
 replace h : St w0 13 [(4, ξ 8)] [.row (α := U Ln) 88 (ξ 7) m] ac wo := (h.pick [3] (by decide)).sub ⟨rfl, trivial⟩
 rw [show ξ 8 = ξ 7 from hφ 8] at h
 generalize ξ 7 = s2 at h; clear hφ ξ
 refine gz h <| (W) ?_; clear h ac wo; intro ac wo h
 exact (rt h) (h.retR 0 rfl trivial)
end Go.Sx
namespace Go.Sx
open Go Go.RowKit Go.Proofs
set_option maxRecDepth 100000
set_option maxHeartbeats 40000000
attribute [local irreducible] Code.wp wpList Rd Step ObS Ent
attribute [local irreducible] ao aN ah aw ay bP ap aM
attribute [local irreducible] aU aR ak an aD aj aY dR iP bG au aW im bp
theorem w7 (s : List Iv) (sv : Value) (hl : s.length ≤ 1000) (w0 : World) (hsv : View w0 sv s) : Calls Tryz.prog 235 #[sv] w0 (RetR w0 86 s True) := by
 refine enter (N := 8) (args := [sv]) Tryz.func235 rfl rfl ?_; intro ac h
 have hlens := hsv.len
 refine gz h <| (xo (hs := by exact vv Tryz.underlying103 hsv.sl rfl)) <| (ai) ?_ ?_ <;> clear h ac <;> intro ac wo h hc1
 ·
  have hq1 := hc1; try simp at hq1
  refine gz h <| (W) ?_; clear h ac wo; intro ac wo h
  replace h := h.nilRow (α := Iv) 86
  have hd : s = [] := (hsv.nil hc1).1
  exact (rt h) (by rw [hd]; exact h.retR 0 rfl trivial)
 ·
  have hq1 := hc1; try simp at hq1
  refine gz h <| (W) ?_; clear h ac wo; intro ac wo h
  refine nw h (di (α := Iv) (xs := []) (vs := []) [] ko rfl rfl rfl (by decide)) rfl ?_; clear h ac wo; intro sv2 ac wo nnsv2 h
  refine gz h <| (W) ?_; clear h ac wo; intro ac wo h
  refine on1 h 0 rfl (s_appV (xs := []) (ys := s) ko hsv rfl rfl og) rfl ?_; clear h ac wo; intro sv3 ac wo apsv3 h
  refine gz h <| (W) ?_; clear h ac wo; intro ac wo h
  exact (rt h) (h.retR 0 rfl trivial)
theorem uL {xs : List Iv} {i : Nat} {u : Iv} (h : i < xs.length) : (xs.set i u).take (i + 1) = xs.take i ++ [u] := by
 rw [List.take_succ_eq_append_getElem (by rw [List.length_set]; exact h), List.getElem_set_self, List.take_set_of_le (Nat.le_refl _)]
theorem tS (p : List Iv) (pv : Value) (v : GQ) (hl : p.length ≤ 1000) (zp : All (SzV 30) p) (zv : SzQ 30 v) (w0 : World) (hpv : View w0 pv p) :
    Calls Tryz.prog 167 #[pv, vQ v] w0 (RetR w0 86 (p.map (shV v)) True) := by
 refine enter (N := 38) (args := [pv, vQ v]) Tryz.func167 rfl rfl ?_; intro ac h
 refine gz h <| (xb) fun b3 => (W) ?_; clear h ac; intro ac wo h
 refine fN (xs := p) h (cP Tryz.call235 rfl) (fun w_ hB_ hS_ => w7 p pv hl w_ (hpv.below hB_)) rfl ?_; clear h ac wo; intro sv ac wo _ h
 have hlen := h.len 0 rfl
 refine gz h <| (W) ?_; clear h ac wo; intro ac wo h
 refine wp_loop_ghost (fun n_ a_ w_ => ∃ (i : Nat) (xs : List Iv), (p.length - i < n_) ∧ (i ≤ p.length) ∧ (xs.length = p.length) ∧ (xs.take i = (p.take i).map (shV v)) ∧ (∀ t, i ≤ t → gt xs t = gt p t) ∧ St w0 38 [(3, ptr b3 0), (5, sv), (9, sv), (10, iN p.length), (11, iN i)] [.row (α := Iv) 86 sv xs, .blk b3 (cQ v) 27] a_ w_) (p.length + 1)
  ⟨0, p, by omega, by omega, rfl, by simp, fun _ _ => rfl, h.re [0, 1]⟩ ?_
 clear h ac wo; rintro n1 ac wo ⟨i, xs, hm1, hi, hxl, hxt, hxs, h⟩
 obtain ⟨m1, rfl⟩ : ∃ m, n1 = m + 1 := ⟨n1 - 1, by omega⟩
 refine gz h <| (ai) ?_ ?_ <;> clear h ac wo <;> intro ac wo h hc1
 ·
  have hd1 : i < p.length := by have := of_decide_eq_true hc1; omega
  have hdx : i < xs.length := by omega
  have hnn := (row_view h.sep 0 rfl).nn hdx
  have hup : gt xs i = gt p i := hxs i (Nat.le_refl _)
  have hxx : xs[i]? = some (gt xs i) := mh hdx
  have z : SzV 30 (gt xs i) := by rw [hup]; exact All.gt zp (SzV_d _)
  have c1 := iA (gt xs i).lo v 27 og z.1 zv
  have c2 := iA (gt xs i).hi v 27 og z.2 zv
  obtain ⟨y1, hy1⟩ : ∃ y, (⟨bp (gt xs i).lo v, (gt xs i).hi, (gt xs i).openLo, (gt xs i).openHi⟩ : Iv) = y := ⟨_, rfl⟩
  obtain ⟨y2, hy2⟩ : ∃ y, shV v (gt xs i) = y := ⟨_, rfl⟩
  refine gz h <| (W) ?_; clear h ac wo; intro ac wo h
  refine ef mixed [dv _, dv _, dv _, dv _, dv _, dv _, dv (sel sv (i * 20 + 0)), dv (sel sv (i * 20 + 0)), dw (vR (gt xs i).lo) [0], dw (vQ v) [1], dv (vR (bp (gt xs i).lo v)), dv _, dv _, dv (sel sv (i * 20 + 0)), dv (sel sv (i * 20 + 9)), dw (vR (gt xs i).hi) [0], dw (vQ v) [1], dv (vR (bp (gt xs i).hi v)), dv (sel sv (i * 20 + 0)), dv (sel sv (i * 20 + 0)), dw undef [0], dv (sel sv (i * 20 + 0)), dv (sel sv (i * 20 + 9)), dw undef [0]]
   [⟨.row (α := Iv) 86 sv xs, [(20, .con (.row (α := Iv) 86 sv (xs.set i y1))), (23, .con (.row (α := Iv) 86 sv ((xs.set i y1).set i y2)))]⟩, ⟨_, []⟩] h rfl (by kernel_rfl)
   ⟨oA obA, oA obA, oA obA, oA obA, oA obA, oA obA, oA obA, oA obA, oA obA, oA obA, oA fun _ => fJ (eH Tryz.call233 rfl c1), oA obA, oA obA, oA obA, oA obA, oA obA, oA obA, oA fun _ => fJ (eH Tryz.call233 rfl c2), oA obA, oA obA,
    fun _ _ => kX [.row (α := Iv) 86 sv xs] [.row (α := Iv) 86 sv (xs.set i y1)] rfl rfl (gm (k := 0) (u' := y1) Tryz.sizeOf71 hxx rfl rfl rfl rfl rfl rfl rfl (by rw [← hy1]; rfl)), oA obA, oA obA,
    fun _ _ => kX [.row (α := Iv) 86 sv (xs.set i y1)] [.row (α := Iv) 86 sv ((xs.set i y1).set i y2)] rfl rfl (gm (k := 9) (u' := y2) Tryz.sizeOf71 (u := y1) (by rw [List.getElem?_set_self hdx]) rfl rfl rfl rfl rfl rfl rfl (by rw [← hy1, ← hy2]; rfl)), trivial⟩ ?_
  clear h ac wo; intro ξ ac wo hφ h
  replace h : St w0 38 [(3, ptr b3 0), (5, sv), (9, sv), (10, iN p.length), (11, iN i)] [.row (α := Iv) 86 sv ((xs.set i y1).set i y2), .blk b3 (cQ v) 27] ac wo := h.sub ⟨rfl, rfl, rfl, rfl, rfl, trivial⟩
  clear hφ ξ
  rw [List.set_set] at h
  refine gz h <| (W) ?_; clear h ac wo; intro ac wo h
  refine aK ⟨m1, by omega, i + 1, xs.set i y2, by omega, by omega, by rw [List.length_set]; exact hxl, ?_, fun t ht => ?_, h.re [0, 1]⟩
  · rw [uL hdx, hxt, ← iS hd1, List.map_append, ← hy2, hup]; rfl
  · rw [qM (by omega)]; exact hxs t (by omega)
 ·
  have hd1 := of_decide_eq_false hc1
  obtain rfl : i = p.length := by omega
  rw [← hxl, List.take_length, hxl, List.take_length] at hxt
  rw [hxt] at h
  refine gz h <| (W) ?_; clear h ac wo; intro ac wo h
  exact (rt h) (h.retR 0 rfl trivial)
end Go.Sx
namespace Go.Sx
open Go Go.RowKit Go.Proofs
set_option maxRecDepth 100000
set_option maxHeartbeats 40000000
attribute [local irreducible] Code.wp wpList Rd Step ObS Ent
attribute [local irreducible] ao aN ah aw ay bP ap aM
attribute [local irreducible] aU aR ak an aD aj aY dR iP bG au aW im bp
def mvF (r : GQ) (p : Pnt) (f : Ln) : Ln := ⟨an (aW (lxs f) r).c0 p.x, (aW (lxs f) r).c1, an (aW (lys f) r).c0 p.y, (aW (lys f) r).c1⟩
def mvU (r : GQ) (p : Pnt) (u : U Ln) : U Ln := ⟨shV r u.iv, mvF r p u.f⟩
theorem sP (l : List (U Ln)) (lv : Value) (r : GQ) (p : Pnt) (hl : l.length < 20) (zl : All (gG 30) l) (zq : SzQ 30 r) (zp : SzP 20 p) (zr : All (gG 30) (l.map (mvU r p))) (w0 : World) (hlv : View w0 lv l) :
    Calls Tryz.prog 66 #[lv, vQ r, vPt p] w0 (RetR w0 88 (az (l.map (mvU r p))).1 True) := by
 refine enter (N := 80) (args := [lv, vQ r, vPt p]) Tryz.func66 rfl rfl ?_; intro ac h
 have hlen := hlv.len
 refine gz h <| (xb) fun b4 => (xb) fun b5 => (W) ?_; clear h ac; intro ac wo h
 replace h := h.nilRow (α := U Ln) 88
 refine wp_loop_ghost (fun n_ a_ w_ => ∃ (i : Nat) (sv : Value), (l.length - i < n_) ∧ (i ≤ l.length) ∧ St w0 80 [(0, lv), (4, ptr b4 0), (5, ptr b5 0), (7, sv), (8, iN i)] [.row (α := U Ln) 88 sv ((l.take i).map (mvU r p)), .blk b4 (cQ r) 27, .blk b5 (cPt p) 29] a_ w_) (l.length + 1) ⟨0, _, by omega, by omega, h.re [0, 2, 1]⟩ ?_
 clear h ac wo; rintro n1 ac wo ⟨i, sv, hm1, hi, h⟩
 obtain ⟨m1, rfl⟩ : ∃ m, n1 = m + 1 := ⟨n1 - 1, by omega⟩
 refine gz h <| (ai) ?_ ?_ <;> clear h ac wo <;> intro ac wo h hc1
 ·
  have hd1 : i < l.length := by have := of_decide_eq_true hc1; omega
  have n1' := hlv.nn hd1
  have z := All.gt zl (i := i) (bZ _)
  have c1 := vxs_ct (gt l i).f 30 og z.2
  have c2 := vys_ct (gt l i).f 30 og z.2
  have c3 := fF (lxs (gt l i).f) r 20 og (am (c1 w0)) zq
  have s3 := am (c3 w0)
  have c4 := fF (lys (gt l i).f) r 20 og (am (c2 w0)) zq
  have s4 := am (c4 w0)
  have c5 := bt (aW (lxs (gt l i).f) r).c0 p.x 17 og s3.1 zp.1
  have c6 := bt (aW (lys (gt l i).f) r).c0 p.y 17 og s4.1 zp.2
  refine gz h <| (W) ?_; clear h ac wo; intro ac wo h
  replace h := h.emps 2
  obtain ⟨x, hx⟩ : ∃ x : U Ln, mvU r p (gt l i) = x := ⟨_, rfl⟩
  obtain ⟨g, hg⟩ : ∃ g : Ln, mvF r p (gt l i).f = g := ⟨_, rfl⟩
  have hxe : (⟨shV r (gt l i).iv, g⟩ : U Ln) = x := by rw [← hx, ← hg]; rfl
  obtain ⟨qx, hqx⟩ : ∃ q, aW (lxs (gt l i).f) r = q := ⟨_, rfl⟩
  obtain ⟨qy, hqy⟩ : ∃ q, aW (lys (gt l i).f) r = q := ⟨_, rfl⟩
  have hge : (⟨an qx.c0 p.x, qx.c1, an qy.c0 p.y, qy.c1⟩ : Ln) = g := by rw [← hg, ← hqx, ← hqy]; rfl
  rw [hqx] at c3 c5
  rw [hqy] at c4 c6
  refine ef mixed [dv _, dv _, dv _, dv _, dv (vN (gt l i).f), dv (vD (lxs (gt l i).f)), dw (vQ r) [1], dv (vD qx), dv _, dv _, dv _, dv _, dv (vN (gt l i).f), dv (vD (lys (gt l i).f)), dw (vQ r) [1], dv (vD qy), ⟨.nd (.one 16 fun x => ∃ b, x = ptr b 0), [3]⟩, ⟨.nd (.one 17 fun x => ∃ b, x = ptr b 0), [4]⟩, dw undef [3], dw undef [4]]
   [⟨_, []⟩, ⟨_, []⟩, ⟨_, []⟩, ⟨.emp, [(16, .one 16 fun x => .blk (bo x) (cD default) 53), (18, .one 16 fun x => .blk (bo x) (cD qx) 53)]⟩, ⟨.emp, [(17, .one 17 fun x => .blk (bo x) (cD default) 53), (19, .one 17 fun x => .blk (bo x) (cD qy) 53)]⟩] h rfl (by kernel_rfl)
   ⟨oA obA, oA obA, oA obA, oA obA, oA obA, oA fun _ => fJ (eH Tryz.call146 rfl c1), oA obA, oA fun _ => fJ (eH cc164 rfl c3), oA obA, oA obA, oA obA, oA obA, oA obA, oA fun _ => fJ (eH Tryz.call147 rfl c2), oA obA, oA fun _ => fJ (eH cc164 rfl c4), fun _ _ => iY 3 rfl (fun _ => rfl), fun _ _ => iY 4 rfl (fun _ => rfl), fun ξ hφ => iX (u := vD qx) 3 (hφ 16 rfl) rfl rfl rfl rfl rfl rfl rfl, fun ξ hφ => iX (u := vD qy) 4 (hφ 17 rfl) rfl rfl rfl rfl rfl rfl rfl, trivial⟩ ?_
  clear h ac wo; intro ξ ac wo hφ h
  obtain ⟨b9, hb9⟩ : ∃ b, ξ 16 = ptr b 0 := hφ 16
  obtain ⟨b10, hb10⟩ : ∃ b, ξ 17 = ptr b 0 := hφ 17
  replace h : St w0 80 [(0, lv), (4, ptr b4 0), (5, ptr b5 0), (7, sv), (8, iN i), (9, ξ 16), (10, ξ 17)] [.row (α := U Ln) 88 sv ((l.take i).map (mvU r p)), .blk b4 (cQ r) 27, .blk b5 (cPt p) 29, .blk (bo (ξ 16)) (cD qx) 53, .blk (bo (ξ 17)) (cD qy) 53] ac wo := h.sub ⟨rfl, rfl, rfl, rfl, rfl, rfl, rfl, trivial⟩
  rw [hb9, hb10] at h
  clear hb9 hb10 hφ ξ
  refine gz h <| (W) ?_; clear h ac wo; intro ac wo h
  replace h := h.emps 1
  refine ef mixed [dv _, dw (vQ qx.c0) [3], dv _, dw (vQ p.x) [2], dv (vQ (an qx.c0 p.x)), dv _, dw (vQ qx.c1) [3], dv _, dw (vQ qy.c0) [4], dv _, dw (vQ p.y) [2], dv (vQ (an qy.c0 p.y)), dv _, dw (vQ qy.c1) [4], dv (vN g), ⟨.nd (.one 15 fun x => ∃ b, x = ptr b 0), [5]⟩, dw undef [5]]
   [⟨_, []⟩, ⟨_, []⟩, ⟨_, []⟩, ⟨_, []⟩, ⟨_, []⟩, ⟨.emp, [(15, .one 15 fun x => .blk (bo x) (cN default) 79), (16, .one 15 fun x => .blk (bo x) (cN g) 79)]⟩] h rfl (by kernel_rfl)
   ⟨oA obA, oA obA, oA obA, oA obA, oA fun _ => fJ (eH Tryz.call20 rfl c5), oA obA, oA obA, oA obA, oA obA, oA obA, oA obA, oA fun _ => fJ (eH Tryz.call20 rfl c6), oA obA, oA obA, (by rw [← hge]; exact oA fun _ => a6 (bA uo rfl rfl rfl)), fun _ _ => iY 5 rfl (fun _ => rfl), fun ξ hφ => iX (u := vN g) 5 (hφ 15 rfl) rfl rfl rfl rfl rfl rfl rfl, trivial⟩ ?_
  clear h ac wo; intro ξ ac wo hφ h
  obtain ⟨b11, hb11⟩ : ∃ b, ξ 15 = ptr b 0 := hφ 15
  replace h : St w0 80 [(0, lv), (4, ptr b4 0), (5, ptr b5 0), (7, sv), (8, iN i), (11, ξ 15)] [.row (α := U Ln) 88 sv ((l.take i).map (mvU r p)), .blk b4 (cQ r) 27, .blk b5 (cPt p) 29, .blk (bo (ξ 15)) (cN g) 79] ac wo := (h.pick [0, 1, 2, 5] (by decide)).sub ⟨rfl, rfl, rfl, rfl, rfl, rfl, trivial⟩
  rw [hb11] at h
  clear hb11 hφ ξ
  refine gz h <| (W) ?_; clear h ac wo; intro ac wo h
  replace h := h.emps 2
  obtain ⟨iv, hiv⟩ : ∃ v, (gt l i).iv = v := ⟨_, rfl⟩
  obtain ⟨iw, hiw⟩ : ∃ v, shV r iv = v := ⟨_, rfl⟩
  have zi : All (SzV 30) [iv] := All.cons (by rw [← hiv]; exact z.1) All.nil
  refine ef mixed [dv _, dv _, dv _, dv _, dv (vV (gt l i).iv), ⟨.nd (.one 5 fun v => NN v 1), [4]⟩, dw (vQ r) [1], ⟨.nd (.con True), [5, 4]⟩, ⟨.nd (.two 8 7 fun a b => a = b), []⟩]
   [⟨_, []⟩, ⟨_, []⟩, ⟨_, []⟩, ⟨_, []⟩, ⟨.emp, [(5, .one 5 fun v => .row (α := Iv) 86 v [(gt l i).iv])]⟩, ⟨.emp, [(7, .one 7 fun v => .row (α := Iv) 86 v [iw])]⟩] h rfl (by kernel_rfl)
   ⟨oA obA, oA obA, oA obA, oA obA, oA obA, fun _ _ => kY 4 (gt l i).iv ko rfl rfl, oA obA,
    fun ξ _ => l8 (B := fun x => [.row (α := Iv) 86 x [iw], .row (α := Iv) 86 (ξ 5) [(gt l i).iv]]) [.emp, .row (α := Iv) 86 (ξ 5) [(gt l i).iv]] rfl (fun v _ => by simp only [cA, bn] <;> rfl) (fun _ _ => trivial) (nP (tM (cP Tryz.call167 rfl) (fun w_ hB_ hS_ => by rw [hiv] at hS_; have := tS [iv] (ξ 5) r (by simp) zi zq w_ (row_view hS_ 0 rfl); rw [List.map_singleton, hiw] at this; exact this))),
    fun _ _ => kZ (j := 7) (by decide) rfl, trivial⟩ ?_
  clear h ac wo; intro ξ ac wo hφ h
  replace h : St w0 80 [(0, lv), (4, ptr b4 0), (5, ptr b5 0), (7, sv), (8, iN i), (11, ptr b11 0), (12, ξ 8)] [.row (α := U Ln) 88 sv ((l.take i).map (mvU r p)), .blk b4 (cQ r) 27, .blk b5 (cPt p) 29, .blk b11 (cN g) 79, .row (α := Iv) 86 (ξ 7) [iw]] ac wo := (h.pick [0, 1, 2, 3, 5] (by decide)).sub ⟨rfl, rfl, rfl, rfl, rfl, rfl, rfl, trivial⟩
  rw [show ξ 8 = ξ 7 from hφ 8] at h
  generalize ξ 7 = dv1 at h; clear hφ ξ
  refine gz h <| (W) ?_; clear h ac wo; intro ac wo h
  have hxe2 : (⟨gt [iw] 0, g⟩ : U Ln) = x := by rw [← hxe, hiv, hiw]; rfl
  obtain ⟨o, ho⟩ : ∃ o, (l.take i).map (mvU r p) = o := ⟨_, rfl⟩
  have hol : o.length ≤ i := by rw [← ho, List.length_map, List.length_take]; omega
  rw [ho] at h
  refine wp_loop_ghost (fun n_ a_ w_ => ∃ (k : Nat) (sv : Value), (1 - k < n_) ∧ (k ≤ 1) ∧ St w0 80 [(0, lv), (4, ptr b4 0), (5, ptr b5 0), (7, sv), (8, iN i), (11, ptr b11 0), (12, dv1), (13, iN k)] [.row (α := U Ln) 88 sv (o ++ List.replicate k x), .blk b4 (cQ r) 27, .blk b5 (cPt p) 29, .blk b11 (cN g) 79, .row (α := Iv) 86 dv1 [iw]] a_ w_) 3 ⟨0, sv, by omega, by omega, ?_⟩ ?_
  · rw [List.replicate_zero, List.append_nil]; exact h.re [0, 1, 2, 3, 4]
  clear h ac wo; rintro n2 ac wo ⟨k, sv2, hm2, hk, h⟩
  obtain ⟨m2, rfl⟩ : ∃ m, n2 = m + 1 := ⟨n2 - 1, by omega⟩
  refine gz h <| (ai) ?_ ?_ <;> clear h ac wo <;> intro ac wo h hc2
  ·
   obtain rfl : k = 0 := by have := of_decide_eq_true hc2; rw [show [iw].length = 1 from rfl] at this; omega
   rw [List.replicate_zero, List.append_nil] at h
   have hnn := (row_view h.sep 4 rfl).nn (show 0 < [iw].length by simp)
   refine gz h <| (W) ?_; clear h ac wo; intro ac wo h
   replace h := h.emps 1
   refine ef mixed [dv _, dv _, dv _, dv _, dw (vV (gt [iw] 0)) [4], dw (vN g) [3], dv (vUN x), ⟨.nd (.one 7 fun v => NN v 1), [5]⟩, ⟨.nd (.con True), [0, 5]⟩, ⟨.nd (.two 9 8 fun a b => a = b), []⟩]
    [⟨.row (α := U Ln) 88 sv2 o, [(8, .one 8 fun v => .row (α := U Ln) 88 v (o ++ [x]))]⟩, ⟨_, []⟩, ⟨_, []⟩, ⟨_, []⟩, ⟨_, []⟩, ⟨.emp, [(7, .one 7 fun v => .row (α := U Ln) 88 v [x])]⟩] h rfl (by kernel_rfl)
    ⟨oA obA, oA obA, oA obA, oA obA, oA obA, oA obA, (by rw [← hxe2]; exact oA fun _ => a6 (bA sh rfl rfl rfl)), fun _ _ => kY 5 x kA rfl rfl, fun _ _ => qo (j := 7) 0 5 kA rfl rfl (by omega) rfl (fun v => by simp only [cA, bn] <;> rfl), fun _ _ => kZ (j := 8) (by decide) rfl, trivial⟩ ?_
   clear h ac wo; intro ξ ac wo hφ h
   replace h : St w0 80 [(0, lv), (4, ptr b4 0), (5, ptr b5 0), (7, ξ 9), (8, iN i), (11, ptr b11 0), (12, dv1), (13, iN 0)] [.row (α := U Ln) 88 (ξ 8) (o ++ [x]), .blk b4 (cQ r) 27, .blk b5 (cPt p) 29, .blk b11 (cN g) 79, .row (α := Iv) 86 dv1 [iw]] ac wo := (h.pick [0, 1, 2, 3, 4] (by decide)).sub ⟨rfl, rfl, rfl, rfl, rfl, rfl, rfl, rfl, trivial⟩
   rw [show ξ 9 = ξ 8 from hφ 9] at h
   generalize ξ 8 = s3 at h; clear hφ ξ
   refine gz h <| (W) ?_; clear h ac wo; intro ac wo h
   exact aK ⟨m2, by omega, 1, s3, by omega, by omega, h.re [0, 1, 2, 3, 4]⟩
  ·
   obtain rfl : k = 1 := by have := of_decide_eq_false hc2; rw [show [iw].length = 1 from rfl] at this; omega
   rw [show o ++ List.replicate 1 x = (l.take (i + 1)).map (mvU r p) by rw [← iS hd1, List.map_append, ho, ← hx]; rfl] at h
   refine gz h <| (W) ?_; clear h ac wo; intro ac wo h
   exact aK ⟨m1, by omega, i + 1, sv2, by omega, by omega, h.re [0, 1, 2]⟩
 ·
  have hd1 := of_decide_eq_false hc1
  obtain rfl : i = l.length := by omega
  rw [List.take_length] at h
  have hlm : (l.map (mvU r p)).length < 20 := by rw [List.length_map]; omega
  refine gz h <| (W) ?_; clear h ac wo; intro ac wo h
  refine rb (xs := (az (l.map (mvU r p))).1) h (cP Tryz.call47 rfl) (fun w_ hB_ hS_ => kb (l.map (mvU r p)) sv hlm zr w_ (row_view hS_ 0 rfl)) rfl ?_; clear h ac wo; intro s2 ac wo _ h
  refine gz h <| (W) ?_; clear h ac wo; intro ac wo h
  exact (rt h) (h.retR 0 rfl trivial)
end Go.Sx
namespace Go.Sx
open Go Go.RowKit Go.Proofs
set_option maxRecDepth 100000
set_option maxHeartbeats 40000000
attribute [local irreducible] Code.wp wpList Rd Step ObS Ent
attribute [local irreducible] ao aN ah aw ay bP ap aM
structure XI where
  neg : Bool
  b : ByteArray
structure XQ where
  n : XI
  d : XI
def cXI (x : XI) : List Value := [.bool x.neg, .string x.b]
def vXI (x : XI) : Value := .agg (cXI x).toArray
def cXQ (x : XQ) : List Value := cXI x.n ++ cXI x.d
def vXQ (x : XQ) : Value := .agg (cXQ x).toArray
instance yS3_14 (x : XI) : Cel (vXI x) (cXI x) := ⟨rfl⟩
instance yS3_15 (x : XI) : Dc (cXI x) (vXI x) := ⟨rfl⟩
instance yS3_16 (x : XQ) : Cel (vXQ x) (cXQ x) := ⟨rfl⟩
instance yS3_17 (x : XQ) : Dc (cXQ x) (vXQ x) := ⟨rfl⟩
structure Bad (b : ByteArray) : Prop where
  pos : 0 < b.size
  z : (b[0]'pos).toNat = 0
section
variable {P : Program} {w0 : World} {F : List (Nat × Value)}
theorem r_eqlE {x y : Operand} {t tt : TypeId} {b : ByteArray} (hx : ev F x = some (.string b)) (hy : ev F y = some (.string ⟨#[]⟩)) (hb : Bad b) : Rd P w0 F [] (.binOp .eql t x y tt) (.bool false) := by
  have := r_eqlS (P := P) (w0 := w0) (t := t) (tt := tt) hx hy
  rwa [decide_eq_false (fun e => by have := hb.pos; rw [e] at this; exact absurd this (by decide))] at this
theorem r_neqE {x y : Operand} {t tt : TypeId} {b : ByteArray} (hx : ev F x = some (.string b)) (hy : ev F y = some (.string ⟨#[]⟩)) (hb : Bad b) : Rd P w0 F [] (.binOp .neq t x y tt) (.bool true) := by
  have := r_neqS (P := P) (w0 := w0) (t := t) (tt := tt) hx hy
  rwa [decide_eq_false (fun e => by have := hb.pos; rw [e] at this; exact absurd this (by decide))] at this
theorem r_indexE {x ix : Operand} {t : TypeId} {b : ByteArray} {k : IntKind} (hu : ∀ w, (underlying t).run P w = .ok .string w) (hx : ev F x = some (.string b)) (hi : ev F ix = some (.int k 0)) (hb : Bad b) : Rd P w0 F [] (.index t x ix) (.int .u8 0) := by
  have := mE (P := P) (w0 := w0) (i := 0) hu hx hi hb.pos
  rwa [hb.z] at this
end
theorem xr (x : XI) (hb : Bad x.b) (w0 : World) : Calls Tryz.prog 157 #[vXI x] w0 (dh w0 (.int .i64 5) True) := by
 refine enter (N := 21) (args := [vXI x]) Tryz.func157 rfl rfl ?_; intro ac h
 refine gz h <| (xb) fun b1 => (xo (hs := by exact r_eqlE rfl rfl hb)) <| (xg (hs := by exact fun hg => (Rd.of_nil (r_neqE (fu rfl hg) rfl hb)).step)) <| (xg (hs := by exact fun hg => (Rd.of_nil (r_indexE Tryz.runUnderlying9 (fu rfl hg) rfl hb)).step)) <| (ai) ?_ ?_ <;> clear h ac <;> intro ac wo h hc1
 · refine gz h <| (W) ?_; clear h ac wo; intro ac wo h
   exact (rt h) (h.retP rfl trivial)
 · exfalso; simp at hc1
section
theorem sh25X : Sh Tryz.prog 25 XI vXI := ⟨trivial⟩
attribute [local instance 2000] sh25X
theorem badN_ct (x : XQ) (hb : Bad x.n.b) (w0 : World) : Calls Tryz.prog 62 #[vXQ x] w0 (dh w0 (.int .i64 5) True) := by
 refine enter (N := 31) (args := [vXQ x]) Tryz.func62 rfl rfl ?_; intro ac h
 refine gz h <| (xb) fun b1 => (xk (xr x.n hb)) <| (xg (v := .int .i64 0) (hs := by exact fun hg => False.elim (Bool.noConfusion (show false = true from hg)))) <| (ai) ?_ ?_ <;> clear h ac <;> intro ac wo h hc1
 · refine gz h <| (W) ?_; clear h ac wo; intro ac wo h
   exact (rt h) (h.retP rfl trivial)
 · exfalso; simp at hc1
theorem badD_ct (a : GI) (za : SzI 16 a) (y : XI) (hb : Bad y.b) (w0 : World) : Calls Tryz.prog 62 #[vXQ ⟨⟨a.neg, bs a.mag⟩, y⟩] w0 (dh w0 (.int .i64 5) True) := by
 refine enter (N := 31) (args := [vXQ ⟨⟨a.neg, bs a.mag⟩, y⟩]) Tryz.func62 rfl rfl ?_; intro ac h
 have c1 : ∀ w0, Calls Tryz.prog 157 #[vXI ⟨a.neg, bs a.mag⟩] w0 (dh w0 (.int .i64 (cX a)) True) := fun w0 => ir a za w0
 refine gz h <| (xb) fun b1 => (xk c1) <| (xg (hs := by exact fun hg => fb enA (kk (xr y hb)))) <| (ai) ?_ ?_ <;> clear h ac <;> intro ac wo h hc1
 · refine gz h <| (W) ?_; clear h ac wo; intro ac wo h
   exact (rt h) (h.retP rfl trivial)
 · exfalso; simp at hc1
end
end Go.Sx
namespace Go.Sx
open Go Go.RowKit Go.Proofs
theorem oW : ∀ {l : List UInt8} {c : UInt8}, c ≠ 0 → 0 < qk (l ++ [c])
  | [], c, h => by
    have h2 : c.toNat ≠ 0 := fun e => h (by rw [← UInt8.ofNat_toNat (x := c), e]; rfl)
    show 0 < c.toNat + 256 * qk []
    omega
  | b :: l, c, h => by
    have := oW (l := l) h
    show 0 < b.toNat + 256 * qk (l ++ [c])
    omega
theorem wq : ∀ (l : List UInt8) (c : UInt8), c ≠ 0 → le (qk (l ++ [c])) = l ++ [c]
  | [], c, h => by
    have h0 := oW (l := []) h
    have h2 := c.toNat_lt
    have e : qk ([] ++ [c]) = c.toNat := by show c.toNat + 256 * 0 = _; omega
    rw [e] at h0 ⊢
    rw [jF h0, Nat.mod_eq_of_lt h2, Nat.div_eq_of_lt h2, na, UInt8.ofNat_toNat]; rfl
  | b :: l, c, h => by
    have h0 := oW (l := b :: l) h
    have h2 := b.toNat_lt
    have e : qk ((b :: l) ++ [c]) = b.toNat + 256 * qk (l ++ [c]) := rfl
    rw [jF h0, e]
    rw [show (b.toNat + 256 * qk (l ++ [c])) % 256 = b.toNat by omega, show (b.toNat + 256 * qk (l ++ [c])) / 256 = qk (l ++ [c]) by omega, wq l c h, UInt8.ofNat_toNat]; rfl
theorem tj (b : ByteArray) : (∃ m, b = bs m) ∨ Bad b := by
  obtain ⟨⟨l⟩⟩ := b
  match l with
  | [] => exact .inl ⟨0, rfl⟩
  | c :: r =>
    by_cases h : c = 0
    · refine .inr ⟨by show 0 < (c :: r).toArray.size; simp, ?_⟩
      show c.toNat = 0
      rw [h]; rfl
    · refine .inl ⟨qk (r.reverse ++ [c]), ?_⟩
      unfold bs
      rw [wq _ _ h]
      simp
def qX (a : GQ) : XQ := ⟨⟨a.num.neg, bs a.num.mag⟩, ⟨a.den.neg, bs a.den.mag⟩⟩
theorem xq_cases (x : XQ) (hs : x.n.b.size * 2 ^ 16 ≤ 70368744177664) : (∃ a : GQ, x = qX a) ∨ ∀ w0, Calls Tryz.prog 62 #[vXQ x] w0 (dh w0 (.int .i64 5) True) := by
  obtain ⟨⟨s, b⟩, ⟨t, d⟩⟩ := x
  rcases tj b with ⟨m, rfl⟩ | hb
  · rcases tj d with ⟨k, rfl⟩ | hd
    · exact .inl ⟨⟨⟨s, m⟩, ⟨t, k⟩⟩, rfl⟩
    · refine .inr fun w0 => badD_ct ⟨s, m⟩ ?_ ⟨t, d⟩ hd w0
      unfold SzI SzB
      rw [← dH]
      exact hs
  · exact .inr fun w0 => badN_ct ⟨⟨s, b⟩, ⟨t, d⟩⟩ hb w0
end Go.Sx
namespace Go.Sx
theorem ng {a : GI} (h : cX a = 0) : IOk a := by
  intro e
  cases hn : a.neg with
  | false => rfl
  | true =>
    exfalso
    unfold cX at h
    rw [decide_eq_true e, hn] at h
    have h5 : (5 : Int) = 0 := h
    exact absurd h5 (by decide)
theorem rL {a : GQ} (h : cv a = 0) : QOk a := by
  unfold cv at h
  have h1 : cX a.num = 0 := Classical.byContradiction fun hn => by
    rw [show (cX a.num != 0) = true from bne_iff_ne.2 hn, Bool.true_or, cond_true] at h
    exact absurd h (by decide)
  have h2 : cX a.den = 0 := Classical.byContradiction fun hn => by
    rw [show (cX a.den != 0) = true from bne_iff_ne.2 hn, Bool.or_true, cond_true] at h
    exact absurd h (by decide)
  rw [h1, h2, show (((0 : Int) != 0) || ((0 : Int) != 0)) = false from rfl, cond_false] at h
  have i1 := ng h1
  have i2 := ng h2
  by_cases e : a.den = z0
  · exact ⟨i1, .inl e, by unfold jN; rw [if_pos e]; exact Nat.coprime_one_right _⟩
  · rw [decide_eq_false (show ¬ a.den = (⟨false, 0⟩ : GI) from e), cond_false] at h
    cases hc : decide (cL a.den rational_one ≤ 0) with
    | true => rw [hc, Bool.true_or, cond_true] at h; have h5 : (5 : Int) = 0 := h; exact absurd h5 (by decide)
    | false =>
      cases hg : decide (aS a.num a.den = rational_one) with
      | false => rw [hc, hg] at h; have h5 : (5 : Int) = 0 := h; exact absurd h5 (by decide)
      | true =>
        have g1 := of_decide_eq_false hc
        have g2 := of_decide_eq_true hg
        rw [kJ (b := rational_one) i2 (jo 1), oV] at g1
        have hv : 1 < eU a.den := by
          unfold icmp at g1
          split at g1
          · omega
          · split at g1
            · omega
            · omega
        have hd : a.den.neg = false ∧ 1 < a.den.mag := by
          unfold eU at hv
          cases hn : a.den.neg with
          | false => rw [hn] at hv; exact ⟨rfl, by have : (1 : Int) < (a.den.mag : Int) := hv; omega⟩
          | true => rw [hn] at hv; exfalso; have : (1 : Int) < -(a.den.mag : Int) := hv; omega
        refine ⟨i1, .inr hd, ?_⟩
        unfold jN
        rw [if_neg e]
        have k := congrArg eU g2
        rw [oV] at k
        unfold aS at k
        have k2 : ((Nat.gcd a.num.mag a.den.mag : Nat) : Int) = 1 := k
        exact (by exact_mod_cast k2 : Nat.gcd a.num.mag a.den.mag = 1)
end Go.Sx
namespace Go.Sx
section
variable [K : Key]
theorem kL (i : Iv) : kB (aE i) = 2 * tk i.hi + (bif !i.openHi then 1 else 0) := by rw [pl]; rfl
omit K in
end
end Go.Sx
namespace Go.Sx
section
variable [K : Key]
omit K in
def Cvx (G : Nat → Prop) : Prop := ∀ a b c, a ≤ b → b ≤ c → G a → G c → G b
def Splt (i : Iv) (G : Nat → Prop) : Prop := ∃ a z b, a < z ∧ z < b ∧ inU i a ∧ inU i b ∧ ¬ G a ∧ G z ∧ ¬ G b
theorem rM {i : Iv} (h : Wv i) : Plc (eI i) := by
  rcases gi i with ⟨_, e⟩ | ⟨_, e⟩
  · exact .inl ⟨_, h.1.1, e⟩
  · exact .inr ⟨_, e⟩
theorem plc_lst {i : Iv} (h : Wv i) : Plc (kB (aE i)) := by
  rw [kL]
  cases i.openHi
  · exact .inr ⟨_, rfl⟩
  · exact .inl ⟨_, h.1.2, rfl⟩
theorem wz {a b : Iv} {r : List Iv} (hp : Cn (a :: b :: r)) : Plc (kB (aE a)) ∧ eI a < kB (aE a) ∧ kB (aE a) < eI b ∧ ¬ inP (a :: b :: r) (kB (aE a)) := by
  obtain ⟨hb, sa, wa⟩ := hp.tail
  have s1 := sa b (List.mem_cons_self ..)
  have la := wa.le
  have a1 := kE a
  have b0 := ki b
  refine ⟨plc_lst wa, by omega, by omega, fun h => ?_⟩
  rcases dC.1 h with h | h
  · have := (gA.1 h).2; omega
  · have := hp.behind h; omega
theorem rZ {a : Iv} {r : List Iv} (hp : Cn (a :: r)) : inP (a :: r) (eI a) := dC.2 (.inl (gA.2 (mg hp.tail.2.2)))
theorem r0 {i : Iv} {a b c : Nat} (h1 : a ≤ b) (h2 : b ≤ c) (ha : inU i a) (hc : inU i c) : inU i b := by unfold inU at *; omega
theorem parts2 {p : List Iv} {i : Iv} {G : Nat → Prop} (hG : Cvx G) (hp : Cn p) (h : ∀ q, Plc q → (inP p q ↔ inU i q ∧ ¬ G q)) : p.length ≤ 2 ∧ (p.length = 2 → Splt i G) := by
  match p, hp, h with
  | [], _, _ => exact ⟨Nat.zero_le _, fun e => by cases e⟩
  | [_], _, _ => exact ⟨by simp, fun e => by simp at e⟩
  | a :: b :: r, hp, h =>
    obtain ⟨g1, g2, g3, g4⟩ := wz hp
    have wa := hp.tail.2.2
    have hb := hp.tail.1
    have wb := hb.tail.2.2
    have ia := (h _ (rM wa)).1 (rZ hp)
    have ib := (h _ (rM wb)).1 (dC.2 (.inr (rZ hb)))
    have hz : G (kB (aE a)) := Classical.byContradiction fun hn => g4 ((h _ g1).2 ⟨r0 (Nat.le_of_lt g2) (Nat.le_of_lt g3) ia.1 ib.1, hn⟩)
    refine ⟨?_, fun _ => ⟨_, _, _, g2, g3, ia.1, ib.1, ia.2, hz, ib.2⟩⟩
    match r, hp, hb, h with
    | [], _, _, _ => exact Nat.le_refl _
    | c :: r, hp, hb, h =>
      exfalso
      obtain ⟨k1, k2, k3, k4⟩ := wz hb
      have wc := hb.tail.1.tail.2.2
      have ic := (h _ (rM wc)).1 (dC.2 (.inr (dC.2 (.inr (rZ hb.tail.1)))))
      have hz2 : G (kB (aE b)) := Classical.byContradiction fun hn => by
        have := (h _ k1).2 ⟨r0 (Nat.le_of_lt k2) (Nat.le_of_lt k3) ib.1 ic.1, hn⟩
        rcases dC.1 this with h | h
        · have := (gA.1 h).2
          have a1 := kE a
          omega
        · exact k4 h
      exact ib.2 (hG _ _ _ (Nat.le_of_lt g3) (Nat.le_of_lt k2) hz hz2)
theorem splt_one {i j : Iv} {G : Nat → Prop} (hG : Cvx G) (hd : Dj i j) (hi : Splt i G) (hj : Splt j G) : False := by
  obtain ⟨a, z, b, h1, h2, h3, h4, h5, h6, h7⟩ := hi
  obtain ⟨a', z', b', k1, k2, k3, k4, k5, k6, k7⟩ := hj
  unfold Dj at hd
  unfold inU at h3 h4 k3 k4
  rcases hd with hd | hd
  · exact h7 (hG z b z' (by omega) (by omega) h6 k6)
  · exact k7 (hG z' b' z (by omega) (by omega) k6 h6)
theorem qj {f : U Ln → List (U Ln)} {G : Nat → Prop} (hG : Cvx G) : ∀ {l : List (U Ln)}, (l.Pairwise fun a b => Dj a.iv b.iv) → (∀ u ∈ l, (f u).length ≤ 2 ∧ ((f u).length = 2 → Splt u.iv G)) → (l.flatMap f).length ≤ l.length + 1 ∧ ((∀ u ∈ l, ¬ Splt u.iv G) → (l.flatMap f).length ≤ l.length)
  | [], _, _ => ⟨by simp, fun _ => by simp⟩
  | u :: l, hp, h => by
    obtain ⟨p1, p2⟩ := List.pairwise_cons.1 hp
    obtain ⟨s1, s2⟩ := qj hG p2 fun v hv => h v (List.mem_cons_of_mem _ hv)
    obtain ⟨u1, u2⟩ := h u (List.mem_cons_self ..)
    rw [List.flatMap_cons, List.length_append, List.length_cons]
    refine ⟨?_, fun hn => ?_⟩
    · by_cases e : Splt u.iv G
      · have := s2 fun v hv hs => splt_one hG (p1 v hv) e hs
        omega
      · have : (f u).length ≠ 2 := fun h2 => e (u2 h2)
        omega
    · have : (f u).length ≠ 2 := fun h2 => hn u (List.mem_cons_self ..) (u2 h2)
      have := s2 fun v hv => hn v (List.mem_cons_of_mem _ hv)
      omega
theorem rsI_part {l : List (U Ln)} {d : List Iv} {G : Nat → Prop} (hG : Cvx G) (hl : NFl l) (hd : Cn d) (h : ∀ u ∈ l, ∀ x, Plc x → inU u.iv x → (inP d x ↔ ¬ G x)) : (rsI l d).length ≤ l.length + 1 := by
  refine (qj hG hl.dj fun u hu => ?_).1
  rw [List.length_map]
  obtain ⟨c, p⟩ := ly (iG (hl.wv u hu)) hd.wv
  refine parts2 hG c fun q hq => (p q).trans ⟨fun ⟨a, b⟩ => ⟨i0.1 a, (h u hu q hq (i0.1 a)).1 b⟩, fun ⟨a, b⟩ => ⟨i0.2 a, (h u hu q hq a).2 b⟩⟩
variable [KeyZ] [KeyB]
theorem mov_len (c : Crq) (s : List Stq) (p q : Nat) [KeyG p q] : (uw c s p q).length ≤ 8 := by
  obtain ⟨_, h, hl⟩ := rp c s
  unfold uw
  cases decide (p % 3 = 0) with
  | true => rw [cond_true]; omega
  | false =>
    rw [cond_false]
    have hg : Wv (nv p q) := ww
    obtain ⟨c1, p1⟩ := sZ h.nf.wv
    obtain ⟨c2, p2⟩ := lj c1.wv (iG hg)
    obtain ⟨_, _, _, h4⟩ := oO h.nf h.ok c2.wv
    have := rsI_part (l := eL c s) (G := inU (nv p q)) (fun a b c h1 h2 ha hc => r0 h1 h2 ha hc) h.nf c2 fun u hu x hx hi => (p2 x).trans ⟨fun ⟨a, b⟩ g => b (i0.2 g), fun hn => ⟨(p1 x).2 ⟨u, hu, hi⟩, fun g => hn (i0.1 g)⟩⟩
    have := h4.len
    omega
end
end Go.Sx
