/- A part of the proof of movingpointRestricts. -/
import Derived.Test.YtbenbmdkhcfcfaaGreatDoorM9
import Derived.Test.YtbenbmdkhcfcfaaGreatDoorM7
set_option linter.unusedVariables false
set_option linter.unusedSimpArgs false
open Go.Proofs.Tryz renaming runUnderlying232 → uu232, runUnderlying80 → uu80, runUnderlying208 → uu208
namespace Go.Sx
theorem mX {α : Type} [Inhabited α] {l : List α} {i : Nat} (h : i < l.length) : gt l i ∈ l := by rw [gk h]; exact List.getElem_mem _
section
variable [K : Key]
end
end Go.Sx
namespace Go.Sx
def kcL (p q : Nat) : List GR := (List.range 65).map inZ ++ [au (qa p), au (qa (p + q)), gX p]
theorem inZ0 : (default : GR) = inZ 0 := by
  have e : ax 0 = ⟨false, 0⟩ := su (j5 0) (fun _ => rfl) (by rw [eW]; rfl)
  have h : ah ((0 : Nat) : Int) = ⟨⟨false, 0⟩, ⟨false, 0⟩⟩ := by unfold ah; rw [show ((0 : Nat) : Int) = 0 from rfl, e]
  unfold inZ
  rw [h]
  unfold au
  rfl
theorem rF {p q : Nat} {x : GR} (h : x ∈ kcL p q) : (∃ n, n ≤ 64 ∧ x = inZ n) ∨ x = au (qa p) ∨ x = au (qa (p + q)) ∨ x = gX p := by
  unfold kcL at h
  rcases List.mem_append.1 h with h | h
  · obtain ⟨n, hn, rfl⟩ := List.mem_map.1 h
    exact .inl ⟨n, by have := List.mem_range.1 hn; omega, rfl⟩
  · simp at h; exact .inr h
theorem kcL_z {p q n : Nat} (h : n ≤ 64) : inZ n ∈ kcL p q := List.mem_append_left _ (List.mem_map_of_mem (List.mem_range.2 (by omega)))
theorem kc_ok {p q : Nat} {x : GR} (h : x ∈ kcL p q) : ROk x := by
  rcases rF h with ⟨n, _, rfl⟩ | rfl | rfl | rfl
  · exact inZ_ok n
  · exact tG (nk _).1
  · exact tG (nk _).1
  · exact gX_ok p
theorem tC {p q : Nat} (hp : p < 256) (hq : q < 256) {x : GR} (h : x ∈ kcL p q) : Bq 100 x.p ∧ Bq 100 x.r := by
  rcases rF h with ⟨n, hn, rfl⟩ | rfl | rfl | rfl
  · exact ⟨Bq.int _ (by omega) (by decide), Bq.zero (by decide)⟩
  · exact ⟨(qa_bq (by omega)).le (by decide), Bq.zero (by decide)⟩
  · exact ⟨(qa_bq (by omega)).le (by decide), Bq.zero (by decide)⟩
  · exact ⟨(qa_bq (by omega)).le (by decide), Bq.int _ (by decide) (by decide)⟩
theorem kc_rt {p q : Nat} {x : GR} (h : x ∈ kcL p q) : RtR x := by
  rcases rF h with ⟨n, _, rfl⟩ | rfl | rfl | rfl
  · rw [show inZ n = au (ah (n : Int)) from rfl]; unfold RtR; rw [(fr_p _).2.1]; exact ⟨by decide, rfl⟩
  · unfold RtR; rw [(fr_p _).2.1]; exact ⟨by decide, rfl⟩
  · unfold RtR; rw [(fr_p _).2.1]; exact ⟨by decide, rfl⟩
  · exact ⟨by show (ah ((2 : Nat) : Int)).num.mag < 4; rw [show (ah ((2 : Nat) : Int)).num = ax ((2 : Nat) : Int) by unfold ah; rfl, ← fZ, eW]; decide, by show (ah 2).den = _; unfold ah; rfl⟩
end Go.Sx
namespace Go.Sx
open Go Go.RowKit Go.Proofs
set_option maxRecDepth 100000
set_option maxHeartbeats 40000000
attribute [local irreducible] Code.wp wpList Rd Step ObS Ent
attribute [local irreducible] am aQ ah aw aD bU au aS
attribute [local irreducible] aW aV ak aC aU aj bn eF j6 ch ax
theorem short_ct (c : Crq) (s : List Stq) (sv : Value) (w0 : World) (hsv : View w0 sv s) : Calls Tryz.prog 49 #[vCr c sv] w0 (dA w0 (.bool (decide (((s.length : Nat) : Int) ≤ 6))) True) := by
 refine enter (N := 7) (args := [vCr c sv]) Tryz.func49 rfl rfl ?_; intro ac h
 have hlen := hsv.len
 refine gz h <| (xb) fun b1 => (W) ?_; clear h ac; intro ac wo h
 exact (rt h) (h.retP rfl trivial)
section
variable [K : Key] [KeyZ] [KeyB]
omit [KeyZ] [KeyB] in
theorem mv_sz {l : List (U Ln)} (hN : NFl l) (hD : ∀ u ∈ l, DT u.f) (k : Nat) (hk : k ≤ 30) : All (gG k) l := fun u hu => kq (mB (hN.wv u hu) ((hD u hu).bl (by decide)) (by decide)) hk
omit [KeyZ] [KeyB] in
end
end Go.Sx
namespace Go.Sx
section
variable [K : Key]
def mF (x y : Iv) : Bd := if kB (aB x) < kB (aB y) then aB y else aB x
def mL (x y : Iv) : Bd := if kB (ay y) < kB (ay x) then ay y else ay x
theorem kF (i : Iv) : kB (aB i) = 2 * tk i.lo + (bif i.openLo then 1 else 0) := by rw [pf]; rfl
theorem kL (i : Iv) : kB (ay i) = 2 * tk i.hi + (bif !i.openHi then 1 else 0) := by rw [pl]; rfl
theorem mF_lt {x y : Iv} (h : tk x.lo < tk y.lo) : mF x y = ⟨y.lo, y.openLo⟩ := by
  unfold mF
  rw [if_pos (by have := bb x.openLo; have := bb y.openLo; rw [kF, kF]; omega), pf]
theorem mF_gt {x y : Iv} (h : tk y.lo < tk x.lo) : mF x y = ⟨x.lo, x.openLo⟩ := by
  unfold mF
  rw [if_neg (by have := bb x.openLo; have := bb y.openLo; rw [kF, kF]; omega), pf]
theorem mF_eq {x y : Iv} (h : x.lo = y.lo) : mF x y = ⟨x.lo, x.openLo || y.openLo⟩ := by
  unfold mF
  rw [kF, kF, h]
  unfold aB
  rw [h]
  cases x.openLo <;> cases y.openLo <;> simp
theorem mL_lt {x y : Iv} (h : tk x.hi < tk y.hi) : mL x y = ⟨x.hi, !x.openHi⟩ := by
  unfold mL
  rw [if_neg (by have := bb (!x.openHi); have := bb (!y.openHi); rw [kL, kL]; omega), pl]
theorem mL_gt {x y : Iv} (h : tk y.hi < tk x.hi) : mL x y = ⟨y.hi, !y.openHi⟩ := by
  unfold mL
  rw [if_pos (by have := bb (!x.openHi); have := bb (!y.openHi); rw [kL, kL]; omega), pl]
theorem mL_eq {x y : Iv} (h : x.hi = y.hi) : mL x y = ⟨x.hi, !(x.openHi || y.openHi)⟩ := by
  unfold mL
  rw [kL, kL, h]
  unfold ay
  rw [h]
  cases x.openHi <;> cases y.openHi <;> simp
theorem flag {a b : GR} (ha : Tm a) (hb : Tm b) (o p : Bool) : ((decide ((am a b) < 0)) || ((((am a b) == 0) && (!o)) && (!p))) = decide (kB ⟨a, o⟩ < kB ⟨b, !p⟩) := by
  rw [ha.cmp hb]
  unfold kB
  simp only
  have h1 := bb o
  have h2 := bb (!p)
  rcases Nat.lt_trichotomy (tk a) (tk b) with e | e | e
  · rw [gy e, decide_eq_true (by omega : 2 * tk a + (bif o then 1 else 0) < 2 * tk b + (bif !p then 1 else 0))]; rfl
  · rw [e, eO]
    cases o <;> cases p <;> simp
  · rw [g8 e, decide_eq_false (by omega : ¬ 2 * tk a + (bif o then 1 else 0) < 2 * tk b + (bif !p then 1 else 0))]; rfl
omit K in
theorem bet (a b : GR) (o p : Bool) : a6 ⟨a, o⟩ ⟨b, !p⟩ = ⟨a, b, o, p⟩ := by
  unfold a6
  simp only [Bool.not_not]
theorem ve {x y : Iv} (hx : Tv x) (hy : Tv y) : bB x y = (a6 (mF x y) (mL x y), decide (kB (mF x y) < kB (mL x y))) := by
  unfold bB
  rw [hx.1.cmp hy.1, hx.2.cmp hy.2]
  rcases Nat.lt_trichotomy (tk x.lo) (tk y.lo) with e | e | e
  · rw [gy e, mF_lt e, show decide ((-1 : Int) < 0) = true from rfl, cond_true]
    rcases Nat.lt_trichotomy (tk x.hi) (tk y.hi) with g | g | g
    · rw [gy g, show decide ((-1 : Int) > 0) = false from rfl, cond_false, show ((-1 : Int) == 0) = false from rfl, cond_false, mL_lt g, bet, flag hy.1 hx.2]
    · rw [g, eO, show decide ((0 : Int) > 0) = false from rfl, cond_false, show ((0 : Int) == 0) = true from rfl, cond_true, mL_eq ((hx.2.inj hy.2).1 g), bet, flag hy.1 hx.2]
    · rw [g8 g, show decide ((1 : Int) > 0) = true from rfl, cond_true, mL_gt g, bet, flag hy.1 hy.2]
  · rw [e, eO, mF_eq ((hx.1.inj hy.1).1 e), show decide ((0 : Int) < 0) = false from rfl, cond_false, show ((0 : Int) == 0) = true from rfl, cond_true]
    rcases Nat.lt_trichotomy (tk x.hi) (tk y.hi) with g | g | g
    · rw [gy g, show decide ((-1 : Int) > 0) = false from rfl, cond_false, show ((-1 : Int) == 0) = false from rfl, cond_false, mL_lt g, bet, flag hx.1 hx.2]
    · rw [g, eO, show decide ((0 : Int) > 0) = false from rfl, cond_false, show ((0 : Int) == 0) = true from rfl, cond_true, mL_eq ((hx.2.inj hy.2).1 g), bet, flag hx.1 hx.2]
    · rw [g8 g, show decide ((1 : Int) > 0) = true from rfl, cond_true, mL_gt g, bet, flag hx.1 hy.2]
  · rw [g8 e, mF_gt e, show decide ((1 : Int) < 0) = false from rfl, cond_false, show ((1 : Int) == 0) = false from rfl, cond_false]
    rcases Nat.lt_trichotomy (tk x.hi) (tk y.hi) with g | g | g
    · rw [gy g, show decide ((-1 : Int) > 0) = false from rfl, cond_false, show ((-1 : Int) == 0) = false from rfl, cond_false, mL_lt g, bet, flag hx.1 hx.2]
    · rw [g, eO, show decide ((0 : Int) > 0) = false from rfl, cond_false, show ((0 : Int) == 0) = true from rfl, cond_true, mL_eq ((hx.2.inj hy.2).1 g), bet, flag hx.1 hx.2]
    · rw [g8 g, show decide ((1 : Int) > 0) = true from rfl, cond_true, mL_gt g, bet, flag hx.1 hy.2]
theorem meet_pl {x y : Iv} (hx : Wv x) (hy : Wv y) (h : (bB x y).2 = true) :
    Wv (bB x y).1 ∧ ∀ q, inU (bB x y).1 q ↔ inU x q ∧ inU y q := by
  rw [ve hx.1 hy.1] at h ⊢
  have hk := of_decide_eq_true h
  have tF : Tm (mF x y).at_ := by unfold mF; split; · rw [pf]; exact hy.1.1
                                  · rw [pf]; exact hx.1.1
  have tL : Tm (mL x y).at_ := by unfold mL; split; · rw [pl]; exact hy.1.2
                                  · rw [pl]; exact hx.1.2
  have e1 : e5 (a6 (mF x y) (mL x y)) = kB (mF x y) := by unfold a6; rfl
  have e2 : eZ (a6 (mF x y) (mL x y)) = (kB (mL x y) : Int) - 1 := by
    unfold a6 eZ kB
    cases (mL x y).behind <;> simp <;> omega
  have hF : kB (mF x y) = max (kB (aB x)) (kB (aB y)) := by unfold mF; split <;> omega
  have hL : kB (mL x y) = min (kB (ay x)) (kB (ay y)) := by unfold mL; split <;> omega
  constructor
  · refine ⟨⟨by unfold a6; exact tF, by unfold a6; exact tL⟩, ?_, ?_⟩
    · unfold a6; dsimp only
      unfold kB at hk
      cases h1 : (mF x y).behind <;> cases h2 : (mL x y).behind <;> rw [h1, h2] at hk <;> simp at hk <;> omega
    · unfold a6; dsimp only
      intro e
      unfold kB at hk
      rw [e] at hk
      cases h1 : (mF x y).behind <;> cases h2 : (mL x y).behind <;> rw [h1, h2] at hk <;> simp only [cond_true, cond_false] at hk <;> first | (exfalso; omega) | simp
  · intro q
    unfold inU
    rw [e1, e2, hF, hL]
    have a1 := gj x
    have a2 := gj y
    have b1 := gM x
    have b2 := gM y
    omega
theorem meet_no {x y : Iv} (hx : Wv x) (hy : Wv y) (h : (bB x y).2 = false) : ∀ q, ¬ (inU x q ∧ inU y q) := by
  rw [ve hx.1 hy.1] at h
  have hk := of_decide_eq_false h
  have hF : kB (mF x y) = max (kB (aB x)) (kB (aB y)) := by unfold mF; split <;> omega
  have hL : kB (mL x y) = min (kB (ay x)) (kB (ay y)) := by unfold mL; split <;> omega
  intro q ⟨h1, h2⟩
  unfold inU at h1 h2
  have a1 := gj x
  have a2 := gj y
  have b1 := gM x
  have b2 := gM y
  omega
end
end Go.Sx
namespace Go.Sx
open Go Go.RowKit Go.Proofs
set_option maxRecDepth 100000
set_option maxHeartbeats 40000000
attribute [local irreducible] Code.wp wpList Rd Step ObS Ent
attribute [local irreducible] am aQ ah aw aD bU au aS
attribute [local irreducible] aW aV ak aC aU aj bn eF j6 ch ax
instance yN2_1 : Sz Tryz.prog 232 32 := ⟨Tryz.sizeOf232⟩
instance yN2_2 : Ag Tryz.prog 232 true := ⟨Tryz.isAgg232⟩
instance yN2_3 : Un Tryz.prog 118 (.slice 232) := ⟨Tryz.runUnderlying118⟩
instance yN2_4 : Fl Tryz.prog 232 0 86 0 := ⟨⟨_, _, uu232, rfl, rfl, rfl⟩⟩
instance yN2_5 : Fl Tryz.prog 232 1 53 20 := ⟨⟨_, _, uu232, rfl, rfl, rfl⟩⟩
instance yN2_6 : Cf Tryz.prog 237 := ⟨Tryz.call237⟩
instance yN2_7 : Cf Tryz.prog 173 := ⟨Tryz.call173⟩
instance yN2_8 : Cf Tryz.prog 174 := ⟨Tryz.call174⟩
end Go.Sx
namespace Go.Sx
open Go Go.RowKit Go.Proofs
set_option maxRecDepth 100000
set_option maxHeartbeats 40000000
attribute [local irreducible] Code.wp wpList Rd Step ObS Ent
attribute [local irreducible] am aQ ah aw aD bU au aS
attribute [local irreducible] aW aV ak aC aU aj bn eF j6 ch ax dX
theorem qn (w : World) : (method (Tryz.prog.types.size + Made.depth) 80 (.agg #[]) "Check").run Tryz.prog w = .ok (45, .agg #[]) w := jM (P := Tryz.prog) (T := 80) Tryz.type80 (by kernel_rfl) uu80 w
instance yN2_9 : Mt Tryz.prog 80 (.agg #[]) "Check" 45 := ⟨qn⟩
theorem oR (w : World) : (nilAhead (Tryz.prog.types.size + Made.depth) 80 (.agg #[]) "Check").run Tryz.prog w = .ok (some false) w := iz (P := Tryz.prog) (T := 80) (f := 45) Tryz.type80 (by kernel_rfl) uu80 w
instance yN2_10 : Nl Tryz.prog 80 (.agg #[]) "Check" := ⟨oR⟩
theorem lchk_ct (f : Ln) (zf : SzN 20 f) (hf : ∀ i, i < 4 → cH (gt [f.x0, f.x1, f.y0, f.y1] i) = 0) (w0 : World) : Calls Tryz.prog 45 #[(.agg #[]), (vN f)] w0 (dA w0 (.int .i64 0) True) := by
 refine enter (N := 26) (args := [(.agg #[]), (vN f)]) Tryz.func45 rfl rfl ?_; intro ac h
 refine gz h <| (xb) fun b1 => (xb) fun b2 => (xo (hs := by exact r_buildA (α := GQ) (xs := [.tmp 9, .tmp 11, .tmp 13, .tmp 15]) (vs := [(vQ f.x0), (vQ f.x1), (vQ f.y0), (vQ f.y1)]) [f.x0, f.x1, f.y0, f.y1] Tryz.zeroValue208 uu208 Tryz.sizeOf27 rfl rfl rfl)) <| (W) ?_; clear h ac; intro ac wo h
 refine wp_loop_ghost (fun n_ a_ w_ => ∃ (i : Nat), (4 - i < n_) ∧ (i ≤ 4) ∧ St w0 26 [(16, (.agg (flat [f.x0, f.x1, f.y0, f.y1]).toArray)), (17, iN i)] [] a_ w_) 5 ⟨0, by omega, by omega, h.re []⟩ ?_
 clear h ac wo; rintro n1 ac wo ⟨i, hm1, hi, h⟩
 obtain ⟨m1, rfl⟩ : ∃ m, n1 = m + 1 := ⟨n1 - 1, by omega⟩
 refine gz h <| (ai) ?_ ?_ <;> clear h ac wo <;> intro ac wo h hc1
 ·
  have hd1 : i < 4 := by have := of_decide_eq_true hc1; omega
  have hz : All (SzQ 20) [f.x0, f.x1, f.y0, f.y1] := All.cons zf.1 (All.cons zf.2.1 (All.cons zf.2.2.1 (All.cons zf.2.2.2 All.nil)))
  refine gz h <| (xo (hs := by exact r_indexA (i := i) (us := [f.x0, f.x1, f.y0, f.y1]) (u := (gt [f.x0, f.x1, f.y0, f.y1] i)) uu208 Tryz.sizeOf27 Tryz.isAgg27 rfl rfl og (l6 (by simp; omega)) (v := (vQ (gt [f.x0, f.x1, f.y0, f.y1] i))) rfl)) <| (xa) fun b3 => (xk (eE (gt [f.x0, f.x1, f.y0, f.y1] i) (cw (All.gt hz (rS _)) og))) <| (ai) ?_ ?_ <;> clear h ac wo <;> intro ac wo h hc2
  · exfalso; rw [hf i hd1] at hc2; simp at hc2
  · refine gz h <| (W) ?_; clear h ac wo; intro ac wo h
    exact aK ⟨m1, by omega, i + 1, by omega, by omega, h.re []⟩
 ·
  refine gz h <| (W) ?_; clear h ac wo; intro ac wo h
  exact (rt h) (h.retP rfl trivial)
theorem lneq1_ct (x : U Ln) (b : Nat) (zx : gG 20 x) (w0 : World) (hbp : PV w0 b [.iface 80 (.agg #[])]) : Calls Tryz.prog 218 #[(vUN x), (vUN x), (ptr b 0)] w0 (dA w0 (.bool true) (True)) := by
 refine enter (N := 19) (args := [(vUN x), (vUN x), (ptr b 0)]) Tryz.func218 rfl rfl ?_; intro ac h
 refine gz h <| (xb) fun b1 => (xb) fun b2 => (xg (hs := by exact fun hg => (Rd.of_nil (r_ldP hbp Tryz.isAgg198 Tryz.sizeOf198 rfl rfl rfl (v := (.iface 80 (.agg #[]))) rfl)).step)) <| (xg (hs := by exact fun hg => fb enA (kk (ie x.f x.f zx.2 zx.2)))) <| (W) ?_; clear h ac; intro ac wo h
 exact (rt h) (h.retP (by rw [(jj x.f x.f).2 rfl, decide_eq_true rfl] <;> rfl) trivial)
theorem leqf_ct (xs : List (U Ln)) (xsv ysv : Value) (b : Nat) (hl : xs.length ≤ 1000) (zxs : All (gG 20) xs) (w0 : World) (hxsv : View w0 xsv xs) (hysv : View w0 ysv xs) (hbp : PV w0 b [.iface 80 (.agg #[])]) : Calls Tryz.prog 217 #[xsv, ysv, (.func (.func 218) #[] #[(ptr b 0)])] w0 (dA w0 (.bool true) (True)) := by
 refine enter (N := 32) (args := [xsv, ysv, (.func (.func 218) #[] #[(ptr b 0)])]) Tryz.func217 rfl rfl ?_; intro ac h
 have hlenxs := hxsv.len
 refine gz h <| (ai) ?_ ?_ <;> clear h ac <;> intro ac wo h hc1
 · exfalso; simp at hc1
 refine gz h <| (W) ?_; clear h ac wo; intro ac wo h
 refine wp_loop_ghost (fun n_ a_ w_ => ∃ (i : Nat), (xs.length - i < n_) ∧ (i ≤ xs.length) ∧ St w0 32 [(1, ysv), (2, (.func (.func 218) #[] #[(ptr b 0)])), (15, xsv), (16, iN xs.length), (17, iN i)] [] a_ w_) (xs.length + 1) ⟨0, by omega, by omega, h.rs⟩ ?_
 clear h ac wo; rintro n1 ac wo ⟨i, hm1, hi, h⟩
 obtain ⟨m1, rfl⟩ : ∃ m, n1 = m + 1 := ⟨n1 - 1, by omega⟩
 refine gz h <| (ai) ?_ ?_ <;> clear h ac wo <;> intro ac wo h hc2
 ·
  have hd1 : i < xs.length := by have := of_decide_eq_true hc2; omega
  have n1' := hxsv.nn hd1
  have n2' := hysv.nn hd1
  refine gz h <| (xa) fun b1 => (xa) fun b2 => (xc (ct := by exact fun w_ hB_ hS_ => lneq1_ct (gt xs i) b (All.gt zxs (bP _)) w_ (hbp.below hB_))) <| (ai) ?_ ?_ <;> clear h ac wo <;> intro ac wo h hc3
  · exfalso; simp at hc3
  · refine gz h <| (W) ?_; clear h ac wo; intro ac wo h
    exact aK ⟨m1, by omega, i + 1, by omega, by omega, h.re []⟩
 ·
  refine gz h <| (W) ?_; clear h ac wo; intro ac wo h
  exact (rt h) (h.retP rfl trivial)
theorem leq_ct (l : List (U Ln)) (av bv : Value) (hl : l.length ≤ 1000) (zl : All (gG 20) l) (w0 : World) (hav : View w0 av l) (hbv : View w0 bv l) : Calls Tryz.prog 133 #[(.iface 80 (.agg #[])), av, bv] w0 (dA w0 (.bool true) (True)) := by
 refine enter (N := 11) (args := [(.iface 80 (.agg #[])), av, bv]) Tryz.func133 rfl rfl ?_; intro ac h
 haveI : Cel (Value.iface 80 (.agg #[])) [.iface 80 (.agg #[])] := ⟨rfl⟩
 refine gz h <| (xb) fun b3 => (xo (hs := by exact ly (vs := [ptr b3 0]) rfl)) <| (xc (ct := by exact fun w_ hB_ hS_ => leqf_ct l av bv b3 hl zl w_ (hav.below hB_) (hbv.below hB_) (blk_pv hS_ 0 rfl))) <| (W) ?_; clear h ac; intro ac wo h
 exact (rt h) (h.retP rfl trivial)
structure Chk (l : List (U Ln)) : Prop where
  len : l.length < 20
  sz : All (gG 30) l
  rt : ∀ j, RtV (gt l j).iv
  iv : ∀ j, j < l.length → cL (gt l j).iv = 0
  f : ∀ j, j < l.length → ∀ i, i < 4 → cH (gt [(gt l j).f.x0, (gt l j).f.x1, (gt l j).f.y0, (gt l j).f.y1] i) = 0
  ap : ∀ j, 0 < j → j < l.length → dX (gt l (j - 1)).iv (gt l j).iv = true
  n : aG l = (l, 0)
theorem pchk_ct (l : List (U Ln)) (lv : Value) (c : Chk l) (w0 : World) (hlv : View w0 lv l) : Calls Tryz.prog 41 #[(.iface 80 (.agg #[])), lv] w0 (dA w0 (.int .i64 0) (True)) := by
 refine enter (N := 64) (args := [(.iface 80 (.agg #[])), lv]) Tryz.func41 rfl rfl ?_; intro ac h
 have hlen := hlv.len
 have hl := c.len
 refine gz h <| (ai) ?_ ?_ <;> clear h ac <;> intro ac wo h hc1
 · have := of_decide_eq_true hc1; omega
 refine gz h <| (W) ?_; clear h ac wo; intro ac wo h
 refine wp_loop_ghost (fun n_ a_ w_ => ∃ (i : Nat), (l.length - i < n_) ∧ (i ≤ l.length) ∧ St w0 64 [(0, (.iface 80 (.agg #[]))), (1, lv), (14, lv), (15, iN l.length), (16, iN i)] [] a_ w_) (l.length + 1) ⟨0, by omega, by omega, h.rs⟩ ?_
 clear h ac wo; rintro n1 ac wo ⟨i, hm1, hi, h⟩
 obtain ⟨m1, rfl⟩ : ∃ m, n1 = m + 1 := ⟨n1 - 1, by omega⟩
 refine gz h <| (ai) ?_ ?_ <;> clear h ac wo <;> intro ac wo h hc2
 ·
  have hd1 : i < l.length := by have := of_decide_eq_true hc2; omega
  have n1' := hlv.nn hd1
  have z := All.gt c.sz (i := i) (bP _)
  refine gz h <| (xa) fun b1 => (xk (jh ((gt l i).iv) (c.rt i) z.1)) <| (ai) ?_ ?_ <;> clear h ac wo <;> intro ac wo h hc3
  · exfalso; rw [c.iv i hd1] at hc3; simp at hc3
  refine gz h <| (xk (lchk_ct ((gt l i).f) (jz z.2 og) (c.f i hd1))) <| (ai) ?_ ?_ <;> clear h ac wo <;> intro ac wo h hc4
  · exfalso; simp at hc4
  refine gz h <| (dr0 (hob := (oG (by exact fun hg => jI ((gt l (i - 1)).iv) ((gt l i).iv) 10 og (All.gt c.sz (bP _)).1 z.1)) <| oE)) <| (ai) ?_ ?_ <;> clear h ac wo <;> intro ac wo h hc5
  · exfalso
    by_cases h0 : 0 < i
    · rw [c.ap i h0 hd1] at hc5; simp at hc5
    · rw [decide_eq_false (by omega : ¬ ((i : Nat) : Int) > 0)] at hc5; simp at hc5
  refine gz h <| (W) ?_; clear h ac wo; intro ac wo h
  exact aK ⟨m1, by omega, i + 1, by omega, by omega, h.re []⟩
 ·
  refine gz h <| (W) ?_; clear h ac wo; intro ac wo h
  have ec : (aG l).1 = l := by rw [c.n]
  have e2 : (aG l).2 = 0 := by rw [c.n]
  refine pD (xs := l) h (cZ Tryz.call132 rfl) (fun w_ hB_ hS_ => by have := dq l lv hl c.sz w_ (hlv.below hB_); rw [ec, e2] at this; exact this) rfl ?_; clear h ac wo; intro sv3 ac wo _ h
  refine gz h <| (xg (hs := by exact fun hg => fb enA (fun w_ hB_ hS_ => leq_ct l lv sv3 (by omega) (All.mono c.sz (fun _ h_ => kq h_ og)) w_ (hlv.below hB_) (row_view hS_ 0 rfl)))) <| (ai) ?_ ?_ <;> clear h ac wo <;> intro ac wo h hc6
  · exfalso; simp at hc6
  · refine gz h <| (W) ?_; clear h ac wo; intro ac wo h
    exact (rt h) (h.retP rfl trivial)
theorem mchk_ct (l : List (U Ln)) (lv : Value) (c : Chk l) (w0 : World) (hlv : View w0 lv l) : Calls Tryz.prog 43 #[lv] w0 (dA w0 (.int .i64 0) (True)) := by
 refine enter (N := 8) (args := [lv]) Tryz.func43 rfl rfl ?_; intro ac h
 have hl := c.len
 refine gz h <| (W) ?_; clear h ac; intro ac wo h
 refine fF (xs := l) h (cZ Tryz.call100 rfl) (fun w_ hB_ hS_ => to_ct l lv (by omega) w_ (hlv.below hB_)) rfl ?_; clear h ac wo; intro s1 ac wo _ h
 refine gz h <| (xc (ct := by exact fun w_ hB_ hS_ => pchk_ct l s1 c w_ (row_view hS_ 0 rfl))) <| (W) ?_; clear h ac wo; intro ac wo h
 exact (rt h) (h.retP rfl trivial)
theorem nL (l : List (U Ln)) (lv : Value) (hl : l.length < 20) (zl : All (gG 30) l) (w0 : World) (hlv : View w0 lv l) : Calls Tryz.prog 234 #[(.iface 80 (.agg #[])), lv] w0 (RetR w0 199 (aG l).1 (All (gG 20) (aG l).1 ∧ (aG l).1.length ≤ 3 * l.length)) := by
 refine enter (N := 14) (args := [(.iface 80 (.agg #[])), lv]) Tryz.func234 rfl rfl ?_; intro ac h
 have p1 := RetT.pr (dq l lv hl zl w0 hlv)
 refine gz h <| (W) ?_; clear h ac; intro ac wo h
 refine pD (xs := (aG l).1) h (cZ Tryz.call132 rfl) (fun w_ hB_ hS_ => dq l lv hl zl w_ (hlv.below hB_)) rfl ?_; clear h ac wo; intro s2 ac wo _ h
 refine gz h <| (W) ?_; clear h ac wo; intro ac wo h
 exact (rt h) (h.retR 0 rfl p1)
end Go.Sx
namespace Go.Sx
open Go Go.RowKit Go.Proofs
set_option maxRecDepth 100000
set_option maxHeartbeats 40000000
attribute [local irreducible] Code.wp wpList Rd Step ObS Ent
attribute [local irreducible] am aQ ah aw aD bU au aS
attribute [local irreducible] aW aV ak aC aU aj bn eF j6 ch ax bB
def rsU (u : U Ln) (i : Iv) : List (U Ln) := bif (bB u.iv i).2 then [⟨(bB u.iv i).1, u.f⟩] else []
def rsL (l : List (U Ln)) (d : List Iv) : List (U Ln) := l.flatMap fun u => d.flatMap (rsU u)
theorem rsU_len (u : U Ln) (i : Iv) : (rsU u i).length ≤ 1 := by
 unfold rsU; cases (bB u.iv i).2 <;> simp
theorem vu {α β : Type} {f : α → List β} {k : Nat} : ∀ {l : List α}, (∀ x ∈ l, (f x).length ≤ k) → (l.flatMap f).length ≤ k * l.length
  | [], _ => Nat.zero_le _
  | x :: l, h => by
    rw [List.flatMap_cons, List.length_append, List.length_cons, Nat.mul_succ]
    have h1 := h x (List.mem_cons_self ..)
    have h2 := vu fun y hy => h y (List.mem_cons_of_mem _ hy)
    omega
theorem uG (u : U Ln) (d : List Iv) : (d.flatMap (rsU u)).length ≤ d.length := by
 have := vu (l := d) fun x _ => rsU_len u x
 omega
theorem rsL_len (l : List (U Ln)) (d : List Iv) : (rsL l d).length ≤ d.length * l.length := vu fun x _ => uG x d
theorem rsL_take {l : List (U Ln)} {d : List Iv} {i : Nat} (h : i < l.length) : rsL (l.take (i + 1)) d = rsL (l.take i) d ++ d.flatMap (rsU (gt l i)) := by
 unfold rsL; rw [← jY h, List.flatMap_append, List.flatMap_singleton]
theorem rsD_take {u : U Ln} {d : List Iv} {k : Nat} (h : k < d.length) : (d.take (k + 1)).flatMap (rsU u) = (d.take k).flatMap (rsU u) ++ rsU u (gt d k) := by
 rw [← jY h, List.flatMap_append, List.flatMap_singleton]
theorem lQ (l : List (U Ln)) (lv : Value) (d : List Iv) (dv : Value) (hl : l.length ≤ 20) (hd : d.length ≤ 100) (hr : (rsL l d).length < 20) (zl : All (gG 30) l) (zd : All (SzV 30) d) (zr : All (gG 30) (rsL l d)) (w0 : World) (hlv : View w0 lv l) (hdv : View w0 dv d) :
    Calls Tryz.prog 182 #[(.iface 80 (.agg #[])), lv, dv] w0 (RetR w0 199 (aG (rsL l d)).1 ((aG (rsL l d)).1.length ≤ 1000)) := by
 refine enter (N := 46) (args := [(.iface 80 (.agg #[])), lv, dv]) Tryz.func182 rfl rfl ?_; intro ac h
 have hlen := hlv.len
 have hlend := hdv.len
 refine gz h <| (W) ?_; clear h ac; intro ac wo h
 replace h := h.nilRow (α := U Ln) 199
 refine wp_loop_ghost (fun n_ a_ w_ => ∃ (i : Nat) (sv : Value), (l.length - i < n_) ∧ (i ≤ l.length) ∧ St w0 46 [(0, (.iface 80 (.agg #[]))), (2, dv), (7, sv), (14, lv), (15, iN l.length), (16, iN i)] [.row (α := U Ln) 199 sv (rsL (l.take i) d)] a_ w_) (l.length + 1) ⟨0, _, by omega, by omega, h.re [0]⟩ ?_
 clear h ac wo; rintro n1 ac wo ⟨i, sv, hm1, hi, h⟩
 obtain ⟨m1, rfl⟩ : ∃ m, n1 = m + 1 := ⟨n1 - 1, by omega⟩
 refine gz h <| (ai) ?_ ?_ <;> clear h ac wo <;> intro ac wo h hc1
 ·
  have hd1 : i < l.length := by have := of_decide_eq_true hc1; omega
  have n1' := hlv.nn hd1
  have z := All.gt zl (i := i) (bP _)
  refine gz h <| (xa) fun b1 => (W) ?_; clear h ac wo; intro ac wo h
  have hbl : (rsL (l.take i) d).length ≤ 100 * 20 := by
   have h1 := rsL_len (l.take i) d
   have h2 : (l.take i).length ≤ 20 := by rw [List.length_take]; omega
   exact Nat.le_trans h1 (Nat.mul_le_mul hd h2)
  refine wp_loop_ghost (fun n_ a_ w_ => ∃ (k : Nat) (sv : Value), (d.length - k < n_) ∧ (k ≤ d.length) ∧ St w0 46 [(0, (.iface 80 (.agg #[]))), (2, dv), (7, sv), (9, ptr b1 0), (14, lv), (15, iN l.length), (16, iN i), (20, dv), (21, iN d.length), (22, iN k)] [.blk b1 (cUN (gt l i)) 199, .row (α := U Ln) 199 sv (rsL (l.take i) d ++ (d.take k).flatMap (rsU (gt l i)))] a_ w_) (d.length + 1) ⟨0, sv, by omega, by omega, ?_⟩ ?_
  · rw [List.take_zero, List.flatMap_nil, List.append_nil]; exact h.re [0, 1]
  clear h ac wo; rintro n2 ac wo ⟨k, s2, hm2, hk, h⟩
  obtain ⟨m2, rfl⟩ : ∃ m, n2 = m + 1 := ⟨n2 - 1, by omega⟩
  refine gz h <| (ai) ?_ ?_ <;> clear h ac wo <;> intro ac wo h hc2
  ·
   have hd2 : k < d.length := by have := of_decide_eq_true hc2; omega
   have n2' := hdv.nn hd2
   have zi := All.gt zd (i := k) (SzV_d _)
   have hdl : ((d.take k).flatMap (rsU (gt l i))).length ≤ 100 := by
    have := uG (gt l i) (d.take k)
    rw [List.length_take] at this; omega
   have hbm : (rsL (l.take i) d ++ (d.take k).flatMap (rsU (gt l i))).length ≤ 2100 := by rw [List.length_append]; omega
   obtain ⟨u, hu⟩ : ∃ u, gt l i = u := ⟨_, rfl⟩
   obtain ⟨o, ho⟩ : ∃ o, rsL (l.take i) d ++ (d.take k).flatMap (rsU (gt l i)) = o := ⟨_, rfl⟩
   have htk : rsL (l.take i) d ++ (d.take (k + 1)).flatMap (rsU (gt l i)) = o ++ rsU u (gt d k) := by rw [rsD_take hd2, ← List.append_assoc, ho, hu]
   rw [ho] at h hbm
   rw [hu] at h z
   refine gz h <| (xa) fun b2 => (xk (nl u.iv (gt d k) 10 og z.1 zi)) <| (xa) fun b3 => (ai) ?_ ?_ <;> clear h ac wo <;> intro ac wo h hc3
   ·
    have e : rsU u (gt d k) = [⟨(bB u.iv (gt d k)).1, u.f⟩] := by unfold rsU; rw [hc3]; rfl
    refine gz h <| (W) ?_; clear h ac wo; intro ac wo h
    obtain ⟨x, hx⟩ : ∃ x : U Ln, (⟨(bB u.iv (gt d k)).1, u.f⟩ : U Ln) = x := ⟨_, rfl⟩
    rw [hx] at h e
    refine nw h (dp (α := U Ln) (xs := [.tmp 38]) (vs := [vUN x]) [x] f8 rfl rfl rfl (by decide)) rfl ?_; clear h ac wo; intro s3 ac wo _ h
    refine on2 h 4 0 rfl rfl (fB (xs := o) (ys := [x]) f8 (fun w hs => (row_view hs 0 rfl)) rfl rfl (by show _ + 1 ≤ _; omega)) rfl ?_; clear h ac wo; intro s4 ac wo _ h
    refine gz h <| (W) ?_; clear h ac wo; intro ac wo h
    refine aK ⟨m2, by omega, k + 1, s4, by omega, by omega, ?_⟩
    rw [htk, e, hu]
    exact h.re [4, 0]
   ·
    have e : rsU u (gt d k) = [] := by unfold rsU; rw [hc3]; rfl
    refine gz h <| (W) ?_; clear h ac wo; intro ac wo h
    refine aK ⟨m2, by omega, k + 1, s2, by omega, by omega, ?_⟩
    rw [htk, e, List.append_nil, hu]
    exact h.re [2, 3]
  ·
   have hd2 := of_decide_eq_false hc2
   obtain rfl : k = d.length := by omega
   rw [List.take_length, ← rsL_take hd1] at h
   refine gz h <| (W) ?_; clear h ac wo; intro ac wo h
   exact aK ⟨m1, by omega, i + 1, s2, by omega, by omega, h.re [1]⟩
 ·
  have hd1 := of_decide_eq_false hc1
  obtain rfl : i = l.length := by omega
  rw [List.take_length] at h
  have p1 := RetR.pr (nL (rsL l d) sv hr zr wo (row_view h.sep 0 rfl))
  refine gz h <| (W) ?_; clear h ac wo; intro ac wo h
  refine fF (xs := (aG (rsL l d)).1) h (cZ Tryz.call234 rfl) (fun w_ hB_ hS_ => nL (rsL l d) sv hr zr w_ (row_view hS_ 0 rfl)) rfl ?_; clear h ac wo; intro s3 ac wo _ h
  refine gz h <| (W) ?_; clear h ac wo; intro ac wo h
  exact (rt h) (h.retR 0 rfl (by omega))
def iw (l : List (U Ln)) (d : List Iv) : List (U Ln) := (aG (rsL l d)).1
theorem lU (l : List (U Ln)) (lv : Value) (d : List Iv) (dv : Value) (hl : l.length ≤ 20) (hd : d.length ≤ 100) (hr : (rsL l d).length < 20) (zl : All (gG 30) l) (zd : All (SzV 30) d) (zr : All (gG 30) (rsL l d)) (w0 : World) (hlv : View w0 lv l) (hdv : View w0 dv d) :
    Calls Tryz.prog 81 #[lv, dv] w0 (RetR w0 88 (iw l d) True) := by
 refine enter (N := 12) (args := [lv, dv]) Tryz.func81 rfl rfl ?_; intro ac h
 refine gz h <| (W) ?_; clear h ac; intro ac wo h
 refine fF (xs := l) h (cZ Tryz.call100 rfl) (fun w_ hB_ hS_ => to_ct l lv (by omega) w_ (hlv.below hB_)) rfl ?_; clear h ac wo; intro s1 ac wo _ h
 have p1 := RetR.pr (lQ l s1 d dv hl hd hr zl zd zr wo (row_view h.sep 0 rfl) (hdv.below h.bel))
 refine gz h <| (W) ?_; clear h ac wo; intro ac wo h
 refine fF (xs := iw l d) h (cZ Tryz.call182 rfl) (fun w_ hB_ hS_ => lQ l s1 d dv hl hd hr zl zd zr w_ (row_view hS_ 0 rfl) (hdv.below hB_)) rfl ?_; clear h ac wo; intro s2 ac wo _ h
 refine gz h <| (W) ?_; clear h ac wo; intro ac wo h
 refine fF (xs := iw l d) h (cZ Tryz.call138 rfl) (fun w_ hB_ hS_ => vt _ s2 p1 w_ (row_view hS_ 0 rfl)) rfl ?_; clear h ac wo; intro s3 ac wo _ h
 refine gz h <| (W) ?_; clear h ac wo; intro ac wo h
 exact (rt h) (h.retR 0 rfl trivial)
end Go.Sx
namespace Go.Sx
theorem pk {α β : Type} {f g : α → List β} : ∀ {l : List α}, (∀ x ∈ l, f x = g x) → l.flatMap f = l.flatMap g
  | [], _ => rfl
  | x :: l, h => by
    rw [List.flatMap_cons, List.flatMap_cons, h x (List.mem_cons_self ..), pk fun y hy => h y (List.mem_cons_of_mem _ hy)]
section
variable [K : Key]
def pts (i : Iv) (d : List Iv) : List Iv := d.flatMap fun j => bif (bB i j).2 then [(bB i j).1] else []
omit K in
theorem pts_map (u : U Ln) (d : List Iv) : d.flatMap (rsU u) = (pts u.iv d).map fun i => ⟨i, u.f⟩ := by
  unfold pts
  rw [List.map_flatMap]
  refine pk fun j _ => ?_
  unfold rsU
  cases (bB u.iv j).2 <;> rfl
theorem pts_ok {i : Iv} (hi : Wv i) : ∀ {d : List Iv}, Cn d → Cn (pts i d) ∧ ∀ q, inP (pts i d) q ↔ inU i q ∧ inP d q
  | [], _ => ⟨Cn.nil, fun q => ⟨fun h => absurd h (jl q), fun h => absurd h.2 (jl q)⟩⟩
  | j :: d, hd => by
    obtain ⟨hd', hs, hj⟩ := hd.tail
    obtain ⟨c, p⟩ := pts_ok hi hd'
    have e : pts i (j :: d) = (bif (bB i j).2 then [(bB i j).1] else []) ++ pts i d := List.flatMap_cons
    rw [e]
    cases hm : (bB i j).2 with
    | false =>
      rw [cond_false, List.nil_append]
      exact ⟨c, fun q => (p q).trans ⟨fun ⟨a, b⟩ => ⟨a, cY.2 (.inr b)⟩, fun ⟨a, b⟩ => ⟨a, (cY.1 b).resolve_left fun h => meet_no hi hj hm q ⟨a, fl.1 h⟩⟩⟩⟩
    | true =>
      rw [cond_true, List.singleton_append]
      obtain ⟨w, s⟩ := meet_pl hi hj hm
      refine ⟨⟨fun x hx => (List.mem_cons.1 hx).elim (fun e => e ▸ w) (c.wv x), List.pairwise_cons.2 ⟨fun y hy => ?_, c.sep⟩⟩, fun q => ?_⟩
      · have h1 : inP d (e5 y) := ((p _).1 ⟨y, hy, fl.2 (kS (c.wv y hy))⟩).2
        have h2 := hd.behind h1
        have h3 : inU (bB i j).1 (eZ (bB i j).1).toNat := by
          have := w.le
          unfold inU; omega
        have h4 := ((s _).1 h3).2.2
        have a1 := gM (bB i j).1
        have a2 := gM j
        have a3 := gj y
        have := w.le
        omega
      · rw [cY, p q, fl, s q, cY, fl]
        constructor
        · rintro (⟨a, b⟩ | ⟨a, b⟩)
          · exact ⟨a, .inl b⟩
          · exact ⟨a, .inr b⟩
        · rintro ⟨a, b | b⟩
          · exact .inl ⟨a, b⟩
          · exact .inr ⟨a, b⟩
theorem nI {l : List (U Ln)} {d : List Iv} (hl : ∀ u ∈ l, Wv u.iv) (hd : Cn d) : rsL l d = rsI l d := by
  unfold rsL rsI
  refine pk fun u hu => ?_
  rw [pts_map]
  obtain ⟨a, b⟩ := pts_ok (hl u hu) hd
  obtain ⟨a', b'⟩ := iB (gh (hl u hu)) hd.wv
  rw [Cn.ext a a' fun q => (b q).trans ((b' q).trans ⟨fun h => ⟨fz.1 h.1, h.2⟩, fun h => ⟨fz.2 h.1, h.2⟩⟩).symm]
def Cvx (G : Nat → Prop) : Prop := ∀ a b c, a ≤ b → b ≤ c → G a → G c → G b
def Splt (i : Iv) (G : Nat → Prop) : Prop := ∃ a z b, a < z ∧ z < b ∧ inU i a ∧ inU i b ∧ ¬ G a ∧ G z ∧ ¬ G b
theorem mN {i : Iv} (h : Wv i) : Plc (e5 i) := by
  rcases f4 i with ⟨_, e⟩ | ⟨_, e⟩
  · exact .inl ⟨_, h.1.1, e⟩
  · exact .inr ⟨_, e⟩
theorem plc_lst {i : Iv} (h : Wv i) : Plc (kB (ay i)) := by
  rw [kL]
  cases i.openHi
  · exact .inr ⟨_, rfl⟩
  · exact .inl ⟨_, h.1.2, rfl⟩
theorem rH {a b : Iv} {r : List Iv} (hp : Cn (a :: b :: r)) : Plc (kB (ay a)) ∧ e5 a < kB (ay a) ∧ kB (ay a) < e5 b ∧ ¬ inP (a :: b :: r) (kB (ay a)) := by
  obtain ⟨hb, sa, wa⟩ := hp.tail
  have s1 := sa b (List.mem_cons_self ..)
  have la := wa.le
  have a1 := gM a
  have b0 := gj b
  refine ⟨plc_lst wa, by omega, by omega, fun h => ?_⟩
  rcases cY.1 h with h | h
  · have := (fl.1 h).2; omega
  · have := hp.behind h; omega
theorem mU {a : Iv} {r : List Iv} (hp : Cn (a :: r)) : inP (a :: r) (e5 a) := cY.2 (.inl (fl.2 (kS hp.tail.2.2)))
theorem mW {i : Iv} {a b c : Nat} (h1 : a ≤ b) (h2 : b ≤ c) (ha : inU i a) (hc : inU i c) : inU i b := by unfold inU at *; omega
theorem parts1 {p : List Iv} {i : Iv} {G : Nat → Prop} (hG : Cvx G) (hp : Cn p) (h : ∀ q, Plc q → (inP p q ↔ inU i q ∧ G q)) : p.length ≤ 1 := by
  match p, hp, h with
  | [], _, _ => exact Nat.zero_le _
  | [_], _, _ => exact Nat.le_refl _
  | a :: b :: r, hp, h =>
    exfalso
    obtain ⟨g1, g2, g3, g4⟩ := rH hp
    have wa := hp.tail.2.2
    have hb := hp.tail.1
    have wb := hb.tail.2.2
    have ia := (h _ (mN wa)).1 (mU hp)
    have ib := (h _ (mN wb)).1 (cY.2 (.inr (mU hb)))
    exact g4 ((h _ g1).2 ⟨mW (Nat.le_of_lt g2) (Nat.le_of_lt g3) ia.1 ib.1, hG _ _ _ (Nat.le_of_lt g2) (Nat.le_of_lt g3) ia.2 ib.2⟩)
theorem parts2 {p : List Iv} {i : Iv} {G : Nat → Prop} (hG : Cvx G) (hp : Cn p) (h : ∀ q, Plc q → (inP p q ↔ inU i q ∧ ¬ G q)) : p.length ≤ 2 ∧ (p.length = 2 → Splt i G) := by
  match p, hp, h with
  | [], _, _ => exact ⟨Nat.zero_le _, fun e => by cases e⟩
  | [_], _, _ => exact ⟨by simp, fun e => by simp at e⟩
  | a :: b :: r, hp, h =>
    obtain ⟨g1, g2, g3, g4⟩ := rH hp
    have wa := hp.tail.2.2
    have hb := hp.tail.1
    have wb := hb.tail.2.2
    have ia := (h _ (mN wa)).1 (mU hp)
    have ib := (h _ (mN wb)).1 (cY.2 (.inr (mU hb)))
    have hz : G (kB (ay a)) := Classical.byContradiction fun hn => g4 ((h _ g1).2 ⟨mW (Nat.le_of_lt g2) (Nat.le_of_lt g3) ia.1 ib.1, hn⟩)
    refine ⟨?_, fun _ => ⟨_, _, _, g2, g3, ia.1, ib.1, ia.2, hz, ib.2⟩⟩
    match r, hp, hb, h with
    | [], _, _, _ => exact Nat.le_refl _
    | c :: r, hp, hb, h =>
      exfalso
      obtain ⟨k1, k2, k3, k4⟩ := rH hb
      have wc := hb.tail.1.tail.2.2
      have ic := (h _ (mN wc)).1 (cY.2 (.inr (cY.2 (.inr (mU hb.tail.1)))))
      have hz2 : G (kB (ay b)) := Classical.byContradiction fun hn => by
        have := (h _ k1).2 ⟨mW (Nat.le_of_lt k2) (Nat.le_of_lt k3) ib.1 ic.1, hn⟩
        rcases cY.1 this with h | h
        · have := (fl.1 h).2
          have a1 := gM a
          omega
        · exact k4 h
      exact ib.2 (hG _ _ _ (Nat.le_of_lt g3) (Nat.le_of_lt k2) hz hz2)
theorem splt_one {i j : Iv} {G : Nat → Prop} (hG : Cvx G) (hd : Dj i j) (hi : Splt i G) (hj : Splt j G) : False := by
  obtain ⟨a, z, b, h1, h2, h3, h4, h5, h6, h7⟩ := hi
  obtain ⟨a', z', b', k1, k2, k3, k4, k5, k6, k7⟩ := hj
  unfold Dj at hd
  unfold inU at h3 h4 k3 k4
  rcases hd with hd | hd
  · exact h7 (hG z b z' (by omega) (by omega) h6 k6)
  · exact k7 (hG z' b' z (by omega) (by omega) k6 h6)
theorem qe {f : U Ln → List (U Ln)} {G : Nat → Prop} (hG : Cvx G) : ∀ {l : List (U Ln)}, (l.Pairwise fun a b => Dj a.iv b.iv) → (∀ u ∈ l, (f u).length ≤ 2 ∧ ((f u).length = 2 → Splt u.iv G)) → (l.flatMap f).length ≤ l.length + 1 ∧ ((∀ u ∈ l, ¬ Splt u.iv G) → (l.flatMap f).length ≤ l.length)
  | [], _, _ => ⟨by simp, fun _ => by simp⟩
  | u :: l, hp, h => by
    obtain ⟨p1, p2⟩ := List.pairwise_cons.1 hp
    obtain ⟨s1, s2⟩ := qe hG p2 fun v hv => h v (List.mem_cons_of_mem _ hv)
    obtain ⟨u1, u2⟩ := h u (List.mem_cons_self ..)
    rw [List.flatMap_cons, List.length_append, List.length_cons]
    refine ⟨?_, fun hn => ?_⟩
    · by_cases e : Splt u.iv G
      · have := s2 fun v hv hs => splt_one hG (p1 v hv) e hs
        omega
      · have : (f u).length ≠ 2 := fun h2 => e (u2 h2)
        omega
    · have : (f u).length ≠ 2 := fun h2 => hn u (List.mem_cons_self ..) (u2 h2)
      have := s2 fun v hv => hn v (List.mem_cons_of_mem _ hv)
      omega
theorem Sml.place' {n N : List (U Ln)} (h : Sml n N) {u : U Ln} (hu : u ∈ n) {q : Nat} (hq : Plc q) (hi : inU u.iv q) : ∃ w ∈ N, inU w.iv q := by
  rcases hq with ⟨t, ht, rfl⟩ | ⟨k, rfl⟩
  · obtain ⟨w, a, b, _⟩ := h.c1 t ht u hu hi; exact ⟨w, a, b⟩
  · obtain ⟨w, a, b, _⟩ := h.c2 k u hu hi; exact ⟨w, a, b⟩
def inL (l : List (U Ln)) (x : Nat) : Prop := ∃ u ∈ l, inU u.iv x
def gp (p q : Nat) (x : Nat) : Prop := p % 3 ≠ 0 ∧ inU (ms p q) x
theorem gp_cvx (p q : Nat) : Cvx (gp p q) := fun a b c h1 h2 ha hc => ⟨ha.1, mW h1 h2 ha.2 hc.2⟩
theorem r9 {l : List (U Ln)} {d : List Iv} {G : Nat → Prop} (hG : Cvx G) (hl : NFl l) (hd : Cn d) (h : ∀ u ∈ l, ∀ x, Plc x → inU u.iv x → (inP d x ↔ ¬ G x)) : (rsI l d).length ≤ l.length + 1 := by
  refine (qe hG hl.dj fun u hu => ?_).1
  rw [List.length_map]
  obtain ⟨c, p⟩ := iB (gh (hl.wv u hu)) hd.wv
  refine parts2 hG c fun q hq => (p q).trans ⟨fun ⟨a, b⟩ => ⟨fz.1 a, (h u hu q hq (fz.1 a)).1 b⟩, fun ⟨a, b⟩ => ⟨fz.2 a, (h u hu q hq a).2 b⟩⟩
theorem uD {l : List (U Ln)} {d : List Iv} {G : Nat → Prop} (hG : Cvx G) (hl : NFl l) (hd : Cn d) (h : ∀ u ∈ l, ∀ x, Plc x → inU u.iv x → (inP d x ↔ G x)) : (rsI l d).length ≤ l.length := by
  have := po (l := l) (k := 1) (f := fun u => (cz [u.iv] d).map fun i => (⟨i, u.f⟩ : U Ln)) fun u hu => by
    rw [List.length_map]
    obtain ⟨c, p⟩ := iB (gh (hl.wv u hu)) hd.wv
    exact parts1 hG c fun q hq => (p q).trans ⟨fun ⟨a, b⟩ => ⟨fz.1 a, (h u hu q hq (fz.1 a)).1 b⟩, fun ⟨a, b⟩ => ⟨fz.2 a, (h u hu q hq a).2 b⟩⟩
  rw [Nat.one_mul] at this
  exact this
variable [KeyZ] [KeyB]
theorem mov_pl (c : Crq) (s : List Stq) (p q : Nat) [KeyG p q] {x : Nat} (hx : Plc x) : inL (mP c s p q) x ↔ inL (d4 c s) x ∧ ¬ gp p q x := by
  obtain ⟨_, h, hl⟩ := oe c s
  unfold mP
  by_cases e : p % 3 = 0
  · rw [decide_eq_true e, cond_true]
    exact ⟨fun h => ⟨h, fun g => g.1 e⟩, fun h => h.1⟩
  · rw [decide_eq_false e, cond_false]
    have hg : Wv (ms p q) := sB
    obtain ⟨c1, p1⟩ := l8 h.nf.wv
    obtain ⟨c2, p2⟩ := i7 c1.wv (gh hg)
    obtain ⟨_, _, _, h4⟩ := jZ h.nf h.ok c2.wv
    constructor
    · rintro ⟨u, hu, hi⟩
      obtain ⟨w, hw, hi2⟩ := h4.sem.place hu hx hi
      obtain ⟨v, hv, _, _, hq⟩ := jF h.nf.wv c2.wv hw
      obtain ⟨k1, k2⟩ := hq x hi2
      exact ⟨⟨v, hv, k1⟩, fun g => ((p2 x).1 k2).2 (fz.2 g.2)⟩
    · rintro ⟨⟨v, hv, hi⟩, hn⟩
      obtain ⟨w, hw, hi2, _⟩ := uF h.nf.wv c2.wv hv hi ((p2 x).2 ⟨(p1 x).2 ⟨v, hv, hi⟩, fun g => hn ⟨e, fz.1 g⟩⟩)
      exact h4.sem.place' hw hx hi2
theorem rz (c : Crq) (s : List Stq) (p q : Nat) [KeyG p q] : (mP c s p q).length ≤ 8 := by
  obtain ⟨_, h, hl⟩ := oe c s
  unfold mP
  cases decide (p % 3 = 0) with
  | true => rw [cond_true]; omega
  | false =>
    rw [cond_false]
    have hg : Wv (ms p q) := sB
    obtain ⟨c1, p1⟩ := l8 h.nf.wv
    obtain ⟨c2, p2⟩ := i7 c1.wv (gh hg)
    obtain ⟨_, _, _, h4⟩ := jZ h.nf h.ok c2.wv
    have := r9 (l := d4 c s) (G := inU (ms p q)) (fun a b c h1 h2 ha hc => mW h1 h2 ha hc) h.nf c2 fun u hu x hx hi => (p2 x).trans ⟨fun ⟨a, b⟩ g => b (fz.2 g), fun hn => ⟨(p1 x).2 ⟨u, hu, hi⟩, fun g => hn (fz.1 g)⟩⟩
    have := h4.len
    omega
end
end Go.Sx
namespace Go.Sx
section
variable [K : Key] [KeyZ] [KeyB]
structure Rst (l : List (U Ln)) (d m : List Iv) : Prop where
  cd : Cn d
  cm : Cn m
  ld : (rsI l d).length ≤ 9
  lm : (rsI l m).length ≤ 8
  nd : NFL DT (rsI l d) (cA l d)
  nm : NFL DT (rsI l m) (cA l m)
  wd : ∀ x ∈ rsI l d, Wv x.iv ∧ DT x.f
  wm : ∀ x ∈ rsI l m, Wv x.iv ∧ DT x.f
  all : aG (cA l m ++ cA l d) = (l, 0)
theorem rst_ok (c : Crq) (s : List Stq) (p q p' q' : Nat) [KeyG p q] [KeyG p' q'] : Rst (mP c s p q) (mu (mP c s p' q')) (cC (mu (mP c s p q)) (mu (mP c s p' q'))) := by
  obtain ⟨hN, hD, _⟩ := sj c s p q
  obtain ⟨hN2, hD2, _⟩ := sj c s p' q'
  have hlen := rz c s p q
  have hpl : ∀ x, Plc x → (inL (mP c s p q) x ↔ inL (d4 c s) x ∧ ¬ gp p q x) := fun x hx => mov_pl c s p q hx
  have hpl2 : ∀ x, Plc x → (inL (mP c s p' q') x ↔ inL (d4 c s) x ∧ ¬ gp p' q' x) := fun x hx => mov_pl c s p' q' hx
  generalize mP c s p q = l at *
  generalize mP c s p' q' = l2 at *
  obtain ⟨c1, p1⟩ := l8 hN.wv
  obtain ⟨c2, p2⟩ := l8 hN2.wv
  obtain ⟨c3, p3⟩ := i7 c1.wv c2.wv
  generalize hde : mu l2 = d at *
  generalize hme : cC (mu l) d = m at *
  have hd : ∀ u ∈ l, ∀ x, Plc x → inU u.iv x → (inP d x ↔ ¬ gp p' q' x) := fun u hu x hx hi => by
    have h1 := ((hpl x hx).1 ⟨u, hu, hi⟩).1
    exact (p2 x).trans ⟨fun h => ((hpl2 x hx).1 h).2, fun h => (hpl2 x hx).2 ⟨h1, h⟩⟩
  have hm : ∀ u ∈ l, ∀ x, Plc x → inU u.iv x → (inP m x ↔ gp p' q' x) := fun u hu x hx hi => by
    rw [p3 x, hd u hu x hx hi]
    exact ⟨fun h => Classical.byContradiction h.2, fun h => ⟨(p1 x).2 ⟨u, hu, hi⟩, fun hn => hn h⟩⟩
  have ld := r9 (gp_cvx p' q') hN c2 hd
  have lm := uD (gp_cvx p' q') hN c3 hm
  obtain ⟨w1, _, _, n1⟩ := jZ hN hD c2.wv
  obtain ⟨w2, _, _, n2⟩ := jZ hN hD c3.wv
  refine ⟨c2, c3, by omega, by omega, n1, n2, w1, w2, ?_⟩
  have hWA : ∀ x ∈ cA l m ++ cA l d, Wv x.iv ∧ DT x.f := fun x hx => by
    rcases List.mem_append.1 hx with h | h
    · exact ⟨n2.nf.wv x h, n2.ok x h⟩
    · exact ⟨n1.nf.wv x h, n1.ok x h⟩
  have hdj : (cA l m ++ cA l d).Pairwise fun a b => Dj a.iv b.iv := by
    refine List.pairwise_append.2 ⟨n2.nf.dj, n1.nf.dj, fun x hx y hy => dj_plc (n2.nf.wv x hx) (n1.nf.wv y hy) fun k hk h => ?_⟩
    obtain ⟨v, hv, h1⟩ := n2.sem.place hx hk h.1
    obtain ⟨w, hw, h2⟩ := n1.sem.place hy hk h.2
    obtain ⟨_, _, _, _, h3⟩ := jF hN.wv c3.wv hv
    obtain ⟨_, _, _, _, h4⟩ := jF hN.wv c2.wv hw
    exact ((p3 k).1 (h3 k h1).2).2 (h4 k h2).2
  obtain ⟨N, e, h⟩ := dkT.normal hWA hdj
  rw [e]
  have hraw : Sml (rsI l m ++ rsI l d) l := by
    have hpart : ∀ x ∈ rsI l m ++ rsI l d, ∃ u ∈ l, x.f = u.f ∧ ∀ k, inU x.iv k → inU u.iv k := fun x hx => by
      rcases List.mem_append.1 hx with h | h
      · obtain ⟨u, a, b, _, g⟩ := jF hN.wv c3.wv h
        exact ⟨u, a, b, fun k hk => (g k hk).1⟩
      · obtain ⟨u, a, b, _, g⟩ := jF hN.wv c2.wv h
        exact ⟨u, a, b, fun k hk => (g k hk).1⟩
    have hcov : ∀ u ∈ l, ∀ k, Plc k → inU u.iv k → ∃ x ∈ rsI l m ++ rsI l d, inU x.iv k ∧ x.f = u.f := fun u hu k hk hi => by
      by_cases g : gp p' q' k
      · obtain ⟨x, a, b⟩ := uF hN.wv c3.wv hu hi ((hm u hu k hk hi).2 g)
        exact ⟨x, List.mem_append_left _ a, b⟩
      · obtain ⟨x, a, b⟩ := uF hN.wv c2.wv hu hi ((hd u hu k hk hi).2 g)
        exact ⟨x, List.mem_append_right _ a, b⟩
    refine ⟨fun t ht u hu hi => ?_, fun k u hu hi => ?_, fun t ht x hx hi => ?_, fun k x hx hi => ?_⟩
    · obtain ⟨x, a, b, e⟩ := hcov u hu _ (.inl ⟨t, ht, rfl⟩) hi
      exact ⟨x, a, b, by rw [e]; exact dkT.ru.refl t ht _ (hD u hu)⟩
    · obtain ⟨x, a, b, e⟩ := hcov u hu _ (.inr ⟨k, rfl⟩) hi
      exact ⟨x, a, b, e.symm⟩
    · obtain ⟨u, a, b, g⟩ := hpart x hx
      exact ⟨u, a, g _ hi, by rw [b]; exact dkT.ru.refl t ht _ (hD u a)⟩
    · obtain ⟨u, a, b, g⟩ := hpart x hx
      exact ⟨u, a, g _ hi, b.symm⟩
  have hDr : ∀ u ∈ rsI l m ++ rsI l d, DT u.f := fun u hu => by
    rcases List.mem_append.1 hu with h | h
    · exact (w2 u h).2
    · exact (w1 u h).2
  have hs1 : Sml N (cA l m ++ cA l d) := h.sem.symm dkT.ru (fun x hx => (hWA x hx).2) h.ok
  have hs2 : Sml (cA l m ++ cA l d) (rsI l m ++ rsI l d) := (Sml.app n2.sem n1.sem).symm dkT.ru hDr fun x hx => (hWA x hx).2
  have hs3 := Sem.trans dkT.ru h.ok (fun x hx => (hWA x hx).2) hDr hs1 hs2
  have hs4 := Sem.trans dkT.ru h.ok hDr hD hs3 hraw
  rw [dkT.uniq h.nf hN h.ok hD hs4]
omit [KeyZ] in
theorem chk_ok {n : List (U Ln)} (hN : NFl n) (hD : ∀ u ∈ n, DT u.f) (hl : n.length < 20) : Chk n where
  len := hl
  sz := fun u hu => kq (mB (hN.wv u hu) ((hD u hu).bl (by decide)) (by decide)) (Nat.le_refl _)
  rt := fun j => by
    by_cases hj : j < n.length
    · have := hN.wv _ (mX hj)
      exact ⟨this.1.1.rt, this.1.2.rt⟩
    · have : gt n j = default := by unfold gt; rw [List.getD_eq_getElem?_getD, List.getElem?_eq_none (by omega)]; rfl
      rw [this]; exact ⟨⟨by decide, rfl⟩, ⟨by decide, rfl⟩⟩
  iv := fun j hj => vcheck (hN.wv _ (mX hj))
  f := fun j hj i hi => by
    have h := ((hD _ (mX hj)).bl (by decide)).ok
    match i, hi with
    | 0, _ => exact nK h.1
    | 1, _ => exact nK h.2.1
    | 2, _ => exact nK h.2.2.1
    | 3, _ => exact nK h.2.2.2
  ap := fun j h0 hj => by
    have := List.pairwise_iff_getElem.1 hN.ord (j - 1) j (by omega) hj (by omega)
    rw [← gk (by omega : j - 1 < n.length), ← gk hj] at this
    rw [k8 (hN.wv _ (mX (by omega))).1 (hN.wv _ (mX hj)).1, decide_eq_true this]
  n := dkT.self hN hD
end
end Go.Sx
namespace Go.Sx
def kdL (p q p' q' : Nat) : List GR := kcL p q ++ kcL p' q'
abbrev vn (p q p' q' : Nat) (hp : p < 256) (hq : q < 256) (hp' : p' < 256) (hq' : q' < 256) : Key where
  l := kdL p q p' q'
  ok := fun _ h => (List.mem_append.1 h).elim kc_ok kc_ok
  sz := by unfold kdL kcL; simp
  z := List.mem_append_left _ (by rw [inZ0]; exact kcL_z (by decide))
  rt := fun x h => (List.mem_append.1 h).elim kc_rt kc_rt
  szr := fun x h => (List.mem_append.1 h).elim (fun h => ⟨cw ((tC hp hq h).1.sz (by decide)) (by decide), cw ((tC hp hq h).2.sz (by decide)) (by decide)⟩) (fun h => ⟨cw ((tC hp' hq' h).1.sz (by decide)) (by decide), cw ((tC hp' hq' h).2.sz (by decide)) (by decide)⟩)
theorem pO {p q p' q' : Nat} {hp : p < 256} {hq : q < 256} {hp' : p' < 256} {hq' : q' < 256} {x : GR} : @Tm (vn p q p' q' hp hq hp' hq') x ↔ x ∈ kdL p q p' q' := by
  letI := vn p q p' q' hp hq hp' hq'
  rw [← Tm.iff, decide_eq_true_iff]; rfl
section
variable (p q p' q' : Nat) (hp : p < 256) (hq : q < 256) (hp' : p' < 256) (hq' : q' < 256)
theorem kdZ : @KeyZ (vn p q p' q' hp hq hp' hq') := @KeyZ.mk (vn p q p' q' hp hq hp' hq') fun n hn => pO.2 (List.mem_append_left _ (kcL_z hn))
theorem kdB : @KeyB (vn p q p' q' hp hq hp' hq') := @KeyB.mk (vn p q p' q' hp hq hp' hq') fun t ht => (List.mem_append.1 (pO.1 ht)).elim (fun h => (tC hp hq h).1) (fun h => (tC hp' hq' h).1)
theorem kdG : @KeyG (vn p q p' q' hp hq hp' hq') p q := @KeyG.mk (vn p q p' q' hp hq hp' hq') p q (pO.2 (List.mem_append_left _ (List.mem_append_right _ (by simp)))) (pO.2 (List.mem_append_left _ (List.mem_append_right _ (by simp)))) (pO.2 (List.mem_append_left _ (List.mem_append_right _ (by simp))))
theorem kdH : @KeyG (vn p q p' q' hp hq hp' hq') p' q' := @KeyG.mk (vn p q p' q' hp hq hp' hq') p' q' (pO.2 (List.mem_append_right _ (List.mem_append_right _ (by simp)))) (pO.2 (List.mem_append_right _ (List.mem_append_right _ (by simp)))) (pO.2 (List.mem_append_right _ (List.mem_append_right _ (by simp))))
end
end Go.Sx
namespace Go.Sx
open Go Go.RowKit Go.Proofs
set_option maxRecDepth 100000
set_option maxHeartbeats 40000000
attribute [local irreducible] Code.wp wpList Rd Step ObS Ent
attribute [local irreducible] am aQ ah aw aD bU au aS
attribute [local irreducible] aW aV ak aC aU aj bn eF j6 ch ax
section
variable [K : Key] [KeyZ] [KeyB]
omit [KeyZ] [KeyB] in
theorem rs_sz {l : List (U Ln)} (h : ∀ x ∈ l, Wv x.iv ∧ DT x.f) : All (gG 30) l := fun u hu => kq (mB (h u hu).1 ((h u hu).2.bl (by decide)) (by decide)) (Nat.le_refl _)
end
theorem pY (c : Crq) (s : List Stq) (sv : Value) (p q p' q' : Nat) (hp : p < 256) (hq : q < 256) (hp' : p' < 256) (hq' : q' < 256) (hc : c.time < 256 ∧ c.x < 256 ∧ c.y < 256) (hs : ∀ i, B4 (gt s i)) (w0 : World) (hsv : View w0 sv s) : Calls Tryz.prog 13 #[vCr c sv, vCt p q, vCt p' q'] w0 (dA w0 (.bool true) True) := by
 refine enter (N := 65) (args := [vCr c sv, vCt p q, vCt p' q']) Tryz.func13 rfl rfl ?_; intro ac h
 haveI : On := ⟨trivial⟩
 letI : Key := vn p q p' q' hp hq hp' hq'
 haveI : KeyZ := kdZ p q p' q' hp hq hp' hq'
 haveI : KeyB := kdB p q p' q' hp hq hp' hq'
 haveI : KeyG p q := kdG p q p' q' hp hq hp' hq'
 haveI : KeyG p' q' := kdH p q p' q' hp hq hp' hq'
 refine gz h <| (xb) fun b3 => (xb) fun b4 => (xb) fun b5 => (xk ss) <| (xg (hs := by exact fun hg => fb enA (fun w_ hB_ hS_ => short_ct c s sv w_ (hsv.below hB_)))) <| (ai) ?_ ?_ <;> clear h ac <;> intro ac wo h hc1
 ·
  refine gz h <| (xk ss) <| (W) ?_; clear h ac wo; intro ac wo h
  exact (rt h) (h.retP rfl trivial)
 have hl : s.length ≤ 6 := by
  have h9 : decide (((s.length : Nat) : Int) ≤ 6) = true := by simpa using hc1
  have := of_decide_eq_true h9; omega
 obtain ⟨hN, hD, _⟩ := sj c s p q
 obtain ⟨hN2, hD2, _⟩ := sj c s p' q'
 have hn := rz c s p q
 have hn2 := rz c s p' q'
 have R := rst_ok c s p q p' q'
 obtain ⟨l, hle⟩ : ∃ l, mP c s p q = l := ⟨_, rfl⟩
 obtain ⟨l2, hle2⟩ : ∃ l, mP c s p' q' = l := ⟨_, rfl⟩
 rw [hle] at hN hD hn
 rw [hle2] at hN2 hD2 hn2
 rw [hle, hle2] at R
 obtain ⟨d, hde⟩ : ∃ z, mu l2 = z := ⟨_, rfl⟩
 obtain ⟨e, hee⟩ : ∃ z, mu l = z := ⟨_, rfl⟩
 rw [hde, hee] at R
 obtain ⟨m, hme⟩ : ∃ z, cC e d = z := ⟨_, rfl⟩
 rw [hme] at R
 have z3 : All (gG 30) l := mv_sz hN hD 30 (by decide)
 have ce : Cn e := by rw [← hee]; exact (l8 hN.wv).1
 have led : iw l d = cA l d := by unfold iw cA; rw [nI hN.wv R.cd]
 have lem : iw l m = cA l m := by unfold iw cA; rw [nI hN.wv R.cm]
 have nrd := R.nd.len
 have nrm := R.nm.len
 have ld := R.ld
 have lm := R.lm
 have C : Chk (cA l d) := chk_ok R.nd.nf R.nd.ok (by omega)
 have zrd : All (gG 30) (rsI l d) := rs_sz R.wd
 have zrm : All (gG 30) (rsI l m) := rs_sz R.wm
 obtain ⟨r, hre⟩ : ∃ z, cA l d = z := ⟨_, rfl⟩
 obtain ⟨t, hte⟩ : ∃ z, cA l m = z := ⟨_, rfl⟩
 have za : All (gG 30) (t ++ r) := rs_sz fun x hx => by
  rw [← hre, ← hte] at hx
  exact (List.mem_append.1 hx).elim (fun h => ⟨R.nm.nf.wv x h, R.nm.ok x h⟩) (fun h => ⟨R.nd.nf.wv x h, R.nd.ok x h⟩)
 have hall := R.all
 rw [hre] at led nrd C hall
 rw [hte] at lem nrm hall
 have hta : (t ++ r).length < 20 := by rw [List.length_append]; omega
 refine gz h <| (W) ?_; clear h ac wo; intro ac wo h
 refine fF (xs := l) h (cZ Tryz.call50 rfl) (fun w_ hB_ hS_ => by rw [← hle]; exact qq c s sv p q hp hq hc hs hl w_ (hsv.below hB_)) rfl ?_; clear h ac wo; intro lv ac wo _ h
 refine gz h <| (W) ?_; clear h ac wo; intro ac wo h
 refine fF (xs := l2) h (cZ Tryz.call50 rfl) (fun w_ hB_ hS_ => by rw [← hle2]; exact qq c s sv p' q' hp' hq' hc hs hl w_ (hsv.below hB_)) rfl ?_; clear h ac wo; intro lv2 ac wo _ h
 have pd := RetR.pr (lh l2 lv2 (by omega) hN2.wv wo (row_view h.sep 0 rfl))
 rw [hde] at pd
 refine gz h <| (W) ?_; clear h ac wo; intro ac wo h
 refine fF (xs := d) h (cZ Tryz.call80 rfl) (fun w_ hB_ hS_ => by rw [← hde]; exact lh l2 lv2 (by omega) hN2.wv w_ (row_view hS_ 0 rfl)) rfl ?_; clear h ac wo; intro dv ac wo _ h
 refine gz h <| (W) ?_; clear h ac wo; intro ac wo h
 refine fF (xs := r) h (cZ Tryz.call81 rfl) (fun w_ hB_ hS_ => by have := lU l lv d dv (by omega) (by omega) (by rw [nI hN.wv R.cd]; omega) z3 pd.1 (by rw [nI hN.wv R.cd]; exact zrd) w_ (row_view hS_ 2 rfl) (row_view hS_ 0 rfl); rw [led] at this; exact this) rfl ?_; clear h ac wo; intro rv ac wo _ h
 have pe := RetR.pr (lh l lv (by omega) hN.wv wo (row_view h.sep 3 rfl))
 rw [hee] at pe
 refine gz h <| (W) ?_; clear h ac wo; intro ac wo h
 refine fF (xs := e) h (cZ Tryz.call80 rfl) (fun w_ hB_ hS_ => by rw [← hee]; exact lh l lv (by omega) hN.wv w_ (row_view hS_ 3 rfl)) rfl ?_; clear h ac wo; intro ev ac wo _ h
 have pm := RetR.pr (gg e ev d dv (by omega) (by omega) ce.wv R.cd.wv pe.1 pd.1 wo (row_view h.sep 0 rfl) (row_view h.sep 2 rfl))
 rw [hme] at pm
 refine gz h <| (W) ?_; clear h ac wo; intro ac wo h
 refine fF (xs := m) h (cZ Tryz.call79 rfl) (fun w_ hB_ hS_ => by rw [← hme]; exact gg e ev d dv (by omega) (by omega) ce.wv R.cd.wv pe.1 pd.1 w_ (row_view hS_ 0 rfl) (row_view hS_ 2 rfl)) rfl ?_; clear h ac wo; intro mv ac wo _ h
 refine gz h <| (W) ?_; clear h ac wo; intro ac wo h
 refine fF (xs := t) h (cZ Tryz.call81 rfl) (fun w_ hB_ hS_ => by have := lU l lv m mv (by omega) (by omega) (by rw [nI hN.wv R.cm]; omega) z3 pm.1 (by rw [nI hN.wv R.cm]; exact zrm) w_ (row_view hS_ 5 rfl) (row_view hS_ 0 rfl); rw [lem] at this; exact this) rfl ?_; clear h ac wo; intro tv ac wo _ h
 refine gz h <| (W) ?_; clear h ac wo; intro ac wo h
 refine nw h (dp (α := U Ln) (xs := []) (vs := []) [] j7 rfl rfl rfl (by decide)) rfl ?_; clear h ac wo; intro s0 ac wo _ h
 refine gz h <| (W) ?_; clear h ac wo; intro ac wo h
 refine on2 h 0 0 rfl rfl (fB (xs := []) (ys := t) j7 (fun w hs => (row_view hs 0 rfl)) rfl rfl (by show 0 + _ ≤ _; omega)) rfl ?_; clear h ac wo; intro s1 ac wo _ h
 rw [List.nil_append] at h
 refine gz h <| (W) ?_; clear h ac wo; intro ac wo h
 refine on2 h 0 3 rfl rfl (fB (xs := t) (ys := r) j7 (fun w hs => (row_view hs 0 rfl)) rfl rfl (by omega)) rfl ?_; clear h ac wo; intro s2 ac wo _ h
 have ec : (aG (t ++ r)).1 = l := by rw [hall]
 have e2 : (aG (t ++ r)).2 = 0 := by rw [hall]
 refine gz h <| (W) ?_; clear h ac wo; intro ac wo h
 refine pD (xs := l) h (cZ Tryz.call46 rfl) (fun w_ hB_ hS_ => by have := nR (t ++ r) s2 hta za w_ (row_view hS_ 0 rfl); rw [ec, e2] at this; exact this) rfl ?_; clear h ac wo; intro wv ac wo _ h
 refine gz h <| (W) ?_; clear h ac wo; intro ac wo h
 replace h := h.pick [0, 2, 6, 8] (by decide)
 refine fF (xs := r) h (cZ Tryz.call82 rfl) (fun w_ hB_ hS_ => by rw [← hre]; exact lK l lv d dv (by omega) (by omega) hN.wv R.cd.wv (by omega) zrd w_ (row_view hS_ 3 rfl) (row_view hS_ 2 rfl)) rfl ?_; clear h ac wo; intro v2 ac wo _ h
 have lr : r.length ≤ 1000 := by omega
 have ll : l.length ≤ 1000 := by omega
 refine gz h <| (xc (ct := by exact fun w_ hB_ hS_ => uw r rv v2 lr w_ (row_view hS_ 2 rfl) (row_view hS_ 0 rfl))) <| (xg (hs := by exact fun hg => fb enA (fun w_ hB_ hS_ => mchk_ct r rv C w_ (row_view hS_ 2 rfl)))) <| (xg (hs := by exact fun hg => fb enA (fun w_ hB_ hS_ => uw l wv lv ll w_ (row_view hS_ 1 rfl) (row_view hS_ 4 rfl)))) <| (W) ?_; clear h ac wo; intro ac wo h
 exact (rt h) (h.retP rfl trivial)
end Go.Sx
