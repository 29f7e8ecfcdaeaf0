/- A part of the proof of movingpointMeets. -/
import Derived.Test.YtbenbmdkhcfcfaaGreatDoorC9
import Derived.Test.YtbenbmdkhcfcfaaGreatDoorC7
set_option linter.unusedVariables false
set_option linter.unusedSimpArgs false
namespace Go.Sx
open Go Go.RowKit Go.Proofs
set_option maxRecDepth 100000
set_option maxHeartbeats 40000000
attribute [local irreducible] Code.wp wpList Rd Step ObS Ent
attribute [local irreducible] aq aP ah au aA bR ap aR
attribute [local irreducible] aX aW ak az aU aj bo eW kI cv aw
def lE (turns : Bool) (l : List (U Ln)) (i : Nat) : List GR := (mts l i).foldl (qm turns) []
theorem lN (turns : Bool) (l : List (U Ln)) (n : Nat) : lO turns (mts l n) (mts l n).length = lE turns l n := by unfold lO lE; rw [List.take_length]
theorem mOut_no {turns : Bool} {l : List (U Ln)} {i : Nat} (h : ¬ (gt l i).iv.hi = (gt l (i + 1)).iv.lo) : lE turns l (i + 1) = lE turns l i := by
 unfold lE; rw [kn, List.foldl_append]
 unfold mtF
 rw [Nat.add_sub_cancel, if_neg h]; rfl
theorem mOut_yes {turns : Bool} {l : List (U Ln)} {i : Nat} (h : (gt l i).iv.hi = (gt l (i + 1)).iv.lo) : lE turns l (i + 1) = qm turns (lE turns l i) ((gt l i).iv.hi, (!(gt l i).iv.openHi || !(gt l (i + 1)).iv.openLo) && aT (gt l i).f (gt l (i + 1)).f (gt l i).iv.hi) := by
 unfold lE; rw [kn, List.foldl_append]
 unfold mtF
 rw [Nat.add_sub_cancel, if_pos h, ← h]; rfl
theorem rC (turns : Bool) (l : List (U Ln)) (i : Nat) : (lE turns l i).length ≤ i := by
 rw [← lN]
 exact Nat.le_trans (oe turns _ _ (Nat.le_refl _)) (uv l i)
theorem lsame_is (f g : Ln) (t : GR) : (d9 (lxs f) (lxs g) t && d9 (lys f) (lys g) t) = aT f g t := by
 unfold aT aJ lxs lys; rfl
theorem q6 (l : List (U Ln)) (lv : Value) (turns : Bool) (hl : l.length ≤ 1000) (zl : All (it 20) l) (zt : ∀ i, SzR 30 (gt l i).iv.hi) (w0 : World) (hlv : View w0 lv l) : Calls Tryz.prog 54 #[lv, .bool turns] w0 (RetR w0 71 (aQ l turns) True) := by
 refine enter (N := 93) (args := [lv, .bool turns]) Tryz.func54 rfl rfl ?_; intro ac h
 haveI : On := ⟨trivial⟩
 have hlen := hlv.len
 have er : aQ l turns = lE turns l (l.length - 1) := by unfold aQ; exact lN _ _ _
 rw [er]
 refine gz h <| (W) ?_; clear h ac; intro ac wo h
 replace h := h.nilRow (α := GR) 71
 refine wp_loop_ghost (fun n_ a_ w_ => ∃ (i : Nat) (sv : Value), (l.length - i < n_) ∧ (i ≤ l.length - 1) ∧ St w0 93 [(0, lv), (1, .bool turns), (5, sv), (6, iN i)] [.row (α := GR) 71 sv (lE turns l i)] a_ w_) (l.length + 1) ⟨0, _, by omega, by omega, h.re [0]⟩ ?_
 clear h ac wo; rintro n1 ac wo ⟨i, sv, hm1, hi, h⟩
 obtain ⟨m1, rfl⟩ : ∃ m, n1 = m + 1 := ⟨n1 - 1, by omega⟩
 refine gz h <| (ai) ?_ ?_ <;> clear h ac wo <;> intro ac wo h hc1
 ·
  have hd2 : i + 1 < l.length := by have := of_decide_eq_true hc1; omega
  have hd1 : i < l.length := by omega
  have n1' := hlv.nn hd1
  have ho := rC turns l i
  refine gz h <| (W) ?_; clear h ac wo; intro ac wo h
  replace h := h.emps 3
  refine eP mixed [dv lv, dv (iN i), dv (sel lv (i * 36 + 0)), dv (vUN (gt l i)), dv lv, dv (iN i), dv (iN (i + 1)), dv (sel lv ((i + 1) * 36 + 0)), dv (vUN (gt l (i + 1))), dv lv, dv (iN i), dv (sel lv (i * 36 + 0)), dv _, dv _, dv (vR (gt l i).iv.hi), ⟨.nd (.one 15 fun v => ∃ b, v = ptr b 0), [1]⟩, ⟨.nd (.one 16 fun v => ∃ b, v = ptr b 0), [2]⟩, ⟨.nd (.one 17 fun v => ∃ b, v = ptr b 0), [3]⟩, dw undef [1], dw undef [2], dw undef [3]]
   [⟨_, []⟩, ⟨.emp, [(15, .one 15 fun v => .blk (bq v) (cUN oUN) 88), (18, .one 15 fun v => .blk (bq v) (cUN (gt l i)) 88)]⟩, ⟨.emp, [(16, .one 16 fun v => .blk (bq v) (cUN oUN) 88), (19, .one 16 fun v => .blk (bq v) (cUN (gt l (i + 1))) 88)]⟩, ⟨.emp, [(17, .one 17 fun v => .blk (bq v) (cR default) 71), (20, .one 17 fun v => .blk (bq v) (cR (gt l i).iv.hi) 71)]⟩] h rfl (by kernel_rfl)
   ⟨oA obA, oA obA, oA obA, oA obA, oA obA, oA obA, oA obA, oA obA, oA obA, oA obA, oA obA, oA obA, oA obA, oA obA, oA obA, fun _ _ => js 1 rfl (fun _ => rfl), fun _ _ => js 2 rfl (fun _ => rfl), fun _ _ => js 3 rfl (fun _ => rfl), fun ξ hφ => jq (u := vUN (gt l i)) 1 (hφ 15 rfl) rfl rfl rfl rfl rfl rfl rfl, fun ξ hφ => jq (u := vUN (gt l (i + 1))) 2 (hφ 16 rfl) rfl rfl rfl rfl rfl rfl rfl, fun ξ hφ => jq (u := vR (gt l i).iv.hi) 3 (hφ 17 rfl) rfl rfl rfl rfl rfl rfl rfl, trivial⟩ ?_
  clear h ac wo; intro ξ ac wo hφ h
  obtain ⟨b7, hb7⟩ : ∃ b, ξ 15 = ptr b 0 := hφ 15
  obtain ⟨b8, hb8⟩ : ∃ b, ξ 16 = ptr b 0 := hφ 16
  obtain ⟨b9, hb9⟩ : ∃ b, ξ 17 = ptr b 0 := hφ 17
  replace h : St w0 93 [(0, lv), (1, .bool turns), (5, sv), (6, iN i), (7, ξ 15), (8, ξ 16), (9, ξ 17)] [.row (α := GR) 71 sv (lE turns l i), .blk (bq (ξ 15)) (cUN (gt l i)) 88, .blk (bq (ξ 16)) (cUN (gt l (i + 1))) 88, .blk (bq (ξ 17)) (cR (gt l i).iv.hi) 71] ac wo := (h.pick [0, 1, 2, 3] (by decide)).sub ⟨rfl, rfl, rfl, rfl, rfl, rfl, rfl, trivial⟩
  rw [hb7, hb8, hb9] at h
  clear hb7 hb8 hb9 hφ ξ
  refine gz h <| (ai) ?_ ?_ <;> clear h ac wo <;> intro ac wo h hc2
  ·
   have hne : ¬ (gt l i).iv.hi = (gt l (i + 1)).iv.lo := fun e => by rw [e] at hc2; simp at hc2
   rw [← mOut_no (turns := turns) hne] at h
   refine gz h <| (W) ?_; clear h ac wo; intro ac wo h
   exact aI ⟨m1, by omega, i + 1, sv, by omega, by omega, h.re [0]⟩
  ·
   have heq : (gt l i).iv.hi = (gt l (i + 1)).iv.lo := by
    have e9 : (gt l (i + 1)).iv.lo = (gt l i).iv.hi := by simpa using hc2
    exact e9.symm
   have zf := (All.gt zl (by exact bP _) (i := i)).2
   have zg := (All.gt zl (by exact bP _) (i := i + 1)).2
   have s1 := vxs_ct (gt l i).f 20 og zf
   have s2 := vxs_ct (gt l (i + 1)).f 20 og zg
   have s3 := vys_ct (gt l i).f 20 og zf
   have s4 := vys_ct (gt l (i + 1)).f 20 og zg
   have s5 := fq (lxs (gt l i).f) (lxs (gt l (i + 1)).f) (gt l i).iv.hi 6 og (am (s1 w0)) (am (s2 w0)) (eA (zt i) og)
   have s6 := fq (lys (gt l i).f) (lys (gt l (i + 1)).f) (gt l i).iv.hi 6 og (am (s3 w0)) (am (s4 w0)) (eA (zt i) og)
   refine gz h <| (dr0 (hob := (oK s1) <| (oK s2) <| (oK s5) <| (oG (fun _ => s3)) <| (oG (fun _ => s4)) <| (oG (fun _ => s6)) <| oE)) <| (W) ?_; clear h ac wo; intro ac wo h
   obtain ⟨tu, htu⟩ : ∃ tu, ((!(gt l i).iv.openHi || !(gt l (i + 1)).iv.openLo) && aT (gt l i).f (gt l (i + 1)).f (gt l i).iv.hi) = tu := ⟨_, rfl⟩
   have hO := mOut_yes (turns := turns) heq
   rw [htu] at hO
   replace h : St w0 93 [(0, lv), (1, .bool turns), (5, sv), (6, iN i), (9, ptr b9 0), (11, .bool tu)] [.row (α := GR) 71 sv (lE turns l i), .blk b9 (cR (gt l i).iv.hi) 71] ac wo := by
    rw [← htu, ← lsame_is, Bool.and_comm]; exact h.re [0, 3]
   refine gz h <| (dr0 (hob := oE)) <| (ai) ?_ ?_ <;> clear h ac wo <;> intro ac wo h hc3
   ·
    have e : lE turns l (i + 1) = lE turns l i ++ [(gt l i).iv.hi] := by rw [hO]; unfold qm; rw [show ((tu == turns) && ((((lE turns l i).length : Nat) : Int) == 0 || !decide (gt (lE turns l i) ((lE turns l i).length - 1) = (gt l i).iv.hi))) = true from hc3]; rfl
    refine gz h <| (W) ?_; clear h ac wo; intro ac wo h
    refine nw h (c8 (α := GR) (xs := [.tmp 89]) (vs := [vR (gt l i).iv.hi]) [(gt l i).iv.hi] lZ rfl rfl rfl (by decide)) rfl ?_; clear h ac wo; intro s1 ac wo _ h
    refine on2 h 1 0 rfl rfl (fw (xs := lE turns l i) (ys := [(gt l i).iv.hi]) lZ (fun w hs => (row_view hs 0 rfl)) rfl rfl (by show _ + 1 ≤ _; omega)) rfl ?_; clear h ac wo; intro s2 ac wo _ h
    rw [← e] at h
    refine gz h <| (W) ?_; clear h ac wo; intro ac wo h
    exact aI ⟨m1, by omega, i + 1, s2, by omega, by omega, h.re [0]⟩
   ·
    have e : lE turns l (i + 1) = lE turns l i := by rw [hO]; unfold qm; rw [show ((tu == turns) && ((((lE turns l i).length : Nat) : Int) == 0 || !decide (gt (lE turns l i) ((lE turns l i).length - 1) = (gt l i).iv.hi))) = false from hc3]; rfl
    rw [← e] at h
    refine gz h <| (W) ?_; clear h ac wo; intro ac wo h
    exact aI ⟨m1, by omega, i + 1, sv, by omega, by omega, h.re [0]⟩
 ·
  obtain rfl : i = l.length - 1 := by have := of_decide_eq_false hc1; omega
  refine gz h <| (W) ?_; clear h ac wo; intro ac wo h
  exact (rt h) (h.retR 0 rfl trivial)
end Go.Sx
namespace Go.Sx
theorem insF_mem {turns : Bool} {out : List GR} {y : GR × Bool} {x : GR} (h : x ∈ qm turns out y) : x ∈ out ∨ (x = y.1 ∧ y.2 = turns) := by
  unfold qm at h
  cases hc : (y.2 == turns) && ((((out.length : Nat) : Int) == 0) || !decide (gt out (out.length - 1) = y.1)) with
  | false => rw [hc] at h; exact .inl h
  | true =>
    rw [hc, cond_true] at h
    rw [Bool.and_eq_true] at hc
    rcases List.mem_append.1 h with h | h
    · exact .inl h
    · exact .inr ⟨List.mem_singleton.1 h, eq_of_beq hc.1⟩
theorem pP {turns : Bool} {x : GR} : ∀ (m : List (GR × Bool)) (out : List GR), x ∈ m.foldl (qm turns) out → x ∈ out ∨ (x, turns) ∈ m
  | [], _, h => .inl h
  | y :: m, out, h => by
    rcases pP m (qm turns out y) h with h | h
    · rcases insF_mem h with h | ⟨h1, h2⟩
      · exact .inl h
      · right; rw [h1, ← h2]; exact List.mem_cons_self ..
    · exact .inr (List.mem_cons_of_mem _ h)
theorem uF {l : List (U Ln)} {turns : Bool} {x : GR} (h : x ∈ aQ l turns) : ∃ i, i + 1 < l.length ∧ (gt l i).iv.hi = (gt l (i + 1)).iv.lo ∧ x = (gt l (i + 1)).iv.lo ∧
    ((!(gt l i).iv.openHi || !(gt l (i + 1)).iv.openLo) && aT (gt l i).f (gt l (i + 1)).f (gt l (i + 1)).iv.lo) = turns := by
  have e : aQ l turns = lE turns l (l.length - 1) := by unfold aQ; exact lN _ _ _
  rw [e] at h
  rcases pP _ _ h with h | h
  · cases h
  · unfold mts at h
    obtain ⟨i, hi, h⟩ := List.mem_flatMap.1 h
    have hi := List.mem_range.1 hi
    unfold mtF at h
    rw [Nat.add_sub_cancel] at h
    split at h
    · rename_i he
      have h := List.mem_singleton.1 h
      rw [Prod.mk.injEq] at h
      exact ⟨i, by omega, he, h.1, h.2.symm⟩
    · cases h
theorem iW {α : Type} [Inhabited α] {l : List α} {i : Nat} (h : i < l.length) : gt l i ∈ l := by rw [fW h]; exact List.getElem_mem _
section
variable [K : Key]
theorem uh {l : List (U Ln)} (ho : l.Pairwise fun a b => eI a.iv < (eN b.iv : Int)) {i j : Nat} (h : i < j) (hj : j < l.length) : eI (gt l i).iv < (eN (gt l j).iv : Int) := by
  have := List.pairwise_iff_getElem.1 ho i j (by omega) hj h
  rw [fW (by omega), fW hj]; exact this
theorem pi {D : Ln → Prop} (hR : Dk D) {l : List (U Ln)} (hl : NFl l) (hD : ∀ u ∈ l, D u.f) {a b : Nat} (hab : a < b) (hb : b + 1 < l.length) (e1 : (gt l a).iv.hi = (gt l (a + 1)).iv.lo) (e2 : (gt l b).iv.hi = (gt l (b + 1)).iv.lo) (e : (gt l (a + 1)).iv.lo = (gt l (b + 1)).iv.lo) :
    aT (gt l a).f (gt l (a + 1)).f (gt l (a + 1)).iv.lo = false ∧ aT (gt l b).f (gt l (b + 1)).f (gt l (b + 1)).iv.lo = false := by
  have wa := hl.wv _ (iW (show a < l.length by omega))
  have w1 := hl.wv _ (iW (show a + 1 < l.length by omega))
  have wb := hl.wv _ (iW (show b < l.length by omega))
  have w2 := hl.wv _ (iW hb)
  have l1 := w1.le
  have lb' := wb.le
  have la := wa.le
  have f1 : 2 * tk (gt l (a + 1)).iv.lo ≤ eN (gt l (a + 1)).iv := by unfold eN; omega
  have g1 : eI (gt l b).iv ≤ 2 * (tk (gt l b).iv.hi : Int) := by unfold eI; cases (gt l b).iv.openHi <;> simp <;> omega
  rw [e2, ← e] at g1
  have hbe : b = a + 1 := by
    refine Classical.byContradiction fun hne => ?_
    have := uh hl.ord (show a + 1 < b by omega) (show b < l.length by omega)
    omega
  subst hbe
  have hin : (gt l (a + 1)).iv.lo = (gt l (a + 1)).iv.hi := by rw [e2]; exact e
  obtain ⟨o1, o2⟩ := w1.2.2 (by rw [hin])
  have k1 := hl.lk a (by omega) e1
  have k2 := hl.lk (a + 1) hb e2
  have hna : (gt l a).iv.lo ≠ (gt l a).iv.hi := by
    intro h
    obtain ⟨p1, p2⟩ := wa.2.2 (by rw [h])
    have := uh hl.ord (show a < a + 1 by omega) (show a + 1 < l.length by omega)
    unfold eI eN at this
    rw [p2, o1, e1] at this
    simp at this
  have hoa : (gt l a).iv.openHi = true := by
    cases h : (gt l a).iv.openHi with
    | true => rfl
    | false =>
      have := uh hl.ord (show a < a + 1 by omega) (show a + 1 < l.length by omega)
      unfold eI eN at this
      rw [h, o1, e1] at this
      simp at this
  refine ⟨(k1.2 hna).2 hoa o1, ?_⟩
  have k3 := k2.1 hin
  cases h : aT (gt l (a + 1)).f (gt l (a + 1 + 1)).f (gt l (a + 1 + 1)).iv.lo with
  | false => rfl
  | true =>
    have := hR.ru.symm _ w2.1.1 _ _ (hD _ (iW (show a + 1 < l.length by omega))) (hD _ (iW hb)) h
    rw [k3] at this; cases this
theorem no_both {D : Ln → Prop} (hR : Dk D) {l : List (U Ln)} (hl : NFl l) (hD : ∀ u ∈ l, D u.f) {x : GR} (h1 : x ∈ aQ l true) (h2 : x ∈ aQ l false) : False := by
  obtain ⟨a, ha, a1, a2, a3⟩ := uF h1
  obtain ⟨b, hb, b1, b2, b3⟩ := uF h2
  rcases Nat.lt_trichotomy a b with h | h | h
  · have := (pi hR hl hD h hb a1 b1 (a2.symm.trans b2)).1
    rw [this, Bool.and_false] at a3; cases a3
  · subst h; rw [a3] at b3; cases b3
  · have := (pi hR hl hD h ha b1 a1 (b2.symm.trans a2)).2
    rw [this, Bool.and_false] at a3; cases a3
end
end Go.Sx
namespace Go.Sx
def kcL (p q : Nat) : List GR := (List.range 65).map inZ ++ [ap (qa p), ap (qa (p + q)), gX p]
theorem inZ0 : (default : GR) = inZ 0 := by
  have e : aw 0 = ⟨false, 0⟩ := rH (jN 0) (fun _ => rfl) (by rw [eM]; rfl)
  have h : ah ((0 : Nat) : Int) = ⟨⟨false, 0⟩, ⟨false, 0⟩⟩ := by unfold ah; rw [show ((0 : Nat) : Int) = 0 from rfl, e]
  unfold inZ
  rw [h]
  unfold ap
  rfl
theorem qO {p q : Nat} {x : GR} (h : x ∈ kcL p q) : (∃ n, n ≤ 64 ∧ x = inZ n) ∨ x = ap (qa p) ∨ x = ap (qa (p + q)) ∨ x = gX p := by
  unfold kcL at h
  rcases List.mem_append.1 h with h | h
  · obtain ⟨n, hn, rfl⟩ := List.mem_map.1 h
    exact .inl ⟨n, by have := List.mem_range.1 hn; omega, rfl⟩
  · simp at h; exact .inr h
theorem kcL_z {p q n : Nat} (h : n ≤ 64) : inZ n ∈ kcL p q := List.mem_append_left _ (List.mem_map_of_mem (List.mem_range.2 (by omega)))
theorem kc_ok {p q : Nat} {x : GR} (h : x ∈ kcL p q) : ROk x := by
  rcases qO h with ⟨n, _, rfl⟩ | rfl | rfl | rfl
  · exact inZ_ok n
  · exact sF (mL _).1
  · exact sF (mL _).1
  · exact gX_ok p
theorem kc_bq {p q : Nat} (hp : p < 256) (hq : q < 256) {x : GR} (h : x ∈ kcL p q) : Bq 100 x.p ∧ Bq 100 x.r := by
  rcases qO h with ⟨n, hn, rfl⟩ | rfl | rfl | rfl
  · exact ⟨Bq.int _ (by omega) (by decide), Bq.zero (by decide)⟩
  · exact ⟨(qa_bq (by omega)).le (by decide), Bq.zero (by decide)⟩
  · exact ⟨(qa_bq (by omega)).le (by decide), Bq.zero (by decide)⟩
  · exact ⟨(qa_bq (by omega)).le (by decide), Bq.int _ (by decide) (by decide)⟩
theorem kc_rt {p q : Nat} {x : GR} (h : x ∈ kcL p q) : RtR x := by
  rcases qO h with ⟨n, _, rfl⟩ | rfl | rfl | rfl
  · rw [show inZ n = ap (ah (n : Int)) from rfl]; unfold RtR; rw [(fr_p _).2.1]; exact ⟨by decide, rfl⟩
  · unfold RtR; rw [(fr_p _).2.1]; exact ⟨by decide, rfl⟩
  · unfold RtR; rw [(fr_p _).2.1]; exact ⟨by decide, rfl⟩
  · exact ⟨by show (ah ((2 : Nat) : Int)).num.mag < 4; rw [show (ah ((2 : Nat) : Int)).num = aw ((2 : Nat) : Int) by unfold ah; rfl, ← gw, eM]; decide, by show (ah 2).den = _; unfold ah; rfl⟩
abbrev keyC (p q : Nat) (hp : p < 256) (hq : q < 256) : Key where
  l := kcL p q
  ok := fun _ => kc_ok
  sz := by unfold kcL; simp
  z := by rw [inZ0]; exact kcL_z (by decide)
  rt := fun x h => kc_rt h
  szr := fun x h => ⟨cr ((kc_bq hp hq h).1.sz (by decide)) (by decide), cr ((kc_bq hp hq h).2.sz (by decide)) (by decide)⟩
theorem tj {p q : Nat} {hp : p < 256} {hq : q < 256} {x : GR} : @Tm (keyC p q hp hq) x ↔ x ∈ kcL p q := by
  letI := keyC p q hp hq
  rw [← Tm.iff, decide_eq_true_iff]; rfl
theorem kcZ (p q : Nat) (hp : p < 256) (hq : q < 256) : @KeyZ (keyC p q hp hq) := @KeyZ.mk (keyC p q hp hq) fun n hn => tj.2 (kcL_z hn)
theorem kcB (p q : Nat) (hp : p < 256) (hq : q < 256) : @KeyB (keyC p q hp hq) := @KeyB.mk (keyC p q hp hq) fun t ht => (kc_bq hp hq (tj.1 ht)).1
theorem kcG (p q : Nat) (hp : p < 256) (hq : q < 256) : @KeyG (keyC p q hp hq) p q := @KeyG.mk (keyC p q hp hq) p q (tj.2 (List.mem_append_right _ (by simp))) (tj.2 (List.mem_append_right _ (by simp))) (tj.2 (List.mem_append_right _ (by simp)))
end Go.Sx
namespace Go.Sx
open Go Go.RowKit Go.Proofs
set_option maxRecDepth 100000
set_option maxHeartbeats 40000000
attribute [local irreducible] Code.wp wpList Rd Step ObS Ent
attribute [local irreducible] aq aP ah au aA bR ap aR
attribute [local irreducible] aX aW ak az aU aj bo eW kI cv aw
theorem short_ct (c : Crq) (s : List Stq) (sv : Value) (w0 : World) (hsv : View w0 sv s) : Calls Tryz.prog 49 #[vCr c sv] w0 (dr w0 (.bool (decide (((s.length : Nat) : Int) ≤ 6))) True) := by
 refine enter (N := 7) (args := [vCr c sv]) Tryz.func49 rfl rfl ?_; intro ac h
 have hlen := hsv.len
 refine gz h <| (xb) fun b1 => (W) ?_; clear h ac; intro ac wo h
 exact (rt h) (h.retP rfl trivial)
section
variable [K : Key] [KeyZ] [KeyB]
omit [KeyZ] [KeyB] in
theorem mv_sz {l : List (U Ln)} (hN : NFl l) (hD : ∀ u ∈ l, DT u.f) (k : Nat) (hk : k ≤ 30) : All (it k) l := fun u hu => oM (qp (hN.wv u hu) ((hD u hu).bl (by decide)) (by decide)) hk
omit [KeyZ] [KeyB] in
theorem gt_tm {l : List (U Ln)} (hN : NFl l) (i : Nat) : SzR 30 (gt l i).iv.lo ∧ SzR 30 (gt l i).iv.hi := by
 by_cases h : i < l.length
 · have := hN.wv _ (iW h)
   exact ⟨kG this.1.1, kG this.1.2⟩
 · have e : gt l i = default := by unfold gt; rw [List.getD_eq_getElem?_getD, List.getElem?_eq_none (by omega)]; rfl
   rw [e]
   have : SzR 30 (default : GR) := ⟨⟨jM _, jM _⟩, ⟨jM _, jM _⟩⟩
   exact ⟨this, this⟩
end
theorem meets_ct (c : Crq) (s : List Stq) (sv : Value) (p q : Nat) (hp : p < 256) (hq : q < 256) (hc : c.time < 256 ∧ c.x < 256 ∧ c.y < 256) (hs : ∀ i, B4 (gt s i)) (w0 : World) (hsv : View w0 sv s) : Calls Tryz.prog 7 #[vCr c sv, vCt p q] w0 (dr w0 (.bool true) True) := by
 refine enter (N := 58) (args := [vCr c sv, vCt p q]) Tryz.func7 rfl rfl ?_; intro ac h
 haveI : On := ⟨trivial⟩
 letI : Key := keyC p q hp hq
 haveI : KeyZ := kcZ p q hp hq
 haveI : KeyB := kcB p q hp hq
 haveI : KeyG p q := kcG p q hp hq
 refine gz h <| (xb) fun b2 => (xb) fun b3 => (xk rG) <| (xg (hs := by exact fun hg => fl enA (fun w_ hB_ hS_ => short_ct c s sv w_ (hsv.below hB_)))) <| (ai) ?_ ?_ <;> clear h ac <;> intro ac wo h hc1
 ·
  refine gz h <| (xk rG) <| (W) ?_; clear h ac wo; intro ac wo h
  exact (rt h) (h.retP rfl trivial)
 have hl : s.length ≤ 6 := by
  have h9 : decide (((s.length : Nat) : Int) ≤ 6) = true := by simpa using hc1
  have := of_decide_eq_true h9; omega
 obtain ⟨hN, hD, hn⟩ := mov_ok c s p q
 obtain ⟨l, hle⟩ : ∃ l, movR c s p q = l := ⟨_, rfl⟩
 rw [hle] at hN hD hn
 refine gz h <| (W) ?_; clear h ac wo; intro ac wo h
 refine fY (xs := l) h (dp Tryz.call50 rfl) (fun w_ hB_ hS_ => by rw [← hle]; exact uw c s sv p q hp hq hc hs hl w_ (hsv.below hB_)) rfl ?_; clear h ac wo; intro lv ac wo _ h
 have z2 := mv_sz hN hD 20 (by decide)
 refine gz h <| (W) ?_; clear h ac wo; intro ac wo h
 refine fY (xs := aQ l true) h (dp Tryz.call51 rfl) (fun w_ hB_ hS_ => rU l lv (by omega) z2 (fun i => (gt_tm hN i).1) w_ (row_view hS_ 0 rfl)) rfl ?_; clear h ac wo; intro tv ac wo _ h
 refine gz h <| (W) ?_; clear h ac wo; intro ac wo h
 refine fY (xs := aQ l false) h (dp Tryz.call52 rfl) (fun w_ hB_ hS_ => Jumps_ct l lv (by omega) z2 (fun i => (gt_tm hN i).1) w_ (row_view hS_ 1 rfl)) rfl ?_; clear h ac wo; intro jv ac wo _ h
 refine gz h <| (W) ?_; clear h ac wo; intro ac wo h
 refine fY (xs := aQ l true) h (dp Tryz.call54 rfl) (fun w_ hB_ hS_ => q6 l lv true (by omega) z2 (fun i => (gt_tm hN i).2) w_ (row_view hS_ 2 rfl)) rfl ?_; clear h ac wo; intro t2 ac wo _ h
 have hti : ∀ b, (aQ l b).length ≤ 1000 := fun b => by
  have := rC b l (l.length - 1)
  rw [← lN] at this
  unfold aQ; omega
 refine gz h <| (xc (ct := by exact fun w_ hB_ hS_ => rh (aQ l true) tv t2 (hti true) w_ (row_view hS_ 2 rfl) (row_view hS_ 0 rfl))) <| (W) ?_; clear h ac wo; intro ac wo h
 refine gK (c := true) h rfl rfl rfl rfl ?_
 refine fY (xs := aQ l false) h (dp Tryz.call54 rfl) (fun w_ hB_ hS_ => q6 l lv false (by omega) z2 (fun i => (gt_tm hN i).2) w_ (row_view hS_ 3 rfl)) rfl ?_; clear h ac wo; intro j2 ac wo _ h
 refine gz h <| (xg (hs := by exact fun hg => fl enA (fun w_ hB_ hS_ => rh (aQ l false) jv j2 (hti false) w_ (row_view hS_ 2 rfl) (row_view hS_ 0 rfl)))) <| (ai) ?_ ?_ <;> clear h ac wo <;> intro ac wo h hc2
 · cases hc2
 obtain ⟨T, hT⟩ : ∃ T, aQ l true = T := ⟨_, rfl⟩
 obtain ⟨J, hJ⟩ : ∃ J, aQ l false = J := ⟨_, rfl⟩
 have hno : ∀ x, x ∈ T → x ∈ J → False := fun x h1 h2 => by rw [← hT] at h1; rw [← hJ] at h2; exact no_both dkT hN hD h1 h2
 have hlT := hti true
 have hlJ := hti false
 rw [hT] at h hlT
 rw [hJ] at h hlJ
 refine gz h <| (W) ?_; clear h ac wo; intro ac wo h
 refine wp_loop_ghost (fun n_ a_ w_ => ∃ (i : Nat), (T.length - i < n_) ∧ (i ≤ T.length) ∧ St w0 58 [(6, tv), (7, jv), (8, iN i)] [.row (α := GR) 71 tv T, .row (α := GR) 71 jv J] a_ w_) (T.length + 1) ⟨0, by omega, by omega, h.re [3, 2]⟩ ?_
 clear h ac wo; rintro n1 ac wo ⟨i, hm1, hi, h⟩
 obtain ⟨m1, rfl⟩ : ∃ m, n1 = m + 1 := ⟨n1 - 1, by omega⟩
 refine gz h <| (ai) ?_ ?_ <;> clear h ac wo <;> intro ac wo h hc3
 ·
  have hi1 : i < T.length := by have := of_decide_eq_true hc3; omega
  refine gz h <| (W) ?_; clear h ac wo; intro ac wo h
  refine wp_loop_ghost (fun n_ a_ w_ => ∃ (k : Nat), (J.length - k < n_) ∧ (k ≤ J.length) ∧ St w0 58 [(6, tv), (7, jv), (8, iN i), (9, iN k)] [.row (α := GR) 71 tv T, .row (α := GR) 71 jv J] a_ w_) (J.length + 1) ⟨0, by omega, by omega, h.re [0, 1]⟩ ?_
  clear h ac wo; rintro n2 ac wo ⟨k, hm2, hk, h⟩
  obtain ⟨m2, rfl⟩ : ∃ m, n2 = m + 1 := ⟨n2 - 1, by omega⟩
  refine gz h <| (ai) ?_ ?_ <;> clear h ac wo <;> intro ac wo h hc4
  ·
   have hk1 : k < J.length := by have := of_decide_eq_true hc4; omega
   have nT := (row_view h.sep 0 rfl).nn hi1
   have nJ := (row_view h.sep 1 rfl).nn hk1
   refine gz h <| (dr0 (hob := oE)) <| (ai) ?_ ?_ <;> clear h ac wo <;> intro ac wo h hc5
   · exfalso
     have e9 := of_decide_eq_true hc5
     exact hno _ (iW hi1) (by rw [e9]; exact iW hk1)
   refine gz h <| (W) ?_; clear h ac wo; intro ac wo h
   exact aI ⟨m2, by omega, k + 1, by omega, by omega, h.re [0, 1]⟩
  ·
   refine gz h <| (W) ?_; clear h ac wo; intro ac wo h
   exact aI ⟨m1, by omega, i + 1, by omega, by omega, h.re [0, 1]⟩
 ·
  refine gz h <| (W) ?_; clear h ac wo; intro ac wo h
  exact (rt h) (h.retP rfl trivial)
end Go.Sx
