/- A part of the proof of movingpointChecks. -/
import Derived.Test.YtbenbmdkhcfcfaaGreatDoorJ4
set_option linter.unusedVariables false
set_option linter.unusedSimpArgs false
open Go.Proofs.Tryz renaming runUnderlying208 → uu208, runUnderlying9 → uu9, underlying4 → nn4, underlying71 → nn71, underlying86 → nn86, underlying79 → nn79, underlying88 → nn88
namespace Go.Sx
open Go Go.RowKit Go.Proofs Go.ChangeShapes Go.WideShapes
set_option maxRecDepth 100000
section
variable {H : Type} {enc : TypeId × Value → H} {W : World} {base : Nat} {sp : Nat → Bool} {held : Bool}
def lim (n : Nat) : Bool := decide (n ≤ reachBytes)
theorem kI {P : Program} {e : TypeId} : ∀ {ds : List (DataW H)} {d : DataW H}, (DataW.weightsAll P e ds).all lim = true → d ∈ ds → (DataW.weights P e d).all lim = true
  | x :: r, d, h, hd => by
    simp only [DataW.weightsAll, List.all_append, Bool.and_eq_true] at h
    rcases List.mem_cons.1 hd with rfl | hd
    · exact h.1
    · exact kI h.2 hd
theorem q5 {α : Type} [Cod α] {P : Program} {t e : TypeId} {v : Value} {d : DataW H} {p : List MemPlace} {Q : α → Prop}
    (ht : P.underlying t = some (.slice e)) (hc : P.cellsOf e = Cod.n α) (hval : Value.okWide P W .any base t v) (h : DataW.Trod enc P W 0 sp held t v d p)
    (hw : (DataW.weights P t d).all lim = true)
    (hel : ∀ (n : Nat) (cs : List Value) (x : DataW H × List MemPlace), DataW.trod enc P W 0 sp held n e cs = some x → (DataW.weights P e x.1).all lim = true → ∃ s : α, cs = Cod.enc s ∧ Q s) : ∃ xs : List α, View W v xs ∧ ∀ s ∈ xs, Q s := by
  obtain ⟨fuel, hf⟩ := h
  rcases mG ht hval with rfl | ⟨g, off, len, cap, cur, el, fr, rfl, hlc, hg⟩
  · exact ⟨[], View.nilv, fun s hs => by cases hs⟩
  · rcases DataW.trod_slice ht hf with ⟨h0, _⟩ | ⟨a, len', cap', elems, rest, n, _, hv, hx, _, _, hm, hlen, hels, _, _⟩
    · simp [Value.cells] at h0
    · simp only [Value.cells, List.cons.injEq, Value.slice.injEq, and_true] at hv
      obtain ⟨ha, rfl, rfl⟩ := hv
      cases ha
      rw [hc] at hels
      have hd : d = .slice (elems.map (·.1)) (rest.map (·.1)) := congrArg Prod.fst hx
      have hwa : (DataW.weightsAll P e (elems.map (·.1))).all lim = true := by
        rw [hd] at hw
        simp only [DataW.weights, ht, List.all_cons, List.all_append, Bool.and_eq_true] at hw
        exact hw.2.1
      have key : ∀ i, i < len → ∃ s : α, (∀ j, j < Cod.n α → cur[off + (i * Cod.n α + j)]? = (Cod.enc s)[j]?) ∧ Q s := by
        intro i hi
        have h1 := hels i hi
        have hi2 : i < elems.length := by omega
        rw [List.getElem?_eq_getElem hi2, Option.bind_eq_some_iff] at h1
        obtain ⟨cs, h2, h3⟩ := h1
        obtain ⟨s, rfl, hQ⟩ := hel _ _ _ h3 (kI hwa (List.mem_map_of_mem (List.getElem_mem hi2)))
        refine ⟨s, fun j hj => ?_, hQ⟩
        obtain ⟨_, _, h4⟩ := World.cells?_some h2
        have h5 := h4 j hj
        rw [Addr.add_add] at h5
        rw [← h5]
        unfold World.cell? Addr.add
        by_cases e0 : i * Cod.n α + j = 0
        · rw [if_pos e0, e0]; simp [hg]
        · rw [if_neg e0]; simp [hg]
      obtain ⟨xs, hx1, hx2⟩ := pz key
      refine ⟨xs, ⟨⟨by omega, by show xs.length ≤ cap; omega⟩, .inr ⟨g, off, cap, cur, el, fr, by rw [hx1], hg, fun j hj => ?_⟩⟩, fun s hs => ?_⟩
      · rw [bt] at hj
        have hp := Cod.pos (α := α)
        have hi : j / Cod.n α < xs.length := by
          rw [Nat.div_lt_iff_lt_mul hp]; exact hj
        have e2 := (hx2 (j / Cod.n α) _ (List.getElem?_eq_getElem hi)).1 (j % Cod.n α) (Nat.mod_lt _ hp)
        have e3 := pG (xs := xs) (List.getElem?_eq_getElem hi) (Nat.mod_lt j hp)
        have e4 : j / Cod.n α * Cod.n α + j % Cod.n α = j := Nat.div_add_mod' j (Cod.n α)
        rw [e4] at e2 e3
        rw [e2, e3]
      · obtain ⟨i, hi, rfl⟩ := List.getElem_of_mem hs
        exact (hx2 i _ (List.getElem?_eq_getElem hi)).2
theorem xq_w {x : XQ} (h : (DataW.weights Tryz.prog 27 (dXQ (H := H) x)).all lim = true) : xsz x ≤ 9223372036854775807 := by
  rw [w_xq] at h
  unfold lim at h
  simp only [List.all_cons, List.all_nil, Bool.and_true, Bool.and_eq_true, decide_eq_true_eq] at h
  have e1 : x.n.b.size = x.n.b.data.toList.length := rfl
  have e2 : x.d.b.size = x.d.b.data.toList.length := rfl
  unfold reachBytes at h
  unfold xsz
  omega
end
end Go.Sx
namespace Go.Sx
open Go Go.RowKit Go.Proofs
structure XR where
  p : XQ
  r : XQ
  neg : Bool
structure XV where
  lo : XR
  hi : XR
  openLo : Bool
  openHi : Bool
structure XL where
  x0 : XQ
  x1 : XQ
  y0 : XQ
  y1 : XQ
structure XU where
  iv : XV
  f : XL
def cXR (x : XR) : List Value := cXQ x.p ++ (cXQ x.r ++ [.bool x.neg])
def vXR (x : XR) : Value := .agg (cXR x).toArray
def cXV (x : XV) : List Value := cXR x.lo ++ (cXR x.hi ++ [.bool x.openLo, .bool x.openHi])
def vXV (x : XV) : Value := .agg (cXV x).toArray
def cXL (x : XL) : List Value := cXQ x.x0 ++ (cXQ x.x1 ++ (cXQ x.y0 ++ cXQ x.y1))
def vXL (x : XL) : Value := .agg (cXL x).toArray
def cXU (x : XU) : List Value := cXV x.iv ++ cXL x.f
def vXU (x : XU) : Value := .agg (cXU x).toArray
instance celXR (x : XR) : Cel (vXR x) (cXR x) := ⟨rfl⟩
instance celXV (x : XV) : Cel (vXV x) (cXV x) := ⟨rfl⟩
instance celXL (x : XL) : Cel (vXL x) (cXL x) := ⟨rfl⟩
instance celXU (x : XU) : Cel (vXU x) (cXU x) := ⟨rfl⟩
instance dcXR (x : XR) : Dc (cXR x) (vXR x) := ⟨rfl⟩
instance dcXV (x : XV) : Dc (cXV x) (vXV x) := ⟨rfl⟩
instance dcXL (x : XL) : Dc (cXL x) (vXL x) := ⟨rfl⟩
instance dcXU (x : XU) : Dc (cXU x) (vXU x) := ⟨rfl⟩
instance inhXU : Inhabited XU := ⟨⟨⟨⟨xq0, xq0, false⟩, ⟨xq0, xq0, false⟩, false, false⟩, ⟨xq0, xq0, xq0, xq0⟩⟩⟩
theorem one_b (b : Bool) : ∀ c ∈ [Value.bool b], c.oneCell' = true := fun c h => by rw [List.mem_singleton.1 h]; rfl
theorem one_bb (a b : Bool) : ∀ c ∈ [Value.bool a, .bool b], c.oneCell' = true := fun c h => by
  rcases List.mem_cons.1 h with rfl | h
  · rfl
  · rw [List.mem_singleton.1 h]; rfl
theorem oneXR (x : XR) : ∀ c ∈ cXR x, c.oneCell' = true := cw (lD _) (cw (lD _) (one_b _))
theorem oneXV (x : XV) : ∀ c ∈ cXV x, c.oneCell' = true := cw (oneXR _) (cw (oneXR _) (one_bb _ _))
theorem oneXL (x : XL) : ∀ c ∈ cXL x, c.oneCell' = true := cw (lD _) (cw (lD _) (cw (lD _) (lD _)))
instance codXU : Cod XU := ⟨cXU, 36, fun _ => rfl, fun x => cw (oneXV _) (oneXL _), by decide⟩
def rX (a : GR) : XR := ⟨qX a.p, qX a.r, a.neg⟩
def ivX (a : Iv) : XV := ⟨rX a.lo, rX a.hi, a.openLo, a.openHi⟩
def lX' (f : Ln) : XL := ⟨qX f.x0, qX f.x1, qX f.y0, qX f.y1⟩
def uX (u : U Ln) : XU := ⟨ivX u.iv, lX' u.f⟩
theorem ivX_v (a : Iv) : vXV (ivX a) = vV a := rfl
theorem uX_enc (u : U Ln) : Cod.enc (uX u) = Cod.enc u := rfl
theorem sX : ∀ l : List (U Ln), flat (l.map uX) = flat l
  | [] => rfl
  | s :: l => by
    have := sX l
    unfold flat at this ⊢
    rw [List.map_cons, List.flatMap_cons, List.flatMap_cons, this, uX_enc]
theorem View.uX {w : World} {sv : Value} {l : List (U Ln)} (h : View w sv (l.map uX)) : View w sv l := by
  unfold View at h ⊢
  rw [sX, List.length_map] at h
  rw [List.map_eq_nil_iff] at h
  exact h
def x8 (u : XU) : List XQ := [u.iv.lo.p, u.iv.lo.r, u.iv.hi.p, u.iv.hi.r, u.f.x0, u.f.x1, u.f.y0, u.f.y1]
def GdR (x : XR) : Prop := Gd x.p ∧ Gd x.r
def GdV (x : XV) : Prop := GdR x.lo ∧ GdR x.hi
def GdL (x : XL) : Prop := Gd x.x0 ∧ Gd x.x1 ∧ Gd x.y0 ∧ Gd x.y1
def S8R (x : XR) : Prop := xsz x.p ≤ 8 ∧ xsz x.r ≤ 8
def S8L (x : XL) : Prop := xsz x.x0 ≤ 8 ∧ xsz x.x1 ≤ 8 ∧ xsz x.y0 ≤ 8 ∧ xsz x.y1 ≤ 8
def S8U (u : XU) : Prop := (S8R u.iv.lo ∧ S8R u.iv.hi) ∧ S8L u.f
theorem x8_8 {u : XU} (h : ∀ k, k < 8 → xsz (gt (x8 u) k) ≤ 8) : S8U u := ⟨⟨⟨h 0 (by decide), h 1 (by decide)⟩, ⟨h 2 (by decide), h 3 (by decide)⟩⟩, ⟨h 4 (by decide), h 5 (by decide), h 6 (by decide), h 7 (by decide)⟩⟩
theorem me {x : XQ} (h : Gd x) : ∃ a, x = qX a ∧ Gq a := by
  obtain ⟨a, e, o, n, d⟩ := h
  exact ⟨a, e, o, n, d⟩
def GqR (a : GR) : Prop := Gq a.p ∧ Gq a.r
def GqU (u : U Ln) : Prop := (GqR u.iv.lo ∧ GqR u.iv.hi) ∧ Gq u.f.x0 ∧ Gq u.f.x1 ∧ Gq u.f.y0 ∧ Gq u.f.y1
theorem sU {x : XR} (h : GdR x) : ∃ a, x = rX a ∧ GqR a := by
  obtain ⟨p, ep, hp⟩ := me h.1
  obtain ⟨r, er, hr⟩ := me h.2
  refine ⟨⟨p, r, x.neg⟩, ?_, hp, hr⟩
  obtain ⟨a, b, c⟩ := x
  simp only at ep er
  rw [ep, er]; rfl
theorem qy {x : XV} (h : GdV x) : ∃ a, x = ivX a ∧ GqR a.lo ∧ GqR a.hi := by
  obtain ⟨p, ep, hp⟩ := sU h.1
  obtain ⟨r, er, hr⟩ := sU h.2
  refine ⟨⟨p, r, x.openLo, x.openHi⟩, ?_, hp, hr⟩
  obtain ⟨a, b, c, d⟩ := x
  simp only at ep er
  rw [ep, er]; rfl
theorem gdl_is {x : XL} (h : GdL x) : ∃ a, x = lX' a ∧ Gq a.x0 ∧ Gq a.x1 ∧ Gq a.y0 ∧ Gq a.y1 := by
  obtain ⟨p, ep, hp⟩ := me h.1
  obtain ⟨q, eq, hq⟩ := me h.2.1
  obtain ⟨r, er, hr⟩ := me h.2.2.1
  obtain ⟨s, es, hs⟩ := me h.2.2.2
  refine ⟨⟨p, q, r, s⟩, ?_, hp, hq, hr, hs⟩
  obtain ⟨a, b, c, d⟩ := x
  simp only at ep eq er es
  rw [ep, eq, er, es]; rfl
theorem gdu_is {x : XU} (h : GdV x.iv ∧ GdL x.f) : ∃ a, x = uX a ∧ GqU a := by
  obtain ⟨p, ep, hp⟩ := qy h.1
  obtain ⟨r, er, hr⟩ := gdl_is h.2
  refine ⟨⟨p, r⟩, ?_, hp, hr⟩
  obtain ⟨a, b⟩ := x
  simp only at ep er
  rw [ep, er]; rfl
theorem sT : ∀ {l : List XU}, (∀ u ∈ l, GdV u.iv ∧ GdL u.f) → ∃ l' : List (U Ln), l = l'.map uX ∧ ∀ a ∈ l', GqU a
  | [], _ => ⟨[], rfl, fun a h => by cases h⟩
  | s :: l, h => by
    obtain ⟨l', e, k⟩ := sT (l := l) fun a ha => h a (List.mem_cons_of_mem _ ha)
    obtain ⟨a, ea, ha⟩ := gdu_is (h s List.mem_cons_self)
    refine ⟨a :: l', by rw [List.map_cons, ← e, ← ea], fun x hx => ?_⟩
    rcases List.mem_cons.1 hx with rfl | hx
    · exact ha
    · exact k x hx
theorem ma {a : GQ} (h : Gq a) : SzQ 40 a := (gq_bq h).sz (by decide)
theorem jN {a : GR} (h : GqR a) : SzR 40 a := ⟨ma h.1, ma h.2⟩
theorem gqu_sz {u : U Ln} (h : GqU u) : gC 40 u := ⟨⟨jN h.1.1, jN h.1.2⟩, ma h.2.1, ma h.2.2.1, ma h.2.2.2.1, ma h.2.2.2.2⟩
theorem pW (x : XV) (f : XL) : Bu Tryz.prog 199 [0, 1] [vXV x, vXL f] (vXU ⟨x, f⟩) := Bu.of jS rfl rfl
theorem sh71X : Sh Tryz.prog 71 XR vXR := ⟨trivial⟩
theorem sh86X : Sh Tryz.prog 86 XV vXV := ⟨trivial⟩
theorem sh79X : Sh Tryz.prog 79 XL vXL := ⟨trivial⟩
theorem sh88X : Sh Tryz.prog 88 XU vXU := ⟨trivial⟩
theorem rU : Sh Tryz.prog 199 XU vXU := ⟨trivial⟩
end Go.Sx
namespace Go.Sx
open Go Go.RowKit Go.Proofs
set_option maxRecDepth 100000
set_option maxHeartbeats 40000000
attribute [local irreducible] Code.wp wpList Rd Step ObS Ent
attribute [local irreducible] ao aM ak ar aA bD ay aG
attribute [local irreducible] aI aN aj au aR ah aU dH ja bu aw
theorem sh31X : Sh Tryz.prog 31 XS vXS := ⟨trivial⟩
theorem slt38X : SlT Tryz.prog 38 27 4 48 (cQ oQ) := ⟨Tryz.underlying38, Tryz.t27, _, Tryz.type27, rfl, rfl, rfl, rfl, rfl, by decide, by decide⟩
section
attribute [local instance 2000] qT qU sh31X
end
end Go.Sx
namespace Go.Sx
open Go Go.RowKit Go.Proofs
set_option maxRecDepth 100000
set_option maxHeartbeats 40000000
attribute [local irreducible] Code.wp wpList Rd Step ObS Ent
attribute [local irreducible] ao aM ak ar aA bD ay aG
attribute [local irreducible] aI aN aj au aR ah aU dH ja bu aw cm
section
attribute [local instance 2000] qT qU sh71X sh86X sh79X sh88X rU pW
theorem to1X_ct (u : XU) (w0 : World) : Calls Tryz.prog 200 #[vXU u] w0 (cq w0 (vXU u) True) := by
 refine enter (N := 8) (args := [vXU u]) Tryz.func200 rfl rfl ?_; intro ac h
 refine gz h <| (xb) fun b1 => (xa) fun b2 => (W) ?_; clear h ac; intro ac wo h
 exact rtc 0 h (h.retP (u := vXU u) rfl trivial)
theorem sK (l : List XU) (lv : Value) (hl : l.length ≤ 1000) (w0 : World) (hlv : View w0 lv l) : Calls Tryz.prog 199 #[lv, .func (.func 200) #[] #[]] w0 (RetR w0 199 l True) := by
 refine enter (N := 22) (args := [lv, .func (.func 200) #[] #[]]) Tryz.func199 rfl rfl ?_; intro ac h
 have hlen := hlv.len
 refine gz h <| (W) ?_; clear h ac; intro ac wo h
 replace h := h.nilRow (α := XU) 199
 refine wp_loop_ghost (fun n_ a_ w_ => ∃ (i : Nat) (sv : Value), (l.length - i < n_) ∧ (i ≤ l.length) ∧ St w0 22 [(1, .func (.func 200) #[] #[]), (5, sv), (8, lv), (9, iN l.length), (10, iN i)] [.row (α := XU) 199 sv (l.take i)] a_ w_) (l.length + 1) ⟨0, _, by omega, by omega, h.re [0]⟩ ?_
 clear h ac wo; rintro n1 ac wo ⟨i, sv, hm1, hi, h⟩
 obtain ⟨m1, rfl⟩ : ∃ m, n1 = m + 1 := ⟨n1 - 1, by omega⟩
 refine gz h <| (ai) ?_ ?_ <;> clear h ac wo <;> intro ac wo h hc1
 ·
  have hd1 := of_decide_eq_true hc1
  refine gz h <| (xa) fun b1 => (xk (to1X_ct (gt l i))) <| (W) ?_; clear h ac wo; intro ac wo h
  refine nw h (cY (α := XU) (xs := [.tmp 17]) (vs := [vXU (gt l i)]) [gt l i] eZ rfl rfl rfl (by decide)) rfl ?_; clear h ac wo; intro s1 ac wo _ h
  refine on2 h 2 0 rfl rfl (fp (xs := l.take i) (ys := [gt l i]) eZ (fun w hs => (row_view hs 0 rfl)) rfl rfl (by rw [List.length_take]; show _ + 1 ≤ _; omega)) rfl ?_; clear h ac wo; intro s2 ac wo _ h
  rw [i0 (by omega)] at h
  refine gz h <| (W) ?_; clear h ac wo; intro ac wo h
  exact aL ⟨m1, by omega, i + 1, s2, by omega, by omega, h.re [0]⟩
 ·
  have hd1 := of_decide_eq_false hc1
  obtain rfl : i = l.length := by omega
  rw [List.take_length] at h
  refine gz h <| (W) ?_; clear h ac wo; intro ac wo h
  exact (rt h) (h.retR 0 rfl trivial)
theorem toX_ct (l : List XU) (lv : Value) (hl : l.length ≤ 1000) (w0 : World) (hlv : View w0 lv l) : Calls Tryz.prog 100 #[lv] w0 (RetR w0 199 l True) := by
 refine enter (N := 5) (args := [lv]) Tryz.func100 rfl rfl ?_; intro ac h
 refine gz h <| (W) ?_; clear h ac; intro ac wo h
 refine js (xs := l) h (dR Tryz.call199 rfl) (fun w_ hB_ hS_ => sK l lv hl w_ (hlv.below hB_)) rfl ?_; clear h ac wo; intro s1 ac wo _ h
 refine gz h <| (W) ?_; clear h ac wo; intro ac wo h
 exact (rt h) (h.retR 0 rfl trivial)
theorem rJ (l : List XU) (lv : Value) (hl : l.length ≤ 1000) (w0 : World) (hlv : View w0 lv l) : Calls Tryz.prog 42 #[lv] w0 (RetR w0 199 l True) := by
 refine enter (N := 26) (args := [lv]) Tryz.func42 rfl rfl ?_; intro ac h
 have hlen := hlv.len
 refine gz h <| (W) ?_; clear h ac; intro ac wo h
 replace h := h.nilRow (α := XU) 199
 refine wp_loop_ghost (fun n_ a_ w_ => ∃ (i : Nat) (sv : Value), (l.length - i < n_) ∧ (i ≤ l.length) ∧ St w0 26 [(0, lv), (3, sv), (4, iN i)] [.row (α := XU) 199 sv (l.take i)] a_ w_) (l.length + 1) ⟨0, _, by omega, by omega, h.re [0]⟩ ?_
 clear h ac wo; rintro n1 ac wo ⟨i, sv, hm1, hi, h⟩
 obtain ⟨m1, rfl⟩ : ∃ m, n1 = m + 1 := ⟨n1 - 1, by omega⟩
 refine gz h <| (ai) ?_ ?_ <;> clear h ac wo <;> intro ac wo h hc1
 ·
  have hd1 := of_decide_eq_true hc1
  refine gz h <| (W) ?_; clear h ac wo; intro ac wo h
  replace h := h.emps 1
  refine eV mixed [dv _, dv _, dv _, dv _, dv _, dv (vXV (gt l i).iv), dv _, dv _, dv _, dv _, dv (vXL (gt l i).f), dv (vXU (gt l i)), ⟨.nd (.one 12 fun v => NN v 1), [1]⟩, ⟨.nd (.con True), [0, 1]⟩, ⟨.nd (.two 14 13 fun a b => a = b), []⟩]
   [⟨.row (α := XU) 199 sv (l.take i), [(13, .one 13 fun v => .row (α := XU) 199 v (l.take i ++ [gt l i]))]⟩, ⟨.emp, [(12, .one 12 fun v => .row (α := XU) 199 v [gt l i])]⟩] h rfl (by kernel_rfl)
   ⟨oA obA, oA obA, oA obA, oA obA, oA obA, oA obA, oA obA, oA obA, oA obA, oA obA, oA obA, oA fun _ => ba (bF jS rfl rfl rfl), fun _ _ => pj 1 (gt l i) eZ rfl rfl, fun _ _ => ob_ap (j := 12) 0 1 eZ rfl rfl (by rw [List.length_take]; omega) rfl (fun v => by simp only [cp, bp] <;> rfl), fun _ _ => ob_as (j := 13) (by decide) rfl, trivial⟩ ?_
  clear h ac wo; intro ξ ac wo hφ h
  replace h : St w0 26 [(0, lv), (3, ξ 14), (4, iN i)] [.row (α := XU) 199 (ξ 13) (l.take i ++ [gt l i])] ac wo := (h.pick [0] (by decide)).sub ⟨rfl, rfl, rfl, trivial⟩
  rw [show ξ 14 = ξ 13 from hφ 14, i0 (by omega)] at h
  generalize ξ 13 = s2 at h; clear hφ ξ
  refine gz h <| (W) ?_; clear h ac wo; intro ac wo h
  exact aL ⟨m1, by omega, i + 1, s2, by omega, by omega, h.re [0]⟩
 ·
  have hd1 := of_decide_eq_false hc1
  obtain rfl : i = l.length := by omega
  rw [List.take_length] at h
  refine gz h <| (W) ?_; clear h ac wo; intro ac wo h
  exact (rt h) (h.retR 0 rfl trivial)
theorem qh (x : XR) (h8 : S8R x) : ∃ e : Int, (∀ w0, Calls Tryz.prog 134 #[vXR x] w0 (cq w0 (.int .i64 e) True)) ∧ (e = 0 → GdR x) := by
 by_cases hg : GdR x
 · obtain ⟨a, rfl, k⟩ := sU hg
   exact ⟨d7 a, fun w0 => ic a trivial (dL (jN k) og) w0, fun _ => hg⟩
 · refine ⟨5, fun w0 => ?_, fun e => absurd e (by decide)⟩
   obtain ⟨e1, c1, g1⟩ := ll x.p h8.1
   obtain ⟨e2, c2, g2⟩ := ll x.r h8.2
   refine enter (N := 31) (args := [vXR x]) Tryz.func134 rfl rfl ?_; intro ac h
   refine gz h <| (xb) fun b1 => (xk c1) <| (xg (hs := by exact fun hg => d6 enA (kk c2))) <| (ai) ?_ ?_ <;> clear h ac <;> intro ac wo h hc1
   · refine gz h <| (W) ?_; clear h ac wo; intro ac wo h
     exact (rt h) (h.retP rfl trivial)
   · exfalso
     rw [Bool.or_eq_false_iff] at hc1
     have k : ∀ {e : Int}, (e != 0) = false → e = 0 := fun {e} he => Classical.byContradiction fun hn => by rw [show (e != 0) = true from bne_iff_ne.2 hn] at he; exact Bool.noConfusion he
     exact hg ⟨g1 (k hc1.1), g2 (k hc1.2)⟩
theorem ichkX_ct (x : XV) (h8 : S8R x.lo ∧ S8R x.hi) : ∃ e : Int, (∀ w0, Calls Tryz.prog 44 #[vXV x] w0 (cq w0 (.int .i64 e) True)) ∧ (e = 0 → GdV x) := by
 by_cases hg : GdV x
 · obtain ⟨a, rfl, k1, k2⟩ := qy hg
   exact ⟨dh a, fun w0 => ig a ⟨trivial, trivial⟩ ⟨dL (jN k1) og, dL (jN k2) og⟩ w0, fun _ => hg⟩
 · refine ⟨5, fun w0 => ?_, fun e => absurd e (by decide)⟩
   obtain ⟨e1, c1, g1⟩ := qh x.lo h8.1
   obtain ⟨e2, c2, g2⟩ := qh x.hi h8.2
   refine enter (N := 19) (args := [vXV x]) Tryz.func44 rfl rfl ?_; intro ac h
   refine gz h <| (xb) fun b1 => (xk c1) <| (xg (hs := by exact fun hg => d6 enA (kk c2))) <| (ai) ?_ ?_ <;> clear h ac <;> intro ac wo h hc1
   · refine gz h <| (W) ?_; clear h ac wo; intro ac wo h
     exact (rt h) (h.retP rfl trivial)
   · exfalso
     rw [Bool.or_eq_false_iff] at hc1
     have k : ∀ {e : Int}, (e != 0) = false → e = 0 := fun {e} he => Classical.byContradiction fun hn => by rw [show (e != 0) = true from bne_iff_ne.2 hn] at he; exact Bool.noConfusion he
     exact hg ⟨g1 (k hc1.1), g2 (k hc1.2)⟩
def x4 (f : XL) : List XQ := [f.x0, f.x1, f.y0, f.y1]
theorem x4_8 {f : XL} (h : S8L f) {k : Nat} (hk : k < 4) : xsz (gt (x4 f) k) ≤ 8 := by
 obtain rfl | rfl | rfl | rfl : k = 0 ∨ k = 1 ∨ k = 2 ∨ k = 3 := by omega
 · exact h.1
 · exact h.2.1
 · exact h.2.2.1
 · exact h.2.2.2
def fst4 (E : Nat → Int) : Int := if E 0 ≠ 0 then E 0 else if E 1 ≠ 0 then E 1 else if E 2 ≠ 0 then E 2 else E 3
theorem fst4_at {E : Nat → Int} {i : Nat} (hi : i < 4) (h : ∀ j, j < i → E j = 0) (hn : E i ≠ 0) : fst4 E = E i := by
 unfold fst4
 obtain rfl | rfl | rfl | rfl : i = 0 ∨ i = 1 ∨ i = 2 ∨ i = 3 := by omega
 · rw [if_pos hn]
 · rw [if_neg (by rw [h 0 (by decide)]; decide), if_pos hn]
 · rw [if_neg (by rw [h 0 (by decide)]; decide), if_neg (by rw [h 1 (by decide)]; decide), if_pos hn]
 · rw [if_neg (by rw [h 0 (by decide)]; decide), if_neg (by rw [h 1 (by decide)]; decide), if_neg (by rw [h 2 (by decide)]; decide)]
theorem fst4_0 {E : Nat → Int} (h : ∀ j, j < 4 → E j = 0) : fst4 E = 0 := by
 unfold fst4
 rw [if_neg (by rw [h 0 (by decide)]; decide), if_neg (by rw [h 1 (by decide)]; decide), if_neg (by rw [h 2 (by decide)]; decide), h 3 (by decide)]
theorem fst4_inv {E : Nat → Int} (h : fst4 E = 0) : ∀ j, j < 4 → E j = 0 := by
 unfold fst4 at h
 have h0 : E 0 = 0 := Classical.byContradiction fun hn => hn (by rw [if_pos hn] at h; exact h)
 rw [if_neg (by rw [h0]; decide)] at h
 have h1 : E 1 = 0 := Classical.byContradiction fun hn => hn (by rw [if_pos hn] at h; exact h)
 rw [if_neg (by rw [h1]; decide)] at h
 have h2 : E 2 = 0 := Classical.byContradiction fun hn => hn (by rw [if_pos hn] at h; exact h)
 rw [if_neg (by rw [h2]; decide)] at h
 intro j hj
 obtain rfl | rfl | rfl | rfl : j = 0 ∨ j = 1 ∨ j = 2 ∨ j = 3 := by omega
 · exact h0
 · exact h1
 · exact h2
 · exact h
theorem nc {n : Nat} {R : Nat → Int → Prop} (h : ∀ k, k < n → ∃ e, R k e) : ∃ E : Nat → Int, ∀ k, k < n → R k (E k) :=
 ⟨fun k => if hk : k < n then Classical.choose (h k hk) else 0, fun k hk => by dsimp only; rw [dif_pos hk]; exact Classical.choose_spec (h k hk)⟩
theorem lchkX_ct (f : XL) (h8 : S8L f) : ∃ e : Int, (∀ w0, Calls Tryz.prog 45 #[(.agg #[]), vXL f] w0 (cq w0 (.int .i64 e) True)) ∧ (e = 0 → GdL f) := by
 have hE : ∃ E : Nat → Int, ∀ k, k < 4 → (∀ w0, Calls Tryz.prog 62 #[vXQ (gt (x4 f) k)] w0 (cq w0 (.int .i64 (E k)) True)) ∧ (E k = 0 → Gd (gt (x4 f) k)) :=
  nc fun k hk => ll (gt (x4 f) k) (x4_8 h8 hk)
 obtain ⟨E, hE⟩ := hE
 refine ⟨fst4 E, fun w0 => ?_, fun e => ?_⟩
 · refine enter (N := 26) (args := [(.agg #[]), vXL f]) Tryz.func45 rfl rfl ?_; intro ac h
   refine gz h <| (xb) fun b1 => (xb) fun b2 => (xo (hs := by exact r_buildA (α := XQ) (xs := [.tmp 9, .tmp 11, .tmp 13, .tmp 15]) (vs := [vXQ f.x0, vXQ f.x1, vXQ f.y0, vXQ f.y1]) (x4 f) Tryz.zeroValue208 uu208 Tryz.sizeOf27 rfl rfl rfl)) <| (W) ?_; clear h ac; intro ac wo h
   refine wp_loop_ghost (fun n_ a_ w_ => ∃ (i : Nat), (4 - i < n_) ∧ (i ≤ 4) ∧ (∀ j, j < i → E j = 0) ∧ St w0 26 [(16, (.agg (flat (x4 f)).toArray)), (17, iN i)] [] a_ w_) 5 ⟨0, by omega, by omega, fun j hj => by omega, h.re []⟩ ?_
   clear h ac wo; rintro n1 ac wo ⟨i, hm1, hi, hB, h⟩
   obtain ⟨m1, rfl⟩ : ∃ m, n1 = m + 1 := ⟨n1 - 1, by omega⟩
   refine gz h <| (ai) ?_ ?_ <;> clear h ac wo <;> intro ac wo h hc1
   ·
    have hd1 : i < 4 := by have := of_decide_eq_true hc1; omega
    have c1 := (hE i hd1).1
    refine gz h <| (xo (hs := by exact r_indexA (i := i) (us := x4 f) (u := gt (x4 f) i) uu208 Tryz.sizeOf27 Tryz.isAgg27 rfl rfl og (md (show i < 4 from hd1)) (v := vXQ (gt (x4 f) i)) rfl)) <| (xa) fun b3 => (xk c1) <| (ai) ?_ ?_ <;> clear h ac wo <;> intro ac wo h hc2
    · have hd : fst4 E = E i := fst4_at hd1 hB (bne_iff_ne.1 hc2)
      rw [hd]
      refine gz h <| (W) ?_; clear h ac wo; intro ac wo h
      exact (rt h) (h.retP rfl trivial)
    · refine gz h <| (W) ?_; clear h ac wo; intro ac wo h
      refine aL ⟨m1, by omega, i + 1, by omega, by omega, fun j hj => ?_, h.re []⟩
      by_cases e : j = i
      · subst e; simpa using hc2
      · exact hB j (by omega)
   ·
    have hi4 : i = 4 := by have := of_decide_eq_false hc1; omega
    subst hi4
    rw [fst4_0 hB]
    refine gz h <| (W) ?_; clear h ac wo; intro ac wo h
    exact (rt h) (h.retP rfl trivial)
 · have k := fst4_inv e
   exact ⟨(hE 0 (by decide)).2 (k 0 (by decide)), (hE 1 (by decide)).2 (k 1 (by decide)), (hE 2 (by decide)).2 (k 2 (by decide)), (hE 3 (by decide)).2 (k 3 (by decide))⟩
end
end Go.Sx
namespace Go.Sx
open Go Go.RowKit Go.Proofs
set_option maxRecDepth 100000
set_option maxHeartbeats 40000000
attribute [local irreducible] Code.wp wpList Rd Step ObS Ent
attribute [local irreducible] ao aM ak ar aA bD ay aG
attribute [local irreducible] aI aN aj au aR ah aU dH ja bu aw cm
theorem m0 {α : Type} [Inhabited α] {l m : List α} (hn : l.length = m.length) (h : ∀ j, j < l.length → gt l j = gt m j) : l = m := by
 refine List.ext_getElem hn fun i h1 h2 => ?_
 have := h i h1
 rw [fB h1, fB h2] at this
 exact this
theorem qb (l m : List (U Ln)) (lv mv : Value) (hl : l.length ≤ 1000) (hm : m.length ≤ 1000) (w0 : World) (hlv : View w0 lv l) (hmv : View w0 mv m) : Calls Tryz.prog 18 #[lv, mv] w0 (cq w0 (.bool (decide (l = m))) True) := by
 refine enter (N := 26) (args := [lv, mv]) Tryz.func18 rfl rfl ?_; intro ac h
 have hlen := hlv.len
 have hlen2 := hmv.len
 refine gz h <| (ai) ?_ ?_ <;> clear h ac <;> intro ac wo h hc1
 · have hne : l ≠ m := fun e => by rw [e] at hc1; simp at hc1
   rw [decide_eq_false hne]
   refine gz h <| (W) ?_; clear h ac wo; intro ac wo h
   exact (rt h) (h.retP rfl trivial)
 have hn : l.length = m.length := by
  simp at hc1; omega
 refine gz h <| (W) ?_; clear h ac wo; intro ac wo h
 refine wp_loop_ghost (fun n_ a_ w_ => ∃ (i : Nat), (l.length - i < n_) ∧ (i ≤ l.length) ∧ (∀ j, j < i → gt l j = gt m j) ∧ St w0 26 [(0, lv), (1, mv), (5, iN i)] [] a_ w_) (l.length + 1) ⟨0, by omega, by omega, fun j hj => by omega, h.rs⟩ ?_
 clear h ac wo; rintro n1 ac wo ⟨i, hm1, hi, hB, h⟩
 obtain ⟨m1, rfl⟩ : ∃ m, n1 = m + 1 := ⟨n1 - 1, by omega⟩
 refine gz h <| (ai) ?_ ?_ <;> clear h ac wo <;> intro ac wo h hc2
 ·
  have hd1 : i < l.length := by have := of_decide_eq_true hc2; omega
  have hd2 : i < m.length := by omega
  have n1' := hlv.nn hd1
  have n2' := hmv.nn hd2
  refine gz h <| (dr0 (hob := oE)) <| (ai) ?_ ?_ <;> clear h ac wo <;> intro ac wo h hc3
  · have hne : l ≠ m := fun e => by rw [e] at hc3; simp at hc3
    rw [decide_eq_false hne]
    refine gz h <| (W) ?_; clear h ac wo; intro ac wo h
    exact (rt h) (h.retP rfl trivial)
  · have he : gt l i = gt m i := by simpa using hc3
    refine gz h <| (W) ?_; clear h ac wo; intro ac wo h
    refine aL ⟨m1, by omega, i + 1, by omega, by omega, fun j hj => ?_, h.re []⟩
    by_cases e : j = i
    · subst e; exact he
    · exact hB j (by omega)
 ·
  have hie : i = l.length := by have := of_decide_eq_false hc2; omega
  subst hie
  rw [decide_eq_true (m0 hn hB)]
  refine gz h <| (W) ?_; clear h ac wo; intro ac wo h
  exact (rt h) (h.retP rfl trivial)
theorem eqPG_ct (l m : List (U Ln)) (lv mv : Value) (hl : l.length ≤ 1000) (hm : m.length ≤ 1000) (w0 : World) (hlv : View w0 lv l) (hmv : View w0 mv m) : Calls Tryz.prog 140 #[lv, mv] w0 (cq w0 (.bool (decide (l = m))) True) := by
 refine enter (N := 26) (args := [lv, mv]) Tryz.func140 rfl rfl ?_; intro ac h
 have hlen := hlv.len
 have hlen2 := hmv.len
 refine gz h <| (ai) ?_ ?_ <;> clear h ac <;> intro ac wo h hc1
 · have hne : l ≠ m := fun e => by rw [e] at hc1; simp at hc1
   rw [decide_eq_false hne]
   refine gz h <| (W) ?_; clear h ac wo; intro ac wo h
   exact (rt h) (h.retP rfl trivial)
 have hn : l.length = m.length := by
  simp at hc1; omega
 refine gz h <| (W) ?_; clear h ac wo; intro ac wo h
 refine wp_loop_ghost (fun n_ a_ w_ => ∃ (i : Nat), (l.length - i < n_) ∧ (i ≤ l.length) ∧ (∀ j, j < i → gt l j = gt m j) ∧ St w0 26 [(0, lv), (1, mv), (12, iN l.length), (13, iN i)] [] a_ w_) (l.length + 1) ⟨0, by omega, by omega, fun j hj => by omega, h.rs⟩ ?_
 clear h ac wo; rintro n1 ac wo ⟨i, hm1, hi, hB, h⟩
 obtain ⟨m1, rfl⟩ : ∃ m, n1 = m + 1 := ⟨n1 - 1, by omega⟩
 refine gz h <| (ai) ?_ ?_ <;> clear h ac wo <;> intro ac wo h hc2
 ·
  have hd1 : i < l.length := by have := of_decide_eq_true hc2; omega
  have hd2 : i < m.length := by omega
  have n1' := hlv.nn hd1
  have n2' := hmv.nn hd2
  refine gz h <| (W) ?_; clear h ac wo; intro ac wo h
  refine gz h <| (dr0 (hob := oE)) <| (ai) ?_ ?_ <;> clear h ac wo <;> intro ac wo h hc3
  · have hne : l ≠ m := fun e => by rw [e] at hc3; simp at hc3
    rw [decide_eq_false hne]
    refine gz h <| (W) ?_; clear h ac wo; intro ac wo h
    exact (rt h) (h.retP rfl trivial)
  · have he : gt l i = gt m i := by simpa using hc3
    refine gz h <| (W) ?_; clear h ac wo; intro ac wo h
    refine aL ⟨m1, by omega, i + 1, by omega, by omega, fun j hj => ?_, h.re []⟩
    by_cases e : j = i
    · subst e; exact he
    · exact hB j (by omega)
 ·
  have hie : i = l.length := by have := of_decide_eq_false hc2; omega
  subst hie
  rw [decide_eq_true (m0 hn hB)]
  refine gz h <| (W) ?_; clear h ac wo; intro ac wo h
  exact (rt h) (h.retP rfl trivial)
theorem sL (l m : List (U Ln)) (lv mv : Value) (hl : l.length ≤ 1000) (hm : m.length ≤ 1000) (w0 : World) (hlv : View w0 lv l) (hmv : View w0 mv m) : Calls Tryz.prog 48 #[lv, mv] w0 (cq w0 (.bool (decide (l = m))) True) := by
 refine enter (N := 8) (args := [lv, mv]) Tryz.func48 rfl rfl ?_; intro ac h
 refine gz h <| (xc (ct := by exact fun w_ hB_ hS_ => eqPG_ct l m lv mv hl hm w_ (hlv.below hB_) (hmv.below hB_))) <| (W) ?_; clear h ac; intro ac wo h
 exact (rt h) (h.retP rfl trivial)
theorem lneqG_ct (x y : U Ln) (b : Nat) (zx : gC 20 x) (zy : gC 20 y) (w0 : World) (hbp : PV w0 b [.iface 80 (.agg #[])]) : Calls Tryz.prog 218 #[(vUN x), (vUN y), (ptr b 0)] w0 (cq w0 (.bool (decide (x = y))) (True)) := by
 refine enter (N := 19) (args := [(vUN x), (vUN y), (ptr b 0)]) Tryz.func218 rfl rfl ?_; intro ac h
 refine gz h <| (xb) fun b1 => (xb) fun b2 => (xg (hs := by exact fun hg => (Rd.of_nil (r_ldP hbp Tryz.isAgg198 Tryz.sizeOf198 rfl rfl rfl (v := (.iface 80 (.agg #[]))) rfl)).step)) <| (xg (hs := by exact fun hg => d6 enA (kk (fK x.f y.f zx.2 zy.2)))) <| (W) ?_; clear h ac; intro ac wo h
 refine (rt h) (h.retP (congrArg Value.bool ?_) trivial)
 have e1 : bA x.f y.f = decide (x.f = y.f) := by
  cases hh : bA x.f y.f with
  | true => rw [decide_eq_true ((gb x.f y.f).1 hh)]
  | false => rw [decide_eq_false fun e => by rw [(gb x.f y.f).2 e] at hh; exact Bool.noConfusion hh]
 rw [e1]
 obtain ⟨a, f⟩ := x
 obtain ⟨c, g⟩ := y
 by_cases h1 : a = c <;> by_cases h2 : f = g <;> simp [h1, h2]
theorem leqfG_ct (xs ys : List (U Ln)) (xsv ysv : Value) (b : Nat) (hl : xs.length ≤ 1000) (hl2 : ys.length ≤ 1000) (zxs : All (gC 20) xs) (zys : All (gC 20) ys) (w0 : World) (hxsv : View w0 xsv xs) (hysv : View w0 ysv ys) (hbp : PV w0 b [.iface 80 (.agg #[])]) : Calls Tryz.prog 217 #[xsv, ysv, (.func (.func 218) #[] #[(ptr b 0)])] w0 (cq w0 (.bool (decide (xs = ys))) (True)) := by
 refine enter (N := 32) (args := [xsv, ysv, (.func (.func 218) #[] #[(ptr b 0)])]) Tryz.func217 rfl rfl ?_; intro ac h
 have hlenxs := hxsv.len
 have hlenys := hysv.len
 refine gz h <| (ai) ?_ ?_ <;> clear h ac <;> intro ac wo h hc1
 · have hne : xs ≠ ys := fun e => by rw [e] at hc1; simp at hc1
   rw [decide_eq_false hne]
   refine gz h <| (W) ?_; clear h ac wo; intro ac wo h
   exact (rt h) (h.retP rfl trivial)
 have hn : xs.length = ys.length := by
  simp at hc1; omega
 refine gz h <| (W) ?_; clear h ac wo; intro ac wo h
 refine wp_loop_ghost (fun n_ a_ w_ => ∃ (i : Nat), (xs.length - i < n_) ∧ (i ≤ xs.length) ∧ (∀ j, j < i → gt xs j = gt ys j) ∧ St w0 32 [(1, ysv), (2, (.func (.func 218) #[] #[(ptr b 0)])), (15, xsv), (16, iN xs.length), (17, iN i)] [] a_ w_) (xs.length + 1) ⟨0, by omega, by omega, fun j hj => by omega, h.rs⟩ ?_
 clear h ac wo; rintro n1 ac wo ⟨i, hm1, hi, hB, h⟩
 obtain ⟨m1, rfl⟩ : ∃ m, n1 = m + 1 := ⟨n1 - 1, by omega⟩
 refine gz h <| (ai) ?_ ?_ <;> clear h ac wo <;> intro ac wo h hc2
 ·
  have hd1 : i < xs.length := by have := of_decide_eq_true hc2; omega
  have hd2 : i < ys.length := by omega
  have n1' := hxsv.nn hd1
  have n2' := hysv.nn hd2
  refine gz h <| (xa) fun b1 => (xa) fun b2 => (xc (ct := by exact fun w_ hB_ hS_ => lneqG_ct (gt xs i) (gt ys i) b (All.gt zxs (bH _)) (All.gt zys (bH _)) w_ (hbp.below hB_))) <| (ai) ?_ ?_ <;> clear h ac wo <;> intro ac wo h hc3
  · have hne : xs ≠ ys := fun e => by rw [e] at hc3; simp at hc3
    rw [decide_eq_false hne]
    refine gz h <| (W) ?_; clear h ac wo; intro ac wo h
    exact (rt h) (h.retP rfl trivial)
  · have he : gt xs i = gt ys i := by simpa using hc3
    refine gz h <| (W) ?_; clear h ac wo; intro ac wo h
    refine aL ⟨m1, by omega, i + 1, by omega, by omega, fun j hj => ?_, h.re []⟩
    by_cases e : j = i
    · subst e; exact he
    · exact hB j (by omega)
 ·
  have hie : i = xs.length := by have := of_decide_eq_false hc2; omega
  subst hie
  rw [decide_eq_true (m0 hn hB)]
  refine gz h <| (W) ?_; clear h ac wo; intro ac wo h
  exact (rt h) (h.retP rfl trivial)
theorem leqG_ct (l m : List (U Ln)) (av bv : Value) (hl : l.length ≤ 1000) (hm : m.length ≤ 1000) (zl : All (gC 20) l) (zm : All (gC 20) m) (w0 : World) (hav : View w0 av l) (hbv : View w0 bv m) : Calls Tryz.prog 133 #[(.iface 80 (.agg #[])), av, bv] w0 (cq w0 (.bool (decide (l = m))) (True)) := by
 refine enter (N := 11) (args := [(.iface 80 (.agg #[])), av, bv]) Tryz.func133 rfl rfl ?_; intro ac h
 haveI : Cel (Value.iface 80 (.agg #[])) [.iface 80 (.agg #[])] := ⟨rfl⟩
 refine gz h <| (xb) fun b3 => (xo (hs := by exact j0 (vs := [ptr b3 0]) rfl)) <| (xc (ct := by exact fun w_ hB_ hS_ => leqfG_ct l m av bv b3 hl hm zl zm w_ (hav.below hB_) (hbv.below hB_) (blk_pv hS_ 0 rfl))) <| (W) ?_; clear h ac; intro ac wo h
 exact (rt h) (h.retP rfl trivial)
section
attribute [local instance 2000] qT qU sh71X sh86X sh79X sh88X rU pW
structure CkX (l : List XU) (E1 E2 : Nat → Int) (A : Nat → Bool) (z e : Int) : Prop where
  len : l.length ≤ 12
  c1 : ∀ i, i < l.length → ∀ w0, Calls Tryz.prog 44 #[vXV (gt l i).iv] w0 (cq w0 (.int .i64 (E1 i)) True)
  c2 : ∀ i, i < l.length → ∀ w0, Calls Tryz.prog 45 #[(.agg #[]), vXL (gt l i).f] w0 (cq w0 (.int .i64 (E2 i)) True)
  ap : ∀ i, i < l.length → (∀ j, j ≤ i → E1 j = 0 ∧ E2 j = 0) → ∀ w0, Calls Tryz.prog 118 #[vXV (gt l (i - 1)).iv, vXV (gt l i).iv] w0 (cq w0 (.bool (A i)) True)
  e1 : ∀ i, i < l.length → (∀ j, j < i → E1 j = 0 ∧ E2 j = 0 ∧ (0 < j → A j = true)) → E1 i ≠ 0 → e = E1 i
  e2 : ∀ i, i < l.length → (∀ j, j < i → E1 j = 0 ∧ E2 j = 0 ∧ (0 < j → A j = true)) → E1 i = 0 → E2 i ≠ 0 → e = E2 i
  e3 : ∀ i, i < l.length → (∀ j, j < i → E1 j = 0 ∧ E2 j = 0 ∧ (0 < j → A j = true)) → E1 i = 0 → E2 i = 0 → 0 < i → A i = false → e = 7
  e0 : (∀ i, i < l.length → E1 i = 0 ∧ E2 i = 0) → e = z ∨ ∃ i, i < l.length ∧ 0 < i ∧ A i = false
  gd : (∀ i, i < l.length → E1 i = 0 ∧ E2 i = 0) → ∃ l' : List (U Ln), l = l'.map uX ∧ (∀ a ∈ l', GqU a) ∧ z = (if (aP l').2 ≠ 0 ∨ l' ≠ (aP l').1 then 5 else 0)
theorem qm (l : List XU) (lv : Value) (E1 E2 : Nat → Int) (A : Nat → Bool) (z e : Int) (c : CkX l E1 E2 A z e) (w0 : World) (hlv : View w0 lv l) : Calls Tryz.prog 41 #[(.iface 80 (.agg #[])), lv] w0 (cq w0 (.int .i64 e) (True)) := by
 refine enter (N := 64) (args := [(.iface 80 (.agg #[])), lv]) Tryz.func41 rfl rfl ?_; intro ac h
 have hlen := hlv.len
 have hl := c.len
 refine gz h <| (ai) ?_ ?_ <;> clear h ac <;> intro ac wo h hc1
 · exfalso; have := of_decide_eq_true hc1; omega
 refine gz h <| (W) ?_; clear h ac wo; intro ac wo h
 refine wp_loop_ghost (fun n_ a_ w_ => ∃ (i : Nat), (l.length - i < n_) ∧ (i ≤ l.length) ∧ (∀ j, j < i → E1 j = 0 ∧ E2 j = 0 ∧ (0 < j → A j = true)) ∧ St w0 64 [(0, (.iface 80 (.agg #[]))), (1, lv), (14, lv), (15, iN l.length), (16, iN i)] [] a_ w_) (l.length + 1) ⟨0, by omega, by omega, fun j hj => by omega, h.rs⟩ ?_
 clear h ac wo; rintro n1 ac wo ⟨i, hm1, hi, hB, h⟩
 obtain ⟨m1, rfl⟩ : ∃ m, n1 = m + 1 := ⟨n1 - 1, by omega⟩
 refine gz h <| (ai) ?_ ?_ <;> clear h ac wo <;> intro ac wo h hc2
 ·
  have hd1 : i < l.length := by have := of_decide_eq_true hc2; omega
  have n1' := hlv.nn hd1
  refine gz h <| (xa) fun b1 => (xk (c.c1 i hd1)) <| (ai) ?_ ?_ <;> clear h ac wo <;> intro ac wo h hc3
  · rw [c.e1 i hd1 hB (bne_iff_ne.1 hc3)]
    refine gz h <| (W) ?_; clear h ac wo; intro ac wo h
    exact (rt h) (h.retP rfl trivial)
  have z1 : E1 i = 0 := by simpa using hc3
  refine gz h <| (xk (c.c2 i hd1)) <| (ai) ?_ ?_ <;> clear h ac wo <;> intro ac wo h hc4
  · rw [c.e2 i hd1 hB z1 (bne_iff_ne.1 hc4)]
    refine gz h <| (W) ?_; clear h ac wo; intro ac wo h
    exact (rt h) (h.retP rfl trivial)
  have z2 : E2 i = 0 := by simpa using hc4
  have ca := c.ap i hd1 fun j hj => by
   by_cases e : j = i
   · subst e; exact ⟨z1, z2⟩
   · have := hB j (by omega); exact ⟨this.1, this.2.1⟩
  refine gz h <| (dr0 (hob := (oG (by exact fun hg => ca)) <| oE)) <| (ai) ?_ ?_ <;> clear h ac wo <;> intro ac wo h hc5
  · have h0 : 0 < i ∧ A i = false := by
     rw [Bool.and_eq_true] at hc5
     exact ⟨by have := of_decide_eq_true hc5.1; omega, by simpa using hc5.2⟩
    rw [c.e3 i hd1 hB z1 z2 h0.1 h0.2]
    refine gz h <| (W) ?_; clear h ac wo; intro ac wo h
    exact (rt h) (h.retP rfl trivial)
  have ha : 0 < i → A i = true := fun h0 => by
   rw [decide_eq_true (by omega : ((i : Nat) : Int) > 0), Bool.true_and] at hc5
   simpa using hc5
  refine gz h <| (W) ?_; clear h ac wo; intro ac wo h
  refine aL ⟨m1, by omega, i + 1, by omega, by omega, fun j hj => ?_, h.re []⟩
  by_cases e : j = i
  · subst e; exact ⟨z1, z2, ha⟩
  · exact hB j (by omega)
 ·
  have hie : i = l.length := by have := of_decide_eq_false hc2; omega
  subst hie
  have hz : e = z := by
   rcases c.e0 (fun i hi => ⟨(hB i hi).1, (hB i hi).2.1⟩) with h | ⟨i, h1, h2, h3⟩
   · exact h
   · rw [(hB i h1).2.2 h2] at h3; cases h3
  obtain ⟨l', rfl, hg, hz2⟩ := c.gd fun i hi => ⟨(hB i hi).1, (hB i hi).2.1⟩
  rw [hz, hz2]
  rw [List.length_map] at hl
  have hlv' := hlv.uX
  have zl : All (gC 30) l' := fun u hu => kd (gqu_sz (hg u hu)) og
  obtain ⟨N, hN⟩ : ∃ N, aP l' = N := ⟨_, rfl⟩
  have cN := fun w hv => dC l' lv (by omega) zl w hv
  rw [hN] at cN ⊢
  have pN := RetT.pr (cN w0 hlv')
  refine gz h <| (W) ?_; clear h ac wo; intro ac wo h
  refine pQ (xs := N.1) h (dR Tryz.call132 rfl) (fun w_ hB_ hS_ => cN w_ (hlv'.below hB_)) rfl ?_; clear h ac wo; intro sv3 ac wo _ h
  refine gz h <| (xg (hs := by exact fun hg => d6 enA (fun w_ hB_ hS_ => leqG_ct l' N.1 lv sv3 (by omega) (by omega) (All.mono zl (fun _ h_ => kd h_ og)) pN.1 w_ (hlv'.below hB_) (row_view hS_ 0 rfl)))) <| (ai) ?_ ?_ <;> clear h ac wo <;> intro ac wo h hc6
  · rw [if_pos (by
     rw [Bool.or_eq_true] at hc6
     rcases hc6 with h | h
     · exact .inl (bne_iff_ne.1 h)
     · exact .inr (by simpa using h))]
    refine gz h <| (W) ?_; clear h ac wo; intro ac wo h
    exact (rt h) (h.retP rfl trivial)
  · rw [if_neg (by
     rw [Bool.or_eq_false_iff] at hc6
     intro hh
     rcases hh with h | h
     · exact h (by simpa using hc6.1)
     · exact h (by simpa using hc6.2))]
    refine gz h <| (W) ?_; clear h ac wo; intro ac wo h
    exact (rt h) (h.retP rfl trivial)
theorem mchkX_ct (l : List XU) (lv : Value) (E1 E2 : Nat → Int) (A : Nat → Bool) (z e : Int) (c : CkX l E1 E2 A z e) (w0 : World) (hlv : View w0 lv l) : Calls Tryz.prog 43 #[lv] w0 (cq w0 (.int .i64 e) (True)) := by
 refine enter (N := 8) (args := [lv]) Tryz.func43 rfl rfl ?_; intro ac h
 have hl := c.len
 refine gz h <| (W) ?_; clear h ac; intro ac wo h
 refine js (xs := l) h (dR Tryz.call100 rfl) (fun w_ hB_ hS_ => toX_ct l lv (by omega) w_ (hlv.below hB_)) rfl ?_; clear h ac wo; intro s1 ac wo _ h
 refine gz h <| (xc (ct := by exact fun w_ hB_ hS_ => qm l s1 E1 E2 A z e c w_ (row_view hS_ 0 rfl))) <| (W) ?_; clear h ac wo; intro ac wo h
 exact (rt h) (h.retP rfl trivial)
theorem ckX_ex (l : List XU) (hl : l.length ≤ 12) (h8 : ∀ i, i < l.length → S8U (gt l i)) : ∃ E1 E2 A z e, CkX l E1 E2 A z e ∧ ((∀ i, i < l.length → E1 i = 0 ∧ E2 i = 0) → ∃ l' : List (U Ln), l = l'.map uX ∧ ∀ a ∈ l', GqU a) := by
 obtain ⟨E1, h1⟩ := nc (n := l.length) fun k hk => ichkX_ct (gt l k).iv (h8 k hk).1
 obtain ⟨E2, h2⟩ := nc (n := l.length) fun k hk => lchkX_ct (gt l k).f (h8 k hk).2
 have good : (∀ i, i < l.length → E1 i = 0 ∧ E2 i = 0) → ∃ l' : List (U Ln), l = l'.map uX ∧ ∀ a ∈ l', GqU a := fun h => sT fun u hu => by
  obtain ⟨i, hi, rfl⟩ := memL hu
  exact ⟨(h1 i hi).2 (h i hi).1, (h2 i hi).2 (h i hi).2⟩
 have hA : ∃ A : Nat → Bool, ∀ i, i < l.length → (∀ j, j ≤ i → E1 j = 0 ∧ E2 j = 0) → ∀ w0, Calls Tryz.prog 118 #[vXV (gt l (i - 1)).iv, vXV (gt l i).iv] w0 (cq w0 (.bool (A i)) True) := by
  have key : ∀ i, i < l.length → ∃ b : Int, (∀ j, j ≤ i → E1 j = 0 ∧ E2 j = 0) → ∀ w0, Calls Tryz.prog 118 #[vXV (gt l (i - 1)).iv, vXV (gt l i).iv] w0 (cq w0 (.bool (b == 1)) True) := fun i hi => by
   by_cases hz : ∀ j, j ≤ i → E1 j = 0 ∧ E2 j = 0
   · obtain ⟨a, ea, ka1, ka2⟩ := qy ((h1 (i - 1) (by omega)).2 (hz (i - 1) (by omega)).1)
     obtain ⟨b, eb, kb1, kb2⟩ := qy ((h1 i hi).2 (hz i (Nat.le_refl _)).1)
     refine ⟨if cm a b = true then 1 else 0, fun _ w0 => ?_⟩
     have := iI a b 10 og ⟨dL (jN ka1) og, dL (jN ka2) og⟩ ⟨dL (jN kb1) og, dL (jN kb2) og⟩ w0
     rw [ea, eb, ivX_v, ivX_v]
     cases hh : cm a b with
     | true => rw [hh] at this; exact this
     | false => rw [hh] at this; exact this
   · exact ⟨0, fun h => absurd h hz⟩
  obtain ⟨B, hB⟩ := nc key
  exact ⟨fun i => B i == 1, hB⟩
 obtain ⟨A, hA⟩ := hA
 have hz : ∃ z : Int, (∀ i, i < l.length → E1 i = 0 ∧ E2 i = 0) → ∃ l' : List (U Ln), l = l'.map uX ∧ (∀ a ∈ l', GqU a) ∧ z = (if (aP l').2 ≠ 0 ∨ l' ≠ (aP l').1 then 5 else 0) := by
  by_cases h : ∀ i, i < l.length → E1 i = 0 ∧ E2 i = 0
  · obtain ⟨l', e, k⟩ := good h
    exact ⟨_, fun _ => ⟨l', e, k, rfl⟩⟩
  · exact ⟨0, fun h' => absurd h' h⟩
 obtain ⟨z, hz⟩ := hz
 have he : ∃ e : Int, (∀ i, i < l.length → (∀ j, j < i → E1 j = 0 ∧ E2 j = 0 ∧ (0 < j → A j = true)) → E1 i ≠ 0 → e = E1 i) ∧ (∀ i, i < l.length → (∀ j, j < i → E1 j = 0 ∧ E2 j = 0 ∧ (0 < j → A j = true)) → E1 i = 0 → E2 i ≠ 0 → e = E2 i) ∧ (∀ i, i < l.length → (∀ j, j < i → E1 j = 0 ∧ E2 j = 0 ∧ (0 < j → A j = true)) → E1 i = 0 → E2 i = 0 → 0 < i → A i = false → e = 7) ∧ ((∀ i, i < l.length → E1 i = 0 ∧ E2 i = 0 ∧ (0 < i → A i = true)) → e = z) := by
  by_cases hb : ∃ i, i < l.length ∧ (∀ j, j < i → E1 j = 0 ∧ E2 j = 0 ∧ (0 < j → A j = true)) ∧ ¬ (E1 i = 0 ∧ E2 i = 0 ∧ (0 < i → A i = true))
  · obtain ⟨m, hm, hB, hn⟩ := hb
    have uni : ∀ i, i < l.length → (∀ j, j < i → E1 j = 0 ∧ E2 j = 0 ∧ (0 < j → A j = true)) → ¬ (E1 i = 0 ∧ E2 i = 0 ∧ (0 < i → A i = true)) → i = m := fun i hi hBi hni => by
     rcases Nat.lt_trichotomy i m with h | h | h
     · exact absurd (hB i h) hni
     · exact h
     · exact absurd (hBi m h) hn
    by_cases k1 : E1 m = 0
    · by_cases k2 : E2 m = 0
      · refine ⟨7, fun i hi hBi hne => ?_, fun i hi hBi _ hne => ?_, fun _ _ _ _ _ _ _ => rfl, fun h => absurd (h m hm) hn⟩
        · have := uni i hi hBi fun h => hne h.1; subst this; exact absurd k1 hne
        · have := uni i hi hBi fun h => hne h.2.1; subst this; exact absurd k2 hne
      · refine ⟨E2 m, fun i hi hBi hne => ?_, fun i hi hBi _ hne => ?_, fun i hi hBi _ h2 h0 ha => ?_, fun h => absurd (h m hm) hn⟩
        · have := uni i hi hBi fun h => hne h.1; subst this; exact absurd k1 hne
        · have := uni i hi hBi fun h => hne h.2.1; subst this; rfl
        · have := uni i hi hBi fun h => by have := h.2.2 h0; rw [ha] at this; cases this
          subst this; exact absurd h2 k2
    · refine ⟨E1 m, fun i hi hBi hne => ?_, fun i hi hBi h1 hne => ?_, fun i hi hBi h1 h2 h0 ha => ?_, fun h => absurd (h m hm) hn⟩
      · have := uni i hi hBi fun h => hne h.1; subst this; rfl
      · have := uni i hi hBi fun h => hne h.2.1; subst this; exact absurd h1 k1
      · have := uni i hi hBi fun h => by have := h.2.2 h0; rw [ha] at this; cases this
        subst this; exact absurd h1 k1
  · have no : ∀ i, i < l.length → (∀ j, j < i → E1 j = 0 ∧ E2 j = 0 ∧ (0 < j → A j = true)) → E1 i = 0 ∧ E2 i = 0 ∧ (0 < i → A i = true) := fun i hi hB => Classical.byContradiction fun hn => hb ⟨i, hi, hB, hn⟩
    exact ⟨z, fun i hi hB hne => absurd (no i hi hB).1 hne, fun i hi hB _ hne => absurd (no i hi hB).2.1 hne, fun i hi hB _ _ h0 ha => (by have := (no i hi hB).2.2 h0; rw [ha] at this; cases this), fun _ => rfl⟩
 obtain ⟨e, a1, a2, a3, a4⟩ := he
 refine ⟨E1, E2, A, z, e, ⟨hl, fun i hi => (h1 i hi).1, fun i hi => (h2 i hi).1, hA, a1, a2, a3, fun h => ?_, hz⟩, good⟩
 by_cases hh : ∃ i, i < l.length ∧ 0 < i ∧ A i = false
 · exact .inr hh
 · refine .inl (a4 fun i hi => ⟨(h i hi).1, (h i hi).2, fun h0 => ?_⟩)
   cases ha : A i with
   | true => rfl
   | false => exact absurd ⟨i, hi, h0, ha⟩ hh
end
end Go.Sx
namespace Go.Sx
open Go Go.RowKit Go.Proofs
set_option maxRecDepth 100000
set_option maxHeartbeats 40000000
attribute [local irreducible] Code.wp wpList Rd Step ObS Ent
attribute [local irreducible] ao aM ak ar aA bD ay aG
attribute [local irreducible] aI aN aj au aR ah aU dH ja bu aw
instance un38 : Un Tryz.prog 38 (.slice 27) := ⟨Tryz.runUnderlying38⟩
def x3 (s : XS) : List XQ := [s.t, s.x, s.y]
section
attribute [local instance 2000] qT qU sh31X
end
end Go.Sx
namespace Go.Sx
open Go Go.RowKit Go.Proofs
set_option maxRecDepth 100000
set_option maxHeartbeats 40000000
attribute [local irreducible] Code.wp wpList Rd Step ObS Ent
attribute [local irreducible] ao aM ak ar aA bD ay aG
attribute [local irreducible] aI aN aj au aR ah aU dH ja bu aw cm
def SzU63 (u : XU) : Prop := ∀ k, k < 8 → xsz (gt (x8 u) k) ≤ 9223372036854775807
def FewP (l : List XU) : Prop := (∀ i, i < l.length → ∀ k, k < 8 → xsz (gt (x8 (gt l i)) k) ≤ 8) ∧ l.length ≤ 12
section
attribute [local instance 2000] qT qU sh71X sh86X sh79X sh88X rU pW
theorem few_ct (l : List XU) (lv : Value) (b : Bool) (hb : b = true ↔ FewP l) (hl : l.length ≤ 9223372036854775807) (hz : ∀ i, i < l.length → SzU63 (gt l i)) (w0 : World) (hlv : View w0 lv l) : Calls Tryz.prog 40 #[lv] w0 (cq w0 (.bool b) True) := by
 refine enter (N := 71) (args := [lv]) Tryz.func40 rfl rfl ?_; intro ac h
 have hlen := hlv.len
 refine gz h <| (W) ?_; clear h ac; intro ac wo h
 refine wp_loop_ghost (fun n_ a_ w_ => ∃ (i : Nat), (l.length - i < n_) ∧ (i ≤ l.length) ∧ (∀ j, j < i → ∀ k, k < 8 → xsz (gt (x8 (gt l j)) k) ≤ 8) ∧ St w0 71 [(0, lv), (3, iN i)] [] a_ w_) (l.length + 1) ⟨0, by omega, by omega, fun j hj => by omega, h.rs⟩ ?_
 clear h ac wo; rintro n1 ac wo ⟨i, hm1, hi, hB, h⟩
 obtain ⟨m1, rfl⟩ : ∃ m, n1 = m + 1 := ⟨n1 - 1, by omega⟩
 refine gz h <| (ai) ?_ ?_ <;> clear h ac wo <;> intro ac wo h hc2
 ·
  have hd1 : i < l.length := by have := of_decide_eq_true hc2; omega
  have n1' := hlv.nn hd1
  have z63 := hz i hd1
  obtain ⟨u, hu⟩ : ∃ u, gt l i = u := ⟨_, rfl⟩
  refine gz h <| (xa) fun b1 => (W) ?_; clear h ac wo; intro ac wo h
  rw [hu] at h z63
  refine nw h (cY (α := XQ) (xs := [.tmp 20, .tmp 24, .tmp 28, .tmp 32, .tmp 35, .tmp 38, .tmp 41, .tmp 44]) (vs := [vXQ u.iv.lo.p, vXQ u.iv.lo.r, vXQ u.iv.hi.p, vXQ u.iv.hi.r, vXQ u.f.x0, vXQ u.f.x1, vXQ u.f.y0, vXQ u.f.y1]) (x8 u) slt38X rfl rfl rfl (by decide)) rfl ?_; clear h ac wo; intro sv ac wo _ h
  refine gz h <| (W) ?_; clear h ac wo; intro ac wo h
  refine wp_loop_ghost (fun n_ a_ w_ => ∃ (k : Nat), (8 - k < n_) ∧ (k ≤ 8) ∧ (∀ j, j < k → xsz (gt (x8 u) j) ≤ 8) ∧ St w0 71 [(0, lv), (3, iN i), (5, sv), (6, iN k)] [.row (α := XQ) 27 sv (x8 u)] a_ w_) 9 ⟨0, by omega, by omega, fun j hj => by omega, h.re [0]⟩ ?_
  clear h ac wo; rintro n2 ac wo ⟨k, hm2, hk, hC, h⟩
  obtain ⟨m2, rfl⟩ : ∃ m, n2 = m + 1 := ⟨n2 - 1, by omega⟩
  refine gz h <| (ai) ?_ ?_ <;> clear h ac wo <;> intro ac wo h hc3
  ·
   have hk1 : k < 8 := by
    have h9 := of_decide_eq_true hc3
    have : ((x8 u).length : Int) = 8 := rfl
    omega
   have hk3 : k < (x8 u).length := hk1
   have nk := (row_view h.sep 0 rfl).nn hk3
   have hs9 := z63 k hk1
   have hs' : (gt (x8 u) k).n.b.size + (gt (x8 u) k).d.b.size ≤ 9223372036854775807 := hs9
   refine gz h <| (dr0 (hob := (oX (h := by exact fun _ => ba (jd uu9 rfl))) <| (oX (h := by exact fun _ => ba (jd uu9 rfl))) <| oE)) <| (ai) ?_ ?_ <;> clear h ac wo <;> intro ac wo h hc4
   · have hbf : b = false := by
      cases hb' : b with
      | false => rfl
      | true =>
       exfalso
       have := (hb.1 hb').1 i hd1 k hk1
       rw [hu] at this
       have h9 := of_decide_eq_true hc4
       unfold xsz at this; omega
     rw [hbf]
     refine gz h <| (W) ?_; clear h ac wo; intro ac wo h
     exact (rt h) (h.retP rfl trivial)
   · refine gz h <| (W) ?_; clear h ac wo; intro ac wo h
     refine aL ⟨m2, by omega, k + 1, by omega, by omega, fun j hj => ?_, h.re [0]⟩
     by_cases e : j = k
     · subst e
       have h9 := of_decide_eq_false hc4
       unfold xsz; omega
     · exact hC j (by omega)
  ·
   have hk8 : k = 8 := by
    have h9 := of_decide_eq_false hc3
    have : ((x8 u).length : Int) = 8 := rfl
    omega
   subst hk8
   refine gz h <| (W) ?_; clear h ac wo; intro ac wo h
   refine aL ⟨m1, by omega, i + 1, by omega, by omega, fun j hj => ?_, h.re []⟩
   by_cases e : j = i
   · subst e; rw [hu]; exact hC
   · exact hB j (by omega)
 ·
  have hie : i = l.length := by have := of_decide_eq_false hc2; omega
  subst hie
  have hbe : b = decide (((l.length : Nat) : Int) ≤ 12) := by
   by_cases hh : l.length ≤ 12
   · rw [decide_eq_true (by omega : ((l.length : Nat) : Int) ≤ 12)]; exact hb.2 ⟨hB, hh⟩
   · rw [decide_eq_false (by omega : ¬ ((l.length : Nat) : Int) ≤ 12)]
     cases hb' : b with
     | false => rfl
     | true => exact absurd (hb.1 hb').2 hh
  rw [hbe]
  refine gz h <| (W) ?_; clear h ac wo; intro ac wo h
  exact (rt h) (h.retP rfl trivial)
theorem tE (l : List XU) (lv : Value) (hz : ∀ u ∈ l, SzU63 u) (w0 : World) (hlv : View w0 lv l) : Calls Tryz.prog 6 #[lv] w0 (cq w0 (.bool true) True) := by
 have hlen := hlv.len
 obtain ⟨b, hb⟩ : ∃ b : Bool, b = true ↔ FewP l := by
  by_cases h : FewP l
  · exact ⟨true, fun _ => h, fun _ => rfl⟩
  · exact ⟨false, fun e => absurd e (by decide), fun e => absurd e h⟩
 have cf := fun w hv => few_ct l lv b hb hlen (fun i hi => hz _ (gt_mem0 hi)) w hv
 refine enter (N := 76) (args := [lv]) Tryz.func6 rfl rfl ?_; intro ac h
 refine gz h <| (xk qu) <| (xg (hs := by exact fun hg => d6 enA (fun w_ hB_ hS_ => cf w_ (hlv.below hB_)))) <| (ai) ?_ ?_ <;> clear h ac <;> intro ac wo h hc1
 · refine gz h <| (xk qu) <| (W) ?_; clear h ac wo; intro ac wo h
   exact (rt h) (h.retP rfl trivial)
 have hP : FewP l := hb.1 (by simpa using hc1)
 have hl := hP.2
 obtain ⟨E1, E2, A, z, e, c, hgood⟩ := ckX_ex l hl fun i hi => x8_8 (hP.1 i hi)
 refine gz h <| (W) ?_; clear h ac wo; intro ac wo h
 refine js (xs := l) h (dR Tryz.call42 rfl) (fun w_ hB_ hS_ => rJ l lv (by omega) w_ (hlv.below hB_)) rfl ?_; clear h ac wo; intro s1 ac wo _ h
 refine gz h <| (xc (ct := by exact fun w_ hB_ hS_ => qm l s1 E1 E2 A z e c w_ (row_view hS_ 0 rfl))) <| (W) ?_; clear h ac wo; intro ac wo h
 refine gz h <| (xc (ct := by exact fun w_ hB_ hS_ => mchkX_ct l lv E1 E2 A z e c w_ (hlv.below hB_))) <| (ai) ?_ ?_ <;> clear h ac wo <;> intro ac wo h hc2
 · exfalso; simp at hc2
 refine gz h <| (W) ?_; clear h ac wo; intro ac wo h
 refine wp_loop_ghost (fun n_ a_ w_ => ∃ (i : Nat), (l.length - i < n_) ∧ (i ≤ l.length) ∧ (∀ j, j < i → E1 j = 0 ∧ E2 j = 0) ∧ St w0 76 [(0, lv), (4, iN i)] [] a_ w_) (l.length + 1) ⟨0, by omega, by omega, fun j hj => by omega, h.re []⟩ ?_
 clear h ac wo; rintro n1 ac wo ⟨i, hm1, hi, hB, h⟩
 obtain ⟨m1, rfl⟩ : ∃ m, n1 = m + 1 := ⟨n1 - 1, by omega⟩
 refine gz h <| (ai) ?_ ?_ <;> clear h ac wo <;> intro ac wo h hc3
 ·
  have hd1 : i < l.length := by have := of_decide_eq_true hc3; omega
  have n1' := hlv.nn hd1
  refine gz h <| (xk (c.c1 i hd1)) <| (xg (hs := by exact fun hg => d6 enA (kk (c.c2 i hd1)))) <| (ai) ?_ ?_ <;> clear h ac wo <;> intro ac wo h hc4
  · refine gz h <| (W) ?_; clear h ac wo; intro ac wo h
    exact (rt h) (h.retP rfl trivial)
  · rw [Bool.or_eq_false_iff] at hc4
    refine gz h <| (W) ?_; clear h ac wo; intro ac wo h
    refine aL ⟨m1, by omega, i + 1, by omega, by omega, fun j hj => ?_, h.re []⟩
    by_cases e : j = i
    · subst e; exact ⟨by simpa using hc4.1, by simpa using hc4.2⟩
    · exact hB j (by omega)
 ·
  have hie : i = l.length := by have := of_decide_eq_false hc3; omega
  subst hie
  obtain ⟨l', rfl, hg⟩ := hgood hB
  rw [List.length_map] at hl
  have hlv' := hlv.uX
  have zl : All (gC 30) l' := fun u hu => kd (gqu_sz (hg u hu)) og
  have c46 := fun w hv => l7 l' lv (by omega) zl w hv
  have c47 := fun w hv => qP l' lv (by omega) zl w hv
  obtain ⟨N, hN⟩ : ∃ N, aP l' = N := ⟨_, rfl⟩
  rw [hN] at c46 c47
  have pN := (RetT.pr (c46 w0 hlv')).2
  refine gz h <| (W) ?_; clear h ac wo; intro ac wo h
  refine pQ (xs := N.1) h (dR Tryz.call46 rfl) (fun w_ hB_ hS_ => c46 w_ (hlv'.below hB_)) rfl ?_; clear h ac wo; intro nv ac wo _ h
  refine gz h <| (W) ?_; clear h ac wo; intro ac wo h
  refine pQ (xs := N.1) h (dR Tryz.call47 rfl) (fun w_ hB_ hS_ => c47 w_ (hlv'.below hB_)) rfl ?_; clear h ac wo; intro wv ac wo _ h
  refine gz h <| (xc (ct := by exact fun w_ hB_ hS_ => qb N.1 N.1 nv wv (by omega) (by omega) w_ (row_view hS_ 1 rfl) (row_view hS_ 0 rfl))) <| (xg (hs := by exact fun hg => d6 enA (fun w_ hB_ hS_ => sL N.1 l' nv lv (by omega) (by omega) w_ (row_view hS_ 1 rfl) (hlv'.below hB_)))) <| (xg (hs := by exact fun hg => d6 enA (fun w_ hB_ hS_ => qb N.1 l' wv lv (by omega) (by omega) w_ (row_view hS_ 0 rfl) (hlv'.below hB_)))) <| (xg (hs := by exact fun hg => (Rd.of_nil (qj nn4 (ec rfl hg) (ec rfl hg))).step)) <| (W) ?_; clear h ac wo; intro ac wo h
  refine (rt h) (h.retP (congrArg Value.bool ?_) trivial)
  simp
end
end Go.Sx
namespace Go.Sx
open Go Go.RowKit Go.Proofs Go.ChangeShapes Go.WideShapes
set_option maxRecDepth 100000
section
variable {H : Type} {enc : TypeId × Value → H} {W : World} {base : Nat} {sp : Nat → Bool} {held : Bool}
def dXR (x : XR) : DataW H := .agg [dXQ x.p, dXQ x.r, .lit (.bool x.neg)]
def dXV (x : XV) : DataW H := .agg [dXR x.lo, dXR x.hi, .lit (.bool x.openLo), .lit (.bool x.openHi)]
def dXL (x : XL) : DataW H := .agg [dXQ x.x0, dXQ x.x1, dXQ x.y0, dXQ x.y1]
theorem pZ {fuel : Nat} {cs : List Value} {x : DataW H × List MemPlace} (h : DataW.trod enc Tryz.prog W base sp held fuel 71 cs = some x) : ∃ i : XR, cs = cXR i ∧ x.1 = dXR i := by
  obtain ⟨xs, n, _, hx, hlen, hxl, hf⟩ := DataW.trod_struct nn71 h
  rw [show Tryz.prog.cellsOf 71 = 9 by kernel_rfl] at hlen
  have k27 : Tryz.prog.cellsOf 27 = 4 := by kernel_rfl
  have k4 : Tryz.prog.cellsOf 4 = 1 := by kernel_rfl
  have f0 : DataW.trod enc Tryz.prog W base sp held n 27 ((cs.drop 0).take (Tryz.prog.cellsOf 27)) = xs[0]? := hf 0 _ rfl
  have f1 : DataW.trod enc Tryz.prog W base sp held n 27 ((cs.drop 4).take (Tryz.prog.cellsOf 27)) = xs[1]? := hf 1 _ rfl
  have f2 : DataW.trod enc Tryz.prog W base sp held n 4 ((cs.drop 8).take (Tryz.prog.cellsOf 4)) = xs[2]? := hf 2 _ rfl
  rw [k27] at f0 f1
  rw [k4] at f2
  obtain ⟨y0, y1, y2, rfl⟩ : ∃ y0 y1 y2, xs = [y0, y1, y2] := by
    have : xs.length = 3 := hxl
    match xs, this with
    | [y0, y1, y2], _ => exact ⟨_, _, _, rfl⟩
  obtain ⟨i, e0, d0⟩ := iZ f0
  obtain ⟨j, e1, d1⟩ := iZ f1
  obtain ⟨b, e2, d2⟩ := DataW.trod_bool nn4 f2
  refine ⟨⟨i, j, b⟩, ?_, ?_⟩
  · show cs = cXQ i ++ (cXQ j ++ [.bool b])
    rw [← e0, ← e1]
    match cs, hlen, e2 with
    | [a, b', c, d, e, f, g, h, i], _, e2 => simp at e2; simp [e2]
  · rw [hx]
    show DataW.agg [y0.1, y1.1, y2.1] = DataW.agg [dXQ i, dXQ j, .lit (.bool b)]
    rw [d0, d1, d2]
theorem xv_cells {fuel : Nat} {cs : List Value} {x : DataW H × List MemPlace} (h : DataW.trod enc Tryz.prog W base sp held fuel 86 cs = some x) : ∃ i : XV, cs = cXV i ∧ x.1 = dXV i := by
  obtain ⟨xs, n, _, hx, hlen, hxl, hf⟩ := DataW.trod_struct nn86 h
  rw [show Tryz.prog.cellsOf 86 = 20 by kernel_rfl] at hlen
  have k71 : Tryz.prog.cellsOf 71 = 9 := by kernel_rfl
  have k4 : Tryz.prog.cellsOf 4 = 1 := by kernel_rfl
  have f0 : DataW.trod enc Tryz.prog W base sp held n 71 ((cs.drop 0).take (Tryz.prog.cellsOf 71)) = xs[0]? := hf 0 _ rfl
  have f1 : DataW.trod enc Tryz.prog W base sp held n 71 ((cs.drop 9).take (Tryz.prog.cellsOf 71)) = xs[1]? := hf 1 _ rfl
  have f2 : DataW.trod enc Tryz.prog W base sp held n 4 ((cs.drop 18).take (Tryz.prog.cellsOf 4)) = xs[2]? := hf 2 _ rfl
  have f3 : DataW.trod enc Tryz.prog W base sp held n 4 ((cs.drop 19).take (Tryz.prog.cellsOf 4)) = xs[3]? := hf 3 _ rfl
  rw [k71] at f0 f1
  rw [k4] at f2 f3
  obtain ⟨y0, y1, y2, y3, rfl⟩ : ∃ y0 y1 y2 y3, xs = [y0, y1, y2, y3] := by
    have : xs.length = 4 := hxl
    match xs, this with
    | [y0, y1, y2, y3], _ => exact ⟨_, _, _, _, rfl⟩
  obtain ⟨i, e0, d0⟩ := pZ f0
  obtain ⟨j, e1, d1⟩ := pZ f1
  obtain ⟨a, e2, d2⟩ := DataW.trod_bool nn4 f2
  obtain ⟨b, e3, d3⟩ := DataW.trod_bool nn4 f3
  refine ⟨⟨i, j, a, b⟩, ?_, ?_⟩
  · show cs = cXR i ++ (cXR j ++ [.bool a, .bool b])
    rw [← e0, ← e1]
    have h1 : cs = cs.take 9 ++ ((cs.drop 9).take 9 ++ ((cs.drop 18).take 1 ++ (cs.drop 19).take 1)) := by
      match cs, hlen with
      | [c0, c1, c2, c3, c4, c5, c6, c7, c8, c9, c10, c11, c12, c13, c14, c15, c16, c17, c18, c19], _ => rfl
    rw [e2, e3] at h1
    rw [List.drop_zero]
    exact h1
  · rw [hx]
    show DataW.agg [y0.1, y1.1, y2.1, y3.1] = DataW.agg [dXR i, dXR j, .lit (.bool a), .lit (.bool b)]
    rw [d0, d1, d2, d3]
theorem xl_cells {fuel : Nat} {cs : List Value} {x : DataW H × List MemPlace} (h : DataW.trod enc Tryz.prog W base sp held fuel 79 cs = some x) : ∃ i : XL, cs = cXL i ∧ x.1 = dXL i := by
  obtain ⟨xs, n, _, hx, hlen, hxl, hf⟩ := DataW.trod_struct nn79 h
  rw [show Tryz.prog.cellsOf 79 = 16 by kernel_rfl] at hlen
  have k27 : Tryz.prog.cellsOf 27 = 4 := by kernel_rfl
  have f0 : DataW.trod enc Tryz.prog W base sp held n 27 ((cs.drop 0).take (Tryz.prog.cellsOf 27)) = xs[0]? := hf 0 _ rfl
  have f1 : DataW.trod enc Tryz.prog W base sp held n 27 ((cs.drop 4).take (Tryz.prog.cellsOf 27)) = xs[1]? := hf 1 _ rfl
  have f2 : DataW.trod enc Tryz.prog W base sp held n 27 ((cs.drop 8).take (Tryz.prog.cellsOf 27)) = xs[2]? := hf 2 _ rfl
  have f3 : DataW.trod enc Tryz.prog W base sp held n 27 ((cs.drop 12).take (Tryz.prog.cellsOf 27)) = xs[3]? := hf 3 _ rfl
  rw [k27] at f0 f1 f2 f3
  obtain ⟨y0, y1, y2, y3, rfl⟩ : ∃ y0 y1 y2 y3, xs = [y0, y1, y2, y3] := by
    have : xs.length = 4 := hxl
    match xs, this with
    | [y0, y1, y2, y3], _ => exact ⟨_, _, _, _, rfl⟩
  obtain ⟨i, e0, d0⟩ := iZ f0
  obtain ⟨j, e1, d1⟩ := iZ f1
  obtain ⟨k, e2, d2⟩ := iZ f2
  obtain ⟨l, e3, d3⟩ := iZ f3
  refine ⟨⟨i, j, k, l⟩, ?_, ?_⟩
  · show cs = cXQ i ++ (cXQ j ++ (cXQ k ++ cXQ l))
    rw [← e0, ← e1, ← e2, ← e3, List.drop_zero]
    match cs, hlen with
    | [c0, c1, c2, c3, c4, c5, c6, c7, c8, c9, c10, c11, c12, c13, c14, c15], _ => rfl
  · rw [hx]
    show DataW.agg [y0.1, y1.1, y2.1, y3.1] = DataW.agg [dXQ i, dXQ j, dXQ k, dXQ l]
    rw [d0, d1, d2, d3]
theorem w_xr (x : XR) : DataW.weights Tryz.prog 71 (dXR (H := H) x) = DataW.weights Tryz.prog 27 (dXQ (H := H) x.p) ++ DataW.weights Tryz.prog 27 (dXQ (H := H) x.r) := by
  unfold dXR
  simp [DataW.weights, DataW.weightsEach, nn71]
theorem w_xv (x : XV) : DataW.weights Tryz.prog 86 (dXV (H := H) x) = DataW.weights Tryz.prog 71 (dXR (H := H) x.lo) ++ DataW.weights Tryz.prog 71 (dXR (H := H) x.hi) := by
  unfold dXV
  simp [DataW.weights, DataW.weightsEach, nn86]
theorem w_xl (x : XL) : DataW.weights Tryz.prog 79 (dXL (H := H) x) = DataW.weights Tryz.prog 27 (dXQ (H := H) x.x0) ++ (DataW.weights Tryz.prog 27 (dXQ (H := H) x.x1) ++ (DataW.weights Tryz.prog 27 (dXQ (H := H) x.y0) ++ DataW.weights Tryz.prog 27 (dXQ (H := H) x.y1))) := by
  unfold dXL
  simp [DataW.weights, DataW.weightsEach, nn79]
theorem xu_cells {fuel : Nat} {cs : List Value} {x : DataW H × List MemPlace} (h : DataW.trod enc Tryz.prog W base sp held fuel 88 cs = some x) (hw : (DataW.weights Tryz.prog 88 x.1).all lim = true) : ∃ s : XU, cs = Cod.enc s ∧ SzU63 s := by
  obtain ⟨xs, n, _, hx, hlen, hxl, hf⟩ := DataW.trod_struct nn88 h
  rw [show Tryz.prog.cellsOf 88 = 36 by kernel_rfl] at hlen
  have k86 : Tryz.prog.cellsOf 86 = 20 := by kernel_rfl
  have k79 : Tryz.prog.cellsOf 79 = 16 := by kernel_rfl
  have f0 : DataW.trod enc Tryz.prog W base sp held n 86 ((cs.drop 0).take (Tryz.prog.cellsOf 86)) = xs[0]? := hf 0 _ rfl
  have f1 : DataW.trod enc Tryz.prog W base sp held n 79 ((cs.drop 20).take (Tryz.prog.cellsOf 79)) = xs[1]? := hf 1 _ rfl
  rw [k86] at f0
  rw [k79] at f1
  obtain ⟨y0, y1, rfl⟩ : ∃ y0 y1, xs = [y0, y1] := by
    have : xs.length = 2 := hxl
    match xs, this with
    | [y0, y1], _ => exact ⟨_, _, rfl⟩
  obtain ⟨a, e0, d0⟩ := xv_cells f0
  obtain ⟨b, e1, d1⟩ := xl_cells f1
  have hd : x.1 = .agg [dXV a, dXL b] := by
    rw [hx]
    show DataW.agg [y0.1, y1.1] = _
    rw [d0, d1]
  rw [hd] at hw
  have hw2 : DataW.weights Tryz.prog 88 (.agg [dXV (H := H) a, dXL b]) = DataW.weights Tryz.prog 86 (dXV (H := H) a) ++ DataW.weights Tryz.prog 79 (dXL (H := H) b) := by
    simp [DataW.weights, DataW.weightsEach, nn88]
  rw [hw2, w_xv, w_xl, w_xr, w_xr] at hw
  simp only [List.all_append, Bool.and_eq_true] at hw
  obtain ⟨⟨⟨w0, w1⟩, w2, w3⟩, w4, w5, w6, w7⟩ := hw
  refine ⟨⟨a, b⟩, ?_, fun k hk => ?_⟩
  · show cs = cXV a ++ cXL b
    rw [← e0, ← e1, List.drop_zero]
    have : (cs.drop 20).take 16 = cs.drop 20 := List.take_of_length_le (by rw [List.length_drop]; omega)
    rw [this, List.take_append_drop]
  · obtain rfl | rfl | rfl | rfl | rfl | rfl | rfl | rfl : k = 0 ∨ k = 1 ∨ k = 2 ∨ k = 3 ∨ k = 4 ∨ k = 5 ∨ k = 6 ∨ k = 7 := by omega
    · exact xq_w w0
    · exact xq_w w1
    · exact xq_w w2
    · exact xq_w w3
    · exact xq_w w4
    · exact xq_w w5
    · exact xq_w w6
    · exact xq_w w7
theorem open_xus {v : Value} {d : DataW H} {p : List MemPlace} (hval : Value.okWide Tryz.prog W .any base 33 v) (h : DataW.Trod enc Tryz.prog W 0 sp held 33 v d p) (hw : (DataW.weights Tryz.prog 33 d).all lim = true) : ∃ xs : List XU, View W v xs ∧ ∀ s ∈ xs, SzU63 s :=
  q5 Tryz.underlying33 (by kernel_rfl) hval h hw fun n cs x h k => xu_cells h k
end
end Go.Sx
