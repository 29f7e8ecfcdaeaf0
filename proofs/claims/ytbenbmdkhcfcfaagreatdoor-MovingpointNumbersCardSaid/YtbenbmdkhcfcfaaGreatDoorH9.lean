/- A part of the proof of movingpointNumbers. -/
import Derived.Test.YtbenbmdkhcfcfaaGreatDoorH8
import Derived.Test.YtbenbmdkhcfcfaaGreatDoorH4
import Derived.Test.YtbenbmdkhcfcfaaGreatDoorH6
import Derived.Shelf.SlSortCmp.WholeK
import Derived.Test.YtbenbmdkhcfcfaaGreatDoorG2
import Derived.RangeFuncRecord
import Derived.Test.YtbenbmdkhcfcfaaGreatDoorH3
set_option linter.unusedVariables false
set_option linter.unusedSimpArgs false
open Go.Proofs.Tryz renaming runUnderlying29 → uu29, runUnderlying31 → uu31, runUnderlying88 → uu88, runUnderlying247 → uu247, zeroValue29 → vv29, zeroValue31 → vv31, zeroValue88 → vv88, zeroValue247 → vv247
namespace Go.Sx
section
variable {α : Type} [Inhabited α] {eqf : α → α → Bool} {same : α → α → GR → Bool} {red : α → GR → α} {L out : List (U α)} {x : Nat} {t t' : GR} {f : α}
def Vl [K : Key] (out : List (U α)) : Prop := ∀ u ∈ out, Tv u.iv ∧ tk u.iv.lo ≤ tk u.iv.hi
omit [Inhabited α] in
theorem Vl.app [K : Key] {y : U α} (h : Vl out) (h1 : Tv y.iv) (h2 : tk y.iv.lo ≤ tk y.iv.hi) : Vl (out ++ [y]) := fun u hu => by
  rcases List.mem_append.1 hu with hu | hu
  · exact h u hu
  · rw [List.mem_singleton.1 hu]; exact ⟨h1, h2⟩
omit [Inhabited α] in
theorem Vl.set [K : Key] {y : U α} {i : Nat} (h : Vl out) (h1 : Tv y.iv) (h2 : tk y.iv.lo ≤ tk y.iv.hi) : Vl (out.set i y) := fun u hu => by
  rcases List.mem_or_eq_of_mem_set hu with hu | rfl
  · exact h u hu
  · exact ⟨h1, h2⟩
theorem newPt_or : mt same red L out x = out ∨ mt same red L out x = out ++ [⟨(gt L x).iv, red (gt L x).f (gt L x).iv.lo⟩] := by
  unfold mt
  cases (((decide (((x + 1 : Nat) : Int) < ((L.length : Nat) : Int))) && (decide (((gt L (x + 1)).iv).lo = ((gt L x).iv).lo))) && (same ((gt L (x + 1)).f) ((gt L x).f) (((gt L x).iv).lo)))
  · exact .inr rfl
  · exact .inl rfl
theorem pt_any [K : Key] (hx : gt L x = ptU t f) (ht : Tm t) (h : Vl out) : Vl (fm eqf same red L out x) ∧ (fm eqf same red L out x).length ≤ out.length + 1 := by
  have hn : Vl (mt same red L out x) ∧ (mt same red L out x).length ≤ out.length + 1 := by
    rcases newPt_or (same := same) (red := red) (L := L) (out := out) (x := x) with e | e
    · rw [e]; exact ⟨h, Nat.le_succ _⟩
    · rw [e, hx]; exact ⟨h.app ⟨ht, ht⟩ (Nat.le_refl _), by simp⟩
  unfold fm
  rw [hx, show aU (ptU t f).iv = true from decide_eq_true rfl, Bool.not_true, cond_false, cond_false]
  cases hb : u2 L out x with
  | false => exact hn
  | true =>
    rw [cond_true]
    cases same (gt out (out.length - 1)).f (ptU t f).f (ptU t f).iv.lo with
    | false => exact hn
    | true =>
      obtain ⟨b1, _, _⟩ := jZ.1 hb
      have hm := h _ (gw b1)
      exact ⟨h.set hm.1 hm.2, by rw [cond_true, List.length_set]; exact Nat.le_succ _⟩
theorem pt_left [K : Key] (hx : gt L x = ptU t f) (ht : Tm t) (h : Vl out) (hn : x + 1 < L.length) (h2 : (gt L (x + 1)).iv.lo = t) (h3 : same (gt L (x + 1)).f f t = true) : Vl (fm eqf same red L out x) ∧ (fm eqf same red L out x).length ≤ out.length := by
  have hp : mt same red L out x = out := by
    unfold mt
    rw [hx]
    show (bif (((decide (((x + 1 : Nat) : Int) < ((L.length : Nat) : Int))) && (decide ((gt L (x + 1)).iv.lo = t))) && (same ((gt L (x + 1)).f) f t)) then out else _) = out
    rw [decide_eq_true (by omega : ((x + 1 : Nat) : Int) < ((L.length : Nat) : Int)), h2, decide_eq_true rfl, h3]
    rfl
  unfold fm
  rw [hp, hx, show aU (ptU t f).iv = true from decide_eq_true rfl, Bool.not_true, cond_false, cond_false]
  cases hb : u2 L out x with
  | false => exact ⟨h, Nat.le_refl _⟩
  | true =>
    rw [cond_true]
    cases same (gt out (out.length - 1)).f (ptU t f).f (ptU t f).iv.lo with
    | false => exact ⟨h, Nat.le_refl _⟩
    | true =>
      obtain ⟨b1, _, _⟩ := jZ.1 hb
      have hm := h _ (gw b1)
      exact ⟨h.set hm.1 hm.2, by rw [cond_true, List.length_set]; exact Nat.le_refl _⟩
theorem wJ (hx : gt L x = nH t t' f) : ∃ b, kr L out x = out ++ [⟨⟨t, t', b, true⟩, f⟩] := by
  unfold kr
  rw [hx]
  cases ((((decide (((x : Nat) : Int) > 0)) && (aU ((gt L (x - 1)).iv))) && (decide (((gt L (x - 1)).iv).lo = ((nH t t' f).iv).lo))) && (!(lM out (((nH t t' f).iv).lo))))
  · exact ⟨true, rfl⟩
  · exact ⟨false, rfl⟩
theorem gap_any [K : Key] (heq : ∀ a b, eqf a b = true → a = b) (hx : gt L x = nH t t' f) (ht : Tm t) (ht' : Tm t') (hlt : tk t < tk t') (h : Vl out) :
    Vl (fm eqf same red L out x) ∧ (fm eqf same red L out x).length ≤ out.length + 1 ∧ 0 < (fm eqf same red L out x).length ∧ (lst (fm eqf same red L out x)).iv.hi = t' ∧ (lst (fm eqf same red L out x)).iv.lo ≠ t' ∧ (lst (fm eqf same red L out x)).f = f := by
  have hne : t ≠ t' := fun e => by rw [e] at hlt; omega
  have hn : Vl (kr L out x) ∧ (kr L out x).length ≤ out.length + 1 ∧ 0 < (kr L out x).length ∧ (lst (kr L out x)).iv.hi = t' ∧ (lst (kr L out x)).iv.lo ≠ t' ∧ (lst (kr L out x)).f = f := by
    obtain ⟨b, e⟩ := wJ (out := out) hx
    rw [e, mX]
    exact ⟨h.app ⟨ht, ht'⟩ (Nat.le_of_lt hlt), by simp, by simp, rfl, hne, rfl⟩
  unfold fm
  rw [show aU (gt L x).iv = false by rw [hx]; exact decide_eq_false hne, Bool.not_false, cond_true, cond_true]
  cases hb : u2 L out x with
  | false => exact hn
  | true =>
    rw [cond_true]
    cases hq : ((!((gt out (out.length - 1)).iv).openHi) && (eqf ((gt out (out.length - 1)).f) ((gt L x).f))) with
    | false => exact hn
    | true =>
      obtain ⟨b1, b2, b3⟩ := jZ.1 hb
      have hm := h _ (gw b1)
      rw [Bool.and_eq_true] at hq
      have e := heq _ _ hq.2
      rw [hx] at b2 e ⊢
      have b2 : (lst out).iv.hi = t := b2
      have hl : tk (lst out).iv.lo < tk t' := by rw [b2] at hm; omega
      rw [cond_true]
      show Vl (out.set (out.length - 1) ⟨⟨(lst out).iv.lo, t', (lst out).iv.openLo, true⟩, (lst out).f⟩) ∧ (out.set (out.length - 1) (⟨⟨(lst out).iv.lo, t', (lst out).iv.openLo, true⟩, (lst out).f⟩ : U α)).length ≤ _ ∧ 0 < (out.set (out.length - 1) (⟨⟨(lst out).iv.lo, t', (lst out).iv.openLo, true⟩, (lst out).f⟩ : U α)).length ∧ (lst (out.set (out.length - 1) ⟨⟨(lst out).iv.lo, t', (lst out).iv.openLo, true⟩, (lst out).f⟩)).iv.hi = t' ∧ (lst (out.set (out.length - 1) ⟨⟨(lst out).iv.lo, t', (lst out).iv.openLo, true⟩, (lst out).f⟩)).iv.lo ≠ t' ∧ (lst (out.set (out.length - 1) ⟨⟨(lst out).iv.lo, t', (lst out).iv.openLo, true⟩, (lst out).f⟩)).f = f
      rw [lst_set b1, List.length_set]
      exact ⟨h.set ⟨hm.1.1, ht'⟩ (Nat.le_of_lt hl), Nat.le_succ _, b1, rfl, fun e => by
        have e : (lst out).iv.lo = t' := e
        rw [e] at hl; omega, e⟩
theorem len_le [K : Key] (heq : ∀ a b, eqf a b = true → a = b) {n : List (U α)} (hw : ∀ u ∈ n, Wv u.iv) (hr : ∀ u ∈ n, ∀ t, Tm t → same u.f u.f t = true) :
    ∀ (s p : List (U α)), n = p ++ s → (Vl (jG (fm eqf same red (n.flatMap atU)) [] (p.flatMap atU).length) ∧ (jG (fm eqf same red (n.flatMap atU)) [] (p.flatMap atU).length).length ≤ p.length) → (jG (fm eqf same red (n.flatMap atU)) [] (n.flatMap atU).length).length ≤ n.length
  | [], p, hn, hp => by
    rw [List.append_nil] at hn
    rw [← hn] at hp
    exact hp.2
  | y :: s, p, hn, hp => by
    refine len_le heq hw hr s (p ++ [y]) (by rw [hn]; simp) ?_
    have hL : n.flatMap atU = p.flatMap atU ++ (atU y ++ s.flatMap atU) := by rw [hn]; simp
    have hy : y ∈ n := by rw [hn]; simp
    have hwy := hw y hy
    have hc : ((p ++ [y]).flatMap atU).length = (p.flatMap atU).length + (atU y).length := by simp
    rw [hc, List.length_append, List.length_singleton]
    generalize hcc : (p.flatMap atU).length = c at *
    generalize hLL : n.flatMap atU = L at *
    have hLl : L.length = c + ((atU y).length + (s.flatMap atU).length) := by rw [hL, List.length_append, List.length_append, hcc]
    have hI : ∀ k, jG (fm eqf same red L) [] (c + (k + 1)) = fm eqf same red L (jG (fm eqf same red L) [] (c + k)) (c + k) := fun _ => rfl
    have hgt : ∀ k, k < (atU y).length → gt L (c + k) = gt (atU y) k := fun k hk => by
      rw [hL, ← hcc]
      have : ∀ (A B : List (U α)), gt (A ++ B) (A.length + k) = gt B k := fun A B => by simp [gt, List.getD, List.getElem?_append_right]
      rw [this, jm hk]
    by_cases hi : y.iv.lo = y.iv.hi
    · obtain ⟨o1, o2⟩ := hwy.2.2 (by rw [hi])
      have ea : atU y = [ptU y.iv.lo y.f] := by
        unfold atU aU
        rw [o1, decide_eq_true hi]; rfl
      have hx0 : gt L (c + 0) = ptU y.iv.lo y.f := by rw [hgt 0 (by rw [ea]; simp), ea]; rfl
      rw [ea]
      show Vl (jG _ [] (c + (0 + 1))) ∧ (jG _ [] (c + (0 + 1))).length ≤ _
      rw [hI 0]
      have := pt_any (eqf := eqf) (same := same) (red := red) hx0 hwy.1.1 hp.1
      exact ⟨this.1, Nat.le_trans this.2 (Nat.succ_le_succ hp.2)⟩
    · have hini : aU y.iv = false := decide_eq_false hi
      have hlt : tk y.iv.lo < tk y.iv.hi := by
        have := hwy.2.1
        by_cases e : tk y.iv.lo = tk y.iv.hi
        · exact absurd ((hwy.1.1.inj hwy.1.2).1 e) hi
        · omega
      have hE : ∀ (k : Nat), (Vl (jG (fm eqf same red L) [] (c + k)) ∧ (jG (fm eqf same red L) [] (c + k)).length ≤ p.length) → gt L (c + k) = nH y.iv.lo y.iv.hi y.f → (y.iv.openHi = false → gt L (c + (k + 1)) = ptU y.iv.hi y.f) →
          (Vl (jG (fm eqf same red L) [] (c + (k + 1 + (bif y.iv.openHi then 0 else 1)))) ∧ (jG (fm eqf same red L) [] (c + (k + 1 + (bif y.iv.openHi then 0 else 1)))).length ≤ p.length + 1) := fun k h1 h2 h3 => by
        obtain ⟨g1, g2, g3, g4, g5, g6⟩ := gap_any (eqf := eqf) (same := same) (red := red) heq h2 hwy.1.1 hwy.1.2 hlt h1.1
        rw [← hI k] at g1 g2 g3 g4 g5 g6
        cases ho : y.iv.openHi with
        | true => exact ⟨g1, Nat.le_trans g2 (Nat.succ_le_succ h1.2)⟩
        | false =>
          show Vl (jG _ [] (c + (k + 1 + 1))) ∧ (jG _ [] (c + (k + 1 + 1))).length ≤ _
          rw [hI (k + 1)]
          rw [sn_end (h3 ho) g3 g4 (by rw [g4]; exact g5) (by rw [g6]; exact hr y hy _ hwy.1.2)]
          have hm := g1 _ (gw g3)
          exact ⟨g1.set hm.1 hm.2, by rw [List.length_set]; exact Nat.le_trans g2 (Nat.succ_le_succ h1.2)⟩
      cases hol : y.iv.openLo with
      | false =>
        have ea : atU y = ptU y.iv.lo y.f :: nH y.iv.lo y.iv.hi y.f :: (bif y.iv.openHi then [] else [ptU y.iv.hi y.f]) := by
          unfold atU; rw [hol, hini]; rfl
        have hl2 : (atU y).length = 1 + 1 + (bif y.iv.openHi then 0 else 1) := by rw [ea]; cases y.iv.openHi <;> rfl
        have hx0 : gt L (c + 0) = ptU y.iv.lo y.f := by rw [hgt 0 (by rw [hl2]; omega), ea]; rfl
        have hx1 : gt L (c + 1) = nH y.iv.lo y.iv.hi y.f := by rw [hgt 1 (by rw [hl2]; omega), ea]; rfl
        rw [hl2]
        have st1 := pt_left (eqf := eqf) (same := same) (red := red) (out := jG (fm eqf same red L) [] c) hx0 hwy.1.1 hp.1 (by rw [hl2] at hLl; omega) (by show (gt L (c + 1)).iv.lo = _; rw [hx1]; rfl) (by show same (gt L (c + 1)).f _ _ = true; rw [hx1]; exact hr y hy _ hwy.1.1)
        exact hE 1 ⟨st1.1, Nat.le_trans st1.2 hp.2⟩ hx1 (fun e => by rw [hgt 2 (by rw [hl2, e]; decide), ea, e]; rfl)
      | true =>
        have ea : atU y = nH y.iv.lo y.iv.hi y.f :: (bif y.iv.openHi then [] else [ptU y.iv.hi y.f]) := by
          unfold atU; rw [hol, hini]; rfl
        have hl2 : (atU y).length = 0 + 1 + (bif y.iv.openHi then 0 else 1) := by rw [ea]; cases y.iv.openHi <;> rfl
        have hx0 : gt L (c + 0) = nH y.iv.lo y.iv.hi y.f := by rw [hgt 0 (by rw [hl2]; omega), ea]; rfl
        rw [hl2]
        exact hE 0 hp hx0 (fun e => by rw [hgt 1 (by rw [hl2, e]; decide), ea, e]; rfl)
end
end Go.Sx
namespace Go.Sx
section
variable [K : Key]
abbrev NFl (n : List (U Ln)) : Prop := NF cM bC aJ n
abbrev Sml (n m : List (U Ln)) : Prop := Sem bC n m
structure Dk (D : Ln → Prop) : Prop where
  ru : Ru D bC aJ
  ok : ∀ f, D f → LOk f
theorem Dk.rc {D : Ln → Prop} (h : Dk D) {t : GR} (ht : Tm t) {f g : Ln} (hf : D f) (hg : D g) (e : bC f g t = true) : aJ f t = aJ g t :=
  nj (h.ok _ hf) (h.ok _ hg) ht.ok.tok ((iy (h.ok _ hf) (h.ok _ hg) ht.ok.tok).1 e)
theorem Dk.uniq {D : Ln → Prop} (h : Dk D) {n m : List (U Ln)} (hn : NFl n) (hm : NFl m) (dn : ∀ v ∈ n, D v.f) (dm : ∀ v ∈ m, D v.f) (hS : Sml n m) : n = m :=
  wF h.ru (fun t ht f g hf hg e => h.rc ht hf hg e) (fun a => (l9 a a).2 rfl) hn hm dn dm hS
structure NFL (D : Ln → Prop) (n N : List (U Ln)) : Prop where
  nf : NFl N
  ok : ∀ x ∈ N, D x.f
  sem : Sml n N
  len : N.length ≤ n.length
theorem Dk.normal {D : Ln → Prop} (h : Dk D) {n : List (U Ln)} (hW : ∀ x ∈ n, Wv x.iv ∧ D x.f) (hD : n.Pairwise fun a b => Dj a.iv b.iv) : ∃ N, a7 n = (N, 0) ∧ NFL D n N := by
  obtain ⟨s1, s2⟩ := si (fun x hx => (hW x hx).1.1)
  have hs := qY (fun x hx => (hW x hx).1) hD s1 s2
  have hWs : ∀ x ∈ ae n, Wv x.iv ∧ D x.f := fun x hx => hW x (s1.mem_iff.1 hx)
  have e := oV s1.length_eq fun i h0 h1 => (apart_dj (fun x hx => (hW x hx).1) s1 s2).2 hD i h0 (by rw [s1.length_eq]; exact h1)
  rw [oW, sE] at e
  have hsem := sem_loop (eqf := cM) (red := aJ) h.ru (fun a b => (l9 a b).1) hWs hs
  have hl := len_le (eqf := cM) (same := bC) (red := aJ) (fun a b => (l9 a b).1) (fun x hx => (hWs x hx).1) (fun x hx t ht => h.ru.refl t ht _ (hWs x hx).2) _ [] rfl ⟨fun _ h => (by cases h), Nat.le_refl 0⟩
  rw [s1.length_eq] at hl
  refine ⟨_, e, hsem.1, hsem.2.1, ⟨fun t ht u hu hi => ?_, fun q u hu hi => ?_, fun t ht w hw hi => ?_, fun q w hw hi => ?_⟩, hl⟩
  · obtain ⟨w, a, b⟩ := hsem.2.2.s1 t ht u hu hi; exact ⟨w, s1.mem_iff.1 a, b⟩
  · obtain ⟨w, a, b⟩ := hsem.2.2.s2 q u hu hi; exact ⟨w, s1.mem_iff.1 a, b⟩
  · exact hsem.2.2.c1 t ht w (s1.mem_iff.2 hw) hi
  · exact hsem.2.2.c2 q w (s1.mem_iff.2 hw) hi
theorem Sml.app {n n' N N' : List (U Ln)} (h : Sml n N) (h' : Sml n' N') : Sml (n ++ n') (N ++ N') := by
  refine ⟨fun t ht u hu hi => ?_, fun q u hu hi => ?_, fun t ht u hu hi => ?_, fun q u hu hi => ?_⟩
  all_goals rcases List.mem_append.1 hu with hu | hu
  · obtain ⟨w, a, b⟩ := h.s1 t ht u hu hi; exact ⟨w, List.mem_append_left _ a, b⟩
  · obtain ⟨w, a, b⟩ := h'.s1 t ht u hu hi; exact ⟨w, List.mem_append_right _ a, b⟩
  · obtain ⟨w, a, b⟩ := h.s2 q u hu hi; exact ⟨w, List.mem_append_left _ a, b⟩
  · obtain ⟨w, a, b⟩ := h'.s2 q u hu hi; exact ⟨w, List.mem_append_right _ a, b⟩
  · obtain ⟨w, a, b⟩ := h.c1 t ht u hu hi; exact ⟨w, List.mem_append_left _ a, b⟩
  · obtain ⟨w, a, b⟩ := h'.c1 t ht u hu hi; exact ⟨w, List.mem_append_right _ a, b⟩
  · obtain ⟨w, a, b⟩ := h.c2 q u hu hi; exact ⟨w, List.mem_append_left _ a, b⟩
  · obtain ⟨w, a, b⟩ := h'.c2 q u hu hi; exact ⟨w, List.mem_append_right _ a, b⟩
def Plc (q : Nat) : Prop := (∃ t, Tm t ∧ q = 2 * tk t) ∨ ∃ k, q = 2 * k + 1
theorem Sml.place {n N : List (U Ln)} (h : Sml n N) {u : U Ln} (hu : u ∈ N) {q : Nat} (hq : Plc q) (hi : inU u.iv q) : ∃ w ∈ n, inU w.iv q := by
  rcases hq with ⟨t, ht, rfl⟩ | ⟨k, rfl⟩
  · obtain ⟨w, a, b, _⟩ := h.s1 t ht u hu hi; exact ⟨w, a, b⟩
  · obtain ⟨w, a, b, _⟩ := h.s2 k u hu hi; exact ⟨w, a, b⟩
theorem dj_plc {x y : Iv} (hx : Wv x) (hy : Wv y) (h : ∀ q, Plc q → ¬ (inU x q ∧ inU y q)) : Dj x y := by
  have a := hx.le
  have b := hy.le
  by_cases e : f7 x ≤ f7 y
  · left
    have := h (f7 y) (by rcases iF y with ⟨_, e⟩ | ⟨_, e⟩; exact .inl ⟨_, hy.1.1, e⟩; exact .inr ⟨_, e⟩)
    unfold inU at this
    omega
  · right
    have := h (f7 x) (by rcases iF x with ⟨_, e⟩ | ⟨_, e⟩; exact .inl ⟨_, hx.1.1, e⟩; exact .inr ⟨_, e⟩)
    unfold inU at this
    omega
theorem no_dj {x y : Iv} (h : Dj x y) (q : Nat) : ¬ (inU x q ∧ inU y q) := by
  unfold Dj at h; unfold inU
  omega
theorem NFl.dj {n : List (U Ln)} (h : NFl n) : n.Pairwise fun a b => Dj a.iv b.iv := h.ord.imp fun h => .inl h
end
end Go.Sx
namespace Go.Sx
open Go Go.RowKit Go.Proofs
instance yH9_1 : Bu Tryz.prog 55 [] [] (.agg #[]) := Bu.of bld55 rfl rfl
instance yH9_2 : Ie Tryz.prog 55 := ⟨fun hx => wk Tryz.runUnderlying55 rfl hx⟩
instance yH9_3 (x : Iv) (f : Qd) : Bu Tryz.prog 126 [0, 1] [vV x, vD f] (vUD (⟨x, f⟩ : U Qd)) := Bu.of pN rfl rfl
instance yH9_4 : Cf Tryz.prog 76 := ⟨Tryz.call76⟩
instance yH9_5 : Cf Tryz.prog 75 := ⟨Tryz.call75⟩
end Go.Sx
namespace Go.Sx
open Go Go.RowKit Go.Proofs Go.Sort Go.Lib
section
variable {P : Program} {α β : Type} [Inhabited α] [Cod β]
theorem pI (val : α → β) (d : Array α) : (flatK (fun x => Cod.enc (val x)) (Cod.n β) d).toList = flat (d.toList.map val) := by
  apply List.ext_getElem?
  intro t
  by_cases ht : t < d.size * Cod.n β
  · have hn : 0 < Cod.n β := Cod.pos
    have hi : t / Cod.n β < d.size := Nat.div_lt_of_lt_mul (by rw [Nat.mul_comm]; exact ht)
    have hm : t % Cod.n β < Cod.n β := Nat.mod_lt _ hn
    have e1 : (d.toList.map val)[t / Cod.n β]? = some (val d[t / Cod.n β]!) := by
      rw [List.getElem?_map, Array.getElem?_toList, Array.getElem?_eq_getElem hi, Option.map_some, getElem!_pos d _ hi]
    have e2 := qF e1 hm
    rw [show t / Cod.n β * Cod.n β + t % Cod.n β = t by rw [Nat.mul_comm]; exact Nat.div_add_mod t _] at e2
    have hs : t < (flatK (fun x => Cod.enc (val x)) (Cod.n β) d).size := by rw [size_flatK]; exact ht
    have hl : t % Cod.n β < (Cod.enc (val d[t / Cod.n β]!)).length := by rw [Cod.len]; exact hm
    rw [e2, Array.getElem?_toList, Array.getElem?_eq_getElem hs, ← getElem!_pos _ t hs, get_flatK _ _ _ _ ht, List.getElem?_eq_getElem hl]
    exact congrArg some (getElem!_pos (Cod.enc (val d[t / Cod.n β]!)) (t % Cod.n β) hl)
  · rw [List.getElem?_eq_none (by rw [Array.length_toList, size_flatK]; omega), List.getElem?_eq_none (by rw [bN, List.length_map, Array.length_toList]; omega)]
theorem vy (enc : α → List Value) (k : Nat) (w : World) (blk n : Nat) (d : Array α) (os : Array Obj) :
    (∀ j, j < w.heap.size → j ≠ blk → (sortWorldK enc k w blk 0 n d os).heap[j]? = w.heap[j]?) ∧
    (∀ cur e fr, w.heap[blk]? = some (.cells cur e fr) → (sortWorldK enc k w blk 0 n d os).heap[blk]? = some (.cells (putCells id 0 (flatK enc k d) cur) e fr)) ∧
    w.heap.size ≤ (sortWorldK enc k w blk 0 n d os).heap.size := by
  have hh : (sortWorldK enc k w blk 0 n d os).heap = (w.heap.modify blk (onCells (putCells id 0 (flatK enc k d)))) ++ os := rfl
  have hz : (w.heap.modify blk (onCells (putCells id 0 (flatK enc k d)))).size = w.heap.size := by simp
  refine ⟨fun j hj hne => ?_, fun cur e fr hc => ?_, ?_⟩
  · rw [hh, Array.getElem?_append_left (by rw [hz]; exact hj), Array.getElem?_modify, if_neg (fun e => hne e.symm)]
  · have hlt : blk < w.heap.size := (Array.getElem?_eq_some_iff.1 hc).1
    rw [hh, Array.getElem?_append_left (by rw [hz]; exact hlt), Array.getElem?_modify, if_pos rfl, hc]; rfl
  · rw [hh, Array.size_append, hz]; omega
theorem put_take (F cur : Array Value) (h : F.size ≤ cur.size) : (putCells id 0 F cur).toList.take F.size = F.toList := by
  apply List.ext_getElem?
  intro t
  by_cases ht : t < F.size
  · rw [List.getElem?_take_of_lt ht, Array.getElem?_toList, Array.getElem?_toList]
    unfold putCells
    rw [Array.getElem?_mapIdx, Array.getElem?_eq_getElem (by omega : t < cur.size), Option.map_some, if_pos ⟨Nat.zero_le _, by omega⟩, Array.getElem?_eq_getElem ht, Nat.sub_zero]
    show some F[t]! = _
    rw [getElem!_pos F t ht]
  · rw [List.getElem?_eq_none (by rw [List.length_take]; omega), List.getElem?_eq_none (by rw [Array.length_toList]; omega)]
theorem sort_own {val : α → β} {e : TypeId} {sv : Value} {d D' : Array α} {F : FuncId} {more : List Value} {w0 w : World} {B : Asn} {p : Prop} (hd0 : 0 < d.size) (hD : D'.size = d.size) (hp : p)
    (hbel : Below w0.heap.size w0 w) (hsep : ∃ U, Sep w0.heap.size w [Asn.row (α := β) e sv (d.toList.map val), B] U)
    (hC : ∀ blk cap, sv = .slice (some ⟨blk, 0, none⟩) d.size cap → HoldsK (fun x => Cod.enc (val x)) (Cod.n β) w blk 0 d → blk < w.heap.size → w0.heap.size ≤ blk →
      Calls P F (sv :: more).toArray w fun r w' => r = .returned (.tuple #[]) ∧ ∃ n os, w' = sortWorldK (fun x => Cod.enc (val x)) (Cod.n β) w blk 0 n D' os) :
    Calls P F (sv :: more).toArray w (RetY w0 (fun v => v = .tuple #[] ∧ p) (fun _ => [Asn.row (α := β) e sv (D'.toList.map val), B])) := by
  obtain ⟨U, f, V, hU, hdis, hlt, ⟨hown, hf⟩, hB⟩ := hsep
  have hl1 : (d.toList.map val).length = d.size := by rw [List.length_map, Array.length_toList]
  have hl2 : (D'.toList.map val).length = d.size := by rw [List.length_map, Array.length_toList, hD]
  rcases hown.2 with ⟨_, h0⟩ | ⟨blk, cap, cur, hv, _, hg, hcap, hmx, hcs, htk⟩
  · omega
  rw [hl1] at hv hcap htk
  have hfb : f blk := (hf blk).2 (by rw [hv]; rfl)
  obtain ⟨hlo, hhi⟩ := hlt blk hfb
  have hcur : d.size * Cod.n β ≤ cur.size := by rw [hcs]; exact Nat.mul_le_mul_right _ hcap
  have hH : HoldsK (fun x => Cod.enc (val x)) (Cod.n β) w blk 0 d := by
    intro j hj
    have hj' : j < d.size * Cod.n β := by rw [← size_flatK (fun x => Cod.enc (val x)) (Cod.n β) d]; exact hj
    refine ⟨?_, ?_⟩
    · have h1 : cur[j]? = some (flatK (fun x => Cod.enc (val x)) (Cod.n β) d)[j]! := by
        have h2 : (cur.toList.take (d.size * Cod.n β))[j]? = (flat (d.toList.map val))[j]? := by rw [htk]
        rw [List.getElem?_take_of_lt hj', Array.getElem?_toList, ← pI, Array.getElem?_toList, Array.getElem?_eq_getElem hj] at h2
        rw [h2, getElem!_pos _ j hj]
      unfold World.cell?
      rw [hg, Nat.zero_add]
      exact h1
    · unfold World.frozen?
      rw [hg]
      simp
  refine (hC blk cap hv hH hhi hlo).mono fun r w' ⟨hr, n, os, hw⟩ => ?_
  subst hw
  obtain ⟨g1, g2, g3⟩ := vy (fun x => Cod.enc (val x)) (Cod.n β) w blk n D' os
  refine ⟨.tuple #[], hr, ⟨rfl, hp⟩, ⟨hbel.os, hbel.tape, hbel.output, Nat.le_trans hbel.size g3, fun k hk => ?_, Nat.le_trans hbel.drawn (Nat.le_add_right _ _)⟩, U, f, V, hU, hdis, fun k hk => ⟨(hlt k hk).1, Nat.lt_of_lt_of_le (hlt k hk).2 g3⟩, ⟨⟨bN _, .inr ⟨blk, cap, _, ?_, Nat.zero_le _, g2 cur e (0, 0) hg, ?_, hmx, ?_, ?_⟩⟩, hf⟩, hB.keep g3 fun k hk => ?_⟩
  · rw [g1 k (Nat.lt_of_lt_of_le hk hbel.size) (by omega)]
    exact hbel.block k hk
  · rw [hl2]; exact hv
  · rw [hl2]; exact hcap
  · unfold putCells; rw [Array.size_mapIdx]; exact hcs
  · have hF : (flatK (fun x => Cod.enc (val x)) (Cod.n β) D').size = d.size * Cod.n β := by rw [size_flatK, hD]
    rw [hl2, ← hF, put_take _ _ (by rw [hF]; exact hcur), pI]
  · exact g1 k ((hB.range k hk).2) fun ek => hdis blk hfb (ek ▸ hk)
theorem lays_of {val : α → β} {g : Nat} {cf : α → α → Int} {blk size : Nat} {w : World} {p : α → α → Prop}
    (ct : ∀ x y w, Calls P g #[.agg (Cod.enc (val x)).toArray, .agg (Cod.enc (val y)).toArray] w (dI w (.int .i64 (cf x y)) (p x y))) : CmpLays P g #[] (fun x => Cod.enc (val x)) (Cod.n β) cf blk 0 size w := by
  intro m os dk _ x y
  refine (ct x y (sortWorldK (fun x => Cod.enc (val x)) (Cod.n β) w blk 0 m dk os)).mono fun r w' ⟨hr, _, hb⟩ => ⟨hr, ?_⟩
  generalize sortWorldK (fun x => Cod.enc (val x)) (Cod.n β) w blk 0 m dk os = W at *
  refine ⟨w'.drawn - W.drawn, w'.heap.extract W.heap.size w'.heap.size, ?_⟩
  have hheap : w'.heap = W.heap ++ w'.heap.extract W.heap.size w'.heap.size := by
    apply Array.ext_getElem?
    intro k
    by_cases hk : k < W.heap.size
    · rw [Array.getElem?_append_left hk, hb.block k hk]
    · rw [Array.getElem?_append_right (by omega), Array.getElem?_extract]
      by_cases hk2 : k < w'.heap.size
      · rw [if_pos (by have := hb.size; omega), show W.heap.size + (k - W.heap.size) = k by omega]
      · rw [if_neg (by omega), Array.getElem?_eq_none (by omega)]
  have hd : w'.drawn = W.drawn + (w'.drawn - W.drawn) := by have := hb.drawn; omega
  have hR : grow (W.drewN (w'.drawn - W.drawn)) (w'.heap.extract W.heap.size w'.heap.size) = (⟨W.heap ++ w'.heap.extract W.heap.size w'.heap.size, W.tape, W.drawn + (w'.drawn - W.drawn), W.os, W.output⟩ : World) := rfl
  rw [hR, ← hheap, ← hd, ← hb.os, ← hb.tape, ← hb.output]
end
end Go.Sx
namespace Go.Sx
open Go Go.RowKit
theorem ls {v : Value} (h : oR v) : v.cells.toList = [v] := by obtain ⟨_, _, _, rfl⟩ := h; rfl
theorem qB {v : Value} (h : oR v) : ([v].all Value.oneCell') = true := by obtain ⟨_, _, _, rfl⟩ := h; rfl
theorem NN.isl {v : Value} {n : Nat} (h : NN v n) : oR v := h.sl.is
section
variable {P : Program} {w0 : World} {F : List (Nat × Value)}
end
end Go.Sx
namespace Go.Sx
open Go Go.RowKit
section
variable {P : Program} {w0 : World} {F : List (Nat × Value)}
theorem tW {g off n c k0 m : Nat} (h : k0 < c) : dropv (.slice (some ⟨g, off, none⟩) n c) k0 m = .slice (some ⟨g, off + k0 * m, none⟩) (n - k0) (c - k0) := by
  unfold dropv
  simp only
  rw [if_neg (by omega)]; simp [Addr.add]
theorem zc_one {z : Array Value} {n : Nat} (hz : ∀ c ∈ z.toList, c.oneCell' = true) : ∀ c ∈ (Builtin.zeroCells z n).toList, c.oneCell' = true := fun c hc => by
  unfold Builtin.zeroCells at hc
  simp only [Array.toList_map, Array.toList_range, List.mem_map, List.mem_range] at hc
  obtain ⟨i, hi, rfl⟩ := hc
  have h0 : 0 < z.size := by
    rcases Nat.eq_zero_or_pos z.size with h | h
    · rw [h, Nat.mul_zero] at hi; omega
    · exact h
  have hlt := Nat.mod_lt i h0
  refine hz _ ?_
  rw [getElem!_pos z (i % z.size) hlt]
  simp
theorem zc_len {z : Array Value} {n : Nat} : (Builtin.zeroCells z n).toList.length = n * z.size := by
  unfold Builtin.zeroCells; simp
theorem uy {t e ty : TypeId} {z : Value} {g n c k m : Nat} {cur : Array Value} {te : TypeId} {w : World} (hu : ∀ w, (underlying t).run P w = .ok (.slice e) w) (hz : ∀ w, (zeroValue e).run P w = .ok z w) (hzs : z.cells.size = m) (hz1 : ∀ c ∈ z.cells.toList, c.oneCell' = true)
    (hh : w.heap[g]? = some (.cells cur te (0, 0))) (hk : k < n) (hnc : n ≤ c) (hcs : cur.size = c * m) :
    ∃ cs : List Value, cs.length = cur.size ∧ cs.take (k * m) = cur.toList.take (k * m) ∧ (Builtin.clear_ #[t] ty #[.slice (some ⟨g, 0 + k * m, none⟩) (n - k) (c - k)]).run P w = .ok (.tuple #[]) (w.setRow g cs.toArray) := by
  have hlen : (Builtin.zeroCells z.cells (n - k)).toList.length = (n - k) * m := by rw [zc_len, hzs]
  have hle : k * m + (n - k) * m ≤ cur.size := by
    rw [hcs, ← Nat.add_mul]; exact Nat.mul_le_mul_right _ (by omega)
  have hst := run_storeCells_at (P := P) g (0 + k * m) te (Builtin.zeroCells z.cells (n - k)).toList 0 cur w hh (by rw [hlen]; omega) (zc_one hz1)
  simp only [Nat.zero_add, Nat.add_zero] at hst ⊢
  refine ⟨cur.toList.take (k * m) ++ (Builtin.zeroCells z.cells (n - k)).toList ++ cur.toList.drop (k * m + (Builtin.zeroCells z.cells (n - k)).toList.length), ?_, ?_, ?_⟩
  · simp only [List.length_append, List.length_take, List.length_drop, Array.length_toList, hlen]; omega
  · rw [List.append_assoc, List.take_append_of_le_length (by rw [List.length_take, Array.length_toList]; omega), List.take_take, Nat.min_self]
  · obtain ⟨q, hq⟩ : ∃ q, n - k = q + 1 := ⟨n - k - 1, by omega⟩
    rw [hq] at hst ⊢
    simp [Builtin.clear_, hu w, hz w, hst]
theorem s_clear {α : Type} [Cod α] {t e te : TypeId} {z : Value} {x : Operand} {sv : Value} {xs : List α} {k : Nat} (hu : ∀ w, (underlying t).run P w = .ok (.slice e) w) (hz : ∀ w, (zeroValue e).run P w = .ok z w) (hzs : z.cells.size = Cod.n α) (hz1 : z.cells.toList.all Value.oneCell' = true)
    (hx : ev F x = some (dropv sv k (Cod.n α))) (hk : k ≤ xs.length) (h0 : 0 < xs.length) :
    Step P w0 F [Asn.row te sv xs] (.call ⟨.builtin .clear, #[x], #[t]⟩) (fun _ => True) (fun _ => [Asn.row te (ph sv k) (xs.take k)]) := by
  intro o a w U K Q ho ha hb hs k'
  obtain ⟨f, V, hU, hd, hlt, ⟨hown, hf1⟩, hV⟩ := hs
  have hx' := ha x _ hx
  unfold Oper.wp
  have hcut := sF (α := α) hown hk
  have hob : (ph sv k).ownBlock = sv.ownBlock := cutv_own (uD hown)
  obtain ⟨hlen, ⟨_, h1⟩ | ⟨g, cap, cur, rfl, hbg, hh, hcap, hcm, hcs, htk⟩⟩ := hown
  · omega
  · by_cases hkn : k = xs.length
    · have hrun : (execOp a.eval o).run P w = .ok (.value (.tuple #[])) w := by
        by_cases hc : cap = k
        · simp [execOp, ho, resolve, invoke, builtin, hx', dropv, hc, Builtin.clear_, hu w, hkn]
        · rw [tW (by omega)] at hx'
          simp [execOp, ho, resolve, invoke, builtin, hx', Builtin.clear_, hu w, hkn]
      rw [hrun]
      exact k' _ _ U trivial ⟨rfl, rfl, rfl, fun _ h _ => h, fun _ _ _ => rfl, fun _ => .inl, fun h => h⟩ ⟨f, V, hU, hd, hlt, ⟨hcut, fun q => by rw [hob]; exact hf1 q⟩, hV⟩
    · rw [tW (by omega)] at hx'
      obtain ⟨cs, c1, c2, c3⟩ := uy (P := P) (ty := o.type) (k := k) hu hz hzs (List.all_eq_true.1 hz1) hh (by omega : k < xs.length) hcap hcs
      have hrun : (execOp a.eval o).run P w = .ok (.value (.tuple #[])) (w.setRow g cs.toArray) := by
        simp only [Nat.zero_add] at c3
        simp [execOp, ho, resolve, invoke, builtin, hx', c3]
      rw [hrun]
      have hl : (xs.take k).length = k := by rw [List.length_take]; omega
      refine k' _ _ U trivial (jX ((hU g).2 (.inl ((hf1 g).2 rfl)))) ⟨f, V, hU, hd, fun q hq => by simpa using hlt q hq, ⟨⟨by rw [bN], .inr ⟨g, cap, cs.toArray, by rw [hl]; rfl, hbg, setRow_heap w g _ _ _ _ hh, by omega, hcm, by simpa [c1] using hcs, ?_⟩⟩, fun q => by rw [hob]; exact hf1 q⟩, ?_⟩
      · rw [hl, List.toList_toArray, c2, ot hk, ← htk, List.take_take, Nat.min_eq_left (Nat.mul_le_mul_right _ hk)]
      · exact hV.moved fun q hq => setRow_other w g q _ fun e => hd g ((hf1 g).2 rfl) (e ▸ hq)
variable {N : Nat} {L : List Asn} {a : Act} {w : World} {ops : Array Oper} {Q : Exit → Act → World → Prop} {rest : List Oper} {op : Op} {ty : TypeId} {pos : String} {aft : Array Edge}
theorem upT (h : St w0 N F L a w) (i : Nat) {r r' : Asn} {φ : Value → Prop} (hi : L[i]? = some r) (hs : Step P w0 F [r] op φ (fun _ => [r'])) (k : ∀ a w, St w0 N F (L.set i r') a w → wpList P ops Q rest a w) :
    wpList P ops Q (⟨none, op, ty, pos, aft, none⟩ :: rest) a w :=
  wpList_plain rfl fun _ hK => by
    obtain ⟨B, hp, hp'⟩ := eS r' hi
    exact h.gen (A := [r]) hp hs _ rfl fun v _ U hv hb hs' => hK _ _ (k _ _ ⟨h.size, h.defers, h.regs, hb, U, hs'.perm hp'⟩)
end
end Go.Sx
namespace Go.Sx
open Go Go.RowKit
def Asn.obj (b : Nat) (o : Obj) : Asn := ⟨fun w f => (∀ k, f k ↔ k = b) ∧ w.heap[b]? = some o, fun h ⟨h1, h2⟩ => ⟨h1, by rw [h _ ((h1 _).2 rfl)]; exact h2⟩⟩
section
variable {P : Program} {w0 : World} {N : Nat} {F : List (Nat × Value)} {L : List Asn} {a : Act} {w : World} {ops : Array Oper} {Q : Exit → Act → World → Prop} {rest : List Oper}
theorem ri {lo b : Nat} {o : Obj} {U : Fp} (h : Sep lo w (.obj b o :: L) U) : w.heap[b]? = some o ∧ lo ≤ b ∧ b < w.heap.size := by
  obtain ⟨f, V, _, _, hf, ⟨h1, h2⟩, _⟩ := h
  exact ⟨h2, hf b ((h1 b).2 rfl)⟩
theorem qi {lo b : Nat} {o o' : Obj} {U : Fp} (h : Sep lo w (.obj b o :: L) U) : Sep lo (w.putObj b o') (.obj b o' :: L) U := by
  obtain ⟨f, V, hU, hd, hf, ⟨h1, h2⟩, hs⟩ := h
  refine ⟨f, V, hU, hd, fun k hk => ⟨(hf k hk).1, by rw [World.putObj_size]; exact (hf k hk).2⟩, ⟨h1, World.putObj_heap_same (hf b ((h1 b).2 rfl)).2⟩, hs.keep (by simp) fun k hk => World.putObj_heap_other fun e => hd k ((h1 k).2 e) hk⟩
theorem mI {b : Nat} {o' : Obj} (h : Below w0.heap.size w0 w) (hb : w0.heap.size ≤ b) : Below w0.heap.size w0 (w.putObj b o') :=
  ⟨h.os, h.tape, h.output, by rw [World.putObj_size]; exact h.size, fun k hk => by rw [World.putObj_heap_other (by omega)]; exact h.block k hk, h.drawn⟩
theorem rj {lo : Nat} {U : Fp} (hlo : lo ≤ w.heap.size) (o : Obj) (h : Sep lo w L U) : Sep lo (w.alloc o) (.obj w.heap.size o :: L) (fun k => k = w.heap.size ∨ U k) :=
  ⟨fun k => k = w.heap.size, U, fun _ => Iff.rfl, fun k hk hu => by have := (h.range k hu).2; omega, fun k hk => by subst hk; exact ⟨hlo, by simp⟩, ⟨fun _ => Iff.rfl, World.alloc_heap_new w o⟩,
    h.keep (by simp) fun k hk => by
      have := (h.range k hk).2
      show (w.heap.push o)[k]? = _
      rw [Array.getElem?_push_lt this]; exact (Array.getElem?_eq_getElem this).symm⟩
theorem oJ (o : Obj) (h : Below w0.heap.size w0 w) : Below w0.heap.size w0 (w.alloc o) :=
  ⟨h.os, h.tape, h.output, by rw [World.size_alloc]; have := h.size; omega, fun k hk => by
    have := h.size
    rw [← h.block k hk]
    show (w.heap.push o)[k]? = _
    rw [Array.getElem?_push_lt (by omega)]; exact (Array.getElem?_eq_getElem (by omega)).symm, h.drawn⟩
def Rnd (P : Program) (w0 : World) (l : Nat) (args : Array Value) (J J' : Asn) : Prop :=
  ∀ w B, Below w0.heap.size w0 w → (∃ U, Sep w0.heap.size w [J, B] U) → YieldAt' P l args w fun e w' => e = .returned (.bool true) ∧ Below w0.heap.size w0 w' ∧ ∃ U, Sep w0.heap.size w' [J', B] U
where YieldAt' (P : Program) (l : Nat) (args : Array Value) (W : World) (R : Ending → World → Prop) : Prop :=
  ∃ fn tmps assign body, (Instr.yield l args).run P W = .ok (.round l fn tmps assign body) W ∧ RoundIn Fence.wide 0 P l fn tmps assign body W R
theorem qc {l : Nat} {x : Operand} {args : Array Operand} {ats : Array TypeId} {vs : List Value} {r : Result Next} (hx : ev F x = some (.func (.yield l) #[] #[])) (ha : evs F args.toList = some vs) {o : Oper} (ho : o.op = .call ⟨.value x, args, ats⟩) (hg : Agr F a) (w : World)
    (hr : (Instr.yield l vs.toArray).run P w = r) : (execOp a.eval o).run P w = r := by
  have hm : args.map a.eval = vs.toArray := by
    have := hg.evs ha
    rw [← this, ← Array.toList_map, Array.toArray_toList]
  simp [execOp, ho, resolve, Deferred.ofValue, hm, hg x _ hx, invoke, hr]
def StepBY (P : Program) (w0 : World) (F : List (Nat × Value)) (L : List Asn) (op : Op) (φ : Value → Prop) (L' : Value → List Asn) : Prop :=
  ∀ (o : Oper) (a : Act) (w : World) (B : Asn) (K : Act → World → Prop) (Q : Exit → Act → World → Prop), o.op = op → Agr F a → Below w0.heap.size w0 w → (∃ U, Sep w0.heap.size w (L ++ [B]) U) →
    (∀ v w', φ v → Below w0.heap.size w0 w' → (∃ U', Sep w0.heap.size w' (L' v ++ [B]) U') → K (a.put o.dst v) w') → Oper.wpY P o a w K Q
theorem StepBY.step {φ : Value → Prop} {op : Op} {L' : Value → List Asn} (h : StepBY P w0 F L op φ L') : tj P w0 F L op φ L' := by
  intro o a w U K Q ho ha hb hs k
  have hB : Sep w0.heap.size w [Asn.others w0.heap.size w U] (fun k => w0.heap.size ≤ k ∧ k < w.heap.size ∧ ¬ U k) :=
    ⟨fun k => w0.heap.size ≤ k ∧ k < w.heap.size ∧ ¬ U k, fun _ => False, fun k => by simp, fun _ _ => id, fun k hk => ⟨hk.1, hk.2.1⟩, ⟨fun _ => Iff.rfl, fun _ _ => rfl⟩, fun _ => id⟩
  refine h o a w _ K Q ho ha hb ⟨_, hs.append hB fun k hk hn => hn.2.2 hk⟩ fun v w' hv hb' ⟨U', hU'⟩ => ?_
  obtain ⟨V, W, hV, hW, hVW, _⟩ := hU'.split
  obtain ⟨f, X, hWf, _, hfr, ⟨hf, hfe⟩, hX⟩ := hW
  have hWk : ∀ k, w0.heap.size ≤ k → k < w.heap.size → ¬ U k → W k := fun k h1 h2 h3 => (hWf k).2 (.inl ((hf k).2 ⟨h1, h2, h3⟩))
  refine k v w' V hv ⟨hb'.os.trans hb.os.symm, hb'.tape.trans hb.tape.symm, hb'.output.trans hb.output.symm, fun n hn hU => ?_, fun k hk hu => ?_, fun k hk => ?_, fun _ => hb'.drawn⟩ hV
  · rcases Nat.lt_or_ge w0.heap.size n with hlt | hge
    · have h1 : f (n - 1) := (hf _).2 ⟨by omega, by omega, fun hu => by have := hU _ hu; omega⟩
      have := (hfr _ h1).2
      omega
    · exact Nat.le_trans hge hb'.size
  · rcases Nat.lt_or_ge k w0.heap.size with hlt | hge
    · rw [hb'.block k hlt, hb.block k hlt]
    · exact hfe k ((hf k).2 ⟨hge, hk, hu⟩)
  · rcases Nat.lt_or_ge k w.heap.size with hlt | hge
    · refine .inl (Classical.byContradiction fun hu => hVW k hk (hWk k (hV.range k hk).1 hlt hu))
    · exact .inr hge
theorem y_yield {l : Nat} {x : Operand} {args : Array Operand} {ats : Array TypeId} {vs : List Value} {J J' : Asn} (hx : ev F x = some (.func (.yield l) #[] #[])) (ha : evs F args.toList = some vs) (hY : Rnd P w0 l vs.toArray J J') :
    tj P w0 F [J] (.call ⟨.value x, args, ats⟩) (· = .bool true) (fun _ => [J']) :=
  StepBY.step fun o a w B K Q ho hg hb hs k => by
    obtain ⟨f, ts, b, c, hr, hc⟩ := hY w B hb hs
    refine .inr ⟨l, f, ts, b, c, qc hx ha ho hg w hr, RoundIn.mono hc ?_⟩
    rintro e w' ⟨rfl, hb', hs'⟩
    exact ⟨_, rfl, k _ w' rfl hb' hs'⟩
theorem ob_yu {H : List Hist} {i : Nat} {ξ : Nat → Value} {G : (Nat → Value) → List (Nat × Value)} {op : Op} {ty : TypeId} {pos : String} {aft : Array Edge} {dst : Option Tmp} {acc : List Nat} {ol : List Oper} {v : Value} (A A' : List Asn) (hA : dx H acc i ξ = A) (hA' : dx H acc (i + 1) (upd ξ i v) = A') (h : tj P w0 (gF (G ξ) (eQ op)) A op (· = v) (fun _ => A')) : ObS P w0 ol H G ξ i ⟨dst, op, ty, pos, aft, none⟩ ⟨.det v, acc⟩ := by
  intro o a w U K Q ho ha hb hs k
  have hs1 : Sep w0.heap.size w (dx H acc i ξ) U := hs
  rw [hA] at hs1
  refine h o a w U K Q ho ha hb hs1 fun v' w' U' hv hm hs' => ?_
  subst hv
  refine k _ w' U' (bD _ _ _) hm ?_
  show Sep w0.heap.size w' (dx H acc (i + 1) (upd ξ i v')) U'
  rw [hA']
  exact hs'
theorem sO {ro : Option Nat} {n : Nat} (hQ : ∀ a w, ¬ Q .outgrown a w) : ∀ {l : List Oper} {a : Act} {w : World}, rk l = true → wpList P ops Q l a w → wpListIn (rf ro) n P ops Q l a w
  | [], _, _, _, h => h
  | o :: l, a, w, hn, h => by
    have hn' : rk l = true := by unfold rk at hn ⊢; rw [List.all_cons, Bool.and_eq_true] at hn; exact hn.2
    have mono : ∀ {K K' : Act → World → Prop}, (∀ a w, K a w → K' a w) → o.wpIn (rf ro) n P a w K Q → o.wpIn (rf ro) n P a w K' Q := fun hk hh => Oper.wpIn_mono hk hh
    unfold wpList at h
    unfold wpListIn
    split
    · rename_i hw
      rw [if_pos hw] at h
      rcases h with h | ⟨_, h⟩
      · exact mono (fun a w h => sO hQ hn' h) (op_in (.inr (tM hn (List.mem_cons_self ..))) (.inl h))
      · obtain ⟨a', w', h⟩ := h
        exact absurd h (hQ a' w')
    · rename_i hw
      rw [if_neg hw] at h
      exact ⟨fun _ _ => trivial, sO hQ hn' h⟩
theorem v8 {ro : Option Nat} {n : Nat} {id : Nat} {l : List Oper} (hQ : ∀ a w, ¬ Q .outgrown a w) (hn : rk l = true) (h : wpList P l.toArray Q l a w) : (Code.region id l.toArray false).wpIn (rf ro) n P Q a w :=
  wpIn_region_lit (sO hQ hn h)
theorem seq_in {ro : Option Nat} {n : Nat} {x y : Code} (M : Act → World → Prop) (h : x.wpIn (rf ro) n P (Exit.then M Q) a w) (k : ∀ a w, M a w → y.wpIn (rf ro) n P Q a w) : (Code.seq x y).wpIn (rf ro) n P Q a w := by
  refine wpIn_seq (wpIn_mono h fun e a w he => ?_)
  cases e <;> first | exact k _ _ he | exact he
def Asn.ex (A : Value → Asn) : Asn := ⟨fun w f => ∃ v, (A v).sem w f, fun h ⟨v, hv⟩ => ⟨v, (A v).loc h hv⟩⟩
def JE (lo : Nat) (l : Nat) (r : Loop) (A : Value → List Asn) : Asn := .ex fun v => .all lo (.obj l (.loop r) :: A v)
theorem je_open {lo l : Nat} {r : Loop} {A : Value → List Asn} {B : Asn} (h : ∃ U, Sep lo w [JE lo l r A, B] U) : ∃ v U, Sep lo w (.obj l (.loop r) :: (A v ++ [B])) U := by
  obtain ⟨U, f, V, hU, hd, hf, ⟨v, hv⟩, hs⟩ := h
  have hv : Sep lo w (.obj l (.loop r) :: A v) f := hv
  exact ⟨v, _, hv.append hs hd⟩
theorem je_close {lo l : Nat} {r : Loop} {A : Value → List Asn} {B : Asn} {v : Value} {U : Fp} (h : Sep lo w (.obj l (.loop r) :: (A v ++ [B])) U) : ∃ U, Sep lo w [JE lo l r A, B] U := by
  obtain ⟨V, W, hV, hW, hVW, hU⟩ := Sep.split (A := .obj l (.loop r) :: A v) h
  exact ⟨U, V, W, hU, hVW, hV.range, ⟨v, hV⟩, hW⟩
theorem rnd {l fn D : Nat} {args tmps : Array Value} {ps : Array Tmp} {asg body : Code} {A A' : Value → List Asn} {F0 : List (Nat × Value)} (hps : args.size = ps.size)
    (hz : ((ps.zip args).foldl (fun tmps (t, a) => tmps.setIfInBounds t a) tmps).size = N)
    (hF : ∀ t v, look F0 t = some v → ((ps.zip args).foldl (fun tmps (t, a) => tmps.setIfInBounds t a) tmps)[t]? = some v)
    (M : Value → List (Nat × Value) → List Asn → Prop)
    (ha : ∀ v a w Y1 Y2, St w0 N F0 (A v ++ [Y1, Y2]) a w → asg.wpIn (rf (some l)) 0 P (Exit.then (fun a w => ∃ F1 X, M v F1 X ∧ St w0 N F1 (X ++ [Y1, Y2]) a w) fun _ _ _ => False) a w)
    (hb : ∀ v F1 X, M v F1 X → ∀ a w Y1 Y2, St w0 N F1 (X ++ [Y1, Y2]) a w → body.wpIn (rf (some l)) 0 P (fun e _ w => e = .normal ∧ Below w0.heap.size w0 w ∧ ∃ v' Y U, Sep w0.heap.size w (A' v' ++ [Y1, Y2] ++ Y) U) a w) :
    Rnd P w0 l args (JE w0.heap.size l { state := .ready, pending := none, fn, tmps, params := ps, assign := asg, body, defers := D } A) (JE w0.heap.size l { state := .ready, pending := none, fn, tmps, params := ps, assign := asg, body, defers := D } A') := by
  intro w B hB hs
  obtain ⟨v, U, hU⟩ := je_open hs
  obtain ⟨hl, hlo, hhi⟩ := ri hU
  refine ⟨fn, _, asg, body, run_yield (P := P) (args := args) hl hps, roundIn_of_wpIn (F := Fence.wide) trivial ?_⟩
  have st : St w0 N F0 (A v ++ [.obj l (.loop { state := .ready, pending := none, fn, tmps, params := ps, assign := asg, body, defers := D }), B]) { tmps := (ps.zip args).foldl (fun tmps (t, a) => tmps.setIfInBounds t a) tmps, defers := [] } w :=
    ⟨hz, rfl, hF, hB, U, hU.perm (by
      have : (Asn.obj l (.loop { state := .ready, pending := none, fn, tmps, params := ps, assign := asg, body, defers := D }) :: (A v ++ [B])).Perm (A v ++ Asn.obj l (.loop { state := .ready, pending := none, fn, tmps, params := ps, assign := asg, body, defers := D }) :: [B]) := List.perm_middle.symm
      exact this)⟩
  refine wpIn_mono (ha v _ _ _ _ st) fun e a w he => ?_
  cases e with
  | normal =>
    obtain ⟨F1, X, hM, h⟩ := he
    obtain ⟨U1, hU1⟩ := h.sep
    have hU1 := hU1.perm (List.perm_middle (l₁ := X) (l₂ := [B]))
    obtain ⟨hl1, hlo1, _⟩ := ri hU1
    refine ⟨_, run_beginRound hl1 rfl, ?_⟩
    have hU2 := qi (o' := .loop { state := .busy, pending := none, fn, tmps, params := ps, assign := asg, body, defers := D }) hU1
    refine wpIn_mono (hb v F1 X hM a _ (.obj l (.loop { state := .busy, pending := none, fn, tmps, params := ps, assign := asg, body, defers := D })) B ⟨h.size, h.defers, h.regs, mI h.bel hlo1, _, hU2.perm (List.perm_middle (l₁ := X) (l₂ := [B])).symm⟩) fun e a w he => ?_
    obtain ⟨rfl, hB3, v', Y, U3, hU3⟩ := he
    have hU3 := hU3.perm (show (A' v' ++ [Asn.obj l (.loop { state := .busy, pending := none, fn, tmps, params := ps, assign := asg, body, defers := D }), B] ++ Y).Perm (Asn.obj l (.loop { state := .busy, pending := none, fn, tmps, params := ps, assign := asg, body, defers := D }) :: (A' v' ++ [B]) ++ Y) by
      refine List.Perm.append_right _ ?_
      exact List.perm_middle)
    obtain ⟨V, W, hV, _, _, _⟩ := hU3.split
    obtain ⟨hl3, hlo3, _⟩ := ri hV
    refine ⟨_, _, run_endRound none hl3, rfl, mI hB3 hlo3, je_close (qi (o' := .loop { state := .ready, pending := none, fn, tmps, params := ps, assign := asg, body, defers := D }) hV)⟩
  | _ => exact he.elim
theorem fold2 (p q : Nat) (x y : Value) (t : Array Value) : ((#[p, q].zip [x, y].toArray).foldl (fun tmps (t, a) => tmps.setIfInBounds t a) t) = (t.setIfInBounds p x).setIfInBounds q y := by simp
def nd (a : Act) : Act := { a with defers := [] }
theorem c_range {g : Operand} {ps : Array Tmp} {asg body : Code} {gf : FuncId} {lb : Array Value} {A : Nat → Value → List Asn} {v0 : Value} {R : List Asn} {args : Nat → Array Value} (n : Nat) (h : St w0 N F L a w)
    (hg : ev F g = some (.func (.func gf) #[] lb)) (eg : ∀ args w, (callFunc gf args).run P w = .ok (.enter gf args) w) (hL : L.Perm (A 0 v0 ++ R))
    (hit : ∀ (lr : Nat) (r : Loop) (w : World) (B : Asn), Below w0.heap.size w0 w → (∃ U, Sep w0.heap.size w (JE w0.heap.size lr r (A 0) :: (R ++ [B])) U) → (∀ k, k < n → Rnd P w0 lr (args k) (JE w0.heap.size lr r (A k)) (JE w0.heap.size lr r (A (k + 1)))) →
      Calls P gf (#[.func (.yield lr) #[] #[]] ++ lb) w (RetY w0 (fun _ => True) fun _ => JE w0.heap.size lr r (A n) :: (R ++ [B])))
    (hrnd : ∀ lr fn D k, k < n → Rnd P w0 lr (args k) (JE w0.heap.size lr { state := .ready, pending := none, fn, tmps := a.tmps, params := ps, assign := asg, body, defers := D } (A k)) (JE w0.heap.size lr { state := .ready, pending := none, fn, tmps := a.tmps, params := ps, assign := asg, body, defers := D } (A (k + 1))))
    (k : ∀ a' w' D v Y, a'.defers = [{ target := .collected D, args := #[] }] → St w0 N F (.obj D (.deferred (some [])) :: (A n v ++ R ++ Y)) (nd a') w' → Q .normal a' w') : (Code.rangeFunc g ps asg body).wp P Q a w := by
  refine wpIn_wide (n := 0).1 (wpIn_rangeFunc fun fn hfn => ?_)
  obtain ⟨U, hU⟩ := h.sep
  have hU := hU.perm hL
  have hsz := h.bel.size
  have s1 := rj hsz (.deferred (some [])) hU
  have b1 := oJ (.deferred (some [])) h.bel
  have s2 := rj (w := w.alloc (.deferred (some []))) (by rw [World.size_alloc]; omega) (.loop { state := .ready, pending := none, fn, tmps := a.tmps, params := ps, assign := asg, body, defers := w.heap.size }) s1
  have b2 := oJ (.loop { state := .ready, pending := none, fn, tmps := a.tmps, params := ps, assign := asg, body, defers := w.heap.size }) b1
  rw [World.size_alloc] at s2
  have hev : a.eval g = .func (.func gf) #[] lb := h.agr g _ hg
  obtain ⟨W1, hW1⟩ : ∃ W1, (w.alloc (.deferred (some []))).alloc (.loop { state := .ready, pending := none, fn, tmps := a.tmps, params := ps, assign := asg, body, defers := w.heap.size }) = W1 := ⟨_, rfl⟩
  rw [hW1] at s2 b2
  refine ⟨w.heap.size + 1, [{ target := .collected w.heap.size, args := #[] }], W1, { target := .fn (.func gf) lb, args := #[.func (.yield (w.heap.size + 1)) #[] #[]] }, W1, gf, #[.func (.yield (w.heap.size + 1)) #[] #[]] ++ lb, W1, by rw [← hW1]; exact run_enterLoop_outer _ _ _ _ _, ?_, fun _ _ => trivial, ?_, fun hn => (by cases hn), ?_⟩
  · simp only [resolve, hev]
    simp [go_sem]
  · simp [invoke, go_sem, eg]
  · refine callsIn_wide.2 ((hit (w.heap.size + 1) _ _ (.obj w.heap.size (.deferred (some []))) b2 ?_ (hrnd _ fn w.heap.size)).mono ?_)
    · have p : (Asn.obj (w.heap.size + 1) (.loop { state := .ready, pending := none, fn, tmps := a.tmps, params := ps, assign := asg, body, defers := w.heap.size }) :: Asn.obj w.heap.size (.deferred (some [])) :: (A 0 v0 ++ R)).Perm (Asn.obj (w.heap.size + 1) (.loop { state := .ready, pending := none, fn, tmps := a.tmps, params := ps, assign := asg, body, defers := w.heap.size }) :: A 0 v0 ++ (R ++ [Asn.obj w.heap.size (.deferred (some []))])) := by
        refine List.Perm.cons _ ?_
        show (Asn.obj w.heap.size (.deferred (some [])) :: (A 0 v0 ++ R)).Perm (A 0 v0 ++ (R ++ [Asn.obj w.heap.size (.deferred (some []))]))
        rw [← List.append_assoc]
        exact (List.perm_append_singleton _ _).symm
      obtain ⟨V, W, hV, hW, hVW, hU'⟩ := (s2.perm p).split
      exact ⟨_, V, W, hU', hVW, hV.range, ⟨v0, hV⟩, hW⟩
    · rintro e w' ⟨v, rfl, _, hb', U', f, V, hU', hd, hf, ⟨v', hv'⟩, hs'⟩
      have hv' : Sep w0.heap.size w' (.obj (w.heap.size + 1) (.loop { state := .ready, pending := none, fn, tmps := a.tmps, params := ps, assign := asg, body, defers := w.heap.size }) :: A n v') f := hv'
      have hall := hv'.append hs' hd
      obtain ⟨hl, hlo, _⟩ := ri hall
      refine ⟨none, _, run_endLoop hl (by simp), ?_⟩
      have hall2 := qi (o' := .loop { state := .exhausted, pending := none, fn, tmps := a.tmps, params := ps, assign := asg, body, defers := w.heap.size }) hall
      refine k _ _ w.heap.size v' [.obj (w.heap.size + 1) (.loop { state := .exhausted, pending := none, fn, tmps := a.tmps, params := ps, assign := asg, body, defers := w.heap.size })] (by show _ ++ a.defers = _; rw [h.defers]; rfl) ⟨h.size, rfl, h.regs, mI hb' hlo, _, hall2.perm ?_⟩
      show (Asn.obj (w.heap.size + 1) _ :: (A n v' ++ (R ++ [Asn.obj w.heap.size (.deferred (some []))]))).Perm (Asn.obj w.heap.size (.deferred (some [])) :: (A n v' ++ R ++ [_]))
      rw [← List.append_assoc (A n v')]
      refine (List.Perm.cons _ (List.perm_append_singleton _ _)).trans ((List.Perm.swap _ _ _).trans (List.Perm.cons _ (List.perm_append_singleton _ _).symm))
theorem enterM {f : FuncId} {fn : Func} {c : Code} {args : List Value} {R : Ending → World → Prop} (hf : P.funcs[f]? = some fn) (hb : fn.body = some c) (hN : args.length + (fn.ntmps - args.length) = N)
    (h : ∀ a, St w N (zipF 0 args) [] a w → c.wp P (bodyPostM Fence.wide 0 P fn R) a w) : Calls P f args.toArray w R :=
  callsIn_wide.1 (callsIn_of_wp_marks (n := 0) hf hb trivial (wpIn_wide.2 (h _ (St.init w args fn.ntmps hN fun _ _ hv => (ln hv).2))))
theorem rdM {d : Nat} {op : Op} {ty : TypeId} {pos : String} {aft : Array Edge} (h : St w0 N F L (nd a) w) (i : Nat) {r : Asn} {v : Value} (hi : L[i]? = some r) (hs : Rd P w0 F [r] op v) (hd : Nat.blt d N = true) (k : ∀ a' w, a'.defers = a.defers → St w0 N ((d, v) :: F) L (nd a') w → wpList P ops Q rest a' w) :
    wpList P ops Q (⟨some d, op, ty, pos, aft, none⟩ :: rest) a w :=
  wpList_plain rfl fun K hK => by
    obtain ⟨U, hU⟩ := h.sep
    have e : a.eval = (nd a).eval := rfl
    unfold Oper.wp
    rw [e, (hs.of_mem hi) _ (nd a) w U rfl h.agr h.bel hU]
    exact hK _ _ (k _ _ rfl (h.put hd v h.bel hU))
theorem retM {fn : Func} {R : Ending → World → Prop} {D : Nat} {rs : List ResultVar} {vs : List Value} {v : Value} (hd : a.defers = [{ target := .collected D, args := #[] }]) (h : St w0 N F (.obj D (.deferred (some [])) :: L) (nd a) w) (hrs : fn.results = rs.toArray)
    (hr : ∀ w, Res P w F (.obj D (.deferred none) :: L) rs vs) (hv : sh vs = v) (hR : ∀ w, St w0 N F (.obj D (.deferred none) :: L) (nd a) w → R (.returned v) w) : bodyPostM Fence.wide 0 P fn R .ret a w := by
  show LeavesInM Fence.wide 0 P fn a.tmps R a.defers .returning w
  obtain ⟨U, hU⟩ := h.sep
  obtain ⟨hl, hlo, _⟩ := ri hU
  rw [hd]
  have st : St w0 N F (.obj D (.deferred none) :: L) (nd a) (w.putObj D (.deferred none)) := ⟨h.size, h.defers, h.regs, mI h.bel hlo, _, qi hU⟩
  refine ⟨by simp, .inl ⟨D, _, rfl, run_takeDeferred hl, ?_⟩⟩
  exact ⟨v, lZ hrs (hr _) st hv, hR _ st⟩
end
end Go.Sx
namespace Go.Sx
open Go Go.RowKit Go.Proofs
set_option maxRecDepth 100000
structure Pnt where
  x : GQ
  y : GQ
  deriving DecidableEq
structure Smp where
  t : GQ
  p : Pnt
  deriving DecidableEq
structure RPt where
  x : GR
  y : GR
  deriving DecidableEq
def cPt (x : Pnt) : List Value := cQ x.x ++ cQ x.y
def cSm (x : Smp) : List Value := cQ x.t ++ cPt x.p
def cRP (x : RPt) : List Value := cR x.x ++ cR x.y
def vPt (x : Pnt) : Value := .agg (cPt x).toArray
def vSm (x : Smp) : Value := .agg (cSm x).toArray
def vRP (x : RPt) : Value := .agg (cRP x).toArray
instance yH9_6 : Inhabited Pnt := ⟨⟨oQ, oQ⟩⟩
instance yH9_7 : Inhabited Smp := ⟨⟨oQ, ⟨oQ, oQ⟩⟩⟩
theorem onePt (x : Pnt) : ∀ c ∈ cPt x, c.oneCell' = true := fe (uG _) (uG _)
instance yH9_8 : Cod Pnt := ⟨cPt, 8, fun _ => rfl, onePt, by decide⟩
instance yH9_9 : Cod Smp := ⟨cSm, 12, fun _ => rfl, fun x => fe (uG _) (onePt _), by decide⟩
instance yH9_10 : Cod RPt := ⟨cRP, 18, fun _ => rfl, fun x => fe (uF _) (uF _), by decide⟩
instance yH9_11 (x : Pnt) : Cel (vPt x) (cPt x) := ⟨rfl⟩
instance yH9_12 (x : Smp) : Cel (vSm x) (cSm x) := ⟨rfl⟩
instance yH9_13 (x : RPt) : Cel (vRP x) (cRP x) := ⟨rfl⟩
instance yH9_14 (x : Pnt) : Dc (cPt x) (vPt x) := ⟨rfl⟩
instance yH9_15 (x : Smp) : Dc (cSm x) (vSm x) := ⟨rfl⟩
instance yH9_16 (x : RPt) : Dc (cRP x) (vRP x) := ⟨rfl⟩
def SzPt (k : Nat) (x : Pnt) : Prop := SzQ k x.x ∧ SzQ k x.y
def u6 (k : Nat) (x : Smp) : Prop := SzQ k x.t ∧ SzPt k x.p
instance yH9_17 : Sz Tryz.prog 29 8 := ⟨Tryz.sizeOf29⟩
instance yH9_18 : Sz Tryz.prog 31 12 := ⟨Tryz.sizeOf31⟩
instance yH9_19 : Sz Tryz.prog 88 36 := ⟨Tryz.sizeOf88⟩
instance yH9_20 : Sz Tryz.prog 247 18 := ⟨Tryz.sizeOf247⟩
instance yH9_21 : Sz Tryz.prog 66 1 := ⟨Tryz.sizeOf66⟩
instance yH9_22 : Ag Tryz.prog 66 false := ⟨Tryz.isAgg66⟩
instance yH9_23 : Sz Tryz.prog 33 1 := ⟨Tryz.sizeOf33⟩
instance yH9_24 : Ag Tryz.prog 33 false := ⟨Tryz.isAgg33⟩
instance yH9_25 : Sz Tryz.prog 23 1 := ⟨Tryz.sizeOf23⟩
instance yH9_26 : Ag Tryz.prog 23 false := ⟨Tryz.isAgg23⟩
instance yH9_27 : Ag Tryz.prog 29 true := ⟨Tryz.isAgg29⟩
instance yH9_28 : Ag Tryz.prog 31 true := ⟨Tryz.isAgg31⟩
instance yH9_29 : Ag Tryz.prog 88 true := ⟨Tryz.isAgg88⟩
instance yH9_30 : Ag Tryz.prog 247 true := ⟨Tryz.isAgg247⟩
instance yH9_31 : Un Tryz.prog 23 (.slice 31) := ⟨Tryz.runUnderlying23⟩
instance yH9_32 : Un Tryz.prog 33 (.slice 88) := ⟨Tryz.runUnderlying33⟩
instance yH9_33 : Fl Tryz.prog 29 0 27 0 := ⟨⟨_, _, uu29, rfl, rfl, rfl⟩⟩
instance yH9_34 : Fl Tryz.prog 29 1 27 4 := ⟨⟨_, _, uu29, rfl, rfl, rfl⟩⟩
instance yH9_35 : Fl Tryz.prog 31 0 27 0 := ⟨⟨_, _, uu31, rfl, rfl, rfl⟩⟩
instance yH9_36 : Fl Tryz.prog 31 1 29 4 := ⟨⟨_, _, uu31, rfl, rfl, rfl⟩⟩
instance yH9_37 : Fl Tryz.prog 88 0 86 0 := ⟨⟨_, _, uu88, rfl, rfl, rfl⟩⟩
instance yH9_38 : Fl Tryz.prog 88 1 79 20 := ⟨⟨_, _, uu88, rfl, rfl, rfl⟩⟩
instance yH9_39 : Fl Tryz.prog 247 0 71 0 := ⟨⟨_, _, uu247, rfl, rfl, rfl⟩⟩
instance yH9_40 : Fl Tryz.prog 247 1 71 9 := ⟨⟨_, _, uu247, rfl, rfl, rfl⟩⟩
instance yH9_41 : Cf Tryz.prog 3 := ⟨Tryz.call3⟩
instance yH9_42 : Cf Tryz.prog 4 := ⟨Tryz.call4⟩
instance yH9_43 : Cf Tryz.prog 6 := ⟨Tryz.call6⟩
instance yH9_44 : Cf Tryz.prog 7 := ⟨Tryz.call7⟩
instance yH9_45 : Cf Tryz.prog 9 := ⟨Tryz.call9⟩
instance yH9_46 : Cf Tryz.prog 10 := ⟨Tryz.call10⟩
instance yH9_47 : Cf Tryz.prog 13 := ⟨Tryz.call13⟩
instance yH9_48 : Cf Tryz.prog 14 := ⟨Tryz.call14⟩
instance yH9_49 : Cf Tryz.prog 15 := ⟨Tryz.call15⟩
instance yH9_50 : Cf Tryz.prog 16 := ⟨Tryz.call16⟩
instance yH9_51 : Cf Tryz.prog 17 := ⟨Tryz.call17⟩
instance yH9_52 : Cf Tryz.prog 18 := ⟨Tryz.call18⟩
instance yH9_53 : Cf Tryz.prog 19 := ⟨Tryz.call19⟩
instance yH9_54 : Cf Tryz.prog 23 := ⟨Tryz.call23⟩
instance yH9_55 : Cf Tryz.prog 40 := ⟨Tryz.call40⟩
instance yH9_56 : Cf Tryz.prog 41 := ⟨Tryz.call41⟩
instance yH9_57 : Cf Tryz.prog 42 := ⟨Tryz.call42⟩
instance yH9_58 : Cf Tryz.prog 43 := ⟨Tryz.call43⟩
instance yH9_59 : Cf Tryz.prog 45 := ⟨Tryz.call45⟩
instance yH9_60 : Cf Tryz.prog 46 := ⟨Tryz.call46⟩
instance yH9_61 : Cf Tryz.prog 47 := ⟨Tryz.call47⟩
instance yH9_62 : Cf Tryz.prog 48 := ⟨Tryz.call48⟩
instance yH9_63 : Cf Tryz.prog 49 := ⟨Tryz.call49⟩
instance yH9_64 : Cf Tryz.prog 50 := ⟨Tryz.call50⟩
instance yH9_65 : Cf Tryz.prog 51 := ⟨Tryz.call51⟩
instance yH9_66 : Cf Tryz.prog 52 := ⟨Tryz.call52⟩
instance yH9_67 : Cf Tryz.prog 53 := ⟨Tryz.call53⟩
instance yH9_68 : Cf Tryz.prog 54 := ⟨Tryz.call54⟩
instance yH9_69 : Cf Tryz.prog 64 := ⟨Tryz.call64⟩
instance yH9_70 : Cf Tryz.prog 65 := ⟨Tryz.call65⟩
instance yH9_71 : Cf Tryz.prog 66 := ⟨Tryz.call66⟩
instance yH9_72 : Cf Tryz.prog 67 := ⟨Tryz.call67⟩
instance yH9_73 : Cf Tryz.prog 68 := ⟨Tryz.call68⟩
instance yH9_74 : Cf Tryz.prog 69 := ⟨Tryz.call69⟩
instance yH9_75 : Cf Tryz.prog 70 := ⟨Tryz.call70⟩
instance yH9_76 : Cf Tryz.prog 71 := ⟨Tryz.call71⟩
instance yH9_77 : Cf Tryz.prog 72 := ⟨Tryz.call72⟩
instance yH9_78 : Cf Tryz.prog 73 := ⟨Tryz.call73⟩
instance yH9_79 : Cf Tryz.prog 74 := ⟨Tryz.call74⟩
instance yH9_80 : Cf Tryz.prog 78 := ⟨Tryz.call78⟩
instance yH9_81 : Cf Tryz.prog 79 := ⟨Tryz.call79⟩
instance yH9_82 : Cf Tryz.prog 80 := ⟨Tryz.call80⟩
instance yH9_83 : Cf Tryz.prog 81 := ⟨Tryz.call81⟩
instance yH9_84 : Cf Tryz.prog 82 := ⟨Tryz.call82⟩
instance yH9_85 : Cf Tryz.prog 83 := ⟨Tryz.call83⟩
instance yH9_86 : Cf Tryz.prog 84 := ⟨Tryz.call84⟩
instance yH9_87 : Cf Tryz.prog 89 := ⟨Tryz.call89⟩
instance yH9_88 : Cf Tryz.prog 90 := ⟨Tryz.call90⟩
instance yH9_89 : Cf Tryz.prog 91 := ⟨Tryz.call91⟩
instance yH9_90 : Cf Tryz.prog 99 := ⟨Tryz.call99⟩
instance yH9_91 : Cf Tryz.prog 100 := ⟨Tryz.call100⟩
instance yH9_92 : Cf Tryz.prog 102 := ⟨Tryz.call102⟩
instance yH9_93 : Cf Tryz.prog 103 := ⟨Tryz.call103⟩
instance yH9_94 : Cf Tryz.prog 132 := ⟨Tryz.call132⟩
instance yH9_95 : Cf Tryz.prog 133 := ⟨Tryz.call133⟩
instance yH9_96 : Cf Tryz.prog 138 := ⟨Tryz.call138⟩
instance yH9_97 : Cf Tryz.prog 139 := ⟨Tryz.call139⟩
instance yH9_98 : Cf Tryz.prog 140 := ⟨Tryz.call140⟩
instance yH9_99 : Cf Tryz.prog 141 := ⟨Tryz.call141⟩
instance yH9_100 : Cf Tryz.prog 142 := ⟨Tryz.call142⟩
instance yH9_101 : Cf Tryz.prog 143 := ⟨Tryz.call143⟩
instance yH9_102 : Cf Tryz.prog 144 := ⟨Tryz.call144⟩
instance yH9_103 : Cf Tryz.prog 145 := ⟨Tryz.call145⟩
instance yH9_104 : Cf Tryz.prog 146 := ⟨Tryz.call146⟩
instance yH9_105 : Cf Tryz.prog 147 := ⟨Tryz.call147⟩
instance yH9_106 : Cf Tryz.prog 162 := ⟨Tryz.call162⟩
instance yH9_107 : Cf Tryz.prog 163 := ⟨Tryz.call163⟩
instance yH9_108 : Cf Tryz.prog 164 := ⟨Tryz.call164⟩
instance yH9_109 : Cf Tryz.prog 165 := ⟨Tryz.call165⟩
instance yH9_110 : Cf Tryz.prog 166 := ⟨Tryz.call166⟩
instance yH9_111 : Cf Tryz.prog 167 := ⟨Tryz.call167⟩
instance yH9_112 : Cf Tryz.prog 168 := ⟨Tryz.call168⟩
instance yH9_113 : Cf Tryz.prog 169 := ⟨Tryz.call169⟩
instance yH9_114 : Cf Tryz.prog 170 := ⟨Tryz.call170⟩
instance yH9_115 : Cf Tryz.prog 171 := ⟨Tryz.call171⟩
instance yH9_116 : Cf Tryz.prog 172 := ⟨Tryz.call172⟩
instance yH9_117 : Cf Tryz.prog 173 := ⟨Tryz.call173⟩
instance yH9_118 : Cf Tryz.prog 174 := ⟨Tryz.call174⟩
instance yH9_119 : Cf Tryz.prog 175 := ⟨Tryz.call175⟩
instance yH9_120 : Cf Tryz.prog 176 := ⟨Tryz.call176⟩
instance yH9_121 : Cf Tryz.prog 177 := ⟨Tryz.call177⟩
instance yH9_122 : Cf Tryz.prog 182 := ⟨Tryz.call182⟩
instance yH9_123 : Cf Tryz.prog 183 := ⟨Tryz.call183⟩
instance yH9_124 : Cf Tryz.prog 184 := ⟨Tryz.call184⟩
instance yH9_125 : Cf Tryz.prog 185 := ⟨Tryz.call185⟩
instance yH9_126 : Cf Tryz.prog 186 := ⟨Tryz.call186⟩
instance yH9_127 : Cf Tryz.prog 188 := ⟨Tryz.call188⟩
instance yH9_128 : Cf Tryz.prog 189 := ⟨Tryz.call189⟩
instance yH9_129 : Cf Tryz.prog 197 := ⟨Tryz.call197⟩
instance yH9_130 : Cf Tryz.prog 198 := ⟨Tryz.call198⟩
instance yH9_131 : Cf Tryz.prog 199 := ⟨Tryz.call199⟩
instance yH9_132 : Cf Tryz.prog 200 := ⟨Tryz.call200⟩
instance yH9_133 : Cf Tryz.prog 217 := ⟨Tryz.call217⟩
instance yH9_134 : Cf Tryz.prog 218 := ⟨Tryz.call218⟩
instance yH9_135 : Cf Tryz.prog 220 := ⟨Tryz.call220⟩
instance yH9_136 : Cf Tryz.prog 221 := ⟨Tryz.call221⟩
instance yH9_137 : Cf Tryz.prog 222 := ⟨Tryz.call222⟩
instance yH9_138 : Cf Tryz.prog 233 := ⟨Tryz.call233⟩
instance yH9_139 : Cf Tryz.prog 234 := ⟨Tryz.call234⟩
instance yH9_140 : Cf Tryz.prog 235 := ⟨Tryz.call235⟩
instance yH9_141 : Cf Tryz.prog 236 := ⟨Tryz.call236⟩
instance yH9_142 : Cf Tryz.prog 237 := ⟨Tryz.call237⟩
instance yH9_143 : Cf Tryz.prog 238 := ⟨Tryz.call238⟩
instance yH9_144 : Cf Tryz.prog 239 := ⟨Tryz.call239⟩
instance yH9_145 : Cf Tryz.prog 240 := ⟨Tryz.call240⟩
instance yH9_146 : Cf Tryz.prog 241 := ⟨Tryz.call241⟩
instance yH9_147 : Cf Tryz.prog 242 := ⟨Tryz.call242⟩
instance yH9_148 : Cf Tryz.prog 248 := ⟨Tryz.call248⟩
instance yH9_149 : Cf Tryz.prog 254 := ⟨Tryz.call254⟩
instance yH9_150 : Cf Tryz.prog 277 := ⟨Tryz.call277⟩
instance yH9_151 : Cf Tryz.prog 298 := ⟨Tryz.call298⟩
instance yH9_152 : Cf Tryz.prog 299 := ⟨Tryz.call299⟩
instance yH9_153 : Cf Tryz.prog 300 := ⟨Tryz.call300⟩
instance yH9_154 : Cf Tryz.prog 301 := ⟨Tryz.call301⟩
instance yH9_155 : Cf Tryz.prog 302 := ⟨Tryz.call302⟩
instance yH9_156 : Cf Tryz.prog 303 := ⟨Tryz.call303⟩
instance yH9_157 : Cf Tryz.prog 304 := ⟨Tryz.call304⟩
instance yH9_158 : Cf Tryz.prog 313 := ⟨Tryz.call313⟩
instance yH9_159 : Cf Tryz.prog 315 := ⟨Tryz.call315⟩
instance yH9_160 : Cf Tryz.prog 317 := ⟨Tryz.call317⟩
instance yH9_161 : Cf Tryz.prog 320 := ⟨Tryz.call320⟩
instance yH9_162 : Cf Tryz.prog 321 := ⟨Tryz.call321⟩
instance yH9_163 : Cf Tryz.prog 331 := ⟨Tryz.call331⟩
instance yH9_164 : Cf Tryz.prog 332 := ⟨Tryz.call332⟩
instance yH9_165 : Cf Tryz.prog 334 := ⟨Tryz.call334⟩
instance yH9_166 : Cf Tryz.prog 341 := ⟨Tryz.call341⟩
instance yH9_167 : Cf Tryz.prog 342 := ⟨Tryz.call342⟩
def oUN : U Ln := ⟨⟨⟨oQ, oQ, false⟩, ⟨oQ, oQ, false⟩, false, false⟩, ⟨oQ, oQ, oQ, oQ⟩⟩
instance yH9_168 : Zc Tryz.prog 29 (cPt ⟨oQ, oQ⟩) := ⟨⟨_, vv29, rfl⟩⟩
instance yH9_169 : Zc Tryz.prog 31 (cSm ⟨oQ, ⟨oQ, oQ⟩⟩) := ⟨⟨_, vv31, rfl⟩⟩
instance yH9_170 : Zc Tryz.prog 88 (cUN oUN) := ⟨⟨_, vv88, rfl⟩⟩
instance yH9_171 : Zc Tryz.prog 247 (cRP ⟨⟨oQ, oQ, false⟩, ⟨oQ, oQ, false⟩⟩) := ⟨⟨_, vv247, rfl⟩⟩
instance yH9_172 : Zc Tryz.prog 66 [.slice none 0 0] := ⟨⟨_, Tryz.zeroValue66, rfl⟩⟩
instance yH9_173 : Sh Tryz.prog 29 Pnt vPt := ⟨trivial⟩
instance yH9_174 : Sh Tryz.prog 31 Smp vSm := ⟨trivial⟩
instance yH9_175 : Sh Tryz.prog 88 (U Ln) vUN := ⟨trivial⟩
instance yH9_176 : Sh Tryz.prog 247 RPt vRP := ⟨trivial⟩
theorem uY : BuildF Tryz.prog 88 (cUN oUN) [(0, 20), (20, 16)] := BuildF.of vv88 rfl uu88 (by intro w; simp [Tryz.sizeOf86, Tryz.sizeOf79])
theorem bld29 : BuildF Tryz.prog 29 (cPt ⟨oQ, oQ⟩) [(0, 4), (4, 4)] := BuildF.of vv29 rfl uu29 (by intro w; simp [Tryz.sizeOf27])
theorem bld31 : BuildF Tryz.prog 31 (cSm ⟨oQ, ⟨oQ, oQ⟩⟩) [(0, 4), (4, 8)] := BuildF.of vv31 rfl uu31 (by intro w; simp [Tryz.sizeOf27, Tryz.sizeOf29])
theorem bld247 : BuildF Tryz.prog 247 (cRP ⟨⟨oQ, oQ, false⟩, ⟨oQ, oQ, false⟩⟩) [(0, 9), (9, 9)] := BuildF.of vv247 rfl uu247 (by intro w; simp [Tryz.sizeOf71])
instance yH9_177 (x : Iv) (f : Ln) : Bu Tryz.prog 88 [0, 1] [vV x, vN f] (vUN (⟨x, f⟩ : U Ln)) := Bu.of uY rfl rfl
instance yH9_178 (x : Iv) (f : Ln) : Bu Tryz.prog 199 [0, 1] [vV x, vN f] (vUN (⟨x, f⟩ : U Ln)) := Bu.of oH rfl rfl
instance yH9_179 (x y : GQ) : Bu Tryz.prog 29 [0, 1] [vQ x, vQ y] (vPt ⟨x, y⟩) := Bu.of bld29 rfl rfl
instance yH9_180 (x : GQ) (p : Pnt) : Bu Tryz.prog 31 [0, 1] [vQ x, vPt p] (vSm ⟨x, p⟩) := Bu.of bld31 rfl rfl
instance yH9_181 (x y : GR) : Bu Tryz.prog 247 [0, 1] [vR x, vR y] (vRP ⟨x, y⟩) := Bu.of bld247 rfl rfl
instance yH9_182 (a b c d : GQ) : Bu Tryz.prog 79 [0, 1, 2, 3] [vQ a, vQ b, vQ c, vQ d] (vN ⟨a, b, c, d⟩) := Bu.of xE rfl rfl
instance yH9_183 (a c : GQ) : Bu Tryz.prog 79 [0, 2] [vQ a, vQ c] (vN ⟨a, oQ, c, oQ⟩) := Bu.of xE rfl rfl
instance yH9_184 (a c d : GQ) : Bu Tryz.prog 79 [0, 2, 3] [vQ a, vQ c, vQ d] (vN ⟨a, oQ, c, d⟩) := Bu.of xE rfl rfl
instance yH9_185 (x y : GR) : Bu Tryz.prog 86 [0, 1] [vR x, vR y] (vV ⟨x, y, false, false⟩) := Bu.of kH rfl rfl
instance yH9_186 (x y : GR) (b : Bool) : Bu Tryz.prog 86 [0, 1, 2] [vR x, vR y, .bool b] (vV ⟨x, y, b, false⟩) := Bu.of kH rfl rfl
instance yH9_187 : Bu Tryz.prog 80 [] [] (.agg #[]) := Bu.of bld80 rfl rfl
instance yH9_188 : Ie Tryz.prog 80 := ⟨fun hx => wk Tryz.runUnderlying80 rfl hx⟩
theorem lW : SlT Tryz.prog 33 88 36 408 (cUN oUN) := ⟨Tryz.underlying33, Tryz.t88, _, Tryz.type88, rfl, rfl, rfl, rfl, rfl, by decide, by decide⟩
theorem slt23 : SlT Tryz.prog 23 31 12 144 (cSm ⟨oQ, ⟨oQ, oQ⟩⟩) := ⟨Tryz.underlying23, Tryz.t31, _, Tryz.type31, rfl, rfl, rfl, rfl, rfl, by decide, by decide⟩
section
variable {P : Program} {w0 w : World} {N : Nat} {F : List (Nat × Value)} {L : List Asn} {a : Act} {fn : Func} {R : Ending → World → Prop}
theorem nu {α : Type} [Cod α] {ol : List Oper} {H : List Hist} {ξ : Nat → Value} {G : (Nat → Value) → List (Nat × Value)} {st et bytes i : Nat} {zero : List Value} {x : Operand} {v : Value} {dst : Option Tmp} {ty : TypeId} {pos : String} {aft : Array Edge} (e0 : Nat) (u : α) (hT : SlT P st et (Cod.n α) bytes zero) (hx : evs (gF (G ξ) (eQ (.buildSlice st 1 #[(0, x)]))) [x] = some [v]) (hv : [v].map (fun v => v.cells.toList) = [u].map Cod.enc)
    (h1 : dx H [e0] i ξ = [.emp] := by rfl) (h2 : ∀ v, dx H [e0] (i + 1) (upd ξ i v) = [.row et v [u]] := by (intro v; simp only [dx, bD] <;> rfl)) : ObS P w0 ol H G ξ i ⟨dst, .buildSlice st 1 #[(0, x)], ty, pos, aft, none⟩ ⟨.nd (.one i fun v => NN v 1), [e0]⟩ :=
  oU (ψ := fun v => NN v 1) (B := fun v => [.row et v [u]]) [.emp] h1 (fun v _ => h2 v) (fun v hv => by simpa [DF.one, bD] using hv) (kz (cj (α := α) (xs := [x]) [u] hT hx hv rfl (by decide)))
theorem sG {α : Type} [Cod α] {ol : List Oper} {H : List Hist} {ξ : Nat → Value} {G : (Nat → Value) → List (Nat × Value)} {st et bytes i j : Nat} {zero : List Value} {x y : Operand} {sv : Value} {dst : Option Tmp} {ty : TypeId} {pos : String} {aft : Array Edge} (eo e0 : Nat) {xs : List α} {u : α} (hT : SlT P st et (Cod.n α) bytes zero) (hx : ev (gF (G ξ) (eQ (.call ⟨.builtin .append, #[x, y], #[st, st]⟩))) x = some sv) (hy : ev (gF (G ξ) (eQ (.call ⟨.builtin .append, #[x, y], #[st, st]⟩))) y = some (ξ j)) (hl : xs.length + 1 ≤ 34359738368)
    (h1 : dx H [eo, e0] i ξ = [.row et sv xs, .row et (ξ j) [u]]) (h2 : ∀ v, dx H [eo, e0] (i + 1) (upd ξ i v) = [.row et v (xs ++ [u]), .row et (ξ j) [u]]) : ObS P w0 ol H G ξ i ⟨dst, .call ⟨.builtin .append, #[x, y], #[st, st]⟩, ty, pos, aft, none⟩ ⟨.nd (.con True), [eo, e0]⟩ :=
  oU (B := fun v => [.row et v (xs ++ [u]), .row et (ξ j) [u]]) [.row et sv xs, .row et (ξ j) [u]] h1 (fun v _ => h2 v) (fun _ _ => trivial) (eM (xs := xs) (ys := [u]) hT (fun w hs => (row_view hs 0 rfl)) hx hy hl)
theorem qj {ol : List Oper} {H : List Hist} {ξ : Nat → Value} {G : (Nat → Value) → List (Nat × Value)} {i j : Nat} {x : Operand} {dst : Option Tmp} {ty : TypeId} {pos : String} {aft : Array Edge} (hij : j ≠ i) (hx : ev (gF (G ξ) (eQ (.assign x))) x = some (ξ j)) : ObS P w0 ol H G ξ i ⟨dst, .assign x, ty, pos, aft, none⟩ ⟨.nd (.two i j fun a b => a = b), []⟩ :=
  ob_n (φ := .two i j fun a b => a = b) (v := ξ j) [] rfl rfl (by show upd ξ i (ξ j) i = upd ξ i (ξ j) j; rw [bD, nM hij]) (aD hx)
theorem rtc {t ty b n e : Nat} {cs : List Value} {v : Value} (i : Nat) (h : St w0 N F L a w) (hR : R (.returned v) w) (hrs : fn.results = [.cell t ty].toArray := by rfl) (ha : Ag P ty true := by infer_instance) (hz : Sz P ty n := by infer_instance) (hx : look F t = some (ptr b 0) := by rfl) (hi : L[i]? = some (Asn.blk b cs e) := by rfl)
    (h0 : Nat.blt 0 n = true := by rfl) (hl : ((cs.drop 0).take n).length = n := by rfl) (hv : mkv true ((cs.drop 0).take n) = v := by rfl) : bodyPost P fn R .ret a w :=
  ret h hrs (.cell hx hi ha.h hz.h h0 hl hv .nil) rfl hR
theorem rtc2 {t ty b n e u : Nat} {cs : List Value} {v x : Value} (i : Nat) (h : St w0 N F L a w) (hR : R (.returned (.tuple [v, x].toArray)) w) (hrs : fn.results = [.cell t ty, .tmp u].toArray := by rfl) (ha : Ag P ty true := by infer_instance) (hz : Sz P ty n := by infer_instance) (hx : look F t = some (ptr b 0) := by rfl) (hi : L[i]? = some (Asn.blk b cs e) := by rfl)
    (hu : look F u = some x := by rfl) (h0 : Nat.blt 0 n = true := by rfl) (hl : ((cs.drop 0).take n).length = n := by rfl) (hv : mkv true ((cs.drop 0).take n) = v := by rfl) : bodyPost P fn R .ret a w :=
  ret h hrs (.cell hx hi ha.h hz.h h0 hl hv (.tmp hu .nil)) rfl hR
end
end Go.Sx
namespace Go.Sx
theorem tm_sz [K : Key] {x : GR} (h : Tm x) : SzR 36 x := h.szr
end Go.Sx
