/- A part of the proof that the law PiecesShifts answers true at every input and leaves its arguments as they were. -/
import Derived.Test.YtnkaneggnjallaaGreatDoorN2
import Derived.Test.YtnkaneggnjallaaGreatDoorS
import Derived.Test.YtnkaneggnjallaaGreatDoorMk
set_option linter.unusedVariables false
set_option linter.unusedSimpArgs false
namespace Go.Sx
section
variable {α : Type} [Inhabited α]
def mV (σ : GR → GR) (i : Iv) : Iv := ⟨σ i.lo, σ i.hi, i.openLo, i.openHi⟩
def mU (σ : GR → GR) (φ : α → α) (x : U α) : U α := ⟨mV σ x.iv, φ x.f⟩
def Pu (P : GR → Prop) (D : α → Prop) (x : U α) : Prop := (P x.iv.lo ∧ P x.iv.hi) ∧ D x.f
theorem ib {β γ : Type} [Inhabited β] [Inhabited γ] (m : β → γ) {L : List β} {x : Nat} (h : x < L.length) : gt (L.map m) x = m (gt L x) := by
  rw [f7 h, f7 (by rw [List.length_map]; exact h), List.getElem_map]
structure Mv (P : GR → Prop) (D : α → Prop) (eqf : α → α → Bool) (same : α → α → GR → Bool) (red : α → GR → α) (σ : GR → GR) (φ : α → α) : Prop where
  inj : ∀ a b, P a → P b → (σ a = σ b ↔ a = b)
  sm : ∀ f g t, D f → D g → P t → same (φ f) (φ g) (σ t) = same f g t
  rd : ∀ f t, D f → P t → red (φ f) (σ t) = φ (red f t)
  rD : ∀ f t, D f → P t → D (red f t)
  eq : ∀ f g, D f → D g → eqf (φ f) (φ g) = eqf f g
variable {P : GR → Prop} {D : α → Prop} {eqf : α → α → Bool} {same : α → α → GR → Bool} {red : α → GR → α} {σ : GR → GR} {φ : α → α}
omit [Inhabited α] in
theorem Mv.dec (M : Mv P D eqf same red σ φ) {a b : GR} (ha : P a) (hb : P b) : decide (σ a = σ b) = decide (a = b) := decide_eq_decide.2 (M.inj a b ha hb)
omit [Inhabited α] in
theorem Mv.inst (M : Mv P D eqf same red σ φ) {i : Iv} (h : P i.lo ∧ P i.hi) : ar (mV σ i) = ar i := by
  unfold ar; exact M.dec h.1 h.2
theorem lE {L : List (U α)} (hL : ∀ x ∈ L, Pu P D x) {x : Nat} (h : x < L.length) : Pu P D (gt L x) := hL _ (by rw [f7 h]; exact List.getElem_mem _)
theorem Mv.held (M : Mv P D eqf same red σ φ) {out : List (U α)} (ho : ∀ x ∈ out, Pu P D x) {t : GR} (ht : P t) : iI (out.map (mU σ φ)) (σ t) = iI out t := by
  unfold iI
  rw [List.length_map]
  by_cases h : 0 < out.length
  · rw [ib _ (by omega)]
    show ((_ && decide (σ (gt out (out.length - 1)).iv.hi = σ t)) && _) = _
    rw [M.dec (lE ho (by omega)).1.2 ht]
    rfl
  · rw [decide_eq_false (by omega : ¬ ((out.length : Nat) : Int) > 0)]; rfl
theorem Mv.bef (M : Mv P D eqf same red σ φ) {L out : List (U α)} (hL : ∀ x ∈ L, Pu P D x) (ho : ∀ x ∈ out, Pu P D x) {x : Nat} (hx : x < L.length) : mb (L.map (mU σ φ)) (out.map (mU σ φ)) x = mb L out x := by
  unfold mb
  rw [List.length_map, ib _ hx]
  by_cases h : 0 < out.length
  · have hp := lE ho (by omega : out.length - 1 < out.length)
    rw [ib _ (by omega)]
    show ((_ && decide (σ (gt out (out.length - 1)).iv.hi = σ (gt L x).iv.lo)) && !(ar (mV σ (gt out (out.length - 1)).iv))) = _
    rw [M.dec hp.1.2 (lE hL hx).1.1, M.inst hp.1]
  · rw [decide_eq_false (by omega : ¬ ((out.length : Nat) : Int) > 0)]; rfl
omit [Inhabited α] in
theorem qK {out : List (U α)} (ho : ∀ x ∈ out, Pu P D x) {y : U α} (hy : Pu P D y) : ∀ x ∈ out ++ [y], Pu P D x := fun x hx => by
  rcases List.mem_append.1 hx with hx | hx
  · exact ho x hx
  · rw [List.mem_singleton.1 hx]; exact hy
omit [Inhabited α] in
theorem pu_set {out : List (U α)} (ho : ∀ x ∈ out, Pu P D x) {i : Nat} {y : U α} (hy : Pu P D y) : ∀ x ∈ out.set i y, Pu P D x := fun x hx => by
  rcases List.mem_or_eq_of_mem_set hx with hx | rfl
  · exact ho x hx
  · exact hy
theorem Mv.gap (M : Mv P D eqf same red σ φ) {L out : List (U α)} (hL : ∀ x ∈ L, Pu P D x) (ho : ∀ x ∈ out, Pu P D x) {x : Nat} (hx : x < L.length) :
    ft (L.map (mU σ φ)) (out.map (mU σ φ)) x = (ft L out x).map (mU σ φ) ∧ ∀ y ∈ ft L out x, Pu P D y := by
  have h1 := lE hL hx
  have h2 := lE hL (by omega : x - 1 < L.length)
  unfold ft
  rw [ib _ hx, ib _ (by omega : x - 1 < L.length)]
  have e : ((((decide (((x : Nat) : Int) > 0)) && (ar ((mU σ φ (gt L (x - 1))).iv))) && (decide (((mU σ φ (gt L (x - 1))).iv).lo = ((mU σ φ (gt L x)).iv).lo))) && (!(iI (out.map (mU σ φ)) (((mU σ φ (gt L x)).iv).lo))))
      = ((((decide (((x : Nat) : Int) > 0)) && (ar ((gt L (x - 1)).iv))) && (decide (((gt L (x - 1)).iv).lo = ((gt L x).iv).lo))) && (!(iI out (((gt L x).iv).lo)))) := by
    show ((((decide (((x : Nat) : Int) > 0)) && (ar (mV σ (gt L (x - 1)).iv))) && (decide (σ ((gt L (x - 1)).iv).lo = σ ((gt L x).iv).lo))) && (!(iI (out.map (mU σ φ)) (σ ((gt L x).iv).lo)))) = _
    rw [M.inst h2.1, M.dec h2.1.1 h1.1.1, M.held ho h1.1.1]
  rw [e]
  cases ((((decide (((x : Nat) : Int) > 0)) && (ar ((gt L (x - 1)).iv))) && (decide (((gt L (x - 1)).iv).lo = ((gt L x).iv).lo))) && (!(iI out (((gt L x).iv).lo))))
  · exact ⟨by rw [cond_false, cond_false, List.map_append]; rfl, by rw [cond_false]; exact qK ho h1⟩
  · exact ⟨by rw [cond_true, cond_true, List.map_append]; rfl, by rw [cond_true]; exact qK ho h1⟩
theorem Mv.pt (M : Mv P D eqf same red σ φ) {L out : List (U α)} (hL : ∀ x ∈ L, Pu P D x) (ho : ∀ x ∈ out, Pu P D x) {x : Nat} (hx : x < L.length) :
    gD same red (L.map (mU σ φ)) (out.map (mU σ φ)) x = (gD same red L out x).map (mU σ φ) ∧ ∀ y ∈ gD same red L out x, Pu P D y := by
  have h1 := lE hL hx
  unfold gD
  rw [ib _ hx, List.length_map]
  have e : (((decide (((x + 1 : Nat) : Int) < ((L.length : Nat) : Int))) && (decide (((gt (L.map (mU σ φ)) (x + 1)).iv).lo = ((mU σ φ (gt L x)).iv).lo))) && (same ((gt (L.map (mU σ φ)) (x + 1)).f) ((mU σ φ (gt L x)).f) (((mU σ φ (gt L x)).iv).lo)))
      = (((decide (((x + 1 : Nat) : Int) < ((L.length : Nat) : Int))) && (decide (((gt L (x + 1)).iv).lo = ((gt L x).iv).lo))) && (same ((gt L (x + 1)).f) ((gt L x).f) (((gt L x).iv).lo))) := by
    by_cases h : x + 1 < L.length
    · have h2 := lE hL h
      rw [ib _ h]
      show ((_ && (decide (σ ((gt L (x + 1)).iv).lo = σ ((gt L x).iv).lo))) && (same (φ (gt L (x + 1)).f) (φ (gt L x).f) (σ (gt L x).iv.lo))) = _
      rw [M.dec h2.1.1 h1.1.1, M.sm _ _ _ h2.2 h1.2 h1.1.1]
    · rw [decide_eq_false (by omega : ¬ ((x + 1 : Nat) : Int) < ((L.length : Nat) : Int))]; rfl
  rw [e]
  cases (((decide (((x + 1 : Nat) : Int) < ((L.length : Nat) : Int))) && (decide (((gt L (x + 1)).iv).lo = ((gt L x).iv).lo))) && (same ((gt L (x + 1)).f) ((gt L x).f) (((gt L x).iv).lo)))
  · refine ⟨?_, by rw [cond_false]; exact qK ho ⟨h1.1, M.rD _ _ h1.2 h1.1.1⟩⟩
    rw [cond_false, cond_false, List.map_append]
    show _ ++ [(⟨mV σ (gt L x).iv, red (φ (gt L x).f) (σ (gt L x).iv.lo)⟩ : U α)] = _
    rw [M.rd _ _ h1.2 h1.1.1]
    rfl
  · exact ⟨rfl, ho⟩
theorem Mv.step (M : Mv P D eqf same red σ φ) {L out : List (U α)} (hL : ∀ x ∈ L, Pu P D x) (ho : ∀ x ∈ out, Pu P D x) {x : Nat} (hx : x < L.length) :
    dg eqf same red (L.map (mU σ φ)) (out.map (mU σ φ)) x = (dg eqf same red L out x).map (mU σ φ) ∧ ∀ y ∈ dg eqf same red L out x, Pu P D y := by
  have h1 := lE hL hx
  obtain ⟨g1, g2⟩ := M.gap hL ho hx
  obtain ⟨p1, p2⟩ := M.pt hL ho hx
  unfold dg
  rw [M.bef hL ho hx, ib _ hx, g1, p1, List.length_map]
  have ei : ar (mU σ φ (gt L x)).iv = ar (gt L x).iv := M.inst h1.1
  rw [ei]
  cases hb : mb L out x with
  | false =>
    rw [cond_false, cond_false]
    cases (!(ar ((gt L x).iv)))
    · exact ⟨rfl, p2⟩
    · exact ⟨rfl, g2⟩
  | true =>
    obtain ⟨b1, _, _⟩ := fz.1 hb
    have ho1 := lE ho (by omega : out.length - 1 < out.length)
    rw [ib _ (by omega : out.length - 1 < out.length), cond_true, cond_true]
    cases (!(ar ((gt L x).iv)))
    · rw [cond_false, cond_false]
      show (bif (same (φ (gt out (out.length - 1)).f) (φ (gt L x).f) (σ (gt L x).iv.lo)) then _ else _) = _ ∧ _
      rw [M.sm _ _ _ ho1.2 h1.2 h1.1.1]
      cases same (gt out (out.length - 1)).f (gt L x).f (gt L x).iv.lo
      · exact ⟨rfl, p2⟩
      · refine ⟨?_, ?_⟩
        · rw [cond_true, cond_true, List.map_set]; rfl
        · rw [cond_true]; exact pu_set ho ho1
    · rw [cond_true, cond_true]
      show (bif ((!(gt out (out.length - 1)).iv.openHi) && (eqf (φ (gt out (out.length - 1)).f) (φ (gt L x).f))) then _ else _) = _ ∧ _
      rw [M.eq _ _ ho1.2 h1.2]
      cases ((!(gt out (out.length - 1)).iv.openHi) && (eqf (gt out (out.length - 1)).f (gt L x).f))
      · exact ⟨rfl, g2⟩
      · refine ⟨?_, ?_⟩
        · rw [cond_true, cond_true, List.map_set]; rfl
        · rw [cond_true]; exact pu_set ho ⟨⟨ho1.1.1, h1.1.2⟩, ho1.2⟩
theorem Mv.iter (M : Mv P D eqf same red σ φ) {L : List (U α)} (hL : ∀ x ∈ L, Pu P D x) : ∀ k, k ≤ L.length →
    dR (dg eqf same red (L.map (mU σ φ))) [] k = (dR (dg eqf same red L) [] k).map (mU σ φ) ∧ ∀ y ∈ dR (dg eqf same red L) [] k, Pu P D y
  | 0, _ => ⟨rfl, fun _ h => by cases h⟩
  | k + 1, hk => by
    obtain ⟨e1, e2⟩ := M.iter hL k (by omega)
    have := M.step hL e2 (by omega : k < L.length)
    show dg eqf same red (L.map (mU σ φ)) (dR (dg eqf same red (L.map (mU σ φ))) [] k) k = (dg eqf same red L (dR (dg eqf same red L) [] k) k).map (mU σ φ) ∧ _
    rw [e1]
    exact this
omit [Inhabited α] in
theorem Mv.at1 (M : Mv P D eqf same red σ φ) {u : U α} (h : Pu P D u) : atU (mU σ φ u) = (atU u).map (mU σ φ) ∧ ∀ y ∈ atU u, Pu P D y := by
  unfold atU
  rw [show ar (mU σ φ u).iv = ar u.iv from M.inst h.1]
  have e1 : (mU σ φ u).iv.openLo = u.iv.openLo := rfl
  have e2 : (mU σ φ u).iv.openHi = u.iv.openHi := rfl
  rw [e1, e2]
  obtain ⟨⟨a, b⟩, c⟩ := h
  cases u.iv.openLo <;> cases ar u.iv <;> cases u.iv.openHi <;>
    exact ⟨rfl, fun y hy => by
      simp only [cond_true, cond_false, List.mem_append, List.mem_cons, List.not_mem_nil, or_false, false_or] at hy <;> first
        | (rcases hy with rfl | rfl | rfl <;> first | exact ⟨⟨a, a⟩, c⟩ | exact ⟨⟨b, b⟩, c⟩ | exact ⟨⟨a, b⟩, c⟩)
        | (rcases hy with rfl | rfl <;> first | exact ⟨⟨a, a⟩, c⟩ | exact ⟨⟨b, b⟩, c⟩ | exact ⟨⟨a, b⟩, c⟩)
        | (rcases hy with rfl <;> first | exact ⟨⟨a, a⟩, c⟩ | exact ⟨⟨b, b⟩, c⟩ | exact ⟨⟨a, b⟩, c⟩)⟩
omit [Inhabited α] in
theorem Mv.ats (M : Mv P D eqf same red σ φ) : ∀ {n : List (U α)}, (∀ x ∈ n, Pu P D x) → (n.map (mU σ φ)).flatMap atU = (n.flatMap atU).map (mU σ φ) ∧ ∀ y ∈ n.flatMap atU, Pu P D y
  | [], _ => ⟨rfl, fun _ h => by cases h⟩
  | u :: n, h => by
    obtain ⟨e1, e2⟩ := M.at1 (h u (List.mem_cons_self ..))
    obtain ⟨e3, e4⟩ := M.ats (n := n) fun x hx => h x (List.mem_cons_of_mem _ hx)
    refine ⟨?_, fun y hy => ?_⟩
    · rw [List.map_cons, List.flatMap_cons, List.flatMap_cons, List.map_append, e1, e3]
    · rw [List.flatMap_cons] at hy
      rcases List.mem_append.1 hy with hy | hy
      · exact e2 y hy
      · exact e4 y hy
end
section
variable {α β : Type} [Inhabited α] {c : α → α → Int} {c' : β → β → Int} {m : α → β} {S : α → Prop}
omit [Inhabited α] in
theorem mq (hc : ∀ a b, S a → S b → c' (m a) (m b) = c a b) {x : α} (hx : S x) : ∀ {r : List α}, (∀ y ∈ r, S y) → fc c' (m x) (r.map m) = (fc c x r).map m ∧ ∀ y ∈ fc c x r, S y
  | [], _ => ⟨rfl, fun y hy => by rw [List.mem_singleton.1 hy]; exact hx⟩
  | y :: q, h => by
    have hy := h y (List.mem_cons_self ..)
    obtain ⟨e1, e2⟩ := mq hc hx (r := q) fun z hz => h z (List.mem_cons_of_mem _ hz)
    unfold fc
    rw [List.map_cons]
    show (if c' (m x) (m y) < 0 then m y :: fc c' (m x) (q.map m) else m x :: m y :: q.map m) = (if c x y < 0 then y :: fc c x q else x :: y :: q).map m ∧ ∀ z ∈ (if c x y < 0 then y :: fc c x q else x :: y :: q), S z
    rw [hc x y hx hy]
    by_cases h1 : c x y < 0
    · rw [if_pos h1, if_pos h1, e1]
      exact ⟨rfl, fun z hz => by
        rcases List.mem_cons.1 hz with rfl | hz
        · exact hy
        · exact e2 z hz⟩
    · rw [if_neg h1, if_neg h1]
      exact ⟨rfl, fun z hz => by
        rcases List.mem_cons.1 hz with rfl | hz
        · exact hx
        · exact h z hz⟩
omit [Inhabited α] in
theorem nG (hc : ∀ a b, S a → S b → c' (m a) (m b) = c a b) : ∀ {s r : List α}, (∀ y ∈ s, S y) → (∀ y ∈ r, S y) → kZ c' (r.map m) (s.map m) = (kZ c r s).map m
  | [], _, _, _ => rfl
  | x :: s, r, h, h2 => by
    obtain ⟨e1, e2⟩ := mq hc (h x (List.mem_cons_self ..)) h2
    show kZ c' (fc c' (m x) (r.map m)) (s.map m) = (kZ c (fc c x r) s).map m
    rw [e1]
    exact nG hc (fun y hy => h y (List.mem_cons_of_mem _ hy)) e2
end
def sR (h : GQ) (t : GR) : GR := aH t h
def sD (h : GQ) (f : Qd) : Qd := bK f h
theorem shR (h : GQ) (t : GR) : sR h t = ⟨au t.p h, t.r, t.neg⟩ := by unfold sR aH; rfl
theorem qd_eq {a b : GQ} (ha : QOk a) (hb : QOk b) (h : ed a = ed b) : a = b := lg ha hb h
theorem mz {h : GQ} {t : GR} (ht : QOk t.p) (hh : QOk h) : sR (az h) (sR h t) = t := by
  rw [shR h t, shR]
  obtain ⟨a1, a2⟩ := gK ht hh
  obtain ⟨n1, n2⟩ := pc hh
  obtain ⟨b1, b2⟩ := gK a1 n1
  have : au (au t.p h) (az h) = t.p := qd_eq b1 ht (by rw [b2, a2, n2]; grind)
  rw [show (⟨au t.p h, t.r, t.neg⟩ : GR).p = au t.p h from rfl, this]
theorem sR_ok {h : GQ} {t : GR} (ht : TOk t) (hh : QOk h) : TOk (sR h t) := by
  rw [shR]; exact ⟨(gK ht.1 hh).1, ht.2⟩
theorem sR_inj {h : GQ} {a b : GR} (ha : QOk a.p) (hb : QOk b.p) (hh : QOk h) : sR h a = sR h b ↔ a = b :=
  ⟨fun e => by rw [← mz ha hh, e, mz hb hh], fun e => by rw [e]⟩
theorem oW {h : GQ} {a b : GR} (ha : QOk a.p) (hb : QOk b.p) (hh : QOk h) : aD (sR h a) (sR h b) = aD a b := by
  have e : am (au a.p h) (au b.p h) = am a.p b.p := by
    obtain ⟨a1, a2⟩ := gK ha hh
    obtain ⟨b1, b2⟩ := gK hb hh
    obtain ⟨c1, c2⟩ := mf a1 b1
    obtain ⟨d1, d2⟩ := mf ha hb
    exact qd_eq c1 d1 (by rw [c2, d2, a2, b2]; grind)
  have f : ∀ t, aU (sR h t) = aU t := fun t => by rw [shR]; unfold aU; rfl
  unfold aD
  rw [f, f, shR, shR]
  simp only
  rw [e]
theorem oX {h : GQ} {t : GR} (ht : QOk t.p) (hh : QOk h) : dE (sR h t) = dE t := by
  rw [shR]
  unfold dE
  simp only
  rw [nA (gK ht hh).1, nA ht]
theorem mA {h : GQ} {f : Qd} (hf : DOk f) (hh : QOk h) : DOk (sD h f) ∧ ed (sD h f).c0 = ed f.c0 - ed h * (ed f.c1 - ed h * ed f.c2) ∧ ed (sD h f).c1 = ed f.c1 - (ed f.c2 + ed f.c2) * ed h ∧ (sD h f).c2 = f.c2 := by
  unfold sD bK
  obtain ⟨n1, n2⟩ := pc hh
  obtain ⟨e1, e2⟩ := rk hf n1
  obtain ⟨a1, a2⟩ := gK hf.2.2 hf.2.2
  obtain ⟨m1, m2⟩ := mn a1 n1
  obtain ⟨b1, b2⟩ := gK hf.2.1 m1
  refine ⟨⟨e1, b1, hf.2.2⟩, ?_, ?_, rfl⟩
  · show ed (bP f (az h)) = _
    rw [e2, n2]; grind
  · show ed (au f.c1 (an (au f.c2 f.c2) (az h))) = _
    rw [b2, m2, a2, n2]; grind
theorem oe {h : GQ} {f : Qd} (hf : DOk f) (hh : QOk h) : sD (az h) (sD h f) = f := by
  obtain ⟨n1, n2⟩ := pc hh
  obtain ⟨k, k0, k1, k2⟩ := mA hf hh
  obtain ⟨j, j0, j1, j2⟩ := mA k n1
  refine o5 j hf ?_ ?_ ?_
  · rw [j0, k0, k1, k2, n2]; grind
  · rw [j1, k1, k2, n2]; grind
  · rw [j2, k2]
theorem sD_lv {h : GQ} {f : Qd} {t : GR} (hf : DOk f) (ht : TOk t) (hh : QOk h) : lv (sR h t) (sD h f) = ((lv t f).1 - ed h * (lv t f).2, (lv t f).2) := by
  obtain ⟨k, k0, k1, k2⟩ := mA hf hh
  obtain ⟨a1, a2⟩ := gK ht.1 hh
  unfold lv
  rw [shR]
  simp only
  by_cases e : t.r = zQ
  · rw [if_pos e, if_pos e, k0, k1, k2, a2]
    refine Prod.ext ?_ rfl
    simp only; grind
  · rw [if_neg e, if_neg e, k0, k1, k2, a2]
    refine Prod.ext ?_ ?_
    · simp only; grind
    · simp only; grind
theorem sD_same {h : GQ} {f g : Qd} {t : GR} (hf : DOk f) (hg : DOk g) (ht : TOk t) (hh : QOk h) : aI (sD h f) (sD h g) (sR h t) = aI f g t := by
  unfold aI
  rw [Bool.eq_iff_iff]
  show bt _ _ _ = true ↔ bt _ _ _ = true
  rw [gQ (mA hf hh).1 (mA hg hh).1 (sR_ok ht hh), gQ hf hg ht, sD_lv hf ht hh, sD_lv hg ht hh]
  constructor
  · intro e
    rw [Prod.mk.injEq] at e
    obtain ⟨e1, e2⟩ := e
    rw [e2] at e1
    exact Prod.ext (by grind) e2
  · intro e; rw [e]
theorem sD_red {h : GQ} {f : Qd} {t : GR} (hf : DOk f) (ht : TOk t) (hh : QOk h) : ax (sD h f) (sR h t) = sD h (ax f t) := by
  unfold ax
  show aN (sD h f) (sR h t) = sD h (aN f t)
  obtain ⟨r, r0, r1, r2⟩ := fq (mA hf hh).1 (sR_ok ht hh)
  obtain ⟨s, s0, s1, s2⟩ := fq hf ht
  obtain ⟨k, k0, k1, k2⟩ := mA s hh
  rw [sD_lv hf ht hh] at r0 r1
  have z : ed (aN f t).c2 = 0 := by rw [s2]; exact i5.2
  refine o5 r k ?_ ?_ ?_
  · rw [r0, k0, s0, s1, z]; simp only; grind
  · rw [r1, k1, s1, z]; simp only; grind
  · rw [r2, k2, s2]
theorem quads_mv {h : GQ} (hh : QOk h) : Mv TOk DOk aY aI ax (sR h) (sD h) := by
  refine ⟨fun a b ha hb => sR_inj ha.1 hb.1 hh, fun f g t hf hg ht => sD_same hf hg ht hh, fun f t hf ht => sD_red hf ht hh, fun f t hf ht => ?_, fun f g hf hg => ?_⟩
  · unfold ax; exact (fq hf ht).1
  · rw [Bool.eq_iff_iff, fE, fE]
    exact ⟨fun e => by rw [← oe hf hh, e, oe hg hh], fun e => by rw [e]⟩
def sU (h : GQ) : U Qd → U Qd := mU (sR h) (sD h)
theorem sU_cmp {h : GQ} (hh : QOk h) {a b : U Qd} (ha : Pu TOk DOk a) (hb : Pu TOk DOk b) : cU (sU h a) (sU h b) = cU a b := by
  unfold cU
  show jM [aD (sR h a.iv.lo) (sR h b.iv.lo), cY (ci a.iv) (ci b.iv), aD (sR h a.iv.hi) (sR h b.iv.hi)] = _
  rw [oW ha.1.1.1 hb.1.1.1 hh, oW ha.1.2.1 hb.1.2.1 hh]
theorem qA {h : GQ} (hh : QOk h) {n : List (U Qd)} (hn : ∀ x ∈ n, Pu TOk DOk x) : aa (n.map (sU h)) = (aa n).map (sU h) := by
  rw [jc, jc, lh, lh, List.map_reverse]
  rw [show ([] : List (U Qd)) = ([] : List (U Qd)).map (sU h) from rfl, nG (c := cx) (c' := cx) (m := sU h) (S := Pu TOk DOk) (fun a b ha hb => by rw [jT, jT]; exact sU_cmp hh ha hb) hn (fun _ h => by cases h)]
  rfl
theorem oV {h : GQ} (hh : QOk h) {a b : U Qd} (ha : Pu TOk DOk a) (hb : Pu TOk DOk b) : bj (sU h a).iv (sU h b).iv = bj a.iv b.iv := by
  unfold bj
  show ((decide (aD (sR h a.iv.hi) (sR h b.iv.lo) < 0)) || ((aD (sR h a.iv.hi) (sR h b.iv.lo) == 0) && (a.iv.openHi || b.iv.openLo))) = _
  rw [oW ha.1.2.1 hb.1.1.1 hh]
theorem sU_civ {h : GQ} (hh : QOk h) {a : U Qd} (ha : Pu TOk DOk a) : bF (sU h a).iv = bF a.iv := by
  unfold bF cH di dB
  show (bif ((dE (sR h a.iv.lo) != 0) || (dE (sR h a.iv.hi) != 0)) then 5 else bif decide ((bif aD (sR h a.iv.lo) (sR h a.iv.hi) != 0 then aD (sR h a.iv.lo) (sR h a.iv.hi) else _) ≥ 0) then 10 else 0) = _
  rw [oX ha.1.1.1 hh, oX ha.1.2.1 hh, oW ha.1.1.1 ha.1.2.1 hh]
  rfl
theorem pu_nf {n : List (U Qd)} (hw : ∀ x ∈ n, Wv x.iv) (hD : ∀ x ∈ n, DOk x.f) : ∀ x ∈ n, Pu TOk DOk x := fun x hx => ⟨⟨jB (hw x hx).1.1, jB (hw x hx).1.2⟩, hD x hx⟩
theorem oS {h : GQ} (hh : QOk h) {n : List (U Qd)} (hn : NF aY aI ax n) (hD : ∀ x ∈ n, DOk x.f) : aV (n.map (sU h)) = (n.map (sU h), 0) := by
  have hp := pu_nf hn.wv hD
  obtain ⟨s1, s2⟩ := iN (fun x hx => (hn.wv x hx).1)
  have hDj : n.Pairwise fun a b => Dj a.iv b.iv := hn.ord.imp fun h => .inl h
  have hWs : ∀ x ∈ aa n, Wv x.iv := fun x hx => hn.wv x (s1.mem_iff.1 hx)
  have hs := lq hn.wv hDj s1 s2
  have e : aa n = n := jX (k := fun w => e7 w.iv) (jr hWs hs) (jr hn.wv hn.ord) fun x => s1.mem_iff
  have e2 : aa (n.map (sU h)) = n.map (sU h) := by rw [qA hh hp, e]
  rw [gi (by rw [e2]) fun i h0 h1 => ?_, gj, iS, e2]
  · have M := quads_mv hh
    obtain ⟨a1, a2⟩ := M.ats hp
    unfold sU
    rw [a1, List.length_map, (M.iter a2 _ (Nat.le_refl _)).1]
    rw [qT hn (fun x hx t ht => quads_ru.refl t ht _ (hD x hx)) n [] rfl rfl]
  · rw [List.length_map] at h1
    rw [e2, ib _ (by omega), ib _ h1, oV hh (lE hp (by omega)) (lE hp h1)]
    have := (ll hn.wv s1 s2).2 hDj i h0 (by rw [s1.length_eq]; exact h1)
    rwa [e] at this
theorem oc {h : GQ} (hh : QOk h) {n : List (U Qd)} (hl : n.length ≤ 256) (hn : NF aY aI ax n) (hD : ∀ x ∈ n, DOk x.f) : ck (n.map (sU h)) = 0 := by
  have hp := pu_nf hn.wv hD
  have hlm : (n.map (sU h)).length = n.length := List.length_map ..
  unfold ck
  rw [decide_eq_false (by omega : ¬ (((n.map (sU h)).length : Nat) : Int) > 256), cond_false]
  have hB : ∀ i, i < (n.map (sU h)).length → ch (n.map (sU h)) i = bif false then .ret 0 else .go (i + 1) := fun i hi => by
    rw [hlm] at hi
    have hm : gt n i ∈ n := by rw [f7 hi]; exact List.getElem_mem _
    unfold ch
    rw [hlm, decide_eq_true (by omega : ((i : Nat) : Int) < ((n.length : Nat) : Int)), cond_true, ib _ hi, sU_civ hh (hp _ hm), vcheck (hn.wv _ hm), dcheck (show DOk (sU h (gt n i)).f from (mA (hD _ hm) hh).1)]
    have ha : ((decide (((i : Nat) : Int) > 0)) && (!(bj ((gt (n.map (sU h)) (i - 1)).iv) ((sU h (gt n i)).iv)))) = false := by
      by_cases h0 : 0 < i
      · have hm' : gt n (i - 1) ∈ n := by rw [f7 (by omega)]; exact List.getElem_mem _
        have := List.pairwise_iff_getElem.1 hn.ord (i - 1) i (by omega) hi (by omega)
        rw [← f7 (by omega : i - 1 < n.length), ← f7 hi] at this
        rw [ib _ (by omega), oV hh (hp _ hm') (hp _ hm), kr (hn.wv _ hm').1 (hn.wv _ hm).1, decide_eq_true this, Bool.not_true, Bool.and_false]
      · rw [decide_eq_false (by omega : ¬ ((i : Nat) : Int) > 0)]; rfl
    rw [ha]; rfl
  refine (eQ (kv (bad := fun _ => false) hB (by
    unfold ch
    rw [decide_eq_false (by omega : ¬ (((n.map (sU h)).length : Nat) : Int) < (((n.map (sU h)).length : Nat) : Int))]
    rfl) ((n.map (sU h)).length - 0 + 1) 0 (Nat.zero_le _) (by omega) fun _ _ _ => rfl)).trans ?_
  unfold gJ
  rw [oS hh hn hD, pV]
  rfl
theorem qB {h : GQ} (hh : QOk h) {n : List (U Qd)} (hp : ∀ x ∈ n, Pu TOk DOk x) : (n.map (sU h)).map (sU (az h)) = n := by
  rw [List.map_map]
  conv => rhs; rw [← List.map_id n]
  refine List.map_congr_left fun x hx => ?_
  have := hp x hx
  show (⟨⟨sR (az h) (sR h x.iv.lo), sR (az h) (sR h x.iv.hi), x.iv.openLo, x.iv.openHi⟩, sD (az h) (sD h x.f)⟩ : U Qd) = x
  rw [mz this.1.1.1 hh, mz this.1.2.1 hh, oe this.2 hh]
end Go.Sx
namespace Go.Sx
theorem sz4 {x : GQ} (hx : QOk x) {z : Int} (h : 4 * ed x = (z : Rat)) (hz : z.natAbs < 18446744073709551616) : smQ x = true := by
  have d0 := oo hx
  have e : (4 : Rat) * (fu x.num : Rat) = (z : Rat) * (ks x : Rat) := by
    unfold ed at h
    grind
  have e2 : 4 * fu x.num = z * (ks x : Int) := by exact_mod_cast e
  have e3 : 4 * x.num.mag = z.natAbs * ks x := by
    have := congrArg Int.natAbs e2
    rw [Int.natAbs_mul, Int.natAbs_mul, jQ, Int.natAbs_natCast] at this
    exact this
  have hd : ks x ∣ 4 := (Nat.Coprime.symm hx.2.2).dvd_of_dvd_mul_right ⟨z.natAbs, by rw [e3, Nat.mul_comm]⟩
  have hq : ks x ≤ 4 := Nat.le_of_dvd (by decide) hd
  have hm : z.natAbs * ks x ≤ z.natAbs * 4 := Nat.mul_le_mul_left _ hq
  have hn : x.num.mag < 18446744073709551616 := by omega
  have hdn : x.den.mag < 18446744073709551616 := by
    unfold ks at hq
    by_cases e : x.den = z0
    · rw [e]; decide
    · rw [if_neg e] at hq; omega
  unfold smQ smI
  rw [decide_eq_true hn, decide_eq_true hdn]; rfl
def ziQ (x : GQ) : Bool := decide (x.den = z0) && decide (x.num.mag < 1048576)
def ziD (f : Qd) : Bool := ziQ f.c0 && (ziQ f.c1 && ziQ f.c2)
theorem n8 {x : GQ} (h : ziQ x = true) : ∃ a : Int, ed x = (a : Rat) ∧ a.natAbs < 1048576 := by
  unfold ziQ at h
  rw [Bool.and_eq_true, decide_eq_true_eq, decide_eq_true_eq] at h
  refine ⟨fu x.num, ?_, by rw [jQ]; exact h.2⟩
  unfold ed ks
  rw [if_pos h.1]
  grind
def ziAll (x : GR) : Bool := J3.all fun a => J2.all fun b => J1.all fun c => ziD (aN (qd a b c) x)
theorem red_zi {f : Qd} {x : GR} (hf : Fs f) (hx : Tm x) : ziD (ax f x) = true := by
  obtain ⟨a, ha, b, hb, c, hc, rfl⟩ := fs_qd hf
  have h := oO (p := ziAll) (by decide +kernel) hx
  unfold ziAll at h
  have := List.all_eq_true.1 (List.all_eq_true.1 (List.all_eq_true.1 h a ha) b hb) c hc
  unfold ax
  exact this
theorem fs_zi {f : Qd} (hf : Fs f) : ziD f = true := by
  obtain ⟨a, ha, b, hb, c, hc, rfl⟩ := fs_qd hf
  have h : (J3.all fun a => J2.all fun b => J1.all fun c => ziD (qd a b c)) = true := by decide +kernel
  exact List.all_eq_true.1 (List.all_eq_true.1 (List.all_eq_true.1 h a ha) b hb) c hc
theorem bn_fs (l : List Stp) : ∀ x ∈ ay (aw l), Fs x.f ∨ ∃ f t, Fs f ∧ Tm t ∧ x.f = ax f t := fun x hx => by
  have hE := (ko (l := (aw l).map (·.iv)) (fun i hi => by obtain ⟨x, hx, rfl⟩ := List.mem_map.1 hi; exact (py l x hx).1.1)).1
  unfold ay at hx
  rw [gX, kn, jy] at hx
  obtain ⟨i, hi, hh, hf⟩ := oH _ (Nat.le_refl _) x hx
  have hl : (fl (default : Qd) (aw l) (il ((aw l).map (·.iv)))).length = (et (default : Qd) (il ((aw l).map (·.iv)))).length := by unfold fl; rw [List.length_map]
  have hb : gt (et (default : Qd) (il ((aw l).map (·.iv)))) i ∈ et (default : Qd) (il ((aw l).map (·.iv))) := by rw [f7 (hl ▸ hi)]; exact List.getElem_mem _
  have hT := (nj hE hb).1
  rw [iX hi] at hh hf
  have hfs : Fs (ic (aw l) (gt (et default (il ((aw l).map (·.iv)))) i)).f := by
    rcases km _ _ hh with ⟨h1, _⟩ | ⟨y, hy, h2⟩
    · rcases gW.1 hb with ⟨t, _, e⟩ | ⟨t, t', _, e⟩
      · rw [e] at h1; cases h1
      · rw [e] at h1; cases h1
    · rw [h2]; exact ((jx l).1 y hy).2
  rcases hf with e | e
  · exact .inl (by rw [e]; exact hfs)
  · exact .inr ⟨_, _, hfs, hT, by rw [e, (eI _ _).1]⟩
theorem bn_zi (l : List Stp) : ∀ x ∈ ay (aw l), ziD x.f = true := fun x hx => by
  rcases bn_fs l x hx with h | ⟨f, t, hf, ht, e⟩
  · exact fs_zi h
  · rw [e]; exact red_zi hf ht
theorem mulb {k a : Int} {m n : Nat} (hk : k.natAbs ≤ m) (ha : a.natAbs ≤ n) : (k * a).natAbs ≤ m * n := by
  rw [Int.natAbs_mul]; exact Nat.mul_le_mul hk ha
theorem sD_sz {h : GQ} (hh : QOk h) {k : Int} (hk : 2 * ed h = (k : Rat)) (hk2 : k.natAbs ≤ 128) {f : Qd} (hf : DOk f) (hz : ziD f = true) : SzD 40 (sD h f) := by
  unfold ziD at hz
  rw [Bool.and_eq_true, Bool.and_eq_true] at hz
  obtain ⟨a, a1, a2⟩ := n8 hz.1
  obtain ⟨b, b1, b2⟩ := n8 hz.2.1
  obtain ⟨c, c1, c2⟩ := n8 hz.2.2
  obtain ⟨o, o0, o1, o2⟩ := mA hf hh
  have m1 := mulb hk2 (Nat.le_of_lt b2)
  have m2 := mulb hk2 (mulb hk2 (Nat.le_of_lt c2))
  have m3 := mulb hk2 (Nat.le_of_lt c2)
  refine qt ?_
  unfold smD
  rw [sz4 o.1 (z := 4 * a - 2 * (k * b) + k * (k * c)) ?_ ?_, sz4 o.2.1 (z := 4 * b - 4 * (k * c)) ?_ ?_, sz4 o.2.2 (z := 4 * c) ?_ ?_]
  · rfl
  · rw [o2, c1, Rat.intCast_mul]; rfl
  · omega
  · rw [o1, b1, c1, Rat.intCast_sub, Rat.intCast_mul, Rat.intCast_mul, Rat.intCast_mul, ← hk]
    show _ = (4 : Rat) * (b : Rat) - (4 : Rat) * _
    grind
  · generalize k * c = p at *
    omega
  · rw [o0, a1, b1, c1, Rat.intCast_add, Rat.intCast_sub, Rat.intCast_mul, Rat.intCast_mul, Rat.intCast_mul, Rat.intCast_mul, Rat.intCast_mul, ← hk]
    show _ = (4 : Rat) * (a : Rat) - (2 : Rat) * _ + _
    grind
  · generalize k * (k * c) = q at *
    generalize k * b = p at *
    omega
theorem sR_sz {h : GQ} (hh : QOk h) {k : Int} (hk : 2 * ed h = (k : Rat)) (hk2 : k.natAbs ≤ 128) {t : GR} (ht : Tm t) : SzR 40 (sR h t) := by
  have h2 := (tm_sz ht).2
  rw [shR]
  refine ⟨mg ?_, h2⟩
  have hp := (jB ht).1
  obtain ⟨a1, a2⟩ := gK hp hh
  obtain ⟨n, r, hn, rfl⟩ := ht
  have hv : ed (ad (n : Int) r).p = ((n : Int) : Rat) := by
    cases r
    · rw [rc]; exact (eY _).2
    · rw [rb]; exact (eY _).2
  refine sz4 a1 (z := 4 * (n : Int) + 2 * k) ?_ (by omega)
  rw [a2, hv, Rat.intCast_add, Rat.intCast_mul, Rat.intCast_mul, ← hk]
  show _ = (4 : Rat) * _ + (2 : Rat) * _
  grind
def hb (k : Int) : GQ := (ak k 2).1
theorem pR (k : Int) : QOk (hb k) ∧ 2 * ed (hb k) = (k : Rat) ∧ (ak k 2).2 = 0 := by
  have e : ak k 2 = (aZ (a6 k) (a6 2), 0) := by
    unfold ak dN; rfl
  obtain ⟨k1, k2⟩ := nf (n := a6 k) (d := a6 2) (kN k) (by rw [ii]; decide)
  unfold hb
  rw [e]
  refine ⟨k1, ?_, rfl⟩
  show 2 * ed (aZ (a6 k) (a6 2)) = _
  rw [k2, ii, ii]
  show 2 * ((k : Rat) / ((2 : Int) : Rat)) = _
  have : ((2 : Int) : Rat) = 2 := rfl
  rw [this]; grind
theorem px (l : List Stp) {k : Int} (hk : k.natAbs ≤ 128) : All (fI 30) ((ay (aw l)).map (sU (hb k))) := fun y hy => by
  obtain ⟨x, hx, rfl⟩ := List.mem_map.1 hy
  obtain ⟨h1, h2, _⟩ := pR k
  have hw := (la l).1.wv x hx
  exact ⟨⟨cz (sR_sz h1 h2 hk hw.1.1) (by decide), cz (sR_sz h1 h2 hk hw.1.2) (by decide)⟩, cA (j := 30) (k := 40) (sD_sz h1 h2 hk ((la l).2 x hx) (bn_zi l x hx)) (by decide)⟩
end Go.Sx
namespace Go.Sx
theorem shA_eq (b : GQ) (x : U Qd) : shA b b x = sU b x := by
  unfold shA aT; rfl
theorem shB_eq (b : GQ) (x : U Qd) : shB (az b) b x = sU (az b) x := by
  unfold shB aS; rfl
theorem flat1 {α β : Type} (g : α → β) : ∀ l : List α, (l.flatMap fun x => [g x]) = l.map g
  | [] => rfl
  | x :: l => by rw [List.flatMap_cons, flat1 g l]; rfl
theorem qw (l : List (U Qd)) (b g : GQ) : a8 l b g = bQ (l.map (shA b g)) := by
  unfold a8
  have := kj (R := List (U Qd)) (f := fun (o : List (U Qd)) (u : U Qd) => o ++ [shA b g u]) l (B := fun s => cf l b g s.1 s.2)
    (fun o i hi => by
      show cf l b g o i = _
      unfold cf
      rw [decide_eq_true (by omega : ((i : Nat) : Int) < ((l.length : Nat) : Int))]
      rfl)
    (fun o => by
      show cf l b g o l.length = _
      unfold cf
      rw [decide_eq_false (by omega : ¬ ((l.length : Nat) : Int) < ((l.length : Nat) : Int))]
      rfl) l [] [] (l.length - 0 + 1) rfl (by omega)
  refine (eQ this).trans ?_
  unfold fW
  rw [ki, List.nil_append, flat1]
theorem qv (l : List (U Qd)) (b g : GQ) : bY l b g = bQ (l.map (shB b g)) := by
  unfold bY
  have := kj (R := List (U Qd)) (f := fun (o : List (U Qd)) (u : U Qd) => o ++ [shB b g u]) l (B := fun s => ce l b g s.1 s.2)
    (fun o i hi => by
      show ce l b g o i = _
      unfold ce
      rw [decide_eq_true (by omega : ((i : Nat) : Int) < ((l.length : Nat) : Int))]
      rfl)
    (fun o => by
      show ce l b g o l.length = _
      unfold ce
      rw [decide_eq_false (by omega : ¬ ((l.length : Nat) : Int) < ((l.length : Nat) : Int))]
      rfl) l [] [] (l.length - 0 + 1) rfl (by omega)
  refine (eQ this).trans ?_
  unfold fU
  rw [ki, List.nil_append, flat1]
def bn (l : List Stp) : List (U Qd) := ay (aw l)
theorem bn_pu (l : List Stp) : ∀ x ∈ bn l, Pu TOk DOk x := pu_nf (la l).1.wv (la l).2
theorem ke (l : List Stp) (k : Int) : a8 (bn l) (hb k) (hb k) = (bn l).map (sU (hb k)) := by
  rw [qw, show shA (hb k) (hb k) = sU (hb k) from funext (shA_eq _)]
  unfold bQ
  unfold bn
  rw [oS (pR k).1 (la l).1 (la l).2]
theorem back_is (l : List Stp) (k : Int) : bY ((bn l).map (sU (hb k))) (az (hb k)) (hb k) = bn l := by
  rw [qv, show shB (az (hb k)) (hb k) = sU (az (hb k)) from funext (shB_eq _), qB (pR k).1 (bn_pu l)]
  unfold bQ
  unfold bn
  rw [bn_again]
theorem ask_z1 (l : List Stp) {k : Int} (hk : -128 ≤ k ∧ k ≤ 127) : All (fI 30) ((bn l).map (shA (hb k) (hb k))) := by
  rw [show shA (hb k) (hb k) = sU (hb k) from funext (shA_eq _)]
  exact px l (by omega)
theorem ask_x (l : List Stp) {k : Int} (hk : -128 ≤ k ∧ k ≤ 127) : All (fI 30) (a8 (bn l) (hb k) (hb k)) := by
  rw [ke]; exact px l (by omega)
theorem ask_len (l : List Stp) (k : Int) : (a8 (bn l) (hb k) (hb k)).length = (bn l).length := by
  rw [ke, List.length_map]
theorem ask_rt (l : List Stp) (k : Int) (j : Nat) : RtV (gt (a8 (bn l) (hb k) (hb k)) j).iv := by
  rw [ke]
  by_cases hj : j < (bn l).length
  · rw [ib _ hj]
    have := nf_rt (la l).1.wv j
    show RtR (sR (hb k) (gt (bn l) j).iv.lo) ∧ RtR (sR (hb k) (gt (bn l) j).iv.hi)
    rw [shR, shR]
    exact this
  · have : gt ((bn l).map (sU (hb k))) j = default := by unfold gt; rw [List.getD_eq_getElem?_getD, List.getElem?_eq_none (by rw [List.length_map]; omega)]; rfl
    rw [this]; exact ⟨.inl rfl, .inl rfl⟩
theorem ask_z2 (l : List Stp) (k : Int) : All (fI 30) ((a8 (bn l) (hb k) (hb k)).map (shB (az (hb k)) (hb k))) := by
  rw [ke, show shB (az (hb k)) (hb k) = sU (az (hb k)) from funext (shB_eq _), qB (pR k).1 (bn_pu l)]
  exact bn_sz l
end Go.Sx
