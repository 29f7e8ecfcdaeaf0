/- A part of the proof of movingpointMoves. -/
import Derived.Test.YtbenbmdkhcfcfaaGreatDoorS3
import Derived.Test.YtbenbmdkhcfcfaaGreatDoorS2
set_option linter.unusedVariables false
set_option linter.unusedSimpArgs false
open Go.Proofs.Tryz renaming runUnderlying9 → uu9, underlying25 → nn25, underlying27 → nn27, underlying110 → nn110
namespace Go.Sx
section
variable {α : Type} [Inhabited α]
def mV (σ : GR → GR) (i : Iv) : Iv := ⟨σ i.lo, σ i.hi, i.openLo, i.openHi⟩
def mU (σ : GR → GR) (φ : α → α) (x : U α) : U α := ⟨mV σ x.iv, φ x.f⟩
def Pu (P : GR → Prop) (D : α → Prop) (x : U α) : Prop := (P x.iv.lo ∧ P x.iv.hi) ∧ D x.f
theorem j3 {β γ : Type} [Inhabited β] [Inhabited γ] (m : β → γ) {L : List β} {x : Nat} (h : x < L.length) : gt (L.map m) x = m (gt L x) := by
  rw [gD h, gD (by rw [List.length_map]; exact h), List.getElem_map]
structure Mv (P : GR → Prop) (D : α → Prop) (eqf : α → α → Bool) (same : α → α → GR → Bool) (red : α → GR → α) (σ : GR → GR) (φ : α → α) : Prop where
  inj : ∀ a b, P a → P b → (σ a = σ b ↔ a = b)
  sm : ∀ f g t, D f → D g → P t → same (φ f) (φ g) (σ t) = same f g t
  rd : ∀ f t, D f → P t → red (φ f) (σ t) = φ (red f t)
  rD : ∀ f t, D f → P t → D (red f t)
  eq : ∀ f g, D f → D g → eqf (φ f) (φ g) = eqf f g
variable {P : GR → Prop} {D : α → Prop} {eqf : α → α → Bool} {same : α → α → GR → Bool} {red : α → GR → α} {σ : GR → GR} {φ : α → α}
omit [Inhabited α] in
theorem Mv.dec (M : Mv P D eqf same red σ φ) {a b : GR} (ha : P a) (hb : P b) : decide (σ a = σ b) = decide (a = b) := decide_eq_decide.2 (M.inj a b ha hb)
omit [Inhabited α] in
theorem Mv.inst (M : Mv P D eqf same red σ φ) {i : Iv} (h : P i.lo ∧ P i.hi) : aH (mV σ i) = aH i := by
  unfold aH; exact M.dec h.1 h.2
theorem mX {L : List (U α)} (hL : ∀ x ∈ L, Pu P D x) {x : Nat} (h : x < L.length) : Pu P D (gt L x) := hL _ (by rw [gD h]; exact List.getElem_mem _)
theorem Mv.held (M : Mv P D eqf same red σ φ) {out : List (U α)} (ho : ∀ x ∈ out, Pu P D x) {t : GR} (ht : P t) : iC (out.map (mU σ φ)) (σ t) = iC out t := by
  unfold iC
  rw [List.length_map]
  by_cases h : 0 < out.length
  · rw [j3 _ (by omega)]
    show ((_ && decide (σ (gt out (out.length - 1)).iv.hi = σ t)) && _) = _
    rw [M.dec (mX ho (by omega)).1.2 ht]
    rfl
  · rw [decide_eq_false (by omega : ¬ ((out.length : Nat) : Int) > 0)]; rfl
theorem Mv.bef (M : Mv P D eqf same red σ φ) {L out : List (U α)} (hL : ∀ x ∈ L, Pu P D x) (ho : ∀ x ∈ out, Pu P D x) {x : Nat} (hx : x < L.length) : ri (L.map (mU σ φ)) (out.map (mU σ φ)) x = ri L out x := by
  unfold ri
  rw [List.length_map, j3 _ hx]
  by_cases h : 0 < out.length
  · have hp := mX ho (by omega : out.length - 1 < out.length)
    rw [j3 _ (by omega)]
    show ((_ && decide (σ (gt out (out.length - 1)).iv.hi = σ (gt L x).iv.lo)) && !(aH (mV σ (gt out (out.length - 1)).iv))) = _
    rw [M.dec hp.1.2 (mX hL hx).1.1, M.inst hp.1]
  · rw [decide_eq_false (by omega : ¬ ((out.length : Nat) : Int) > 0)]; rfl
omit [Inhabited α] in
theorem vz {out : List (U α)} (ho : ∀ x ∈ out, Pu P D x) {y : U α} (hy : Pu P D y) : ∀ x ∈ out ++ [y], Pu P D x := fun x hx => by
  rcases List.mem_append.1 hx with hx | hx
  · exact ho x hx
  · rw [List.mem_singleton.1 hx]; exact hy
omit [Inhabited α] in
theorem pu_set {out : List (U α)} (ho : ∀ x ∈ out, Pu P D x) {i : Nat} {y : U α} (hy : Pu P D y) : ∀ x ∈ out.set i y, Pu P D x := fun x hx => by
  rcases List.mem_or_eq_of_mem_set hx with hx | rfl
  · exact ho x hx
  · exact hy
theorem Mv.gap (M : Mv P D eqf same red σ φ) {L out : List (U α)} (hL : ∀ x ∈ L, Pu P D x) (ho : ∀ x ∈ out, Pu P D x) {x : Nat} (hx : x < L.length) :
    ik (L.map (mU σ φ)) (out.map (mU σ φ)) x = (ik L out x).map (mU σ φ) ∧ ∀ y ∈ ik L out x, Pu P D y := by
  have h1 := mX hL hx
  have h2 := mX hL (by omega : x - 1 < L.length)
  unfold ik
  rw [j3 _ hx, j3 _ (by omega : x - 1 < L.length)]
  have e : ((((decide (((x : Nat) : Int) > 0)) && (aH ((mU σ φ (gt L (x - 1))).iv))) && (decide (((mU σ φ (gt L (x - 1))).iv).lo = ((mU σ φ (gt L x)).iv).lo))) && (!(iC (out.map (mU σ φ)) (((mU σ φ (gt L x)).iv).lo))))
      = ((((decide (((x : Nat) : Int) > 0)) && (aH ((gt L (x - 1)).iv))) && (decide (((gt L (x - 1)).iv).lo = ((gt L x).iv).lo))) && (!(iC out (((gt L x).iv).lo)))) := by
    show ((((decide (((x : Nat) : Int) > 0)) && (aH (mV σ (gt L (x - 1)).iv))) && (decide (σ ((gt L (x - 1)).iv).lo = σ ((gt L x).iv).lo))) && (!(iC (out.map (mU σ φ)) (σ ((gt L x).iv).lo)))) = _
    rw [M.inst h2.1, M.dec h2.1.1 h1.1.1, M.held ho h1.1.1]
  rw [e]
  cases ((((decide (((x : Nat) : Int) > 0)) && (aH ((gt L (x - 1)).iv))) && (decide (((gt L (x - 1)).iv).lo = ((gt L x).iv).lo))) && (!(iC out (((gt L x).iv).lo))))
  · exact ⟨by rw [cond_false, cond_false, List.map_append]; rfl, by rw [cond_false]; exact vz ho h1⟩
  · exact ⟨by rw [cond_true, cond_true, List.map_append]; rfl, by rw [cond_true]; exact vz ho h1⟩
theorem Mv.pt (M : Mv P D eqf same red σ φ) {L out : List (U α)} (hL : ∀ x ∈ L, Pu P D x) (ho : ∀ x ∈ out, Pu P D x) {x : Nat} (hx : x < L.length) :
    jK same red (L.map (mU σ φ)) (out.map (mU σ φ)) x = (jK same red L out x).map (mU σ φ) ∧ ∀ y ∈ jK same red L out x, Pu P D y := by
  have h1 := mX hL hx
  unfold jK
  rw [j3 _ hx, List.length_map]
  have e : (((decide (((x + 1 : Nat) : Int) < ((L.length : Nat) : Int))) && (decide (((gt (L.map (mU σ φ)) (x + 1)).iv).lo = ((mU σ φ (gt L x)).iv).lo))) && (same ((gt (L.map (mU σ φ)) (x + 1)).f) ((mU σ φ (gt L x)).f) (((mU σ φ (gt L x)).iv).lo)))
      = (((decide (((x + 1 : Nat) : Int) < ((L.length : Nat) : Int))) && (decide (((gt L (x + 1)).iv).lo = ((gt L x).iv).lo))) && (same ((gt L (x + 1)).f) ((gt L x).f) (((gt L x).iv).lo))) := by
    by_cases h : x + 1 < L.length
    · have h2 := mX hL h
      rw [j3 _ h]
      show ((_ && (decide (σ ((gt L (x + 1)).iv).lo = σ ((gt L x).iv).lo))) && (same (φ (gt L (x + 1)).f) (φ (gt L x).f) (σ (gt L x).iv.lo))) = _
      rw [M.dec h2.1.1 h1.1.1, M.sm _ _ _ h2.2 h1.2 h1.1.1]
    · rw [decide_eq_false (by omega : ¬ ((x + 1 : Nat) : Int) < ((L.length : Nat) : Int))]; rfl
  rw [e]
  cases (((decide (((x + 1 : Nat) : Int) < ((L.length : Nat) : Int))) && (decide (((gt L (x + 1)).iv).lo = ((gt L x).iv).lo))) && (same ((gt L (x + 1)).f) ((gt L x).f) (((gt L x).iv).lo)))
  · refine ⟨?_, by rw [cond_false]; exact vz ho ⟨h1.1, M.rD _ _ h1.2 h1.1.1⟩⟩
    rw [cond_false, cond_false, List.map_append]
    show _ ++ [(⟨mV σ (gt L x).iv, red (φ (gt L x).f) (σ (gt L x).iv.lo)⟩ : U α)] = _
    rw [M.rd _ _ h1.2 h1.1.1]
    rfl
  · exact ⟨rfl, ho⟩
theorem Mv.step (M : Mv P D eqf same red σ φ) {L out : List (U α)} (hL : ∀ x ∈ L, Pu P D x) (ho : ∀ x ∈ out, Pu P D x) {x : Nat} (hx : x < L.length) :
    dx eqf same red (L.map (mU σ φ)) (out.map (mU σ φ)) x = (dx eqf same red L out x).map (mU σ φ) ∧ ∀ y ∈ dx eqf same red L out x, Pu P D y := by
  have h1 := mX hL hx
  obtain ⟨g1, g2⟩ := M.gap hL ho hx
  obtain ⟨p1, p2⟩ := M.pt hL ho hx
  unfold dx
  rw [M.bef hL ho hx, j3 _ hx, g1, p1, List.length_map]
  have ei : aH (mU σ φ (gt L x)).iv = aH (gt L x).iv := M.inst h1.1
  rw [ei]
  cases hb : ri L out x with
  | false =>
    rw [cond_false, cond_false]
    cases (!(aH ((gt L x).iv)))
    · exact ⟨rfl, p2⟩
    · exact ⟨rfl, g2⟩
  | true =>
    obtain ⟨b1, _, _⟩ := iD.1 hb
    have ho1 := mX ho (by omega : out.length - 1 < out.length)
    rw [j3 _ (by omega : out.length - 1 < out.length), cond_true, cond_true]
    cases (!(aH ((gt L x).iv)))
    · rw [cond_false, cond_false]
      show (bif (same (φ (gt out (out.length - 1)).f) (φ (gt L x).f) (σ (gt L x).iv.lo)) then _ else _) = _ ∧ _
      rw [M.sm _ _ _ ho1.2 h1.2 h1.1.1]
      cases same (gt out (out.length - 1)).f (gt L x).f (gt L x).iv.lo
      · exact ⟨rfl, p2⟩
      · refine ⟨?_, ?_⟩
        · rw [cond_true, cond_true, List.map_set]; rfl
        · rw [cond_true]; exact pu_set ho ho1
    · rw [cond_true, cond_true]
      show (bif ((!(gt out (out.length - 1)).iv.openHi) && (eqf (φ (gt out (out.length - 1)).f) (φ (gt L x).f))) then _ else _) = _ ∧ _
      rw [M.eq _ _ ho1.2 h1.2]
      cases ((!(gt out (out.length - 1)).iv.openHi) && (eqf (gt out (out.length - 1)).f (gt L x).f))
      · exact ⟨rfl, g2⟩
      · refine ⟨?_, ?_⟩
        · rw [cond_true, cond_true, List.map_set]; rfl
        · rw [cond_true]; exact pu_set ho ⟨⟨ho1.1.1, h1.1.2⟩, ho1.2⟩
theorem Mv.iter (M : Mv P D eqf same red σ φ) {L : List (U α)} (hL : ∀ x ∈ L, Pu P D x) : ∀ k, k ≤ L.length →
    eQ (dx eqf same red (L.map (mU σ φ))) [] k = (eQ (dx eqf same red L) [] k).map (mU σ φ) ∧ ∀ y ∈ eQ (dx eqf same red L) [] k, Pu P D y
  | 0, _ => ⟨rfl, fun _ h => by cases h⟩
  | k + 1, hk => by
    obtain ⟨e1, e2⟩ := M.iter hL k (by omega)
    have := M.step hL e2 (by omega : k < L.length)
    show dx eqf same red (L.map (mU σ φ)) (eQ (dx eqf same red (L.map (mU σ φ))) [] k) k = (dx eqf same red L (eQ (dx eqf same red L) [] k) k).map (mU σ φ) ∧ _
    rw [e1]
    exact this
omit [Inhabited α] in
theorem Mv.at1 (M : Mv P D eqf same red σ φ) {u : U α} (h : Pu P D u) : atU (mU σ φ u) = (atU u).map (mU σ φ) ∧ ∀ y ∈ atU u, Pu P D y := by
  unfold atU
  rw [show aH (mU σ φ u).iv = aH u.iv from M.inst h.1]
  have e1 : (mU σ φ u).iv.openLo = u.iv.openLo := rfl
  have e2 : (mU σ φ u).iv.openHi = u.iv.openHi := rfl
  rw [e1, e2]
  obtain ⟨⟨a, b⟩, c⟩ := h
  cases u.iv.openLo <;> cases aH u.iv <;> cases u.iv.openHi <;>
    exact ⟨rfl, fun y hy => by
      simp only [cond_true, cond_false, List.mem_append, List.mem_cons, List.not_mem_nil, or_false, false_or] at hy <;> first
        | (rcases hy with rfl | rfl | rfl <;> first | exact ⟨⟨a, a⟩, c⟩ | exact ⟨⟨b, b⟩, c⟩ | exact ⟨⟨a, b⟩, c⟩)
        | (rcases hy with rfl | rfl <;> first | exact ⟨⟨a, a⟩, c⟩ | exact ⟨⟨b, b⟩, c⟩ | exact ⟨⟨a, b⟩, c⟩)
        | (rcases hy with rfl <;> first | exact ⟨⟨a, a⟩, c⟩ | exact ⟨⟨b, b⟩, c⟩ | exact ⟨⟨a, b⟩, c⟩)⟩
omit [Inhabited α] in
theorem Mv.ats (M : Mv P D eqf same red σ φ) : ∀ {n : List (U α)}, (∀ x ∈ n, Pu P D x) → (n.map (mU σ φ)).flatMap atU = (n.flatMap atU).map (mU σ φ) ∧ ∀ y ∈ n.flatMap atU, Pu P D y
  | [], _ => ⟨rfl, fun _ h => by cases h⟩
  | u :: n, h => by
    obtain ⟨e1, e2⟩ := M.at1 (h u (List.mem_cons_self ..))
    obtain ⟨e3, e4⟩ := M.ats (n := n) fun x hx => h x (List.mem_cons_of_mem _ hx)
    refine ⟨?_, fun y hy => ?_⟩
    · rw [List.map_cons, List.flatMap_cons, List.flatMap_cons, List.map_append, e1, e3]
    · rw [List.flatMap_cons] at hy
      rcases List.mem_append.1 hy with hy | hy
      · exact e2 y hy
      · exact e4 y hy
end
section
variable {α β : Type} [Inhabited α] {c : α → α → Int} {c' : β → β → Int} {m : α → β} {S : α → Prop}
omit [Inhabited α] in
theorem n8 (hc : ∀ a b, S a → S b → c' (m a) (m b) = c a b) {x : α} (hx : S x) : ∀ {r : List α}, (∀ y ∈ r, S y) → fk c' (m x) (r.map m) = (fk c x r).map m ∧ ∀ y ∈ fk c x r, S y
  | [], _ => ⟨rfl, fun y hy => by rw [List.mem_singleton.1 hy]; exact hx⟩
  | y :: q, h => by
    have hy := h y (List.mem_cons_self ..)
    obtain ⟨e1, e2⟩ := n8 hc hx (r := q) fun z hz => h z (List.mem_cons_of_mem _ hz)
    unfold fk
    rw [List.map_cons]
    show (if c' (m x) (m y) < 0 then m y :: fk c' (m x) (q.map m) else m x :: m y :: q.map m) = (if c x y < 0 then y :: fk c x q else x :: y :: q).map m ∧ ∀ z ∈ (if c x y < 0 then y :: fk c x q else x :: y :: q), S z
    rw [hc x y hx hy]
    by_cases h1 : c x y < 0
    · rw [if_pos h1, if_pos h1, e1]
      exact ⟨rfl, fun z hz => by
        rcases List.mem_cons.1 hz with rfl | hz
        · exact hy
        · exact e2 z hz⟩
    · rw [if_neg h1, if_neg h1]
      exact ⟨rfl, fun z hz => by
        rcases List.mem_cons.1 hz with rfl | hz
        · exact hx
        · exact h z hz⟩
omit [Inhabited α] in
theorem qI (hc : ∀ a b, S a → S b → c' (m a) (m b) = c a b) : ∀ {s r : List α}, (∀ y ∈ s, S y) → (∀ y ∈ r, S y) → lx c' (r.map m) (s.map m) = (lx c r s).map m
  | [], _, _, _ => rfl
  | x :: s, r, h, h2 => by
    obtain ⟨e1, e2⟩ := n8 hc (h x (List.mem_cons_self ..)) h2
    show lx c' (fk c' (m x) (r.map m)) (s.map m) = (lx c (fk c x r) s).map m
    rw [e1]
    exact qI hc (fun y hy => h y (List.mem_cons_of_mem _ hy)) e2
end
theorem kR (t : GR) (h : GQ) : bp t h = ⟨an t.p h, t.r, t.neg⟩ := by unfold bp; rfl
theorem mD {h : GQ} {t : GR} (ht : QOk t.p) (hh : QOk h) : bp (bp t h) (aD h) = t := by
  rw [kR t h, kR]
  obtain ⟨a1, a2⟩ := fo ht hh
  obtain ⟨n1, n2⟩ := iI hh
  obtain ⟨b1, b2⟩ := fo a1 n1
  have : an (an t.p h) (aD h) = t.p := dr b1 ht (by rw [b2, a2, n2]; grind)
  rw [show (⟨an t.p h, t.r, t.neg⟩ : GR).p = an t.p h from rfl, this]
theorem sD {t : GR} (ht : QOk t.p) : bp t zQ = t := by
  rw [kR]
  obtain ⟨a1, a2⟩ := fo ht ff.1
  rw [show an t.p zQ = t.p from dr a1 ht (by rw [a2, ff.2]; grind)]
theorem qc {h : GQ} {t : GR} (ht : TOk t) (hh : QOk h) : TOk (bp t h) := by
  rw [kR]; exact ⟨(fo ht.1 hh).1, ht.2⟩
theorem rsh_inj {h : GQ} {a b : GR} (ha : QOk a.p) (hb : QOk b.p) (hh : QOk h) : bp a h = bp b h ↔ a = b :=
  ⟨fun e => by rw [← mD ha hh, e, mD hb hh], fun e => by rw [e]⟩
theorem rA {h : GQ} {a b : GR} (ha : QOk a.p) (hb : QOk b.p) (hh : QOk h) : ao (bp a h) (bp b h) = ao a b := by
  have e : aj (an a.p h) (an b.p h) = aj a.p b.p := by
    obtain ⟨a1, a2⟩ := fo ha hh
    obtain ⟨b1, b2⟩ := fo hb hh
    obtain ⟨c1, c2⟩ := iE a1 b1
    obtain ⟨d1, d2⟩ := iE ha hb
    exact dr c1 d1 (by rw [c2, d2, a2, b2]; grind)
  have f : ∀ t, aZ (bp t h) = aZ t := fun t => by rw [kR]; unfold aZ; rfl
  unfold ao
  rw [f, f, kR, kR]
  simp only
  rw [e]
def POk (p : Pnt) : Prop := QOk p.x ∧ QOk p.y
theorem sK {h : GQ} {q : Qd} (hq : DOk q) (h2 : q.c2 = zQ) (hh : QOk h) : QOk (aW q h).c0 ∧ QOk (aW q h).c1 ∧ bH (aW q h).c0 = bH q.c0 - bH h * bH q.c1 ∧ (aW q h).c1 = q.c1 := by
  unfold aW
  obtain ⟨n1, n2⟩ := iI hh
  obtain ⟨e1, e2⟩ := wF hq n1
  obtain ⟨a1, a2⟩ := fo hq.2.2 hq.2.2
  obtain ⟨m1, m2⟩ := fG a1 n1
  obtain ⟨b1, b2⟩ := fo hq.2.1 m1
  refine ⟨e1, b1, ?_, dr b1 hq.2.1 ?_⟩
  · show bH (aU q (aD h)) = _
    rw [e2, n2, h2, ff.2]; grind
  · show bH (an q.c1 (ak (an q.c2 q.c2) (aD h))) = _
    rw [b2, m2, a2, n2, h2, ff.2]; grind
theorem lxs_is (f : Ln) : lxs f = lX f := rfl
theorem lys_is (f : Ln) : lys f = lY f := rfl
structure MvV (h : GQ) (p : Pnt) (f g : Ln) : Prop where
  ok : LOk g
  x0 : bH g.x0 = bH f.x0 - bH h * bH f.x1 + bH p.x
  x1 : g.x1 = f.x1
  y0 : bH g.y0 = bH f.y0 - bH h * bH f.y1 + bH p.y
  y1 : g.y1 = f.y1
theorem ku {h : GQ} {p : Pnt} {f : Ln} (hf : LOk f) (hh : QOk h) (hp : POk p) : MvV h p f (mvF h p f) := by
  obtain ⟨x, xa, xb, xc⟩ := hf.X
  obtain ⟨y, ya, yb, yc⟩ := hf.Y
  obtain ⟨a1, a2, a3, a4⟩ := sK x xc hh
  obtain ⟨b1, b2, b3, b4⟩ := sK y yc hh
  rw [xa, xb] at a3
  rw [xb] at a4
  rw [ya, yb] at b3
  rw [yb] at b4
  obtain ⟨c1, c2⟩ := fo a1 hp.1
  obtain ⟨d1, d2⟩ := fo b1 hp.2
  unfold mvF
  rw [lxs_is, lys_is]
  generalize aW (lX f) h = qx at *
  generalize aW (lY f) h = qy at *
  generalize an qx.c0 p.x = A at *
  generalize an qy.c0 p.y = B at *
  exact ⟨⟨c1, a2, d1, b2⟩, by rw [c2, a3], a4, by rw [d2, b3], b4⟩
theorem MvV.uniq {h : GQ} {p : Pnt} {f g k : Ln} (a : MvV h p f g) (b : MvV h p f k) : g = k :=
  Ln.ext4 (dr a.ok.1 b.ok.1 (by rw [a.x0, b.x0])) (a.x1.trans b.x1.symm) (dr a.ok.2.2.1 b.ok.2.2.1 (by rw [a.y0, b.y0])) (a.y1.trans b.y1.symm)
def pNeg (p : Pnt) : Pnt := ⟨aD p.x, aD p.y⟩
theorem vK {p : Pnt} (hp : POk p) : POk (pNeg p) := ⟨(iI hp.1).1, (iI hp.2).1⟩
theorem pe {h : GQ} {p : Pnt} {f : Ln} (hf : LOk f) (hh : QOk h) (hp : POk p) : mvF (aD h) (pNeg p) (mvF h p f) = f := by
  have a := ku hf hh hp
  have b := ku a.ok (iI hh).1 (vK hp)
  refine b.uniq ⟨hf, ?_, a.x1.symm, ?_, a.y1.symm⟩
  · rw [a.x0, a.x1, (iI hh).2, show (pNeg p).x = aD p.x from rfl, (iI hp.1).2]; grind
  · rw [a.y0, a.y1, (iI hh).2, show (pNeg p).y = aD p.y from rfl, (iI hp.2).2]; grind
theorem lv_mv {h : GQ} {p : Pnt} {f g : Ln} {t : GR} (hf : LOk f) (hh : QOk h) (ht : TOk t) (m : MvV h p f g) :
    lvN (bp t h) g = (((lvN t f).1.1 - bH h * (lvN t f).1.2 + bH p.x, (lvN t f).1.2), ((lvN t f).2.1 - bH h * (lvN t f).2.2 + bH p.y, (lvN t f).2.2)) := by
  obtain ⟨x, xa, xb, xc⟩ := hf.X
  obtain ⟨y, ya, yb, yc⟩ := hf.Y
  obtain ⟨x', xa', xb', xc'⟩ := m.ok.X
  obtain ⟨y', ya', yb', yc'⟩ := m.ok.Y
  obtain ⟨a1, a2⟩ := fo ht.1 hh
  unfold lvN lv
  rw [kR]
  simp only
  rw [xa, xb, xc, ya, yb, yc, xa', xb', xc', ya', yb', yc', m.x0, m.x1, m.y0, m.y1, a2, ff.2]
  by_cases e : t.r = zQ
  · simp only [if_pos e]
    refine Prod.ext (Prod.ext ?_ rfl) (Prod.ext ?_ rfl) <;> simp only <;> grind
  · simp only [if_neg e]
    refine Prod.ext (Prod.ext ?_ ?_) (Prod.ext ?_ ?_) <;> simp only <;> grind
theorem mv_same {h : GQ} {p : Pnt} {f g : Ln} {t : GR} (hf : LOk f) (hg : LOk g) (ht : TOk t) (hh : QOk h) (hp : POk p) : bk (mvF h p f) (mvF h p g) (bp t h) = bk f g t := by
  have a := ku hf hh hp
  have b := ku hg hh hp
  rw [Bool.eq_iff_iff, fi a.ok b.ok (qc ht hh), fi hf hg ht, lv_mv hf hh ht a, lv_mv hg hh ht b]
  constructor
  · intro e
    simp only [Prod.mk.injEq] at e
    obtain ⟨⟨e1, e2⟩, e3, e4⟩ := e
    rw [e2] at e1
    rw [e4] at e3
    exact Prod.ext (Prod.ext (by grind) e2) (Prod.ext (by grind) e4)
  · intro e; rw [e]
theorem sG {f : Ln} {t : GR} (hf : LOk f) (ht : TOk t) : bH (aA f t).x0 = (lvN t f).1.1 ∧ bH (aA f t).x1 = (lvN t f).1.2 ∧ bH (aA f t).y0 = (lvN t f).2.1 ∧ bH (aA f t).y1 = (lvN t f).2.2 := by
  obtain ⟨_, a, b, _⟩ := fK hf.X.1 ht
  obtain ⟨_, c, d, _⟩ := fK hf.Y.1 ht
  rw [gk]
  exact ⟨a, b, c, d⟩
theorem mv_red {h : GQ} {p : Pnt} {f : Ln} {t : GR} (hf : LOk f) (ht : TOk t) (hh : QOk h) (hp : POk p) : aA (mvF h p f) (bp t h) = mvF h p (aA f t) := by
  have a := ku hf hh hp
  have r := (il hf ht).1
  have r2 := (il a.ok (qc ht hh)).1
  obtain ⟨u0, u1, u2, u3⟩ := sG a.ok (qc ht hh)
  obtain ⟨v0, v1, v2, v3⟩ := sG hf ht
  rw [lv_mv hf hh ht a] at u0 u1 u2 u3
  refine MvV.uniq (f := aA f t) ⟨r2, ?_, dr r2.2.1 r.2.1 (by rw [u1, v1]), ?_, dr r2.2.2.2 r.2.2.2 (by rw [u3, v3])⟩ (ku r hh hp)
  · rw [u0, v0, v1]
  · rw [u2, v2, v3]
theorem lines_mv {h : GQ} {p : Pnt} (hh : QOk h) (hp : POk p) : Mv TOk LOk ce bk aA (fun t => bp t h) (mvF h p) := by
  refine ⟨fun a b ha hb => rsh_inj ha.1 hb.1 hh, fun f g t hf hg ht => mv_same hf hg ht hh hp, fun f t hf ht => mv_red hf ht hh hp, fun f t hf ht => (il hf ht).1, fun f g hf hg => ?_⟩
  rw [Bool.eq_iff_iff, iK, iK]
  exact ⟨fun e => by rw [← pe hf hh hp, e, pe hg hh hp], fun e => by rw [e]⟩
theorem mvU_is (h : GQ) (p : Pnt) : mvU h p = mU (fun t => bp t h) (mvF h p) := by
  funext u; unfold mvU mU shV mV; rfl
theorem mvU_cmp {h : GQ} {p : Pnt} (hh : QOk h) {a b : U Ln} (ha : Pu TOk LOk a) (hb : Pu TOk LOk b) : cU (mvU h p a) (mvU h p b) = cU a b := by
  unfold cU
  show kz [ao (bp a.iv.lo h) (bp b.iv.lo h), bP (ci a.iv) (ci b.iv), ao (bp a.iv.hi h) (bp b.iv.hi h)] = _
  rw [rA ha.1.1.1 hb.1.1.1 hh, rA ha.1.2.1 hb.1.2.1 hh]
theorem t6 {h : GQ} {p : Pnt} (hh : QOk h) {n : List (U Ln)} (hn : ∀ x ∈ n, Pu TOk LOk x) : ae (n.map (mvU h p)) = (ae n).map (mvU h p) := by
  rw [jP, jP, ls, ls, List.map_reverse]
  rw [show ([] : List (U Ln)) = ([] : List (U Ln)).map (mvU h p) from rfl, qI (c := cC) (c' := cC) (m := mvU h p) (S := Pu TOk LOk) (fun a b ha hb => by rw [kI, kI]; exact mvU_cmp hh ha hb) hn (fun _ h => by cases h)]
  rfl
theorem vX {h : GQ} {p : Pnt} (hh : QOk h) {a b : U Ln} (ha : Pu TOk LOk a) (hb : Pu TOk LOk b) : dA (mvU h p a).iv (mvU h p b).iv = dA a.iv b.iv := by
  unfold dA
  show ((decide (ao (bp a.iv.hi h) (bp b.iv.lo h) < 0)) || ((ao (bp a.iv.hi h) (bp b.iv.lo h) == 0) && (a.iv.openHi || b.iv.openLo))) = _
  rw [rA ha.1.2.1 hb.1.1.1 hh]
theorem sN {h : GQ} {p : Pnt} (hh : QOk h) (hp : POk p) {n : List (U Ln)} (hn : ∀ x ∈ n, Pu TOk LOk x) : (n.map (mvU h p)).map (mvU (aD h) (pNeg p)) = n := by
  rw [List.map_map]
  conv => rhs; rw [← List.map_id n]
  refine List.map_congr_left fun x hx => ?_
  have := hn x hx
  show (⟨⟨bp (bp x.iv.lo h) (aD h), bp (bp x.iv.hi h) (aD h), x.iv.openLo, x.iv.openHi⟩, mvF (aD h) (pNeg p) (mvF h p x.f)⟩ : U Ln) = x
  rw [mD this.1.1.1 hh, mD this.1.2.1 hh, pe this.2 hh hp]
section
variable [K : Key]
theorem pu_l {n : List (U Ln)} (hw : ∀ x ∈ n, Wv x.iv) (hD : ∀ x ∈ n, LOk x.f) : ∀ x ∈ n, Pu TOk LOk x := fun x hx => ⟨⟨(hw x hx).1.1.ok.tok, (hw x hx).1.2.ok.tok⟩, hD x hx⟩
theorem sO {h : GQ} {p : Pnt} (hh : QOk h) (hp : POk p) {n : List (U Ln)} (hn : NFl n) (hD : ∀ x ∈ n, LOk x.f) : az (n.map (mvU h p)) = (n.map (mvU h p), 0) := by
  have hpu := pu_l hn.wv hD
  obtain ⟨s1, s2⟩ := mN (fun x hx => (hn.wv x hx).1)
  have hDj : n.Pairwise fun a b => Dj a.iv b.iv := hn.ord.imp fun h => .inl h
  have hWs : ∀ x ∈ ae n, Wv x.iv := fun x hx => hn.wv x (s1.mem_iff.1 hx)
  have hs := mM hn.wv hDj s1 s2
  have e : ae n = n := pW (k := fun w => eI w.iv) (nR hWs hs) (nR hn.wv hn.ord) fun x => s1.mem_iff
  have e2 : ae (n.map (mvU h p)) = n.map (mvU h p) := by rw [t6 hh hpu, e]
  rw [kq (by rw [e2]) fun i h0 h1 => ?_, kr, mZ, e2]
  · have M := lines_mv (p := p) hh hp
    obtain ⟨a1, a2⟩ := M.ats hpu
    rw [mvU_is, a1, List.length_map, (M.iter a2 _ (Nat.le_refl _)).1]
    rw [nf_fix hn (fun x hx t ht => (fi (hD x hx) (hD x hx) ht.ok.tok).2 rfl) n [] rfl rfl]
  · rw [List.length_map] at h1
    rw [e2, j3 _ (by omega), j3 _ h1, vX hh (mX hpu (by omega)) (mX hpu h1)]
    have := (tu hn.wv s1 s2).2 hDj i h0 (by rw [s1.length_eq]; exact h1)
    rwa [e] at this
end
end Go.Sx
namespace Go.Sx
def p0 : Pnt := ⟨zQ, zQ⟩
theorem p0_ok : POk p0 := ⟨ff.1, ff.1⟩
theorem wr {h : GQ} {f : Ln} (hf : LOk f) (hh : QOk h) : MvV h p0 f (im h f) := by
  obtain ⟨x, xa, xb, xc⟩ := hf.X
  obtain ⟨y, ya, yb, yc⟩ := hf.Y
  obtain ⟨a1, a2, a3, a4⟩ := sK x xc hh
  obtain ⟨b1, b2, b3, b4⟩ := sK y yc hh
  rw [xa, xb] at a3
  rw [xb] at a4
  rw [ya, yb] at b3
  rw [yb] at b4
  unfold im
  rw [lxs_is, lys_is]
  generalize aW (lX f) h = qx at *
  generalize aW (lY f) h = qy at *
  exact ⟨⟨a1, a2, b1, b2⟩, by rw [a3, show p0.x = zQ from rfl, ff.2]; grind, a4, by rw [b3, show p0.y = zQ from rfl, ff.2]; grind, b4⟩
theorem lTr_ok {p : Pnt} {f : Ln} (hf : LOk f) (hp : POk p) : MvV zQ p f (lTr p f) := by
  obtain ⟨c1, c2⟩ := fo hf.1 hp.1
  obtain ⟨d1, d2⟩ := fo hf.2.2.1 hp.2
  unfold lTr
  generalize an f.x0 p.x = A at *
  generalize an f.y0 p.y = B at *
  exact ⟨⟨c1, hf.2.1, d1, hf.2.2.2⟩, by rw [c2, ff.2]; grind, rfl, by rw [d2, ff.2]; grind, rfl⟩
theorem shU_is {h : GQ} {u : U Ln} (hu : Pu TOk LOk u) (hh : QOk h) : shU h u = mvU h p0 u := by
  unfold shU mvU
  rw [(wr hu.2 hh).uniq (ku hu.2 hh p0_ok)]
theorem tlU_is {p : Pnt} {u : U Ln} (hu : Pu TOk LOk u) (hp : POk p) : tlU p u = mvU zQ p u := by
  unfold tlU mvU shV
  rw [(lTr_ok hu.2 hp).uniq (ku hu.2 ff.1 hp), sD hu.1.1.1, sD hu.1.2.1]
theorem wk {h : GQ} {n : List (U Ln)} (hn : ∀ x ∈ n, Pu TOk LOk x) (hh : QOk h) : n.map (shU h) = n.map (mvU h p0) := List.map_congr_left fun x hx => shU_is (hn x hx) hh
theorem wh {p : Pnt} {n : List (U Ln)} (hn : ∀ x ∈ n, Pu TOk LOk x) (hp : POk p) : n.map (tlU p) = n.map (mvU zQ p) := List.map_congr_left fun x hx => tlU_is (hn x hx) hp
theorem mvU_pu {h : GQ} {p : Pnt} (hh : QOk h) (hp : POk p) {n : List (U Ln)} (hn : ∀ x ∈ n, Pu TOk LOk x) : ∀ x ∈ n.map (mvU h p), Pu TOk LOk x := fun x hx => by
  obtain ⟨u, hu, rfl⟩ := List.mem_map.1 hx
  have := hn u hu
  exact ⟨⟨qc this.1.1 hh, qc this.1.2 hh⟩, (ku this.2 hh hp).ok⟩
theorem mvF_bl {h : GQ} {p : Pnt} {f : Ln} (hf : DL 16 140 f) (hh : Bq 64 h) (hx : Bq 64 p.x) (hy : Bq 64 p.y) : BL 210 (mvF h p f) := by
  have a := ku hf.ok hh.1 ⟨hx.1, hy.1⟩
  rcases hf with g | ⟨g1, g2, g⟩
  · have kx := ((g.1.sub (hh.mul g.2.1)).add hx)
    have ky := ((g.2.2.1.sub (hh.mul g.2.2.2)).add hy)
    have ex : (mvF h p f).x0 = an (aj f.x0 (ak h f.x1)) p.x := dr a.ok.1 kx.1 (by
      rw [a.x0, (fo (iE g.1.1 (fG hh.1 g.2.1.1).1).1 hx.1).2, (iE g.1.1 (fG hh.1 g.2.1.1).1).2, (fG hh.1 g.2.1.1).2])
    have ey : (mvF h p f).y0 = an (aj f.y0 (ak h f.y1)) p.y := dr a.ok.2.2.1 ky.1 (by
      rw [a.y0, (fo (iE g.2.2.1.1 (fG hh.1 g.2.2.2.1).1).1 hy.1).2, (iE g.2.2.1.1 (fG hh.1 g.2.2.2.1).1).2, (fG hh.1 g.2.2.2.1).2])
    exact ⟨by rw [ex]; exact kx.le (by decide), by rw [a.x1]; exact g.2.1.le (by decide), by rw [ey]; exact ky.le (by decide), by rw [a.y1]; exact g.2.2.2.le (by decide)⟩
  · have kx := g.1.add hx
    have ky := g.2.2.1.add hy
    have ex : (mvF h p f).x0 = an f.x0 p.x := dr a.ok.1 kx.1 (by
      rw [a.x0, g1, ff.2, (fo g.1.1 hx.1).2]; grind)
    have ey : (mvF h p f).y0 = an f.y0 p.y := dr a.ok.2.2.1 ky.1 (by
      rw [a.y0, g2, ff.2, (fo g.2.2.1.1 hy.1).2]; grind)
    exact ⟨by rw [ex]; exact kx.le (by decide), by rw [a.x1]; exact g.2.1.le (by decide), by rw [ey]; exact ky.le (by decide), by rw [a.y1]; exact g.2.2.2.le (by decide)⟩
section
variable [K : Key] [KeyB]
theorem mvU_sz {h : GQ} {p : Pnt} {n : List (U Ln)} (hN : NFl n) (hD : ∀ u ∈ n, DT u.f) (hh : Bq 64 h) (hx : Bq 64 p.x) (hy : Bq 64 p.y) : All (gG 30) (n.map (mvU h p)) := fun v hv => by
  obtain ⟨u, hu, rfl⟩ := List.mem_map.1 hv
  have hw := hN.wv u hu
  have key : ∀ t, Tm t → SzR 30 (bp t h) := fun t ht => by
    rw [kR]
    exact ⟨bQ (((KeyB.b t ht).add hh).sz (by decide)) (by decide), bQ ht.szr.2 (by decide)⟩
  exact ⟨⟨key _ hw.1.1, key _ hw.1.2⟩, jH ((mvF_bl (hD u hu) hh hx hy).sz (by decide)) (by decide)⟩
end
end Go.Sx
namespace Go.Sx
open Go Go.RowKit Go.Proofs
set_option maxRecDepth 100000
set_option maxHeartbeats 40000000
attribute [local irreducible] Code.wp wpList Rd Step ObS Ent
attribute [local irreducible] ao aN ah aw ay bP ap aM
attribute [local irreducible] aU aR ak an aD aj aY dR iP bG au aW im bp
def cX3 (x y z : XQ) : List Value := cXQ x ++ (cXQ y ++ cXQ z)
def vX3 (x y z : XQ) : Value := .agg (cX3 x y z).toArray
instance yS4_1 (x y z : XQ) : Cel (vX3 x y z) (cX3 x y z) := ⟨rfl⟩
instance yS4_2 (x y z : XQ) : Dc (cX3 x y z) (vX3 x y z) := ⟨rfl⟩
def xsz (x : XQ) : Nat := x.n.b.size + x.d.b.size
def Gd (x : XQ) : Prop := ∃ a : GQ, x = qX a ∧ QOk a ∧ a.num.mag < 2 ^ 64 ∧ a.den.mag < 2 ^ 64
theorem nk (x : XQ) (hs : xsz x ≤ 8) : ∃ e : Int, (∀ w0, Calls Tryz.prog 62 #[vXQ x] w0 (dh w0 (.int .i64 e) True)) ∧ (e = 0 → Gd x) := by
 unfold xsz at hs
 rcases xq_cases x (by have : x.n.b.size ≤ 8 := by omega
                       exact Nat.le_trans (Nat.mul_le_mul_right _ this) (by decide)) with ⟨a, rfl⟩ | h
 · have h1 : (le a.num.mag).length ≤ 8 := by rw [← dH]; have : (bs a.num.mag).size + (bs a.den.mag).size ≤ 8 := hs; omega
   have h2 : (le a.den.mag).length ≤ 8 := by rw [← dH]; have : (bs a.num.mag).size + (bs a.den.mag).size ≤ 8 := hs; omega
   have za : SzQ 16 a := ⟨Nat.le_trans (Nat.mul_le_mul_right _ h1) (by decide), Nat.le_trans (Nat.mul_le_mul_right _ h2) (by decide)⟩
   exact ⟨cv a, fun w0 => d5 a za w0, fun e => ⟨a, rfl, rL e, (bI 8 _).1 h1, (bI 8 _).1 h2⟩⟩
 · exact ⟨5, h, fun e => absurd e (by decide)⟩
theorem sh27X : Sh Tryz.prog 27 XQ vXQ := ⟨trivial⟩
theorem sh25Y : Sh Tryz.prog 25 XI vXI := ⟨trivial⟩
theorem xm {n : Nat} {Q : Prop} (h : ¬ n ≤ 8) (hg : (!decide (((n : Nat) : Int) > 8)) = true) : Q := by
 rw [decide_eq_true (by omega : ((n : Nat) : Int) > 8)] at hg
 exact Bool.noConfusion hg
section
attribute [local instance 2000] sh27X sh25Y
theorem vZ (c : Crq) (s : List Stq) (sv : Value) (p q : Nat) (x0 x1 x2 : XQ) (hz : xsz x0 ≤ 9223372036854775807 ∧ xsz x1 ≤ 9223372036854775807 ∧ xsz x2 ≤ 9223372036854775807) (hng : ¬ (Gd x0 ∧ Gd x1 ∧ Gd x2)) (w0 : World) : Calls Tryz.prog 9 #[vCr c sv, vCt p q, vX3 x0 x1 x2] w0 (dh w0 (.bool true) True) := by
 refine enter (N := 100) (args := [vCr c sv, vCt p q, vX3 x0 x1 x2]) Tryz.func9 rfl rfl ?_; intro ac h
 haveI : On := ⟨trivial⟩
 refine gz h <| (xb) fun b3 => (xb) fun b4 => (xb) fun b5 => (W) ?_; clear h ac; intro ac wo h
 refine wp_loop_ghost (fun n_ a_ w_ => ∃ (i : Nat), (3 - i < n_) ∧ (i ≤ 3) ∧ (0 < i → Gd x0) ∧ (1 < i → Gd x1) ∧ (2 < i → Gd x2) ∧ St w0 100 [(3, ptr b3 0), (4, ptr b4 0), (5, ptr b5 0), (7, iN i)] [.blk b5 (cX3 x0 x1 x2) 110, .blk b4 (cCt p q) 94, .blk b3 (cCr c sv) 93] a_ w_) 4 ⟨0, by omega, by omega, fun h => by omega, fun h => by omega, fun h => by omega, h.re [0, 1, 2]⟩ ?_
 clear h ac wo; rintro n1 ac wo ⟨i, hm1, hi, g0', g1', g2', h⟩
 obtain ⟨m1, rfl⟩ : ∃ m, n1 = m + 1 := ⟨n1 - 1, by omega⟩
 refine gz h <| (ai) ?_ ?_ <;> clear h ac wo <;> intro ac wo h hc1
 ·
  have hd1 : i < 3 := by have := of_decide_eq_true hc1; omega
  obtain rfl | rfl | rfl : i = 0 ∨ i = 1 ∨ i = 2 := by omega
  ·
   by_cases hs8 : xsz x0 ≤ 8
   ·
    obtain ⟨e, he, hG⟩ := nk x0 hs8
    have hs' : x0.n.b.size + x0.d.b.size ≤ 8 := hs8
    refine gz h <| (dr0 (hob := (oX (h := by exact fun _ => a6 (fm uu9 rfl))) <| (oX (h := by exact fun _ => a6 (fm uu9 rfl))) <| (oG (by exact fun hg => he)) <| oE)) <| (ai) ?_ ?_ <;> clear h ac wo <;> intro ac wo h hc2
    · refine gz h <| (xk gy) <| (W) ?_; clear h ac wo; intro ac wo h
      exact (rt h) (h.retP rfl trivial)
    · have he0 : e = 0 := by
       rw [Bool.or_eq_false_iff] at hc2
       exact Classical.byContradiction fun hn => by rw [show (e != 0) = true from bne_iff_ne.2 hn] at hc2; exact Bool.noConfusion hc2.2
      refine gz h <| (W) ?_; clear h ac wo; intro ac wo h
      exact aK ⟨m1, by omega, 1, by omega, by omega, fun _ => hG he0, fun h => by omega, fun h => by omega, h.re [0, 1, 2]⟩
   ·
    have hs' : x0.n.b.size + x0.d.b.size ≤ 9223372036854775807 := hz.1
    have hs9 : ¬ x0.n.b.size + x0.d.b.size ≤ 8 := hs8
    refine gz h <| (dr0 (hob := (oX (h := by exact fun _ => a6 (fm uu9 rfl))) <| (oX (h := by exact fun _ => a6 (fm uu9 rfl))) <| (oG (by exact fun hg => (xm hs9 hg : ∀ w0, Calls Tryz.prog 62 #[vXQ x0] w0 (dh w0 (.int .i64 0) True)))) <| oE)) <| (ai) ?_ ?_ <;> clear h ac wo <;> intro ac wo h hc2
    · refine gz h <| (xk gy) <| (W) ?_; clear h ac wo; intro ac wo h
      exact (rt h) (h.retP rfl trivial)
    · exfalso
      rw [decide_eq_true (by omega : (((x0.n.b.size + x0.d.b.size : Nat)) : Int) > 8)] at hc2
      exact Bool.noConfusion hc2
  ·
   by_cases hs8 : xsz x1 ≤ 8
   ·
    obtain ⟨e, he, hG⟩ := nk x1 hs8
    have hs' : x1.n.b.size + x1.d.b.size ≤ 8 := hs8
    refine gz h <| (dr0 (hob := (oX (h := by exact fun _ => a6 (fm uu9 rfl))) <| (oX (h := by exact fun _ => a6 (fm uu9 rfl))) <| (oG (by exact fun hg => he)) <| oE)) <| (ai) ?_ ?_ <;> clear h ac wo <;> intro ac wo h hc2
    · refine gz h <| (xk gy) <| (W) ?_; clear h ac wo; intro ac wo h
      exact (rt h) (h.retP rfl trivial)
    · have he0 : e = 0 := by
       rw [Bool.or_eq_false_iff] at hc2
       exact Classical.byContradiction fun hn => by rw [show (e != 0) = true from bne_iff_ne.2 hn] at hc2; exact Bool.noConfusion hc2.2
      refine gz h <| (W) ?_; clear h ac wo; intro ac wo h
      exact aK ⟨m1, by omega, 2, by omega, by omega, fun _ => g0' (by omega), fun _ => hG he0, fun h => by omega, h.re [0, 1, 2]⟩
   ·
    have hs' : x1.n.b.size + x1.d.b.size ≤ 9223372036854775807 := hz.2.1
    have hs9 : ¬ x1.n.b.size + x1.d.b.size ≤ 8 := hs8
    refine gz h <| (dr0 (hob := (oX (h := by exact fun _ => a6 (fm uu9 rfl))) <| (oX (h := by exact fun _ => a6 (fm uu9 rfl))) <| (oG (by exact fun hg => (xm hs9 hg : ∀ w0, Calls Tryz.prog 62 #[vXQ x1] w0 (dh w0 (.int .i64 0) True)))) <| oE)) <| (ai) ?_ ?_ <;> clear h ac wo <;> intro ac wo h hc2
    · refine gz h <| (xk gy) <| (W) ?_; clear h ac wo; intro ac wo h
      exact (rt h) (h.retP rfl trivial)
    · exfalso
      rw [decide_eq_true (by omega : (((x1.n.b.size + x1.d.b.size : Nat)) : Int) > 8)] at hc2
      exact Bool.noConfusion hc2
  ·
   have a_eqB : ∀ {F : List (Nat × Value)} {x ix : Operand} {b o0 : Nat} {k : IntKind}, ev F x = some (ptr b o0) → ev F ix = some (.int k ((2 : Nat) : Int)) → Rd Tryz.prog w0 F [] (.indexAddr 110 x ix) (ptr b (o0 + 2 * 4)) := fun hx hi => xx 2 hx hi rfl
   by_cases hs8 : xsz x2 ≤ 8
   ·
    obtain ⟨e, he, hG⟩ := nk x2 hs8
    have hs' : x2.n.b.size + x2.d.b.size ≤ 8 := hs8
    refine gz h <| (dr0 (hob := (oX (h := by exact fun _ => a6 (fm uu9 rfl))) <| (oX (h := by exact fun _ => a6 (fm uu9 rfl))) <| (oG (by exact fun hg => he)) <| oE)) <| (ai) ?_ ?_ <;> clear h ac wo <;> intro ac wo h hc2
    · refine gz h <| (xk gy) <| (W) ?_; clear h ac wo; intro ac wo h
      exact (rt h) (h.retP rfl trivial)
    · have he0 : e = 0 := by
       rw [Bool.or_eq_false_iff] at hc2
       exact Classical.byContradiction fun hn => by rw [show (e != 0) = true from bne_iff_ne.2 hn] at hc2; exact Bool.noConfusion hc2.2
      refine gz h <| (W) ?_; clear h ac wo; intro ac wo h
      exact aK ⟨m1, by omega, 3, by omega, by omega, fun _ => g0' (by omega), fun _ => g1' (by omega), fun _ => hG he0, h.re [0, 1, 2]⟩
   ·
    have hs' : x2.n.b.size + x2.d.b.size ≤ 9223372036854775807 := hz.2.2
    have hs9 : ¬ x2.n.b.size + x2.d.b.size ≤ 8 := hs8
    refine gz h <| (dr0 (hob := (oX (h := by exact fun _ => a6 (fm uu9 rfl))) <| (oX (h := by exact fun _ => a6 (fm uu9 rfl))) <| (oG (by exact fun hg => (xm hs9 hg : ∀ w0, Calls Tryz.prog 62 #[vXQ x2] w0 (dh w0 (.int .i64 0) True)))) <| oE)) <| (ai) ?_ ?_ <;> clear h ac wo <;> intro ac wo h hc2
    · refine gz h <| (xk gy) <| (W) ?_; clear h ac wo; intro ac wo h
      exact (rt h) (h.retP rfl trivial)
    · exfalso
      rw [decide_eq_true (by omega : (((x2.n.b.size + x2.d.b.size : Nat)) : Int) > 8)] at hc2
      exact Bool.noConfusion hc2
 ·
  have hi3 : i = 3 := by have := of_decide_eq_false hc1; omega
  exact absurd ⟨g0' (by omega), g1' (by omega), g2' (by omega)⟩ hng
end
end Go.Sx
namespace Go.Sx
open Go Go.RowKit Go.Proofs
set_option maxRecDepth 100000
set_option maxHeartbeats 40000000
attribute [local irreducible] Code.wp wpList Rd Step ObS Ent
attribute [local irreducible] ao aN ah aw ay bP ap aM
attribute [local irreducible] aU aR ak an aD aj aY dR iP bG au aW im bp
def Gq (a : GQ) : Prop := QOk a ∧ a.num.mag < 2 ^ 64 ∧ a.den.mag < 2 ^ 64
theorem sz16 {a : GQ} (k : Gq a) : SzQ 16 a := ⟨Nat.le_trans (Nat.mul_le_mul_right _ ((bI 8 _).2 k.2.1)) (by decide), Nat.le_trans (Nat.mul_le_mul_right _ ((bI 8 _).2 k.2.2)) (by decide)⟩
theorem gq_bq {a : GQ} (k : Gq a) : Bq 64 a := Bq.self k.1 k.2.1 (by
 unfold jN
 by_cases e : a.den = z0
 · rw [if_pos e]; decide
 · rw [if_neg e]; exact k.2.2)
def cQ3 (x y z : GQ) : List Value := cQ x ++ (cQ y ++ cQ z)
def vQ3 (x y z : GQ) : Value := .agg (cQ3 x y z).toArray
instance yS4_3 (x y z : GQ) : Cel (vQ3 x y z) (cQ3 x y z) := ⟨rfl⟩
instance yS4_4 (x y z : GQ) : Dc (cQ3 x y z) (vQ3 x y z) := ⟨rfl⟩
theorem bld29' : Bu Tryz.prog 29 [] [] (vPt ⟨oQ, oQ⟩) := Bu.of bld29 rfl rfl
theorem bld27' : Bu Tryz.prog 27 [] [] (vQ oQ) := Bu.of no rfl rfl
attribute [local instance] bld29' bld27'
theorem zneg : aD zQ = zQ := dr (iI ff.1).1 ff.1 (by rw [(iI ff.1).2, ff.2]; rfl)
theorem pneg0 : pNeg p0 = p0 := by unfold pNeg p0; rw [zneg]
theorem v6 (c : Crq) (s : List Stq) (sv : Value) (p q : Nat) (a0 a1 a2 : GQ) (hp : p < 256) (hq : q < 256) (k0 : Gq a0) (k1 : Gq a1) (k2 : Gq a2) (hc : c.time < 256 ∧ c.x < 256 ∧ c.y < 256) (hs : ∀ i, B4 (gt s i)) (w0 : World) (hsv : View w0 sv s) : Calls Tryz.prog 9 #[vCr c sv, vCt p q, vQ3 a0 a1 a2] w0 (dh w0 (.bool true) True) := by
 refine enter (N := 100) (args := [vCr c sv, vCt p q, vQ3 a0 a1 a2]) Tryz.func9 rfl rfl ?_; intro ac h
 haveI : On := ⟨trivial⟩
 letI : Key := keyC p q hp hq
 haveI : KeyZ := kcZ p q hp hq
 haveI : KeyB := kcB p q hp hq
 haveI : KeyG p q := kcG p q hp hq
 refine gz h <| (xb) fun b3 => (xb) fun b4 => (xb) fun b5 => (W) ?_; clear h ac; intro ac wo h
 refine wp_loop_ghost (fun n_ a_ w_ => ∃ (i : Nat), (3 - i < n_) ∧ (i ≤ 3) ∧ St w0 100 [(3, ptr b3 0), (4, ptr b4 0), (5, ptr b5 0), (7, iN i)] [.blk b5 (cQ3 a0 a1 a2) 110, .blk b4 (cCt p q) 94, .blk b3 (cCr c sv) 93] a_ w_) 4 ⟨0, by omega, by omega, h.re [0, 1, 2]⟩ ?_
 clear h ac wo; rintro n1 ac wo ⟨i, hm1, hi, h⟩
 obtain ⟨m1, rfl⟩ : ∃ m, n1 = m + 1 := ⟨n1 - 1, by omega⟩
 refine gz h <| (ai) ?_ ?_ <;> clear h ac wo <;> intro ac wo h hc1
 ·
  have hd1 : i < 3 := by have := of_decide_eq_true hc1; omega
  obtain rfl | rfl | rfl : i = 0 ∨ i = 1 ∨ i = 2 := by omega
  ·
   have hs' : (bs a0.num.mag).size + (bs a0.den.mag).size ≤ 16 := by
    rw [dH, dH]
    have u1 := (bI 8 a0.num.mag).2 k0.2.1
    have u2 := (bI 8 a0.den.mag).2 k0.2.2
    omega
   refine gz h <| (dr0 (hob := (oX (h := by exact fun _ => a6 (fm uu9 rfl))) <| (oX (h := by exact fun _ => a6 (fm uu9 rfl))) <| (oG (by exact fun hg => d5 a0 (sz16 k0))) <| oE)) <| (ai) ?_ ?_ <;> clear h ac wo <;> intro ac wo h hc2
   · refine gz h <| (xk gy) <| (W) ?_; clear h ac wo; intro ac wo h
     exact (rt h) (h.retP rfl trivial)
   · refine gz h <| (W) ?_; clear h ac wo; intro ac wo h
     exact aK ⟨m1, by omega, 1, by omega, by omega, h.re [0, 1, 2]⟩
  ·
   have hs' : (bs a1.num.mag).size + (bs a1.den.mag).size ≤ 16 := by
    rw [dH, dH]
    have u1 := (bI 8 a1.num.mag).2 k1.2.1
    have u2 := (bI 8 a1.den.mag).2 k1.2.2
    omega
   refine gz h <| (dr0 (hob := (oX (h := by exact fun _ => a6 (fm uu9 rfl))) <| (oX (h := by exact fun _ => a6 (fm uu9 rfl))) <| (oG (by exact fun hg => d5 a1 (sz16 k1))) <| oE)) <| (ai) ?_ ?_ <;> clear h ac wo <;> intro ac wo h hc2
   · refine gz h <| (xk gy) <| (W) ?_; clear h ac wo; intro ac wo h
     exact (rt h) (h.retP rfl trivial)
   · refine gz h <| (W) ?_; clear h ac wo; intro ac wo h
     exact aK ⟨m1, by omega, 2, by omega, by omega, h.re [0, 1, 2]⟩
  ·
   have a_eqB : ∀ {F : List (Nat × Value)} {x ix : Operand} {b o0 : Nat} {k : IntKind}, ev F x = some (ptr b o0) → ev F ix = some (.int k ((2 : Nat) : Int)) → Rd Tryz.prog w0 F [] (.indexAddr 110 x ix) (ptr b (o0 + 2 * 4)) := fun hx hi => xx 2 hx hi rfl
   have hs' : (bs a2.num.mag).size + (bs a2.den.mag).size ≤ 16 := by
    rw [dH, dH]
    have u1 := (bI 8 a2.num.mag).2 k2.2.1
    have u2 := (bI 8 a2.den.mag).2 k2.2.2
    omega
   refine gz h <| (dr0 (hob := (oX (h := by exact fun _ => a6 (fm uu9 rfl))) <| (oX (h := by exact fun _ => a6 (fm uu9 rfl))) <| (oG (by exact fun hg => d5 a2 (sz16 k2))) <| oE)) <| (ai) ?_ ?_ <;> clear h ac wo <;> intro ac wo h hc2
   · refine gz h <| (xk gy) <| (W) ?_; clear h ac wo; intro ac wo h
     exact (rt h) (h.retP rfl trivial)
   · refine gz h <| (W) ?_; clear h ac wo; intro ac wo h
     exact aK ⟨m1, by omega, 3, by omega, by omega, h.re [0, 1, 2]⟩
 ·
  refine gz h <| (xk gy) <| (xg (hs := by exact fun hg => fb enA (fun w_ hB_ hS_ => short_ct c s sv w_ (hsv.below hB_)))) <| (ai) ?_ ?_ <;> clear h ac wo <;> intro ac wo h hc2
  ·
   refine gz h <| (xk gy) <| (W) ?_; clear h ac wo; intro ac wo h
   exact (rt h) (h.retP rfl trivial)
  have hl : s.length ≤ 6 := by
   have h9 : decide (((s.length : Nat) : Int) ≤ 6) = true := by simpa using hc2
   have := of_decide_eq_true h9; omega
  obtain ⟨hN, hD, _⟩ := mov_ok c s p q
  have hn := mov_len c s p q
  obtain ⟨l, hle⟩ : ∃ l, uw c s p q = l := ⟨_, rfl⟩
  rw [hle] at hN hD hn
  refine gz h <| (W) ?_; clear h ac wo; intro ac wo h
  refine fN (xs := l) h (cP Tryz.call50 rfl) (fun w_ hB_ hS_ => by rw [← hle]; exact vY c s sv p q hp hq hc hs hl w_ (hsv.below hB_)) rfl ?_; clear h ac wo; intro lv ac wo _ h
  refine gz h <| (W) ?_; clear h ac wo; intro ac wo h
  have q0 := gq_bq k0
  have q1 := gq_bq k1
  have q2 := gq_bq k2
  have qz : Bq 64 zQ := Bq.zero (by decide)
  obtain ⟨P, hP⟩ : ∃ P : Pnt, (⟨a0, a1⟩ : Pnt) = P := ⟨_, rfl⟩
  obtain ⟨Q, hQ⟩ : ∃ P : Pnt, (⟨aD a0, aD a1⟩ : Pnt) = P := ⟨_, rfl⟩
  have hPo : POk P := by rw [← hP]; exact ⟨k0.1, k1.1⟩
  have hPN : pNeg P = Q := by rw [← hP, ← hQ]; rfl
  have hQo : POk Q := by rw [← hPN]; exact vK hPo
  have bPx : Bq 64 P.x := by rw [← hP]; exact q0
  have bPy : Bq 64 P.y := by rw [← hP]; exact q1
  have zP : SzP 30 P := ⟨bQ (bPx.sz (by decide)) og, bQ (bPy.sz (by decide)) og⟩
  have zQ' : SzP 30 Q := by rw [← hQ]; exact ⟨bQ (q0.neg.sz (by decide)) og, bQ (q1.neg.sz (by decide)) og⟩
  have z2 : SzQ 30 a2 := bQ (q2.sz (by decide)) og
  have z2n : SzQ 30 (aD a2) := bQ (q2.neg.sz (by decide)) og
  have zz : SzQ 30 zQ := bQ (qz.sz (by decide)) og
  have hLO : ∀ u ∈ l, LOk u.f := fun u hu => (hD u hu).ok
  have hpu := pu_l hN.wv hLO
  obtain ⟨S, hS⟩ : ∃ S, l.map (mvU a2 p0) = S := ⟨_, rfl⟩
  obtain ⟨T, hT⟩ : ∃ T, l.map (mvU zQ P) = T := ⟨_, rfl⟩
  have nS : az (l.map (mvU a2 p0)) = (S, 0) := by rw [sO k2.1 p0_ok hN hLO, hS]
  have nT : az (l.map (mvU zQ P)) = (T, 0) := by rw [sO ff.1 hPo hN hLO, hT]
  have zl : All (gG 30) l := mv_sz hN hD 30 (by decide)
  have zS : All (gG 30) S := by rw [← hS]; exact mvU_sz hN hD q2 qz qz
  have zT : All (gG 30) T := by rw [← hT]; exact mvU_sz hN hD qz bPx bPy
  have pS := mvU_pu (h := a2) (p := p0) k2.1 p0_ok hpu
  have pT := mvU_pu (h := zQ) (p := P) ff.1 hPo hpu
  rw [hS] at pS
  rw [hT] at pT
  have eS : l.map (shU a2) = S := by rw [wk hpu k2.1, hS]
  have eT : l.map (tlU P) = T := by rw [wh hpu hPo, hT]
  have bS : S.map (shU (aD a2)) = l := by
   have := sN (h := a2) (p := p0) k2.1 p0_ok hpu
   rw [hS, pneg0] at this
   rw [wk pS (iI k2.1).1, this]
  have bT : T.map (tlU Q) = l := by
   have := sN (h := zQ) (p := P) ff.1 hPo hpu
   rw [hT, zneg, hPN] at this
   rw [wh pT hQo, this]
  have nl : az l = (l, 0) := dkT.self hN hD
  have lS : S.length < 20 := by rw [← hS, List.length_map]; omega
  have lT : T.length < 20 := by rw [← hT, List.length_map]; omega
  rw [hS] at nS
  rw [hT] at nT
  have f1 : (az S).1 = S := by rw [nS]
  have f2 : (az T).1 = T := by rw [nT]
  have f3 : (az l).1 = l := by rw [nl]
  have s1 := am (cY a0 30 og (bQ (q0.sz (by decide)) og) w0)
  have cn0 := cY a0 30 og (bQ (q0.sz (by decide)) og)
  have cn1 := cY a1 30 og (bQ (q1.sz (by decide)) og)
  have cn2 := cY a2 30 og z2
  have a_eqB : ∀ {F : List (Nat × Value)} {x ix : Operand} {b o0 : Nat} {k : IntKind}, ev F x = some (ptr b o0) → ev F ix = some (.int k ((2 : Nat) : Int)) → Rd Tryz.prog w0 F [] (.indexAddr 110 x ix) (ptr b (o0 + 2 * 4)) := fun hx hi => xx 2 hx hi rfl
  replace h := h.emps 2
  refine ef mixed [dv _, dw (vQ a0) [1], dv _, dw (vQ a1) [1], dv (vPt P), dv _, dw (vQ a0) [1], dv (vQ (aD a0)), dv _, dw (vQ a1) [1], dv (vQ (aD a1)), dv (vPt Q), ⟨.nd (.one 12 fun x => ∃ b, x = ptr b 0), [4]⟩, ⟨.nd (.one 13 fun x => ∃ b, x = ptr b 0), [5]⟩, dw undef [4], dw undef [5]]
   [⟨_, []⟩, ⟨_, []⟩, ⟨_, []⟩, ⟨_, []⟩, ⟨.emp, [(12, .one 12 fun x => .blk (bo x) (cPt ⟨oQ, oQ⟩) 29), (14, .one 12 fun x => .blk (bo x) (cPt P) 29)]⟩, ⟨.emp, [(13, .one 13 fun x => .blk (bo x) (cPt ⟨oQ, oQ⟩) 29), (15, .one 13 fun x => .blk (bo x) (cPt Q) 29)]⟩] h rfl (by kernel_rfl)
   ⟨oA obA, oA obA, oA obA, oA obA, (by rw [← hP]; exact oA fun _ => a6 (bA bld29 rfl rfl rfl)), oA obA, oA obA, oA fun _ => fJ (eH Tryz.call63 rfl cn0), oA obA, oA obA, oA fun _ => fJ (eH Tryz.call63 rfl cn1), (by rw [← hQ]; exact oA fun _ => a6 (bA bld29 rfl rfl rfl)), fun _ _ => iY 4 rfl (fun _ => rfl), fun _ _ => iY 5 rfl (fun _ => rfl), fun ξ hφ => iX (u := vPt P) 4 (hφ 12 rfl) rfl rfl rfl rfl rfl rfl rfl, fun ξ hφ => iX (u := vPt Q) 5 (hφ 13 rfl) rfl rfl rfl rfl rfl rfl rfl, trivial⟩ ?_
  clear h ac wo; intro ξ ac wo hφ h
  obtain ⟨b9, hb9⟩ : ∃ b, ξ 12 = ptr b 0 := hφ 12
  obtain ⟨b10, hb10⟩ : ∃ b, ξ 13 = ptr b 0 := hφ 13
  replace h : St w0 100 [(8, lv), (5, ptr b5 0), (9, ξ 12), (10, ξ 13)] [.row (α := U Ln) 88 lv l, .blk b5 (cQ3 a0 a1 a2) 110, .blk (bo (ξ 12)) (cPt P) 29, .blk (bo (ξ 13)) (cPt Q) 29] ac wo := (h.pick [0, 1, 4, 5] (by decide)).sub ⟨rfl, rfl, rfl, rfl, trivial⟩
  rw [hb9, hb10] at h
  clear hb9 hb10 hφ ξ
  refine gz h <| (W) ?_; clear h ac wo; intro ac wo h
  replace h : St w0 100 [(8, lv), (5, ptr b5 0), (9, ptr b9 0), (10, ptr b10 0)] [.row (α := U Ln) 88 lv l, .blk b5 (cQ3 a0 a1 a2) 110, .blk b9 (cPt P) 29, .blk b10 (cPt Q) 29] ac wo := h
  replace h := h.emps 2
  refine ef mixed [dv lv, dv _, dw (vQ a2) [1], ⟨.nd (.con True), [4, 0]⟩, dv lv, dw (vPt P) [2], ⟨.nd (.con True), [5, 0]⟩, ⟨.nd (.two 7 3 fun a b => a = b), []⟩, ⟨.nd (.two 8 6 fun a b => a = b), []⟩]
   [⟨.row (α := U Ln) 88 lv l, []⟩, ⟨_, []⟩, ⟨_, []⟩, ⟨_, []⟩, ⟨.emp, [(3, .one 3 fun x => .row (α := U Ln) 88 x S)]⟩, ⟨.emp, [(6, .one 6 fun x => .row (α := U Ln) 88 x T)]⟩] h rfl (by kernel_rfl)
   ⟨oA obA, oA obA, oA obA,
    fun ξ _ => l8 (B := fun x => [.row (α := U Ln) 88 x S, .row (α := U Ln) 88 lv l]) [.emp, .row (α := U Ln) 88 lv l] rfl (fun v _ => by simp only [cA, bn] <;> rfl) (fun _ _ => trivial) (nP (tM (cP Tryz.call64 rfl) (fun w_ hB_ hS_ => by have := msh_ct l lv a2 (by omega) zl z2 (by rw [eS]; exact zS) (by rw [eS, f1]; omega) w_ (row_view hS_ 0 rfl); rw [eS, f1] at this; exact this))),
    oA obA, oA obA,
    fun ξ _ => l8 (B := fun x => [.row (α := U Ln) 88 x T, .row (α := U Ln) 88 lv l]) [.emp, .row (α := U Ln) 88 lv l] rfl (fun v _ => by simp only [cA, bn] <;> rfl) (fun _ _ => trivial) (nP (tM (cP Tryz.call65 rfl) (fun w_ hB_ hS_ => by have := mtr_ct l lv P (by omega) zl zP (by rw [eT]; exact zT) w_ (row_view hS_ 0 rfl); rw [eT, f2] at this; exact this))),
    fun _ _ => kZ (j := 3) (by decide) rfl, fun _ _ => kZ (j := 6) (by decide) rfl, trivial⟩ ?_
  clear h ac wo; intro ξ ac wo hφ h
  replace h : St w0 100 [(8, lv), (5, ptr b5 0), (9, ptr b9 0), (10, ptr b10 0), (11, ξ 7), (12, ξ 8)] [.row (α := U Ln) 88 lv l, .blk b5 (cQ3 a0 a1 a2) 110, .blk b9 (cPt P) 29, .blk b10 (cPt Q) 29, .row (α := U Ln) 88 (ξ 3) S, .row (α := U Ln) 88 (ξ 6) T] ac wo := h.sub ⟨rfl, rfl, rfl, rfl, rfl, rfl, trivial⟩
  rw [show ξ 7 = ξ 3 from hφ 7, show ξ 8 = ξ 6 from hφ 8] at h
  generalize ξ 3 = sv1 at h
  generalize ξ 6 = tv1 at h
  clear hφ ξ
  have lS' : S.length ≤ 1000 := by omega
  have lT' : T.length ≤ 1000 := by omega
  have ll' : l.length ≤ 1000 := by omega
  have zp0 : SzP 20 p0 := ⟨bQ zz og, bQ zz og⟩
  have zP2 : SzP 20 P := ⟨bQ zP.1 og, bQ zP.2 og⟩
  refine gz h <| (W) ?_; clear h ac wo; intro ac wo h
  refine fN (xs := S) h (cP Tryz.call66 rfl) (fun w_ hB_ hS_ => by have := sP l lv a2 p0 (by omega) zl z2 zp0 (by rw [hS]; exact zS) w_ (row_view hS_ 0 rfl); rw [hS, f1] at this; exact this) rfl ?_; clear h ac wo; intro m1v ac wo _ h
  refine gz h <| (xc (ct := by exact fun w_ hB_ hS_ => oM S sv1 m1v lS' w_ (row_view hS_ 5 rfl) (row_view hS_ 0 rfl))) <| (W) ?_; clear h ac wo; intro ac wo h
  refine gK (c := true) h rfl rfl rfl rfl ?_
  refine fN (xs := T) h (cP Tryz.call66 rfl) (fun w_ hB_ hS_ => by have := sP l lv zQ P (by omega) zl zz zP2 (by rw [hT]; exact zT) w_ (row_view hS_ 1 rfl); rw [hT, f2] at this; exact this) rfl ?_; clear h ac wo; intro m2v ac wo _ h
  refine gz h <| (xg (hs := by exact fun hg => fb enA (fun w_ hB_ hS_ => oM T tv1 m2v lT' w_ (row_view hS_ 7 rfl) (row_view hS_ 0 rfl)))) <| (xg (hs := by exact fun hg => fb enA (kk cn2))) <| (W) ?_; clear h ac wo; intro ac wo h
  refine gK (c := true) h rfl rfl rfl rfl ?_
  refine fN (xs := l) h (cP Tryz.call64 rfl) (fun w_ hB_ hS_ => by have := msh_ct S sv1 (aD a2) lS zS z2n (by rw [bS]; exact zl) (by rw [bS, f3]; omega) w_ (row_view hS_ 6 rfl); rw [bS, f3] at this; exact this) rfl ?_; clear h ac wo; intro u1 ac wo _ h
  refine gz h <| (xg (hs := by exact fun hg => fb enA (fun w_ hB_ hS_ => oM l u1 lv ll' w_ (row_view hS_ 0 rfl) (row_view hS_ 3 rfl)))) <| (W) ?_; clear h ac wo; intro ac wo h
  refine gK (c := true) h rfl rfl rfl rfl ?_
  refine fN (xs := l) h (cP Tryz.call65 rfl) (fun w_ hB_ hS_ => by have := mtr_ct T tv1 Q lT zT zQ' (by rw [bT]; exact zl) w_ (row_view hS_ 8 rfl); rw [bT, f3] at this; exact this) rfl ?_; clear h ac wo; intro u2 ac wo _ h
  refine gz h <| (xg (hs := by exact fun hg => fb enA (fun w_ hB_ hS_ => oM l u2 lv ll' w_ (row_view hS_ 0 rfl) (row_view hS_ 4 rfl)))) <| (W) ?_; clear h ac wo; intro ac wo h
  exact (rt h) (h.retP rfl trivial)
end Go.Sx
namespace Go.Sx
open Go Go.RowKit Go.Proofs
theorem gd_gq {x : XQ} (h : Gd x) : ∃ a, x = qX a ∧ Gq a := by
  obtain ⟨a, e, o, n, d⟩ := h
  exact ⟨a, e, o, n, d⟩
theorem moves_ct (c : Crq) (s : List Stq) (sv : Value) (p q : Nat) (x0 x1 x2 : XQ) (hp : p < 256) (hq : q < 256) (hz : xsz x0 ≤ 9223372036854775807 ∧ xsz x1 ≤ 9223372036854775807 ∧ xsz x2 ≤ 9223372036854775807) (hc : c.time < 256 ∧ c.x < 256 ∧ c.y < 256) (hs : ∀ i, B4 (gt s i)) (w0 : World) (hsv : View w0 sv s) : Calls Tryz.prog 9 #[vCr c sv, vCt p q, vX3 x0 x1 x2] w0 (dh w0 (.bool true) True) := by
  by_cases hg : Gd x0 ∧ Gd x1 ∧ Gd x2
  · obtain ⟨a0, rfl, k0⟩ := gd_gq hg.1
    obtain ⟨a1, rfl, k1⟩ := gd_gq hg.2.1
    obtain ⟨a2, rfl, k2⟩ := gd_gq hg.2.2
    exact v6 c s sv p q a0 a1 a2 hp hq k0 k1 k2 hc hs w0 hsv
  · exact vZ c s sv p q x0 x1 x2 hz hg w0
end Go.Sx
namespace Go.Sx
open Go Go.RowKit Go.Proofs Go.ChangeShapes Go.WideShapes
set_option maxRecDepth 100000
section
variable {H : Type} {enc : TypeId × Value → H} {W : World} {base : Nat} {sp : Nat → Bool} {held : Bool}
def dXI (x : XI) : DataW H := .agg [.lit (.bool x.neg), .lit (.string x.b.data.toList)]
def dXQ (x : XQ) : DataW H := .agg [dXI x.n, dXI x.d]
theorem sk {fuel : Nat} {cs : List Value} {x : DataW H × List MemPlace} (h : DataW.trod enc Tryz.prog W base sp held fuel 25 cs = some x) : ∃ i : XI, cs = cXI i ∧ x.1 = dXI i := by
  obtain ⟨xs, n, _, hx, hlen, hxl, hf⟩ := DataW.trod_struct nn25 h
  rw [show Tryz.prog.cellsOf 25 = 2 by kernel_rfl] at hlen
  obtain ⟨c0, c1, rfl⟩ : ∃ c0 c1, cs = [c0, c1] := by
    match cs, hlen with
    | [c0, c1], _ => exact ⟨_, _, rfl⟩
  have k4 : Tryz.prog.cellsOf 4 = 1 := by kernel_rfl
  have k9 : Tryz.prog.cellsOf 9 = 1 := by kernel_rfl
  have f0 : DataW.trod enc Tryz.prog W base sp held n 4 (([c0, c1].drop 0).take (Tryz.prog.cellsOf 4)) = xs[0]? := hf 0 _ rfl
  have f1 : DataW.trod enc Tryz.prog W base sp held n 9 (([c0, c1].drop 1).take (Tryz.prog.cellsOf 9)) = xs[1]? := hf 1 _ rfl
  rw [k4] at f0
  rw [k9] at f1
  obtain ⟨y0, y1, rfl⟩ : ∃ y0 y1, xs = [y0, y1] := by
    have : xs.length = 2 := hxl
    match xs, this with
    | [y0, y1], _ => exact ⟨_, _, rfl⟩
  obtain ⟨b, e0, d0⟩ := DataW.trod_bool Tryz.underlying4 f0
  obtain ⟨s, e1, d1, _⟩ := DataW.trod_string Tryz.underlying9 f1
  simp at e0 e1
  subst e0 e1
  refine ⟨⟨b, s⟩, rfl, ?_⟩
  rw [hx, d0, d1]; rfl
theorem ow {fuel : Nat} {cs : List Value} {x : DataW H × List MemPlace} (h : DataW.trod enc Tryz.prog W base sp held fuel 27 cs = some x) : ∃ i : XQ, cs = cXQ i ∧ x.1 = dXQ i := by
  obtain ⟨xs, n, _, hx, hlen, hxl, hf⟩ := DataW.trod_struct nn27 h
  rw [show Tryz.prog.cellsOf 27 = 4 by kernel_rfl] at hlen
  have k25 : Tryz.prog.cellsOf 25 = 2 := by kernel_rfl
  have f0 : DataW.trod enc Tryz.prog W base sp held n 25 ((cs.drop 0).take (Tryz.prog.cellsOf 25)) = xs[0]? := hf 0 _ rfl
  have f1 : DataW.trod enc Tryz.prog W base sp held n 25 ((cs.drop 2).take (Tryz.prog.cellsOf 25)) = xs[1]? := hf 1 _ rfl
  rw [k25] at f0 f1
  obtain ⟨y0, y1, rfl⟩ : ∃ y0 y1, xs = [y0, y1] := by
    have : xs.length = 2 := hxl
    match xs, this with
    | [y0, y1], _ => exact ⟨_, _, rfl⟩
  obtain ⟨i, e0, d0⟩ := sk f0
  obtain ⟨j, e1, d1⟩ := sk f1
  refine ⟨⟨i, j⟩, ?_, ?_⟩
  · show cs = cXI i ++ cXI j
    rw [← e0, ← e1]
    match cs, hlen with
    | [a, b, c, d], _ => rfl
  · rw [hx]
    show DataW.agg [y0.1, y1.1] = DataW.agg [dXI i, dXI j]
    rw [d0, d1]
theorem w_xq (x : XQ) : DataW.weights Tryz.prog 27 (dXQ (H := H) x) = [x.n.b.data.toList.length, x.d.b.data.toList.length] := by
  unfold dXQ dXI
  simp [DataW.weights, DataW.weightsEach, nn27, nn25]
theorem tU {v : Value} {d : DataW H} {p : List MemPlace} (hval : Value.okWide Tryz.prog W .any base 110 v) (h : DataW.Trod enc Tryz.prog W 0 sp held 110 v d p) (hw : (DataW.weights Tryz.prog 110 d).all (· ≤ reachBytes) = true) :
    ∃ x y z : XQ, v = vX3 x y z ∧ xsz x ≤ 9223372036854775807 ∧ xsz y ≤ 9223372036854775807 ∧ xsz z ≤ 9223372036854775807 := by
  unfold Value.okWide at hval
  rw [nn110] at hval
  obtain ⟨ar, rfl, hsz, _, _⟩ := hval
  obtain ⟨fuel, hf⟩ := h
  obtain ⟨ys, m, _, hx, hlen, hyl, hg⟩ := DataW.trod_array nn110 hf
  have ka : Tryz.prog.cellsOf 110 = 12 := by kernel_rfl
  have k27 : Tryz.prog.cellsOf 27 = 4 := by kernel_rfl
  rw [ka] at hsz
  have g0 := hg 0 (by decide)
  have g1 := hg 1 (by decide)
  have g2 := hg 2 (by decide)
  rw [k27] at g0 g1 g2
  obtain ⟨y0, y1, y2, rfl⟩ : ∃ y0 y1 y2, ys = [y0, y1, y2] := by
    have : ys.length = 3 := hyl
    match ys, this with
    | [y0, y1, y2], _ => exact ⟨_, _, _, rfl⟩
  obtain ⟨x, e0, d0⟩ := ow g0
  obtain ⟨y, e1, d1⟩ := ow g1
  obtain ⟨z, e2, d2⟩ := ow g2
  have hd : d = .agg [dXQ x, dXQ y, dXQ z] := by
    have : d = .agg ([y0, y1, y2].map (·.1)) := congrArg Prod.fst hx
    rw [this]
    show DataW.agg [y0.1, y1.1, y2.1] = _
    rw [d0, d1, d2]
  have hb : ∀ u : XQ, u.n.b.data.toList.length ≤ reachBytes → u.d.b.data.toList.length ≤ reachBytes → xsz u ≤ 9223372036854775807 := fun u h1 h2 => by
    have e1 : u.n.b.size = u.n.b.data.toList.length := rfl
    have e2 : u.d.b.size = u.d.b.data.toList.length := rfl
    unfold reachBytes at h1 h2
    unfold xsz
    omega
  rw [hd] at hw
  have hw2 : (DataW.weights Tryz.prog 110 (.agg [dXQ (H := H) x, dXQ y, dXQ z])) = [x.n.b.data.toList.length, x.d.b.data.toList.length, y.n.b.data.toList.length, y.d.b.data.toList.length, z.n.b.data.toList.length, z.d.b.data.toList.length] := by
    simp [DataW.weights, DataW.weightsAll, nn110, w_xq]
  rw [hw2] at hw
  simp only [List.all_cons, List.all_nil, Bool.and_true, Bool.and_eq_true, decide_eq_true_eq] at hw
  obtain ⟨w1, w2, w3, w4, w5, w6⟩ := hw
  refine ⟨x, y, z, ?_, hb x w1 w2, hb y w3 w4, hb z w5 w6⟩
  show Value.agg ar = .agg (cXQ x ++ (cXQ y ++ cXQ z)).toArray
  congr 1
  apply Array.toList_inj.1
  have hl : ar.toList.length = 12 := by rw [Array.length_toList]; exact hsz
  have ec : (Value.cells (.agg ar)).toList = ar.toList := by simp [Value.cells]
  rw [ec] at e0 e1 e2
  rw [← e0, ← e1, ← e2]
  match h9 : ar.toList, hl with
  | [a, b, c, d, e, f, g, h, i, j, k, l], _ => simp
end
end Go.Sx
