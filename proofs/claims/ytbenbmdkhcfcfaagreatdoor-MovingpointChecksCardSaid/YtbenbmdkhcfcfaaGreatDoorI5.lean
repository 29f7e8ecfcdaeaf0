/- A part of the proof of movingpointChecks. -/
import Derived.Test.YtbenbmdkhcfcfaaGreatDoorH1
import Derived.Test.YtbenbmdkhcfcfaaGreatDoorI3
import Derived.Laws.Concat
import Derived.Test.YtbenbmdkhcfcfaaGreatDoorExtC
import Derived.Test.YtbenbmdkhcfcfaaGreatDoorH6
import Derived.Lib.Repeat
import Derived.Test.YtbenbmdkhcfcfaaGreatDoorG7
import Derived.Shelf.Strings.Repeat
set_option linter.unusedVariables false
set_option linter.unusedSimpArgs false
open Go.Proofs.Tryz renaming isAgg3 → aa3, sizeOf3 → zz3, zeroValue3 → vv3, underlying5 → nn5, isAgg5 → aa5, sizeOf5 → zz5, zeroValue5 → vv5, underlying9 → nn9, isAgg9 → aa9, sizeOf9 → zz9, zeroValue9 → vv9, runUnderlying9 → uu9, underlying335 → nn335
namespace Go.Sx
section
variable {α : Type} [Inhabited α] (c : α → α → Int)
def isB2 (a : Nat) (j : Nat) (d : List α) : Nx (Nat × List α) (List α) :=
  bif ((decide (((j : Nat) : Int) > ((a : Nat) : Int))) && (decide ((c (gt d j) (gt d (j - 1))) < 0))) then
    .go ((j - 1), ((d.set j (gt d (j - 1))).set (j - 1) (gt d j)))
  else
    .out (j, d)
def isB1 (a b i : Nat) (d : List α) : Nx (Nat × List α) (List α) :=
  bif (decide (((i : Nat) : Int) < ((b : Nat) : Int))) then
    fin (de (fun s => isB2 c a s.1 s.2) (i + 1) (i, d)) (fun s => .go ((i + 1), s.2)) (fun r => .ret r)
  else
    .out (i, d)
def pC (d : List α) (a b : Nat) : List α :=
  fin (de (fun s => isB1 c a b s.1 s.2) ((b + 1 - (a + 1)) + 1) ((a + 1), d)) (fun s => s.2) (fun r => r)
def gg (x : α) : List α → List α
  | [] => [x]
  | y :: q => if c x y < 0 then y :: gg x q else x :: y :: q
def n5 : List α → List α → List α
  | r, [] => r
  | r, x :: s => n5 (gg c x r) s
variable {c}
theorem gt_at {p : List α} {x : α} {s : List α} {j : Nat} (h : j = p.length) : gt (p ++ x :: s) j = x := by
  subst h; simp [gt, List.getD]
omit [Inhabited α] in
theorem il (x : α) : ∀ r : List α, (gg c x r).length = r.length + 1
  | [] => rfl
  | y :: q => by
    unfold gg
    split
    · simp [il x q]
    · rfl
theorem n7 (x : α) : ∀ (r s : List α) (k : Nat), r.length < k → ∃ j, de (fun s => isB2 c 0 s.1 s.2) k (r.length, r.reverse ++ x :: s) = .inl (j, (gg c x r).reverse ++ s)
  | [], s, k + 1, _ => ⟨0, by simp [de, isB2, gg]⟩
  | y :: q, s, k + 1, hk => by
    have e1 : gt ((y :: q).reverse ++ x :: s) ((y :: q).length) = x := gt_at (by simp)
    have e2 : gt ((y :: q).reverse ++ x :: s) ((y :: q).length - 1) = y := by
      rw [List.reverse_cons, List.append_assoc, List.singleton_append]
      exact gt_at (by simp)
    have hp : (((y :: q).length : Nat) : Int) > ((0 : Nat) : Int) := by simp
    by_cases h : c x y < 0
    · obtain ⟨j, hj⟩ := n7 x q (y :: s) k (by simp at hk; omega)
      refine ⟨j, ?_⟩
      have e3 : ((((y :: q).reverse ++ x :: s).set (y :: q).length y).set ((y :: q).length - 1) x) = q.reverse ++ x :: y :: s := by
        simp only [List.reverse_cons, List.append_assoc, List.length_cons, Nat.add_sub_cancel, List.singleton_append]
        rw [List.set_append_right _ _ (by simp), List.set_append_right _ _ (by simp)]
        simp
      have e4 : isB2 c 0 (y :: q).length ((y :: q).reverse ++ x :: s) = .go (q.length, q.reverse ++ x :: y :: s) := by
        unfold isB2
        rw [e1, e2, e3, decide_eq_true hp, decide_eq_true h]
        rfl
      unfold de
      simp only [e4]
      have ei : gg c x (y :: q) = y :: gg c x q := if_pos h
      rw [hj, ei, List.reverse_cons, List.append_assoc]
      rfl
    · refine ⟨(y :: q).length, ?_⟩
      have e4 : isB2 c 0 (y :: q).length ((y :: q).reverse ++ x :: s) = .out ((y :: q).length, (y :: q).reverse ++ x :: s) := by
        unfold isB2
        rw [e1, e2, decide_eq_false h, Bool.and_false]
        rfl
      unfold de
      simp only [e4]
      have ei : gg c x (y :: q) = x :: y :: q := if_neg h
      rw [ei, List.reverse_cons (a := x), List.append_assoc]
      rfl
theorem n8 (b : Nat) : ∀ (s r : List α) (k : Nat), r.length + s.length = b → s.length < k →
    de (fun s => isB1 c 0 b s.1 s.2) k (r.length, r.reverse ++ s) = .inl (b, (n5 c r s).reverse)
  | [], r, k + 1, hb, _ => by
    have : ¬ ((r.length : Nat) : Int) < ((b : Nat) : Int) := by simp at hb; omega
    unfold de isB1
    simp only [decide_eq_false this, cond_false]
    simp at hb
    rw [hb, List.append_nil]
    rfl
  | x :: s, r, k + 1, hb, hk => by
    have hlt : ((r.length : Nat) : Int) < ((b : Nat) : Int) := by simp at hb; omega
    obtain ⟨j, hj⟩ := n7 (c := c) x r s (r.length + 1) (by omega)
    have ih := n8 b s (gg c x r) k (by rw [il]; simp at hb; omega) (by simp at hk; omega)
    rw [il] at ih
    unfold de
    have e : isB1 c 0 b r.length (r.reverse ++ x :: s) = .go (r.length + 1, (gg c x r).reverse ++ s) := by
      unfold isB1
      rw [decide_eq_true hlt, cond_true, hj]
      rfl
    simp only [e]
    rw [ih]
    rfl
theorem qv (d : List α) : pC c d 0 d.length = (n5 c [] d).reverse := by
  unfold pC
  cases d with
  | nil => rfl
  | cons x s =>
    have := n8 (c := c) (x :: s).length s [x] ((x :: s).length + 1 - (0 + 1) + 1) (by simp; omega) (by simp only [List.length_cons]; omega)
    rw [show (0 + 1, x :: s) = ([x].length, [x].reverse ++ s) from rfl, pH this]
    rfl
omit [Inhabited α] in
theorem ik (x : α) : ∀ r : List α, (gg c x r).Perm (x :: r)
  | [] => .refl _
  | y :: q => by
    unfold gg
    split
    · exact ((ik x q).cons y).trans (.swap x y q)
    · exact .refl _
omit [Inhabited α] in
theorem l9 : ∀ (s r : List α), (n5 c r s).Perm (r ++ s)
  | [], r => by simp [n5]
  | x :: s, r => by
    unfold n5
    refine (l9 s _).trans ?_
    refine ((ik x r).append_right s).trans ?_
    exact List.perm_middle.symm
theorem j8 (d : List α) : (pC c d 0 d.length).Perm d := by
  rw [qv]
  exact (List.reverse_perm _).trans (by simpa using l9 d [])
variable {S : α → Prop}
omit [Inhabited α] in
theorem jL (hA : ∀ x y, S x → S y → c x y < 0 → ¬ c y x < 0) (hT : ∀ x y z, S x → S y → S z → ¬ c x y < 0 → ¬ c y z < 0 → ¬ c x z < 0) {x : α} (hx : S x) :
    ∀ {r : List α}, (∀ y ∈ r, S y) → r.Pairwise (fun a b => ¬ c a b < 0) → (gg c x r).Pairwise (fun a b => ¬ c a b < 0)
  | [], _, _ => List.pairwise_singleton _ _
  | y :: q, hS, hp => by
    have hy := hS y (List.mem_cons_self ..)
    have hq : ∀ z ∈ q, S z := fun z hz => hS z (List.mem_cons_of_mem _ hz)
    rw [List.pairwise_cons] at hp
    unfold gg
    split
    case isTrue h =>
      rw [List.pairwise_cons]
      refine ⟨fun z hz => ?_, jL hA hT hx hq hp.2⟩
      rcases List.mem_cons.1 ((ik x q).mem_iff.1 hz) with rfl | hz
      · exact hA _ _ hx hy h
      · exact hp.1 z hz
    case isFalse h =>
      rw [List.pairwise_cons]
      refine ⟨fun z hz => ?_, List.pairwise_cons.2 hp⟩
      rcases List.mem_cons.1 hz with rfl | hz
      · exact h
      · exact hT _ _ _ hx hy (hq z hz) h (hp.1 z hz)
omit [Inhabited α] in
theorem kn (hA : ∀ x y, S x → S y → c x y < 0 → ¬ c y x < 0) (hT : ∀ x y z, S x → S y → S z → ¬ c x y < 0 → ¬ c y z < 0 → ¬ c x z < 0) :
    ∀ {s r : List α}, (∀ y ∈ r, S y) → (∀ y ∈ s, S y) → r.Pairwise (fun a b => ¬ c a b < 0) → (n5 c r s).Pairwise (fun a b => ¬ c a b < 0)
  | [], _, _, _, hp => hp
  | x :: s, r, hr, hs, hp => by
    unfold n5
    refine kn hA hT (fun y hy => ?_) (fun y hy => hs y (List.mem_cons_of_mem _ hy)) (jL hA hT (hs x (List.mem_cons_self ..)) hr hp)
    rcases List.mem_cons.1 ((ik x r).mem_iff.1 hy) with rfl | hy
    · exact hs _ (List.mem_cons_self ..)
    · exact hr y hy
theorem nZ (hA : ∀ x y, S x → S y → c x y < 0 → ¬ c y x < 0) (hT : ∀ x y z, S x → S y → S z → ¬ c x y < 0 → ¬ c y z < 0 → ¬ c x z < 0) {d : List α} (hd : ∀ y ∈ d, S y) :
    (pC c d 0 d.length).Pairwise (fun a b => ¬ c b a < 0) := by
  rw [qv, List.pairwise_reverse]
  exact kn hA hT (fun _ h => by cases h) hd .nil
end
end Go.Sx
namespace Go.Sx
def Pos (f : Nat → Rat) : Prop := ∃ d : Rat, 0 < d ∧ ∃ N, ∀ k, N ≤ k → d ≤ f k
def Nul (f : Nat → Rat) : Prop := ∀ e : Rat, 0 < e → ∃ N, ∀ k, N ≤ k → -e ≤ f k ∧ f k ≤ e
def Bdd (f : Nat → Rat) : Prop := ∃ b : Rat, 0 < b ∧ ∀ k, -b ≤ f k ∧ f k ≤ b
theorem mul_pos {a b : Rat} (h : 0 < a) (hc : 0 < b) : 0 < a * b := Rat.mul_pos h hc
theorem fw {a b : Rat} (h : 0 ≤ a) (hc : 0 ≤ b) : 0 ≤ a * b := Rat.mul_nonneg h hc
theorem div_pos {a b : Rat} (h : 0 < a) (hc : 0 < b) : 0 < a / b := by
  rw [Rat.div_def]; exact mul_pos h (Rat.inv_pos.2 hc)
theorem Pos.add {f g : Nat → Rat} : Pos f → Pos g → Pos (fun k => f k + g k) := by
  rintro ⟨d, hd, N, h⟩ ⟨e, he, M, h'⟩
  refine ⟨d + e, by grind, N + M, fun k hk => ?_⟩
  have := h k (by omega); have := h' k (by omega); grind
theorem Pos.nul {f g : Nat → Rat} : Pos f → Nul g → Pos (fun k => f k + g k) := by
  rintro ⟨d, hd, N, h⟩ hg
  obtain ⟨M, h'⟩ := hg (d / 2) (by grind)
  refine ⟨d / 2, by grind, N + M, fun k hk => ?_⟩
  have := h k (by omega); have := h' k (by omega); grind
theorem Nul.add {f g : Nat → Rat} (hf : Nul f) (hg : Nul g) : Nul (fun k => f k + g k) := fun e he => by
  obtain ⟨N, h⟩ := hf (e / 2) (by grind)
  obtain ⟨M, h'⟩ := hg (e / 2) (by grind)
  refine ⟨N + M, fun k hk => ?_⟩
  have := h k (by omega); have := h' k (by omega); grind
theorem Nul.neg {f : Nat → Rat} (hf : Nul f) : Nul (fun k => - f k) := fun e he => by
  obtain ⟨N, h⟩ := hf e he
  refine ⟨N, fun k hk => ?_⟩
  have := h k hk; grind
theorem Nul.zero : Nul (fun _ => 0) := fun e he => ⟨0, fun _ _ => by grind⟩
theorem Nul.congr {f g : Nat → Rat} (h : Nul f) (e : ∀ k, f k = g k) : Nul g := by
  rwa [← funext e]
theorem Pos.congr {f g : Nat → Rat} (h : Pos f) (e : ∀ k, f k = g k) : Pos g := by
  rwa [← funext e]
theorem Bdd.const (c : Rat) : Bdd (fun _ => c) := ⟨(if 0 ≤ c then c else -c) + 1, by split <;> grind, fun _ => by split <;> grind⟩
theorem Bdd.add {f g : Nat → Rat} : Bdd f → Bdd g → Bdd (fun k => f k + g k) := by
  rintro ⟨b, hb, h⟩ ⟨c, hc, h'⟩
  exact ⟨b + c, by grind, fun k => by have := h k; have := h' k; grind⟩
theorem Bdd.neg {f : Nat → Rat} : Bdd f → Bdd (fun k => - f k) := by
  rintro ⟨b, hb, h⟩
  exact ⟨b, hb, fun k => by have := h k; grind⟩
theorem tQ {x y b c : Rat} (h1 : -b ≤ x) (h2 : x ≤ b) (h3 : -c ≤ y) (h4 : y ≤ c) : -(b * c) ≤ x * y ∧ x * y ≤ b * c := by
  have p1 := fw (show 0 ≤ b - x by grind) (show 0 ≤ c + y by grind)
  have p2 := fw (show 0 ≤ b + x by grind) (show 0 ≤ c - y by grind)
  have p3 := fw (show 0 ≤ b - x by grind) (show 0 ≤ c - y by grind)
  have p4 := fw (show 0 ≤ b + x by grind) (show 0 ≤ c + y by grind)
  constructor <;> grind
theorem Bdd.mul {f g : Nat → Rat} : Bdd f → Bdd g → Bdd (fun k => f k * g k) := by
  rintro ⟨b, hb, h⟩ ⟨c, hc, h'⟩
  exact ⟨b * c, mul_pos hb hc, fun k => tQ (h k).1 (h k).2 (h' k).1 (h' k).2⟩
theorem Nul.mul {f g : Nat → Rat} (hf : Nul f) : Bdd g → Nul (fun k => f k * g k) := by
  rintro ⟨b, hb, h⟩ e he
  obtain ⟨N, h'⟩ := hf (e / b) (div_pos he hb)
  refine ⟨N, fun k hk => ?_⟩
  have := tQ (h' k hk).1 (h' k hk).2 (h k).1 (h k).2
  rwa [show e / b * b = e by grind] at this
theorem Pos.mul {f g : Nat → Rat} : Pos f → Pos g → Pos (fun k => f k * g k) := by
  rintro ⟨d, hd, N, h⟩ ⟨e, he, M, h'⟩
  refine ⟨d * e, mul_pos hd he, N + M, fun k hk => ?_⟩
  have h1 := h k (by omega); have h2 := h' k (by omega)
  have p1 := fw (show 0 ≤ f k - d by grind) (show 0 ≤ g k by grind)
  have p2 := fw (show 0 ≤ d by grind) (show 0 ≤ g k - e by grind)
  grind
theorem Pos.div {f g : Nat → Rat} (hb : Bdd g) : Pos (fun k => f k * g k) → Pos g → Pos f := by
  obtain ⟨b, hb, h⟩ := hb
  rintro ⟨d, hd, N, h1⟩ ⟨e, he, M, h2⟩
  refine ⟨d / b, div_pos hd hb, N + M, fun k hk => ?_⟩
  have h3 := h1 k (by omega); have h4 := h2 k (by omega); have h5 := h k
  refine Rat.not_lt.1 fun hn => ?_
  have p1 := mul_pos (show 0 < d / b - f k by grind) (show 0 < g k by grind)
  have p2 := fw (show 0 ≤ d / b by have := div_pos hd hb; grind) (show 0 ≤ b - g k by grind)
  have p3 : d / b * b = d := by grind
  simp only at h3
  grind
theorem Nul.div {f g : Nat → Rat} : Nul (fun k => f k * g k) → Pos g → Nul f := by
  rintro hn ⟨e, he, M, h2⟩ c hc
  obtain ⟨N, h⟩ := hn (c * e) (mul_pos hc he)
  refine ⟨N + M, fun k hk => ?_⟩
  have h3 := h k (by omega); have h4 := h2 k (by omega)
  simp only at h3
  constructor
  · refine Rat.not_lt.1 fun hx => ?_
    have p1 := mul_pos (show 0 < -c - f k by grind) (show 0 < g k by grind)
    have p2 := fw (show 0 ≤ c by grind) (show 0 ≤ g k - e by grind)
    grind
  · refine Rat.not_lt.1 fun hx => ?_
    have p1 := mul_pos (show 0 < f k - c by grind) (show 0 < g k by grind)
    have p2 := fw (show 0 ≤ c by grind) (show 0 ≤ g k - e by grind)
    grind
theorem Pos.const {c : Rat} (h : 0 < c) : Pos (fun _ => c) := ⟨c, h, 0, fun _ _ => by grind⟩
theorem Pos.not_nul {f : Nat → Rat} : Pos f → ¬ Nul f := by
  rintro ⟨d, hd, N, h⟩ hn
  obtain ⟨M, h'⟩ := hn (d / 2) (by grind)
  have := h (N + M) (by omega); have := h' (N + M) (by omega); grind
theorem Pos.asymm {f : Nat → Rat} : Pos f → ¬ Pos (fun k => - f k) := by
  rintro ⟨d, hd, N, h⟩ ⟨e, he, M, h'⟩
  have := h (N + M) (by omega); have := h' (N + M) (by omega); grind
def Sg (f : Nat → Rat) (s : Int) : Prop := (s = 1 ∧ Pos f) ∨ (s = -1 ∧ Pos (fun k => - f k)) ∨ (s = 0 ∧ Nul f)
theorem Sg.congr {f g : Nat → Rat} {s : Int} (h : Sg f s) (e : ∀ k, f k = g k) : Sg g s := by
  rwa [← funext e]
theorem Sg.uniq {f : Nat → Rat} {s t : Int} : Sg f s → Sg f t → s = t := by
  have hnn : ∀ {f : Nat → Rat}, Pos (fun k => - f k) → ¬ Nul f := fun h hn => h.not_nul hn.neg
  rintro (⟨rfl, h⟩ | ⟨rfl, h⟩ | ⟨rfl, h⟩) (⟨rfl, h'⟩ | ⟨rfl, h'⟩ | ⟨rfl, h'⟩) <;> first | rfl | exfalso
  · exact h.asymm h'
  · exact h.not_nul h'
  · exact h'.asymm h
  · exact hnn h h'
  · exact h'.not_nul h
  · exact hnn h' h
theorem Sg.neg {f : Nat → Rat} {s : Int} : Sg f s → Sg (fun k => - f k) (-s) := by
  rintro (⟨rfl, h⟩ | ⟨rfl, h⟩ | ⟨rfl, h⟩)
  · exact .inr (.inl ⟨rfl, h.congr fun k => by grind⟩)
  · exact .inl ⟨rfl, h⟩
  · exact .inr (.inr ⟨rfl, h.neg⟩)
theorem Sg.nul {f g : Nat → Rat} {s : Int} (hg : Nul g) : Sg f s → Sg (fun k => f k + g k) s := by
  rintro (⟨rfl, h⟩ | ⟨rfl, h⟩ | ⟨rfl, h⟩)
  · exact .inl ⟨rfl, h.nul hg⟩
  · exact .inr (.inl ⟨rfl, (h.nul hg.neg).congr fun k => by grind⟩)
  · exact .inr (.inr ⟨rfl, h.add hg⟩)
theorem Sg.mul {f g : Nat → Rat} {s t : Int} (bf : Bdd f) (bg : Bdd g) : Sg f s → Sg g t → Sg (fun k => f k * g k) (s * t) := by
  rintro (⟨rfl, h⟩ | ⟨rfl, h⟩ | ⟨rfl, h⟩) (⟨rfl, h'⟩ | ⟨rfl, h'⟩ | ⟨rfl, h'⟩)
  · exact .inl ⟨rfl, h.mul h'⟩
  · exact .inr (.inl ⟨rfl, (h.mul h').congr fun k => by grind⟩)
  · exact .inr (.inr ⟨rfl, (h'.mul bf).congr fun k => by grind⟩)
  · exact .inr (.inl ⟨rfl, (h.mul h').congr fun k => by grind⟩)
  · exact .inl ⟨rfl, (h.mul h').congr fun k => by grind⟩
  · exact .inr (.inr ⟨rfl, (h'.mul bf).congr fun k => by grind⟩)
  · exact .inr (.inr ⟨by omega, h.mul bg⟩)
  · exact .inr (.inr ⟨by omega, h.mul bg⟩)
  · exact .inr (.inr ⟨rfl, h.mul bg⟩)
theorem Sg.div {f g : Nat → Rat} {s t : Int} (bg : Bdd g) (ht : t = 1 ∨ t = -1) : Sg (fun k => f k * g k) s → Sg g t → Sg f (s * t) := by
  rintro hs (⟨rfl, h'⟩ | ⟨rfl, h'⟩ | ⟨rfl, h'⟩)
  · rcases hs with ⟨rfl, h⟩ | ⟨rfl, h⟩ | ⟨rfl, h⟩
    · exact .inl ⟨rfl, h.div bg h'⟩
    · exact .inr (.inl ⟨rfl, Pos.div bg (h.congr fun k => by grind) h'⟩)
    · exact .inr (.inr ⟨rfl, h.div h'⟩)
  · rcases hs with ⟨rfl, h⟩ | ⟨rfl, h⟩ | ⟨rfl, h⟩
    · exact .inr (.inl ⟨rfl, Pos.div bg.neg (h.congr fun k => by grind) h'⟩)
    · exact .inl ⟨rfl, Pos.div bg.neg (h.congr fun k => by grind) h'⟩
    · exact .inr (.inr ⟨rfl, Nul.div (h.neg.congr fun k => by grind) h'⟩)
  · rcases ht with ht | ht <;> cases ht
theorem Sg.add {f g : Nat → Rat} {s : Int} : Sg f s → Sg g s → Sg (fun k => f k + g k) s := by
  rintro (⟨rfl, h⟩ | ⟨rfl, h⟩ | ⟨rfl, h⟩) (⟨e, h'⟩ | ⟨e, h'⟩ | ⟨e, h'⟩) <;> first | cases e; done | skip
  · exact .inl ⟨rfl, h.add h'⟩
  · exact .inr (.inl ⟨rfl, (h.add h').congr fun k => by grind⟩)
  · exact .inr (.inr ⟨rfl, h.add h'⟩)
def rsg (x : Rat) : Int := if x < 0 then -1 else if 0 < x then 1 else 0
theorem Sg.const (c : Rat) : Sg (fun _ => c) (rsg c) := by
  unfold rsg
  split
  · exact .inr (.inl ⟨rfl, Pos.const (by grind)⟩)
  · split
    · exact .inl ⟨rfl, Pos.const (by assumption)⟩
    · exact .inr (.inr ⟨rfl, by rw [show c = 0 by grind]; exact Nul.zero⟩)
theorem arch (x : Rat) : x < ((x.floor + 1).toNat : Rat) := by
  have h1 := Rat.lt_floor_add_one x
  have h2 : ((x.floor + 1 : Int) : Rat) ≤ (((x.floor + 1).toNat : Int) : Rat) := Rat.intCast_le_intCast.2 (by omega)
  rw [Rat.intCast_natCast] at h2
  grind
def jr (r h : Rat) : Nat → Nat
  | 0 => 0
  | n + 1 => if r < (n : Rat) * h * ((n : Rat) * h) then jr r h n else n
theorem jr_ok (r h : Rat) (hr : 0 ≤ r) : ∀ n : Nat, r < (n : Rat) * h * ((n : Rat) * h) → (jr r h n : Rat) * h * ((jr r h n : Rat) * h) ≤ r ∧ r < ((jr r h n : Rat) + 1) * h * (((jr r h n : Rat) + 1) * h)
  | 0, hn => by exfalso; have : ((0 : Nat) : Rat) = 0 := rfl; rw [this] at hn; grind
  | n + 1, hn => by
    unfold jr
    split
    · rename_i hc; exact jr_ok r h hr n hc
    · rename_i hc
      refine ⟨Rat.not_lt.1 hc, ?_⟩
      rw [Rat.natCast_add] at hn
      exact hn
def hr_ (r e : Rat) : Rat := e / (2 * (r + 1) + 1 + e)
def o8 (r e : Rat) : Rat := (jr r (hr_ r e) (((r + 1) / hr_ r e).floor + 1).toNat : Rat) * hr_ r e
theorem root_ok (r : Rat) (hr : 0 ≤ r) (e : Rat) (he : 0 < e) : 0 ≤ o8 r e ∧ o8 r e * o8 r e ≤ r ∧ r ≤ o8 r e * o8 r e + e := by
  unfold o8
  have hh : 0 < hr_ r e := div_pos he (by grind)
  have h1 : hr_ r e * (2 * (r + 1) + 1 + e) = e := by unfold hr_; grind
  generalize hr_ r e = h at hh h1 ⊢
  have hn := arch ((r + 1) / h)
  generalize (((r + 1) / h).floor + 1).toNat = n at hn ⊢
  have h2 : (r + 1) / h * h = r + 1 := by grind
  have h3 : r + 1 < (n : Rat) * h := by
    have := mul_pos (show 0 < (n : Rat) - (r + 1) / h by grind) hh
    grind
  obtain ⟨hj1, hj2⟩ := jr_ok r h hr n (by
    have p := mul_pos (show 0 < (n : Rat) * h - (r + 1) by grind) (show 0 < (n : Rat) * h by grind)
    have p2 := mul_pos (show 0 < r + 1 by grind) (show 0 < (n : Rat) * h - (r + 1) by grind)
    have p3 := fw hr hr
    grind)
  generalize jr r h n = j at hj1 hj2 ⊢
  have hj0 : (0 : Rat) ≤ (j : Rat) := by
    have : ((0 : Nat) : Rat) ≤ (j : Rat) := Rat.natCast_le_natCast.2 (by omega)
    exact this
  refine ⟨fw hj0 (by grind), hj1, ?_⟩
  have p := fw hj0 (show 0 ≤ h by grind)
  rw [show ((j : Rat) + 1) * h = (j : Rat) * h + h by grind] at hj2
  generalize (j : Rat) * h = s at *
  have hs : s ≤ r + 1 := Rat.not_lt.1 fun hc => by
    have p1 := mul_pos (show 0 < s - (r + 1) by grind) (show 0 < s by grind)
    have p2 := mul_pos (show 0 < s - (r + 1) by grind) (show 0 < r + 1 by grind)
    have p3 := fw hr hr
    grind
  have p1 := fw (show 0 ≤ h by grind) (show 0 ≤ (r + 1) - s by grind)
  have p2 := fw (show 0 ≤ h by grind) (show 0 ≤ e by grind)
  have p4 : h ≤ 1 := Rat.not_lt.1 fun hc => by
    have p5 := mul_pos (show 0 < h - 1 by grind) (show 0 < 2 * (r + 1) + 1 + e by grind)
    grind
  have p3 := fw (show 0 ≤ h by grind) (show 0 ≤ 1 - h by grind)
  grind
def rtq (r : Rat) (k : Nat) : Rat := o8 r (1 / ((k : Rat) + 1))
theorem kC {r : Rat} (hr : 0 ≤ r) (k : Nat) : 0 ≤ rtq r k ∧ rtq r k * rtq r k ≤ r ∧ r ≤ rtq r k * rtq r k + 1 / ((k : Rat) + 1) := root_ok r hr _ (div_pos (by decide) (by
  have : ((0 : Nat) : Rat) ≤ (k : Rat) := Rat.natCast_le_natCast.2 (by omega)
  have e : ((0 : Nat) : Rat) = 0 := rfl
  grind))
section
variable {r : Rat} (hr : 0 ≤ r)
include hr
theorem jW : Bdd (rtq r) := ⟨r + 1, by grind, fun k => by
  obtain ⟨h0, h1, _⟩ := kC hr k
  refine ⟨by grind, Rat.not_lt.1 fun hc => ?_⟩
  have p1 := mul_pos (show 0 < rtq r k - (r + 1) by grind) (show 0 < rtq r k by grind)
  have p2 := fw hr h0
  grind⟩
theorem nA : Nul (fun k => rtq r k * rtq r k - r) := fun e he => by
  have hn := arch (1 / e)
  refine ⟨((1 / e).floor + 1).toNat, fun k hk => ?_⟩
  obtain ⟨_, h1, h2⟩ := kC hr k
  have h3 := Rat.natCast_le_natCast.2 hk
  have h4 : 1 / e * e = 1 := by grind
  have h5 := div_pos (show (0 : Rat) < 1 by decide) he
  have h6 : 1 / ((k : Rat) + 1) * ((k : Rat) + 1) = 1 := by grind
  have p1 := mul_pos (show 0 < (k : Rat) + 1 - 1 / e by grind) he
  have h7 : 1 / ((k : Rat) + 1) ≤ e := Rat.not_lt.1 fun hc => by
    have p2 := mul_pos (show 0 < 1 / ((k : Rat) + 1) - e by grind) (show 0 < (k : Rat) + 1 by grind)
    grind
  grind
end
theorem qd (k : Nat) : rtq 0 k = 0 := by
  obtain ⟨h0, h1, _⟩ := kC (Rat.le_refl : (0 : Rat) ≤ 0) k
  refine Classical.byContradiction fun hn => ?_
  have := mul_pos (show 0 < rtq 0 k by grind) (show 0 < rtq 0 k by grind)
  grind
theorem rtq_pos {r : Rat} (hr : 0 < r) : Pos (rtq r) := by
  refine Pos.div (g := rtq r) (jW (by grind)) ?_ ?_
  · exact ((Pos.const hr).nul (nA (by grind : 0 ≤ r))).congr fun k => by grind
  · obtain ⟨N, h⟩ := nA (r := r) (by grind) (r / 2) (by grind)
    obtain ⟨b, hb, hB⟩ := jW (r := r) (by grind)
    refine ⟨r / 2 / b, div_pos (by grind) hb, N, fun k hk => Rat.not_lt.1 fun hc => ?_⟩
    have h1 := h k hk; have h2 := kC (r := r) (by grind) k; have h3 := hB k
    have e1 : r / 2 / b * b = r / 2 := by grind
    have p1 := fw h2.1 (show 0 ≤ b - rtq r k by grind)
    have p2 := mul_pos (show 0 < r / 2 / b - rtq r k by grind) hb
    grind
theorem rtq_sg (b : Rat) {r : Rat} (hr : 0 ≤ r) : Sg (fun k => b * rtq r k) (rsg b * rsg r) :=
  Sg.mul (Bdd.const b) (jW hr) (Sg.const b) (by
    by_cases h : 0 < r
    · rw [show rsg r = 1 by unfold rsg; rw [if_neg (by grind), if_pos h]]; exact .inl ⟨rfl, rtq_pos h⟩
    · rw [show r = 0 by grind]; exact .inr (.inr ⟨rfl, Nul.zero.congr fun k => (qd k).symm⟩))
def rcm (x y : Rat) : Int := if x < y then -1 else if y < x then 1 else 0
theorem sa (x y : Rat) : rcm x y = rsg (x - y) := by
  unfold rcm rsg
  have h1 : x < y ↔ x - y < 0 := by constructor <;> intro h <;> grind
  have h2 : y < x ↔ 0 < x - y := by constructor <;> intro h <;> grind
  simp only [h1, h2]
theorem Sg.cases {f : Nat → Rat} {s : Int} (h : Sg f s) : s = 1 ∨ s = -1 ∨ s = 0 := by
  rcases h with h | h | h; exact .inl h.1; exact .inr (.inl h.1); exact .inr (.inr h.1)
def sgr (m n : Int) (c : Int) : Int := if n = 0 ∨ m = n then m else if m = 0 then n else m * c
theorem sgr_ok {f g : Nat → Rat} {m n c : Int} (bf : Bdd f) (bg : Bdd g) (hf : Sg f m) (hg : Sg g n) (hc : Sg (fun k => f k * f k - g k * g k) c) : Sg (fun k => f k + g k) (sgr m n c) := by
  unfold sgr
  split
  · rename_i h
    rcases h with rfl | rfl
    · rcases hg with ⟨e, _⟩ | ⟨e, _⟩ | ⟨_, h⟩
      · cases e
      · cases e
      · exact hf.nul h
    · exact hf.add hg
  · rename_i h1
    split
    · rename_i h
      subst h
      rcases hf with ⟨e, _⟩ | ⟨e, _⟩ | ⟨_, h⟩
      · cases e
      · cases e
      · exact (hg.nul h).congr fun k => by grind
    · rename_i h2
      have hn : n = -m := by
        rcases hf.cases with h | h | h <;> rcases hg.cases with h' | h' | h' <;> omega
      have hm : m = 1 ∨ m = -1 := by rcases hf.cases with h | h | h <;> omega
      have hs : Sg (fun k => f k + - g k) m := hf.add (by have := hg.neg; rwa [hn, Int.neg_neg] at this)
      have := Sg.div (f := fun k => f k + g k) (s := c) (bf.add bg.neg) hm (hc.congr fun k => by grind) hs
      rwa [Int.mul_comm] at this
def qV (a b r : Rat) : Int := sgr (rsg a) (rsg b * rsg r) (rcm (a * a) (b * b * r))
theorem qe (a b : Rat) {r : Rat} (hr : 0 ≤ r) : Sg (fun k => a + b * rtq r k) (qV a b r) := by
  refine sgr_ok (f := fun _ => a) (g := fun k => b * rtq r k) (Bdd.const a) ((Bdd.const b).mul (jW hr)) (Sg.const a) (rtq_sg b hr) ?_
  rw [sa]
  exact ((Sg.const (a * a - b * b * r)).nul (((nA hr).mul (Bdd.const (- (b * b)))))).congr fun k => by grind
def r6 (a b r c s : Rat) : Int := sgr (qV a b r) (rsg c * rsg s) (qV (a * a + b * b * r - c * c * s) (2 * a * b) r)
theorem r5 (a b c : Rat) {r s : Rat} (hr : 0 ≤ r) (hs : 0 ≤ s) : Sg (fun k => a + b * rtq r k + c * rtq s k) (r6 a b r c s) := by
  refine sgr_ok (f := fun k => a + b * rtq r k) (g := fun k => c * rtq s k) ((Bdd.const a).add ((Bdd.const b).mul (jW hr))) ((Bdd.const c).mul (jW hs)) (qe a b hr) (rtq_sg c hs) ?_
  refine ((qe (a * a + b * b * r - c * c * s) (2 * a * b) hr).nul (((nA hr).mul (Bdd.const (b * b))).add ((nA hs).mul (Bdd.const (- (c * c)))))).congr fun k => by grind
end Go.Sx
namespace Go.Sx
def fac (x : GR) : Rat := bif x.neg then -1 else 1
def rv (x : GR) (k : Nat) : Rat := a6 x.p + fac x * rtq (a6 x.r) k
def ROk (x : GR) : Prop := QOk x.p ∧ QOk x.r ∧ ((a6 x.r = 0 ∧ x.neg = false) ∨ (0 < a6 x.r ∧ ∀ q : Rat, q * q ≠ a6 x.r))
theorem ROk.nn {x : GR} (h : ROk x) : 0 ≤ a6 x.r := by rcases h.2.2 with h | h <;> grind
theorem ROk.tok {x : GR} (h : ROk x) : TOk x := ⟨h.1, h.2.1⟩
theorem mg (x : GR) : fac x * fac x = 1 := by unfold fac; cases x.neg <;> decide +kernel
theorem oo (x : GR) : QOk (aV x) ∧ a6 (aV x) = fac x := by
  unfold aV fac
  cases x.neg
  · exact gY 1
  · exact gY (-1)
theorem bsgr (m n c : Int) : (bif (n == 0 || m == n) then m else bif m == 0 then n else m * c) = sgr m n c := by
  unfold sgr
  by_cases h : n = 0 ∨ m = n
  · rw [if_pos h, show (n == 0 || m == n) = true by simpa using h]; rfl
  · rw [if_neg h, show (n == 0 || m == n) = false by simpa using h]
    by_cases h2 : m = 0
    · rw [if_pos h2, show (m == 0) = true by simpa using h2]; rfl
    · rw [if_neg h2, show (m == 0) = false by simpa using h2]; rfl
theorem rR {a b r : GQ} (ha : QOk a) (hb : QOk b) (hr : QOk r) : cZ a b r = qV (a6 a) (a6 b) (a6 r) := by
  unfold cZ qV
  rw [bsgr, jx ha, jx hb, jx hr]
  obtain ⟨h1, e1⟩ := eI ha ha
  obtain ⟨h2, e2⟩ := eI hb hb
  obtain ⟨h3, e3⟩ := eI h2 hr
  rw [pK h1 h3, e1, e3, e2]
  rfl
theorem mo {x y : GR} (hx : TOk x) (hy : TOk y) : ao x y = r6 (a6 x.p - a6 y.p) (fac x) (a6 x.r) (- fac y) (a6 y.r) := by
  obtain ⟨f1, g1⟩ := oo x
  obtain ⟨f2, g2⟩ := oo y
  obtain ⟨f3, g3⟩ := sD f2
  obtain ⟨s1, t1⟩ := eW hx.1 hy.1
  obtain ⟨m1, n1⟩ := eI s1 s1
  obtain ⟨a1, b1⟩ := gm m1 hx.2
  obtain ⟨u1, v1⟩ := eW a1 hy.2
  obtain ⟨k1, l1⟩ := eI s1 f1
  obtain ⟨k0, l0⟩ := gY 2
  obtain ⟨k2, l2⟩ := eI k0 k1
  unfold ao r6
  rw [bsgr, rR s1 f1 hx.2, jx f3, jx hy.2, rR u1 k2 hx.2, t1, g1, g3, g2, v1, b1, n1, t1, l2, l0, l1, t1, g1]
  have e1 := mg x
  have e2 := mg y
  rw [show (a6 x.p - a6 y.p) * (a6 x.p - a6 y.p) + fac x * fac x * a6 x.r - - fac y * - fac y * a6 y.r = (a6 x.p - a6 y.p) * (a6 x.p - a6 y.p) + a6 x.r - a6 y.r by grind,
    show 2 * (a6 x.p - a6 y.p) * fac x = ((2 : Int) : Rat) * ((a6 x.p - a6 y.p) * fac x) by have : ((2 : Int) : Rat) = 2 := rfl; grind]
  rfl
theorem lj {x y : GR} (hx : ROk x) (hy : ROk y) : Sg (fun k => rv x k - rv y k) (ao x y) := by
  rw [mo hx.tok hy.tok]
  exact (r5 _ _ _ hx.nn hy.nn).congr fun k => by unfold rv; grind
theorem fE {x : Rat} (h : rsg x = 0) : x = 0 := by unfold rsg at h; split at h; cases h; split at h; cases h; grind
theorem qg {x y : Rat} (h : rcm x y = 0) : x = y := by rw [sa] at h; have := fE h; grind
theorem mu {m n c : Int} (h : sgr m n c = 0) : m = 0 ∧ n = 0 ∨ m ≠ 0 ∧ n ≠ 0 ∧ m ≠ n ∧ c = 0 := by
  unfold sgr at h
  split at h
  · rename_i h2; left; omega
  · split at h
    · exfalso; omega
    · rename_i h1 h2
      right
      refine ⟨h2, by omega, by omega, ?_⟩
      rcases Int.mul_eq_zero.1 h with h | h
      · exact absurd h h2
      · exact h
theorem GR.ext3 {x y : GR} (h1 : x.p = y.p) (h2 : x.r = y.r) (h3 : x.neg = y.neg) : x = y := by cases x; cases y; simp_all
theorem sq_div {u a r : Rat} (ha : a ≠ 0) (e : u * u = 4 * a * a * r) : u / (2 * a) * (u / (2 * a)) = r := by
  have h : u / (2 * a) * (2 * a) = u := by grind
  generalize u / (2 * a) = t at h ⊢
  have h2 : (t * t - r) * (4 * (a * a)) = 0 := by grind
  rcases Rat.mul_eq_zero.1 h2 with h | h
  · grind
  · exfalso
    rcases Rat.mul_eq_zero.1 h with h | h
    · exact absurd h (by decide)
    · rcases Rat.mul_eq_zero.1 h with h | h <;> exact ha h
theorem qF {x y : GR} (hx : ROk x) (hy : ROk y) (h : ao x y = 0) : x = y := by
  rw [mo hx.tok hy.tok] at h
  have fx : fac x ≠ 0 := fun e => by have := mg x; grind
  have fy : fac y ≠ 0 := fun e => by have := mg y; grind
  have sx := mg x
  have sy := mg y
  have ne : ∀ {u : Rat}, u ≠ 0 → rsg u ≠ 0 := fun hu h => hu (fE h)
  rcases mu h with ⟨h1, h2⟩ | ⟨h1, h2, h3, h4⟩
  · 
    have hr : a6 y.r = 0 := by
      rcases Int.mul_eq_zero.1 h2 with h | h
      · exact absurd (fE h) (by grind)
      · exact fE h
    rcases mu h1 with ⟨k1, k2⟩ | ⟨k1, k2, k3, k4⟩
    · have hp := fE k1
      have hr2 : a6 x.r = 0 := by
        rcases Int.mul_eq_zero.1 k2 with h | h
        · exact absurd (fE h) fx
        · exact fE h
      have nx : x.neg = false := by rcases hx.2.2 with h | h; exact h.2; exfalso; grind
      have ny : y.neg = false := by rcases hy.2.2 with h | h; exact h.2; exfalso; grind
      exact GR.ext3 (dK hx.1 hy.1 (by grind)) (dK hx.2.1 hy.2.1 (by grind)) (by rw [nx, ny])
    · exfalso
      have := qg k4
      rcases hx.2.2 with h | h
      · rw [h.1] at k2; exact k2 (by rw [show rsg 0 = 0 by rfl, Int.mul_zero])
      · exact h.2 _ (by rw [this, sx]; grind)
  · have hyr : 0 < a6 y.r := by
      rcases hy.2.2 with h | h
      · rw [h.1] at h2; exact absurd (by rw [show rsg 0 = 0 by rfl, Int.mul_zero]) h2
      · exact h.1
    have nsy : ∀ q : Rat, q * q ≠ a6 y.r := by rcases hy.2.2 with h | h; exfalso; grind; exact h.2
    rcases mu h4 with ⟨k1, k2⟩ | ⟨k1, k2, k3, k4⟩
    · have e1 := fE k1
      rcases Int.mul_eq_zero.1 k2 with k | k
      · have e2 := fE k
        have ha : a6 x.p - a6 y.p = 0 := by
          rcases Rat.mul_eq_zero.1 e2 with h | h
          · rcases Rat.mul_eq_zero.1 h with h | h
            · exact absurd h (by decide)
            · exact h
          · exact absurd h fx
        have hr : a6 x.r = a6 y.r := by rw [ha] at e1; grind
        refine GR.ext3 (dK hx.1 hy.1 (by grind)) (dK hx.2.1 hy.2.1 hr) ?_
        refine Classical.byContradiction fun hne => ?_
        have e : fac x = - fac y := by unfold fac; cases hx' : x.neg <;> cases hy' : y.neg <;> simp_all
        refine h3 ?_
        rw [ha, e, hr]
        unfold qV sgr
        rw [show rsg 0 = 0 by rfl]
        have n0 : rsg (- fac y) * rsg (a6 y.r) ≠ 0 := h2
        rw [if_neg (fun h => h.elim n0 fun h => n0 h.symm), if_pos rfl]
      · exfalso
        have e2 := fE k
        refine nsy (a6 x.p - a6 y.p) ?_
        rw [e2] at e1; grind
    · exfalso
      have e := qg k4
      have hxr : a6 x.r ≠ 0 := fun h => k2 (by rw [h, show rsg 0 = 0 by rfl, Int.mul_zero])
      have nsx : ∀ q : Rat, q * q ≠ a6 x.r := by rcases hx.2.2 with h | h; exact absurd h.1 hxr; exact h.2
      have ha : a6 x.p - a6 y.p ≠ 0 := fun h => k2 (by rw [h]; rw [show (2 : Rat) * 0 * fac x = 0 by grind, show rsg 0 = 0 by rfl, Int.zero_mul])
      generalize a6 x.p - a6 y.p = a at *
      generalize hu : a * a + fac x * fac x * a6 x.r - - fac y * - fac y * a6 y.r = u at *
      have e3 : u * u = 4 * a * a * a6 x.r := by
        have : 2 * a * fac x * (2 * a * fac x) = 4 * a * a := by grind
        grind
      exact nsx (u / (2 * a)) (sq_div ha e3)
end Go.Sx
namespace Go.Proofs
open Go.Shelf
def Tryz.lays126_ren : Go.Shelf.Ren := ⟨fun | 126 => 305 | n => n, fun | 5 => 5 | 3 => 3 | 9 => 9 | n => n, fun | n => n⟩
theorem Tryz.lays126 : Go.Proofs.Lays.n126 Tryz.prog Tryz.lays126_ren := {
  mixed := by kernel_rfl
  f126 := Tryz.func305.trans (congrArg some (by kernel_rfl))
  t3 := Tryz.underlying3
  a3 := aa3
  z3 := zz3
  v3 := vv3
  t5 := nn5
  a5 := aa5
  z5 := zz5
  v5 := vv5
  t9 := nn9
  a9 := aa9
  z9 := zz9
  v9 := vv9 }
end Go.Proofs
namespace Go.Sx
open Go Go.RowKit Go.Proofs
theorem Len8_ct (u : Nat) (hu : u < 256) (w0 : World) : Calls Tryz.prog 305 #[.int .u8 ((u : Nat) : Int)] w0 (cq w0 (.int .i64 ((Lib.bitLen u : Nat) : Int)) True) := by
  have := i3 (Any.bits_Len8 Tryz.lays126 (u : Int) w0 (by omega) (by omega))
  rw [Int.toNat_natCast] at this; exact this
section
variable {P : Program} {w0 : World} {F : List (Nat × Value)}
end
end Go.Sx
namespace Go.Sx
def isq : Nat → Nat
  | 0 => 0
  | n + 1 => if (isq n + 1) * (isq n + 1) ≤ n + 1 then isq n + 1 else isq n
theorem nX : ∀ a : Nat, isq a * isq a ≤ a ∧ a < (isq a + 1) * (isq a + 1)
  | 0 => ⟨Nat.le_refl _, by decide⟩
  | n + 1 => by
    obtain ⟨h1, h2⟩ := nX n
    unfold isq
    split
    · rename_i h
      refine ⟨h, ?_⟩
      generalize isq n = s at *
      rw [Nat.mul_add, Nat.add_mul (s + 1) 1 (s + 1)]; omega
    · exact ⟨by omega, by omega⟩
theorem isq_lt {a m : Nat} (h : a < m * m) : isq a < m := by
  obtain ⟨h1, _⟩ := nX a
  refine Nat.lt_of_not_le fun hm => ?_
  have := Nat.mul_le_mul hm hm
  omega
theorem isq_pos {a : Nat} (h : 0 < a) : 0 < isq a := by
  obtain ⟨_, h2⟩ := nX a
  refine Nat.pos_of_ne_zero fun e => ?_
  rw [e] at h2; omega
def nwt (a x : Nat) : Nat := (x + a / x) / 2
theorem nwt_ge {a x : Nat} (hx : 0 < x) : isq a ≤ nwt a x := by
  obtain ⟨h1, _⟩ := nX a
  unfold nwt
  have h3 : a < x * (a / x + 1) := by rw [Nat.mul_add, Nat.mul_one]; have := Nat.div_add_mod a x; have := Nat.mod_lt a hx; omega
  generalize a / x = q at *
  generalize isq a = s at *
  rw [Nat.le_div_iff_mul_le (by decide)]
  refine Nat.le_of_not_lt fun h => ?_
  obtain ⟨d, hd⟩ : ∃ d, x + (q + 1) + d = 2 * s := ⟨2 * s - (x + (q + 1)), by omega⟩
  have e : (x + (q + 1) + d) * (x + (q + 1) + d) = 4 * (s * s) := by rw [hd]; rw [Nat.mul_mul_mul_comm]
  generalize q + 1 = r at *
  have e2 : 4 * (x * r) ≤ (x + r) * (x + r) := by
    rcases Nat.le_total x r with h | h
    · obtain ⟨k, rfl⟩ := Nat.le.dest h
      simp only [Nat.mul_add, Nat.add_mul]
      have := Nat.mul_comm x k
      have := Nat.zero_le (k * k)
      omega
    · obtain ⟨k, rfl⟩ := Nat.le.dest h
      simp only [Nat.mul_add, Nat.add_mul]
      have := Nat.mul_comm r k
      have := Nat.zero_le (k * k)
      omega
  have e3 : (x + r) * (x + r) ≤ (x + r + d) * (x + r + d) := Nat.mul_le_mul (by omega) (by omega)
  omega
theorem nwt_stop {a x : Nat} (hx : isq a ≤ x) (h : x ≤ nwt a x) : x = isq a := by
  obtain ⟨_, h2⟩ := nX a
  rcases Nat.eq_zero_or_pos x with rfl | hp
  · omega
  unfold nwt at h
  rw [Nat.le_div_iff_mul_le (by decide)] at h
  have h3 : x ≤ a / x := by omega
  rw [Nat.le_div_iff_mul_le hp] at h3
  refine Nat.le_antisymm (Nat.le_of_not_lt fun hl => ?_) hx
  have := Nat.mul_le_mul (show isq a + 1 ≤ x from hl) (show isq a + 1 ≤ x from hl)
  omega
attribute [irreducible] isq
end Go.Sx
namespace Go.Sx
open Go Go.RowKit
theorem pB {n : Nat} (h : 0 < n) : 0 < (le n).length := by rw [iu h]; simp
theorem rM {a : Nat} (h : 0 < a) : ky a = a / 256 ^ ((le a).length - 1) := by
  have h0 := pB h
  have h1 := l8 a ((le a).length - 1) (by omega)
  have h2 : a / 256 ^ ((le a).length - 1) < 256 := by
    rw [Nat.div_lt_iff_lt_mul (Nat.pow_pos (by decide)), Nat.mul_comm, ← Nat.pow_succ, show ((le a).length - 1).succ = (le a).length by omega]
    exact lK a
  have e : (le a).reverse.headD 0 = UInt8.ofNat (a / 256 ^ ((le a).length - 1) % 256) := by
    rw [List.headD_eq_head?_getD, List.head?_reverse, List.getLast?_eq_getElem?, h1]; rfl
  unfold ky
  rw [e, Nat.mod_eq_of_lt h2]
  simp; omega
def nbit (a : Nat) : Nat := 8 * ((le a).length - 1) + Lib.bitLen (ky a)
theorem kM {a : Nat} (h : 0 < a) : ky a < 256 ∧ 1 ≤ Lib.bitLen (ky a) ∧ Lib.bitLen (ky a) ≤ 8 ∧ ky a < 2 ^ Lib.bitLen (ky a) := by
  have h2 : ky a < 256 := by unfold ky; exact ((le a).reverse.headD 0).toNat_lt
  have h3 : 0 < ky a := by
    rw [rM h]; exact Nat.div_pos (jI h) (Nat.pow_pos (by decide))
  obtain ⟨b1, b2, b3⟩ := Lib.bitLenAux_bounds 64 (ky a) (by omega) (by omega)
  change 1 ≤ Lib.bitLen (ky a) at b1
  change 2 ^ (Lib.bitLen (ky a) - 1) ≤ ky a at b2
  change ky a < 2 ^ Lib.bitLen (ky a) at b3
  refine ⟨h2, b1, ?_, b3⟩
  refine Nat.le_of_not_lt fun hh => ?_
  have : 2 ^ 8 ≤ 2 ^ (Lib.bitLen (ky a) - 1) := Nat.pow_le_pow_right (by decide) (by omega)
  omega
theorem nbit_lt {a : Nat} (h : 0 < a) : a < 2 ^ nbit a := by
  obtain ⟨_, _, _, h4⟩ := kM h
  have h5 := rM h
  have h6 : (0 : Nat) < 256 ^ ((le a).length - 1) := Nat.pow_pos (by decide)
  unfold nbit
  rw [Nat.pow_add, show (2 : Nat) ^ (8 * ((le a).length - 1)) = 256 ^ ((le a).length - 1) by rw [Nat.pow_mul]]
  have : a < 256 ^ ((le a).length - 1) * (ky a + 1) := by
    rw [h5, Nat.mul_comm]
    have := Nat.div_add_mod a (256 ^ ((le a).length - 1)); have := Nat.mod_lt a h6; rw [Nat.add_mul, Nat.one_mul, Nat.mul_comm]; omega
  exact Nat.lt_of_lt_of_le this (Nat.mul_le_mul_left _ h4)
def rexp (a : Nat) : Nat := (nbit a + 1) / 2
theorem qW {a : Nat} (h : 0 < a) : isq a ≤ 2 ^ rexp a := by
  refine Nat.le_of_lt (isq_lt ?_)
  rw [← Nat.pow_add]
  refine Nat.lt_of_lt_of_le (nbit_lt h) (Nat.pow_le_pow_right (by decide) ?_)
  unfold rexp; omega
theorem mW (n : Nat) (h : 0 < n) : ∀ c, le (256 ^ c * n) = List.replicate c 0 ++ le n
  | 0 => by simp
  | c + 1 => by
    have h1 : 256 ^ (c + 1) * n = 256 * (256 ^ c * n) := by rw [Nat.pow_succ, Nat.mul_comm (256 ^ c) 256, Nat.mul_assoc]
    have h2 : 0 < 256 ^ c * n := Nat.mul_pos (Nat.pow_pos (by decide)) h
    rw [h1, iu (by omega), Nat.mul_mod_right, Nat.mul_div_cancel_left _ (by decide), mW n h c]
    rfl
theorem r7 : ∀ c, Lib.repeatL [(0 : UInt8)] c = List.replicate c 0
  | 0 => rfl
  | c + 1 => by rw [Lib.repeatL, r7 c]; rfl
theorem bs_pow (m : Nat) : bs (2 ^ m) = bs (2 ^ (m % 8)) ++ ⟨(Lib.repeatL (ByteArray.data ⟨#[0]⟩).toList (m / 8)).toArray⟩ := by
  have e : 2 ^ m = 256 ^ (m / 8) * 2 ^ (m % 8) := by
    rw [show (256 : Nat) = 2 ^ 8 from rfl, ← Nat.pow_mul, ← Nat.pow_add]; congr 1; omega
  show (⟨(le (2 ^ m)).reverse.toArray⟩ : ByteArray) = _
  rw [e, mW _ (Nat.pow_pos (by decide)), show (ByteArray.data ⟨#[0]⟩).toList = [0] from rfl, r7]
  simp only [bs, ByteArray.mk_append_mk, List.reverse_append, List.reverse_replicate]
theorem le_pow (m : Nat) : (le (2 ^ m)).length = m / 8 + 1 := by
  have e : 2 ^ m = 256 ^ (m / 8) * 2 ^ (m % 8) := by
    rw [show (256 : Nat) = 2 ^ 8 from rfl, ← Nat.pow_mul, ← Nat.pow_add]; congr 1; omega
  rw [e, mW _ (Nat.pow_pos (by decide)), List.length_append, List.length_replicate]
  congr 1
  have h8 : 2 ^ (m % 8) < 256 ^ 1 := by
    have : 2 ^ (m % 8) ≤ 2 ^ 7 := Nat.pow_le_pow_right (by decide) (by omega)
    omega
  have := (bR 1 _).2 h8
  have := pB (Nat.pow_pos (n := m % 8) (show 0 < 2 by decide))
  omega
theorem bs_one {x : Nat} (h0 : 0 < x) (h : x < 256) : (⟨[UInt8.ofNat x].toArray⟩ : ByteArray) = bs x := by
  show _ = (⟨(le x).reverse.toArray⟩ : ByteArray)
  rw [iu h0, Nat.mod_eq_of_lt h, Nat.div_eq_of_lt h]; rfl
section
variable {P : Program} {w0 : World} {F : List (Nat × Value)}
theorem r_catS {t tt : TypeId} {x y : Operand} {a b c : ByteArray} (hx : ev F x = some (.string a)) (hy : ev F y = some (.string b)) (hm : a.size + b.size ≤ 9223372036854775807) (hc : a ++ b = c) : Rd P w0 F [] (.binOp .add t x y tt) (.string c) := by
  subst hc
  refine ch fun o a_ w ho ha => ?_
  have h1 := run_string_add_sum (P := P) w a b hm
  simp [execOp, ho, ha x _ hx, ha y _ hy, eqGuard_add, binOp_string_add, h1]
end
end Go.Sx
namespace Go.Sx
open Go Go.RowKit Go.Proofs
set_option maxRecDepth 100000
set_option maxHeartbeats 40000000
attribute [local irreducible] Code.wp wpList Rd Step ObS Ent
attribute [local irreducible] ao aM ak ar aA bD
def bJ (a : Nat) : Nat := isq a
def zs (c : Nat) : ByteArray := ⟨(Lib.repeatL (ByteArray.data ⟨#[0]⟩).toList c).toArray⟩
theorem rC (w0 : World) : Calls Tryz.prog 306 #[(.string ⟨#[0]⟩), (.int .i64 ((0 : Nat) : Int))] w0 (cq w0 (.string (zs 0)) True) := by
 refine enter (N := 125) (args := [(.string ⟨#[0]⟩), (.int .i64 0)]) Tryz.func306 rfl rfl ?_; intro ac h
 refine gz h <| (W) ?_; clear h ac; intro ac wo h
 refine c_ifT h rfl ?_ rfl
 refine gz h <| (W) ?_; clear h ac wo; intro ac wo h
 exact (rt h) (h.retP rfl trivial)
theorem iS (a : Nat) (za : SzB 30 a) (hrep : ∀ w0, Calls Tryz.prog 306 #[(.string ⟨#[0]⟩), (.int .i64 ((rexp a / 8 : Nat) : Int))] w0 (cq w0 (.string (zs (rexp a / 8))) True)) (w0 : World)  : Calls Tryz.prog 286 #[(.string (bs a))] w0 (cq w0 (.string (bs (bJ a))) (SzB 29 (bJ a))) := by
  refine enter (N := 50) (args := [(.string (bs a))]) Tryz.func286 rfl rfl ?_; intro ac h
  haveI : On := ⟨trivial⟩
  refine gz h <| (ai) ?_ ?_ <;> clear h ac <;> intro ac wo h hc1
  ·
    have hd1 := of_decide_eq_true hc1
    have hd : bJ a = 0 := by rw [hd1]; unfold bJ isq; rfl
    refine gz h <| (W) ?_; clear h ac wo; intro ac wo h
    exact (rt h) (h.retP (by rw [hd] <;> rfl) (by rw [hd]; exact (bZ 0 (by decide) og)))
  ·
    have h0 : 0 < a := by have := of_decide_eq_false hc1; omega
    have hll := pB h0
    have hlz : (le a).length ≤ 65536 := by unfold SzB at za; omega
    obtain ⟨t1, t2, t3, _⟩ := kM h0
    have hn : nbit a = 8 * ((le a).length - 1) + Lib.bitLen (ky a) := rfl
    have hm : rexp a = (nbit a + 1) / 2 := rfl
    have hn3 : nbit a ≤ 524296 := by omega
    refine gz h <| (xo (hs := by exact jd uu9 rfl)) <| (xo (hs := by exact e7 rfl rfl (r := (((le a).length - 1 : Nat) : Int)) (by rw [dE, IntKind.wrap_i64]; omega))) <| (xo (hs := by exact jZ rfl rfl (r := ((8 * ((le a).length - 1) : Nat) : Int)) (by rw [IntKind.wrap_i64]; omega))) <| (xo (hs := by exact qi uu9 rfl rfl (by omega))) <| (xk (Len8_ct (ky a) og)) <| (xo (hs := by exact nF rfl rfl (r := ((rexp a : Nat) : Int)) (by decide) (by rw [hm, hn, Int.tdiv_eq_ediv_of_nonneg (by omega), IntKind.wrap_i64]; omega))) <| (W) ?_; clear h ac wo; intro ac wo h
    obtain ⟨m, hme⟩ : ∃ m, rexp a = m := ⟨_, rfl⟩
    have hm2 : m ≤ 262144 := by omega
    rw [hme] at h hrep
    replace h : St w0 50 [(0, .string (bs a)), (3, iN m)] [] ac wo := h.re []
    have hpw : 2 ^ (m % 8) < 256 := by
      have : 2 ^ (m % 8) ≤ 2 ^ 7 := Nat.pow_le_pow_right (by decide) (by omega)
      omega
    have hp0 : 0 < 2 ^ (m % 8) := Nat.pow_pos (by decide)
    obtain ⟨u, hu, hub⟩ : ∃ u : UInt8, u.toNat = 2 ^ (m % 8) ∧ (⟨[u].toArray⟩ : ByteArray) = bs (2 ^ (m % 8)) := ⟨UInt8.ofNat (2 ^ (m % 8)), by rw [UInt8.toNat_ofNat']; omega, bs_one hp0 hpw⟩
    replace h := h.emps 1
    refine eV mixed [dv _, dv (.int .i64 ((m % 8 : Nat) : Int)), dv (.int .u8 ((u.toNat : Nat) : Int)), ⟨.nd (.one 3 fun v => NN v 1), [0]⟩, dw (.string ⟨[u].toArray⟩) [0], dv _, dv (.int .i64 ((m / 8 : Nat) : Int)), dv (.string (zs (m / 8))), dv (.string (bs (2 ^ m))), dv (.string (bs (2 ^ m)))]
      [⟨.emp, [(3, .one 3 fun v => .row (α := UInt8) 5 v [u])]⟩] h rfl (by kernel_rfl)
      ⟨oA obA, oA fun _ => ba (qZ rfl rfl (r := ((m % 8 : Nat) : Int)) (by decide) (by rw [Int.tmod_eq_emod_of_nonneg (by omega)]; rfl)), oA fun _ => ba (nE rfl rfl (r := ((u.toNat : Nat) : Int)) (by omega) (by show ((m % 8 : Nat) : Int) ≤ 8; omega) (by
          rw [Int.toNat_natCast, Int.one_mul, hu]
          have e9 : ((2 : Int) ^ (m % 8)) = ((2 ^ (m % 8) : Nat) : Int) := by push_cast; rfl
          rw [e9]
          generalize 2 ^ (m % 8) = q at *
          rw [IntKind.wrap_u8]; omega)),
        fun _ _ => lW (ψ := fun v => NN v 1) (B := fun v => [.row (α := UInt8) 5 v [u]]) [.emp] rfl (fun v _ => by simp only [cp, bp] <;> rfl) (fun v hv => by simpa [DF.one, bp] using hv) (iz (cY (α := UInt8) (xs := [.tmp 24]) (vs := [(.int .u8 ((u.toNat : Nat) : Int))]) [u] slt335 rfl rfl rfl (by decide))),
        fun ξ _ => fY [.row (α := UInt8) 5 (ξ 3) [u]] rfl rfl (r_str nn335 nn5 nn9 rfl), oA obA, oA fun _ => ba (nF rfl rfl (r := ((m / 8 : Nat) : Int)) (by decide) (by rw [Int.tdiv_eq_ediv_of_nonneg (by omega), IntKind.wrap_i64]; omega)), oA fun _ => hH (gI Tryz.call306 rfl hrep), oA fun _ => ba (r_catS rfl rfl (by have e8 := Lib.repeatL_length [(0 : UInt8)] (m / 8); show [u].toArray.size + (Lib.repeatL [(0 : UInt8)] (m / 8)).toArray.size ≤ _; rw [List.size_toArray, List.size_toArray, e8]; simp; omega) (by rw [hub]; exact (bs_pow m).symm)), oA obA, trivial⟩ ?_
    clear h ac wo; intro ξ ac wo hφ h
    replace h : St w0 50 [(0, .string (bs a)), (4, .string (bs (2 ^ m)))] [] ac wo := (h.pick [] (by decide)).sub ⟨rfl, rfl, trivial⟩
    clear hφ ξ
    have hst : isq a ≤ 2 ^ m := by rw [← hme]; exact qW h0
    have zst : SzB 29 (2 ^ m) := by unfold SzB; rw [le_pow]; omega
    have hs0 := isq_pos h0
    refine gz h <| (W) ?_; clear h ac wo; intro ac wo h
    refine wp_loop_ghost (fun n_ a_ w_ => ∃ (x : Nat), (x < n_) ∧ (isq a ≤ x) ∧ (SzB 29 x) ∧ St w0 50 [(0, (.string (bs a))), (4, (.string (bs x)))] [] a_ w_) (2 ^ m + 1) ⟨2 ^ m, by omega, hst, zst, h.rs⟩ ?_
    clear h ac wo; rintro n1 ac wo ⟨x, hm1, hx, zx, h⟩
    obtain ⟨m1, rfl⟩ : ∃ m, n1 = m + 1 := ⟨n1 - 1, by omega⟩
    have c2 := fH a x 29 og (SzB_le za og) zx (by omega)
    have s2 := am (c2 w0)
    have c3 := fb x ((bc a x).1) 28 og zx s2.1
    have s3 := am (c3 w0)
    have c4 := fH (cr x ((bc a x).1)) 2 28 og s3 (bZ 2 (by decide) og) og
    have e4 : (bc (cr x ((bc a x).1)) 2).1 = nwt a x := rfl
    rw [e4] at c4
    refine gz h <| (xk c2) <| (xk c3) <| (xk c4) <| (xk (dg (nwt a x) x)) <| (ai) ?_ ?_ <;> clear h ac wo <;> intro ac wo h hc2
    ·
      have hle := oL hc2
      have hd : bJ a = x := (nwt_stop hx hle).symm
      refine gz h <| (W) ?_; clear h ac wo; intro ac wo h
      exact (rt h) (h.retP (by rw [hd] <;> rfl) (by rw [hd]; exact zx))
    ·
      have hle := oJ hc2
      have hlt : nwt a x < x := by
        refine Nat.lt_of_le_of_ne hle fun e => ?_
        rw [e] at hc2
        have : aY x x = 0 := by rw [pM, if_neg (Nat.lt_irrefl _), if_neg (Nat.lt_irrefl _)]
        rw [this] at hc2; cases hc2
      refine gz h <| (W) ?_; clear h ac wo; intro ac wo h
      exact aL ⟨m1, by omega, nwt a x, by omega, nwt_ge (by omega), eR zx hle, h.re []⟩
attribute [irreducible] bJ
theorem rexp4 {a : Nat} (h : a < 4) : rexp a / 8 = 0 := by
  have : a = 0 ∨ a = 1 ∨ a = 2 ∨ a = 3 := by omega
  rcases this with rfl | rfl | rfl | rfl <;> decide +kernel
theorem root4_ct (a : Nat) (ha : a < 4) (za : SzB 30 a) (w0 : World) : Calls Tryz.prog 286 #[(.string (bs a))] w0 (cq w0 (.string (bs (bJ a))) (SzB 29 (bJ a))) :=
  iS a za (by rw [rexp4 ha]; exact rC) w0
end Go.Sx
namespace Go.Sx
open Go
def rsw {α : Type} : Result α → World
  | .ok _ w => w
  | .halt _ w => w
theorem iA {α : Type} {p : Program} : ∀ (s : Sem α) (w : World), w.drawn ≤ (rsw (s.run p w)).drawn
  | .pure b, w => Nat.le_refl _
  | .load m ad k, w => by
    unfold Sem.run
    split
    · exact iA _ _
    · split
      · exact iA _ _
      · exact Nat.le_refl _
  | .store m ad v k, w => by
    have key : ∀ v' : Value, w.drawn ≤ (rsw (match w.cell? ad with
        | some _ => if w.frozen? ad then (Result.halt (.unsupported (.unsafePointer "a write to bytes that a string shares")) w : Result α) else k.run p (w.setCell ad v')
        | none => match w.farStore p ad v' (m == .atomic) with
          | .ok (w, _) => k.run p w
          | .error h => .halt h w)).drawn := fun v' => by
      split
      · split
        · exact Nat.le_refl _
        · exact iA k (w.setCell ad v')
      · split
        · rename_i w2 l hf
          exact Nat.le_trans (Nat.le_of_eq (gG hf).symm) (iA k w2)
        · exact Nat.le_refl _
    cases v <;> first | exact key _ | exact Nat.le_refl w.drawn
  | .new o k, w => by
    unfold Sem.run
    exact iA (k w.heap.size) { w with heap := w.heap.push o }
  | .shape r k, w => by
    unfold Sem.run
    exact iA _ _
  | .freeze ad n k, w => by
    unfold Sem.run
    have h1 := iA (p := p) k (w.freeze ad n)
    have h2 : (w.freeze ad n).drawn = w.drawn := by unfold World.freeze; split <;> rfl
    omega
  | .frozen ad k, w => by
    unfold Sem.run
    exact iA _ _
  | .getObj r k, w => by
    unfold Sem.run
    split
    · exact Nat.le_refl _
    · exact iA _ _
    · exact Nat.le_refl _
  | .setObj r o k, w => by
    unfold Sem.run
    split
    · exact Nat.le_refl _
    · exact iA k { w with heap := w.heap.setIfInBounds r o }
    · exact Nat.le_refl _
  | .choose q k, w => by
    unfold Sem.run
    split
    · exact iA _ _
    · exact Nat.le_trans (Nat.le_succ _) (iA (k _) { w with drawn := w.drawn + 1 })
  | .sys c k, w => by
    unfold Sem.run
    exact Nat.le_trans (kN w c) (iA _ _)
  | .program k, w => by
    unfold Sem.run
    exact iA _ _
  | .mark m k, w => by
    unfold Sem.run
    exact iA _ _
  | .halt hl, w => Nat.le_refl _
theorem eH {α : Type} {p : Program} : ∀ (s : Sem α) (w : World) (es : Array Event), w.drawn ≤ (rsw (s.runT p w es).1).drawn
  | .pure b, w, es => Nat.le_refl _
  | .load m ad k, w, es => by
    unfold Sem.runT
    split
    · exact eH _ _ _
    · split
      · exact eH _ _ _
      · exact Nat.le_refl _
  | .store m ad v k, w, es => by
    have key : ∀ v' : Value, w.drawn ≤ (rsw ((match w.cell? ad with
        | some _ => if w.frozen? ad then ((Result.halt (.unsupported (.unsafePointer "a write to bytes that a string shares")) w : Result α), es) else k.runT p (w.setCell ad v') (es.push ⟨.cell ad, true, m == .atomic⟩)
        | none => match w.farStore p ad v' (m == .atomic) with
          | .ok (w, touched) => k.runT p w (es ++ touched.toArray.map (⟨.cell ·, true, m == .atomic⟩))
          | .error h => (.halt h w, es) : Result α × Array Event)).1).drawn := fun v' => by
      split
      · split
        · exact Nat.le_refl _
        · exact eH k (w.setCell ad v') _
      · split
        · rename_i w2 l hf
          exact Nat.le_trans (Nat.le_of_eq (gG hf).symm) (eH k w2 _)
        · exact Nat.le_refl _
    cases v <;> first | exact key _ | exact Nat.le_refl w.drawn
  | .new o k, w, es => by
    unfold Sem.runT
    exact eH (k w.heap.size) { w with heap := w.heap.push o } es
  | .shape r k, w, es => by
    unfold Sem.runT
    exact eH _ _ _
  | .freeze ad n k, w, es => by
    unfold Sem.runT
    have h1 := eH (p := p) k (w.freeze ad n) es
    have h2 : (w.freeze ad n).drawn = w.drawn := by unfold World.freeze; split <;> rfl
    omega
  | .frozen ad k, w, es => by
    unfold Sem.runT
    exact eH _ _ _
  | .getObj r k, w, es => by
    unfold Sem.runT
    split
    · exact Nat.le_refl _
    · exact eH _ _ _
    · exact Nat.le_refl _
  | .setObj r o k, w, es => by
    unfold Sem.runT
    split
    · exact Nat.le_refl _
    · exact eH k { w with heap := w.heap.setIfInBounds r o } _
    · exact Nat.le_refl _
  | .choose q k, w, es => by
    unfold Sem.runT
    split
    · exact eH _ _ _
    · exact Nat.le_trans (Nat.le_succ _) (eH (k _) { w with drawn := w.drawn + 1 } _)
  | .sys c k, w, es => by
    unfold Sem.runT
    exact Nat.le_trans (kN w c) (eH _ _ _)
  | .program k, w, es => by
    unfold Sem.runT
    exact eH _ _ _
  | .mark m k, w, es => by
    unfold Sem.runT
    exact eH _ _ _
  | .halt hl, w, es => Nat.le_refl _
theorem gJ {α : Type} {p : Program} {s : Sem α} {w w' : World} {a : α} (h : s.run p w = .ok a w') : w.drawn ≤ w'.drawn := by have := iA (p := p) s w; rw [h] at this; exact this
theorem run_h {α : Type} {p : Program} {s : Sem α} {w w' : World} {a : Halt} (h : s.run p w = .halt a w') : w.drawn ≤ w'.drawn := by have := iA (p := p) s w; rw [h] at this; exact this
def GG (d : Nat) : GStep → Prop
  | .go _ w _ | .comm _ _ _ _ w _ | .spawn _ _ w _ | .count _ w _ | .timer _ _ w _ | .alone _ _ w _ | .newcoro _ _ _ w _ | .coroswitch _ _ _ w _ | .collect _ w _ | .watch _ w _ => d ≤ w.drawn
  | .ended .. => True
theorem GG.after {d : Nat} {es : Array Event} {s : GStep} (h : GG d s) : GG d (s.after es) := by cases s <;> exact h
def SG (d : Nat) : Stepped → Prop
  | .next m => d ≤ m.world.drawn
  | .ended .. => True
def MG (d : Nat) : Move → Prop
  | .goroutine m _ => d ≤ m.world.drawn
  | .machine s _ => SG d s
theorem runT_k {α : Type} {p : Program} {s : Sem α} {w w' : World} {a : α} {es es' : Array Event} (h : s.runT p w es = (.ok a w', es')) : w.drawn ≤ w'.drawn := by have := eH (p := p) s w es; rw [h] at this; exact this
theorem runT_h {α : Type} {p : Program} {s : Sem α} {w w' : World} {a : Halt} {es es' : Array Event} (h : s.runT p w es = (.halt a w', es')) : w.drawn ≤ w'.drawn := by have := eH (p := p) s w es; rw [h] at this; exact this
theorem kR {α : Type} {p : Program} {s : Sem α} {w w' : World} {a : α} {es : Array Event} (h : (s.runT p w es).1 = .ok a w') : w.drawn ≤ w'.drawn := by have := eH (p := p) s w es; rw [h] at this; exact this
theorem runT_h1 {α : Type} {p : Program} {s : Sem α} {w w' : World} {a : Halt} {es : Array Event} (h : (s.runT p w es).1 = .halt a w') : w.drawn ≤ w'.drawn := by have := eH (p := p) s w es; rw [h] at this; exact this
section
variable {d : Nat} {w : World}
theorem tb (w : World) (fd : Nat) (t : ByteArray) (o : Outcome) : GG d (endWith w fd t o) := by
  unfold endWith
  simp only
  repeat' split
  all_goals trivial
theorem ka {fr : Frame} {m : String} (h : d ≤ w.drawn) : GG d (endThrow fr m w) := h
theorem jO {p : Program} {fr : Frame} {v : Value} (h : d ≤ w.drawn) : GG d (endPrinting p fr v w) := by
  unfold endPrinting
  simp only
  split
  · exact h
  · trivial
theorem mh {p : Program} {fr : Frame} {cs : List Frame} {dy : Option Dying} {m : String} (h : d ≤ w.drawn) : GG d (endFatal p fr cs dy m w) := by
  unfold endFatal
  simp only
  split
  · rename_i hq; exact Nat.le_trans h (gJ hq)
  · trivial
  · trivial
theorem rF {p : Program} {fr : Frame} {dy : Dying} {f : Fatal} (h : d ≤ w.drawn) : GG d (writeOn p fr dy f w) := by
  unfold writeOn
  simp only
  split
  · trivial
  · split
    · rename_i hq; exact Nat.le_trans h (runT_k hq)
    · rename_i hq; exact Nat.le_trans h (runT_h hq)
    · trivial
    · trivial
theorem die_d {p : Program} {fr : Frame} {dy : Dying} (h : d ≤ w.drawn) : GG d (die p fr dy w) := by
  unfold die
  simp only
  split
  · exact rF h
  · split
    · split
      · exact h
      · exact tb _ _ _ _
    · split
      · exact h
      · split
        · rename_i hq; exact Nat.le_trans h (gJ hq)
        · trivial
      · refine GG.after ?_
        rename_i t recv name _
        have k := eH (p := p) (invoke (.fn (.method name) #[]) #[.iface t recv]) w #[]
        generalize ((invoke (.fn (.method name) #[]) #[.iface t recv]).runT p w #[]).1 = r at k ⊢
        have k2 := Nat.le_trans h k
        split <;> first | exact k2 | exact jO k2 | trivial
      · trivial
theorem gZ {p : Program} {main : Bool} {fr : Frame} {cs : List Frame} {dy : Option Dying} {v : Value} (h : d ≤ w.drawn) : GG d (doReturn p main fr cs dy v w) := by
  unfold doReturn
  split
  · split <;> exact h
  · split
    · exact h
    · trivial
    · split
      · exact h
      · split
        · exact h
        · trivial
theorem gif {c : Prop} [Decidable c] {a b : GStep} (ha : c → GG d a) (hb : ¬ c → GG d b) : GG d (if c then a else b) := by
  by_cases h : c
  · rw [if_pos h]; exact ha h
  · rw [if_neg h]; exact hb h
theorem lN {p : Program} {fr : Frame} {cs : List Frame} {dy : Option Dying} {df : Deferred} (h : d ≤ w.drawn) : GG d (callDeferred p fr cs dy df w) := by
  unfold callDeferred
  refine gif (fun _ => trivial) (fun _ => ?_)
  · have k := eH (p := p) (invoke df.target df.args) w #[]
    generalize (invoke df.target df.args).runT p w #[] = x at k ⊢
    obtain ⟨r, es⟩ := x
    have k2 := Nat.le_trans h k
    refine GG.after ?_
    split <;> first | exact k2 | trivial | exact mh k2 | exact ka k2 | (split <;> first | exact k2 | trivial)
theorem unwind_d {p : Program} {main : Bool} {fr : Frame} {cs : List Frame} {dy : Option Dying} (h : d ≤ w.drawn) : GG d (unwind p main fr cs dy w) := by
  unfold unwind
  split
  · rename_i block _ ds _
    have k := eH (p := p) (Instr.takeDeferred block) w #[]
    generalize (Instr.takeDeferred block).runT p w #[] = x at k ⊢
    obtain ⟨r, es⟩ := x
    have k2 := Nat.le_trans h k
    refine GG.after ?_
    split <;> first | exact k2 | trivial
  · exact lN h
  · split
    · trivial
    · split
      · trivial
      · split
        · exact h
        · split
          · split
            · exact h
            · split
              · rename_i hq; exact Nat.le_trans h (gJ hq)
              · trivial
              · trivial
          · split
            · exact jO h
            · trivial
    · split
      · exact gZ h
      · rename_i fn _
        have k := eH (p := p) (results fn fr.tmps) w #[]
        generalize (results fn fr.tmps).runT p w #[] = x at k ⊢
        obtain ⟨r, es⟩ := x
        have k2 := Nat.le_trans h k
        refine GG.after ?_
        split
        · exact gZ k2
        · trivial
        · trivial
theorem early_d {p : Program} {fr : Frame} {cs : List Frame} {dy : Option Dying} {g : Nat} (h : d ≤ w.drawn) : GG d (early p fr cs dy g w) := by
  have nY : ∀ (o : Outcome) (w : World), d ≤ w.drawn → GG d (match w.heap[g]? with
    | some (.pending c elem) => GStep.go { frame := fr, callers := cs, status := .running, dying := dy } { w with heap := w.heap.setIfInBounds g (.cells c elem) }
    | _ => .ended o w) := fun o w h => by
    split
    · exact h
    · trivial
  unfold early
  simp only
  split
  · exact nY _ w h
  · split
    · trivial
    · split
      · exact nY _ w h
      · split
        · exact nY _ w h
        · split
          · trivial
          · exact h
          · trivial
          · exact nY _ w h
          · split
            · exact h
            · split
              · exact nY _ w h
              · split
                · rename_i hq; exact nY _ _ (Nat.le_trans h (gJ hq))
                · rename_i hq; exact Nat.le_trans h (gJ hq)
                · trivial
theorem nm {p : Program} {fr : Frame} {cs : List Frame} {dy : Option Dying} {s : Sem Next} {l : Bool} (h : d ≤ w.drawn) : GG d (stepG.apply p l fr cs dy s w) := by
  unfold stepG.apply
  simp only
  have k : w.drawn ≤ (rsw (if l = true then s.runT p w #[] else (s.run p w, #[])).1).drawn := by
    split
    · exact eH _ _ _
    · exact iA _ _
  generalize (if l = true then s.runT p w #[] else (s.run p w, #[])) = x at k ⊢
  obtain ⟨r, es⟩ := x
  have k2 := Nat.le_trans h k
  refine GG.after ?_
  clear k h
  split
  all_goals (rename_i hq; rw [hq] at k2)
  all_goals try first | exact k2 | exact trivial | exact mh k2 | exact ka k2 | exact early_d k2
  all_goals try (split <;> exact k2)
  exact gif (fun _ => ka k2) (fun _ => k2)
theorem oper_d {p : Program} {fr : Frame} {cs : List Frame} {dy : Option Dying} {l : Bool} (h : d ≤ w.drawn) : GG d (stepG.oper p l fr cs dy w) := by
  unfold stepG.oper
  split
  · trivial
  · split <;> exact nm h
theorem exec_d {p : Program} {main : Bool} {fr : Frame} {cs : List Frame} {dy : Option Dying} {l : Bool} (h : d ≤ w.drawn) : GG d (stepG.exec p main l fr cs dy w) := by
  unfold stepG.exec
  simp only
  split
  all_goals try first | exact h | exact trivial | exact nm h | exact oper_d h
  all_goals try (split <;> first | exact h | exact trivial)
  all_goals try (refine GG.after ?_; split <;> first | exact trivial | (rename_i hq; first | exact nm (Nat.le_trans h (kR hq)) | exact Nat.le_trans h (kR hq) | exact Nat.le_trans h (runT_h1 hq)))
  all_goals try (split; (exact gif (fun _ => h) (fun _ => trivial)); (refine GG.after ?_; split; (rename_i hq; exact gZ (Nat.le_trans h (kR hq))); exact trivial))
  all_goals try (rename_i row args tail _; cases Extern.next row with
    | none => exact trivial
    | some e => exact nm h)
  · rename_i id k _
    cases exitTo id k with
    | some k => exact h
    | none =>
      dsimp only [Option.elim]
      split
      · exact gif (fun _ => h) (fun _ => trivial)
      · refine GG.after ?_
        split
        · rename_i hq; exact gZ (Nat.le_trans h (kR hq))
        · trivial
  · rename_i id k _
    cases gotoIn id k with
    | some k => exact h
    | none =>
      dsimp only [Option.elim]
      split
      · exact gif (fun _ => h) (fun _ => trivial)
      · refine GG.after ?_
        split
        · rename_i hq; exact gZ (Nat.le_trans h (kR hq))
        · trivial
  · refine gif (fun _ => h) (fun _ => ?_)
    split
    · rename_i hq; exact Nat.le_trans h (gJ hq)
    · trivial
  · exact gif (fun _ => oper_d h) (fun _ => h)
theorem stepG_d {p : Program} {main : Bool} {g : Goroutine} {l : Bool} (h : d ≤ w.drawn) : GG d (stepG p main g w l) := by
  unfold stepG
  split
  split
  · exact die_d h
  · exact exec_d h
  · exact unwind_d h
theorem sif {c : Prop} [Decidable c] {a b : Stepped} (ha : c → SG d a) (hb : ¬ c → SG d b) : SG d (if c then a else b) := by
  by_cases h : c
  · rw [if_pos h]; exact ha h
  · rw [if_neg h]; exact hb h
theorem look_d {p : Program} {gs : Array Goroutine} {rest : Rest} (h : d ≤ w.drawn) : SG d (Go.look p gs rest w) := by
  unfold Go.look
  split
  · simp only
    refine sif (fun _ => trivial) (fun _ => ?_)
    split
    · trivial
    · split
      · rename_i hq
        have k := gJ hq
        exact Nat.le_trans h k
      · trivial
      · trivial
  · trivial
theorem serve_d {p : Program} {m : Machine} {k : Nat} (h : d ≤ m.world.drawn) : SG d (serve p m k) := by
  unfold serve
  split
  · trivial
  · exact h
  · simp only
    split
    · trivial
    · exact h
theorem na {p : Program} {rest : Rest} {gs : Array Goroutine} {i : Nat} {g : Goroutine} {cases : Array CommCase} {bl : Bool} {sh : CommShape} (h : d ≤ w.drawn) : SG d (communicate p rest gs i g cases bl sh w).1 := by
  unfold communicate
  simp only
  split
  · trivial
  · split
    · split
      · split
        · rename_i hq
          unfold waitingAt at hq
          split at hq
          · split at hq
            · cases hq; exact h
            · cases hq
          · cases hq; exact h
        · trivial
      · exact h
    · split
      · trivial
      · rename_i hq
        have k := Nat.le_trans h (gJ hq)
        repeat' split
        all_goals try first | exact k | exact trivial
        all_goals try (rename_i hq2; have k2 := gJ hq2; exact Nat.le_trans k k2)
        all_goals try (rename_i hq2 _; have k2 := gJ hq2; exact Nat.le_trans k k2)
        all_goals try (rename_i hq2; have k2 := run_h hq2; exact Nat.le_trans k k2)
        all_goals try (rename_i hq2 _; have k2 := run_h hq2; exact Nat.le_trans k k2)
        all_goals try (rename_i hq2 _ _; have k2 := gJ hq2; exact Nat.le_trans k k2)
        all_goals (rename_i hq2 _ _ _; have k2 := gJ hq2; exact Nat.le_trans k k2)
theorem qf {m : Machine} {k : Nat} {t : Timer} {a b : Nat} (h : d ≤ m.world.drawn) : d ≤ (retime m k t a b).2.world.drawn := by
  unfold retime
  simp only
  split
  · unfold drain
    split <;> exact h
  · exact h
theorem sE {m : Machine} {var : Addr} {f : Nat → Timer → Value × Machine} (hf : ∀ k t, d ≤ (f k t).2.world.drawn) {v : Value} {m' : Machine} (e : timerOp.named m var f = .ok (v, m')) : d ≤ m'.world.drawn := by
  unfold timerOp.named at e
  split at e
  · rename_i k _
    have := hf k (m.rest.timers.getD k default)
    cases hx : f k (m.rest.timers.getD k default)
    rw [hx] at e this
    cases e
    exact this
  · cases e
theorem rO {m : Machine} {op : TimerOp} (h : d ≤ m.world.drawn) {v : Value} {m' : Machine} (e : timerOp m op = .ok (v, m')) : d ≤ m'.world.drawn := by
  unfold timerOp at e
  split at e
  · split at e
    · cases e; exact h
    · split at e
      · split at e
        · cases e
        · cases e; exact h
      · cases e
  · exact sE (fun k t => qf h) e
  · split at e
    · rename_i var when period _ m2 hm
      refine sE (fun k t => qf ?_) e
      unfold timerOp.opened at hm
      split at hm
      · split at hm
        · cases hm; exact h
        · cases hm
      · cases hm; exact h
    · cases e
  · cases e; exact h
theorem runT_dm {p : Program} {m : Machine} {i : Nat} {l : Bool} (h : d ≤ m.world.drawn) : SG d (Go.runT p m i l).1 := by
  unfold Go.runT
  simp only
  have k := stepG_d (p := p) (main := i == 0) (g := (m.gs.swapAt! i { (default : Goroutine) with status := .finished }).1) (w := m.world) (l := l) h
  split <;> (rename_i hq; rw [hq] at k)
  · trivial
  · exact na k
  · exact k
  · exact k
  · exact sif (fun _ => trivial) (fun _ => k)
  · exact k
  · exact look_d k
  · exact k
  · exact k
  · split
    · exact k
    · split
      · rename_i hq2
        unfold endThrow dieOf at hq2
        cases hq2; exact k
      · trivial
    · trivial
  · split
    · rename_i hq2; have k2 := rO (by exact k) hq2; exact k2
    · split
      · rename_i hq2
        unfold endThrow dieOf at hq2
        cases hq2; exact k
      · trivial
    · trivial
    · trivial
theorem pX {p : Program} {m : Machine} (h : d ≤ m.world.drawn) : MG d (askOn p m) := by
  unfold askOn
  simp only
  split
  · trivial
  · rename_i hq
    have k := Nat.le_trans h (gJ hq)
    have pick : ∀ (m2 : Machine) (rs : List Nat), d ≤ m2.world.drawn → MG d (match (choose (.sched rs.length)).run p m2.world with
      | .halt _ w => .machine (.ended (.stuck "sched" "") w)
      | .ok k world =>
        if rs.length ≤ 1 then .goroutine { m2 with world } (rs.getD k 0) else
        match (choose (Question.extern "sched.slice" 65536)).run p world with
        | .halt _ w => .machine (.ended (.stuck "sched.slice" "") w)
        | .ok n world => .goroutine { m2 with world, rest := { m2.rest with slice := if n = 0 then none else some (rs.getD k 0, n) } } (rs.getD k 0)) := fun m2 rs h2 => by
      split
      · trivial
      · rename_i hq2
        have k2 := Nat.le_trans h2 (gJ hq2)
        split
        · exact k2
        · split
          · trivial
          · rename_i hq3
            have k3 := Nat.le_trans k2 (gJ hq3)
            exact k3
    split
    · exact serve_d k
    · split
      · split
        · exact k
        · split
          · exact k
          · split <;> trivial
      · split
        · exact pick { m with world := _ } _ k
        · split
          · trivial
          · rename_i hq2
            have k2 := Nat.le_trans k (gJ hq2)
            exact pick { m with world := _ } _ k2
          · rename_i hq2
            have k2 := Nat.le_trans k (gJ hq2)
            exact k2
          · rename_i hq2
            have k2 := Nat.le_trans k (gJ hq2)
            exact pick _ _ k2
theorem ask_d {p : Program} {m : Machine} (h : d ≤ m.world.drawn) : MG d (Go.ask p m) := by
  unfold Go.ask
  split
  · split
    · trivial
    · rename_i hq
      have k := Nat.le_trans h (gJ hq)
      have k2 := look_d (p := p) (gs := m.gs) (rest := m.rest) k
      split
      · rename_i hq2; rw [hq2] at k2; exact pX k2
      · exact k2
    · rename_i hq
      have k := Nat.le_trans h (gJ hq)
      exact pX k
  · exact pX h
theorem move_d {p : Program} {m : Machine} (h : d ≤ m.world.drawn) : MG d (move p m) := by
  unfold move
  split
  · split
    · exact h
    · trivial
  · split
    · split
      · exact h
      · exact ask_d h
    · exact ask_d h
theorem step_d {p : Program} {m : Machine} (h : d ≤ m.world.drawn) : SG d (step p m) := by
  unfold step stepT
  have k := move_d (p := p) h
  split <;> (rename_i hq; rw [hq] at k)
  · exact runT_dm k
  · exact k
theorem runN_d {p : Program} : ∀ (n : Nat) {m m' : Machine}, runN p n m = .next m' → m.world.drawn ≤ m'.world.drawn
  | 0, m, m', h => by
    unfold runN at h
    cases h; exact Nat.le_refl _
  | n + 1, m, m', h => by
    unfold runN at h
    have k := step_d (p := p) (m := m) (Nat.le_refl _)
    split at h
    · rename_i m1 hq
      rw [hq] at k
      exact Nat.le_trans k (runN_d n h)
    · rw [h] at k
      exact k
end
theorem Calls.drawn {P : Program} {f : FuncId} {args : Array Value} {w : World} {R : Ending → World → Prop} (h : Calls P f args w R) (hR : ∀ e w', R e w' → ∃ v, e = .returned v) :
    Calls P f args w fun e w' => R e w' ∧ w.drawn ≤ w'.drawn := by
  intro cs
  obtain ⟨e, w', fr, h1, h2, h3⟩ := h cs
  obtain ⟨v, rfl⟩ := hR e w' h1
  refine ⟨.returned v, w', fr, ⟨h1, ?_⟩, h2, h3⟩
  obtain ⟨n, hn⟩ : Steps P _ _ := h2
  exact runN_d n hn
end Go.Sx
namespace Go.Proofs
open Go.Shelf
def Tryz.lays105_ren : Go.Shelf.Ren := ⟨fun | 105 => 306 | 212 => 322 | 99 => 323 | 165 => 324 | 166 => 325 | 170 => 326 | 169 => 327 | 263 => 335 | 264 => 260 | 206 => 336 | 240 => 337 | 241 => 338 | 276 => 343 | 277 => 344 | n => n, fun | 9 => 9 | 3 => 3 | 4 => 4 | 20 => 20 | 0 => 0 | 46 => 276 | 109 => 399 | 5 => 5 | 72 => 404 | 76 => 408 | 51 => 341 | 146 => 418 | 53 => 254 | 148 => 336 | 70 => 402 | 37 => 335 | 75 => 407 | 127 => 420 | 164 => 422 | 80 => 342 | n => n, fun | n => n⟩
theorem Tryz.lays105 : Go.Proofs.Lays.n105 Tryz.prog Tryz.lays105_ren := {
  mixed := by kernel_rfl
  f99 := Tryz.func323.trans (congrArg some (by kernel_rfl))
  f105 := Tryz.func306.trans (congrArg some (by kernel_rfl))
  f165 := Tryz.func324.trans (congrArg some (by kernel_rfl))
  f166 := Tryz.func325.trans (congrArg some (by kernel_rfl))
  f169 := Tryz.func327.trans (congrArg some (by kernel_rfl))
  f170 := Tryz.func326.trans (congrArg some (by kernel_rfl))
  f206 := Tryz.func336.trans (congrArg some (by kernel_rfl))
  f212 := Tryz.func322.trans (congrArg some (by kernel_rfl))
  f240 := Tryz.func337.trans (congrArg some (by kernel_rfl))
  f241 := Tryz.func338.trans (congrArg some (by kernel_rfl))
  f263 := Tryz.func335.trans (congrArg some (by kernel_rfl))
  f264 := Tryz.func260.trans (congrArg some (by kernel_rfl))
  f276 := Tryz.func343.trans (congrArg some (by kernel_rfl))
  f277 := Tryz.func344.trans (congrArg some (by kernel_rfl))
  t0 := Tryz.underlying0
  a0 := Tryz.isAgg0
  z0 := Tryz.sizeOf0
  v0 := Tryz.zeroValue0
  t3 := Tryz.underlying3
  a3 := aa3
  z3 := zz3
  v3 := vv3
  t4 := Tryz.underlying4
  a4 := Tryz.isAgg4
  z4 := Tryz.sizeOf4
  v4 := Tryz.zeroValue4
  t5 := nn5
  a5 := aa5
  z5 := zz5
  v5 := vv5
  t9 := nn9
  a9 := aa9
  z9 := zz9
  v9 := vv9
  t20 := Tryz.underlying20
  a20 := Tryz.isAgg20
  z20 := Tryz.sizeOf20
  v20 := Tryz.zeroValue20
  t37 := nn335
  a37 := Tryz.isAgg335
  z37 := Tryz.sizeOf335
  v37 := Tryz.zeroValue335
  t46 := Tryz.underlying276
  a46 := Tryz.isAgg276
  z46 := Tryz.sizeOf276
  v46 := Tryz.zeroValue276
  t51 := Tryz.underlying341
  a51 := Tryz.isAgg341
  z51 := Tryz.sizeOf341
  v51 := Tryz.zeroValue341
  t53 := Tryz.underlying254
  a53 := Tryz.isAgg254
  z53 := Tryz.sizeOf254
  v53 := Tryz.zeroValue254
  t70 := Tryz.underlying402
  a70 := Tryz.isAgg402
  z70 := Tryz.sizeOf402
  v70 := Tryz.zeroValue402
  t72 := Tryz.underlying404
  a72 := Tryz.isAgg404
  z72 := Tryz.sizeOf404
  v72 := Tryz.zeroValue404
  t75 := Tryz.underlying407
  a75 := Tryz.isAgg407
  z75 := Tryz.sizeOf407
  v75 := Tryz.zeroValue407
  t76 := Tryz.underlying408
  a76 := Tryz.isAgg408
  z76 := Tryz.sizeOf408
  v76 := Tryz.zeroValue408
  t109 := Tryz.underlying399
  a109 := Tryz.isAgg399
  z109 := Tryz.sizeOf399
  v109 := Tryz.zeroValue399
  t127 := Tryz.underlying420
  a127 := Tryz.isAgg420
  z127 := Tryz.sizeOf420
  v127 := Tryz.zeroValue420
  t146 := Tryz.underlying418
  a146 := Tryz.isAgg418
  z146 := Tryz.sizeOf418
  v146 := Tryz.zeroValue418
  t148 := Tryz.underlying336
  a148 := Tryz.isAgg336
  z148 := Tryz.sizeOf336
  v148 := Tryz.zeroValue336
  t164 := Tryz.underlying422
  a164 := Tryz.isAgg422
  z164 := Tryz.sizeOf422
  v164 := Tryz.zeroValue422 }
theorem Tryz.Builder_Extra_105 : Builder.Extra Tryz.prog Tryz.lays105_ren := {
  sizeBuilder := by kernel_rfl
  liesBuilder := by kernel_rfl
  t5 := nn5
  a5 := aa5
  z5 := zz5
  v5 := vv5
  infoByte := by kernel_rfl
  cellsByte := by kernel_rfl
  sizeByte := by kernel_rfl
  neB5 := by decide }
end Go.Proofs
namespace Go.Sx
open Go Go.RowKit Go.Proofs
theorem tV (s : ByteArray) (c : Nat) (hc : c ≤ 9223372036854775807) (hl : s.size * c ≤ 140737488355328) (w0 : World) : Calls Tryz.prog 306 #[.string s, .int .i64 ((c : Nat) : Int)] w0 (cq w0 (.string ⟨(Lib.repeatL s.data.toList c).toArray⟩) True) :=
  (Calls.drawn (Any.strings_Repeat Tryz.lays105 Tryz.Builder_Extra_105 s c w0 hc hl) fun e w' h => ⟨_, h.1⟩).mono fun e w' h => ⟨h.1.1, trivial, ⟨h.1.2.os, h.1.2.tape, h.1.2.output, h.1.2.size, h.1.2.block, h.2⟩⟩
theorem Zeros_ct (c : Nat) (hc : c ≤ 140737488355328) (w0 : World) : Calls Tryz.prog 306 #[.string ⟨#[0]⟩, .int .i64 ((c : Nat) : Int)] w0 (cq w0 (.string ⟨(Lib.repeatL (ByteArray.data ⟨#[0]⟩).toList c).toArray⟩) True) :=
  tV ⟨#[0]⟩ c (by omega) (by show 1 * c ≤ _; omega) w0
end Go.Sx
namespace Go.Sx
open Go Go.RowKit Go.Proofs
theorem root_ct (a : Nat) (za : SzB 30 a) (w0 : World) : Calls Tryz.prog 286 #[(.string (bs a))] w0 (cq w0 (.string (bs (bJ a))) (SzB 29 (bJ a))) :=
  iS a za (fun w0 => Zeros_ct (rexp a / 8) (by
    have hlz : (le a).length ≤ 65536 := by unfold SzB at za; omega
    have hn : nbit a = 8 * ((le a).length - 1) + Lib.bitLen (ky a) := rfl
    have hm : rexp a = (nbit a + 1) / 2 := rfl
    rcases Nat.eq_zero_or_pos a with rfl | h0
    · exact Nat.le_trans (Nat.div_le_self _ _) (by decide +kernel)
    · obtain ⟨t1, t2, t3, _⟩ := kM h0
      omega) w0) w0
end Go.Sx
namespace Go.Sx
def RtR (_ : GR) : Prop := True
def RtV (i : Iv) : Prop := RtR i.lo ∧ RtR i.hi
end Go.Sx
