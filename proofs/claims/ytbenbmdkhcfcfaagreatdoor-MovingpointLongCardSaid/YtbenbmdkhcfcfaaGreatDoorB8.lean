/- A part of the proof of movingpointLong. -/
import Derived.Test.YtbenbmdkhcfcfaaGreatDoorA4
import Derived.Test.YtbenbmdkhcfcfaaGreatDoorB6
import Derived.Laws.Concat
import Derived.Test.YtbenbmdkhcfcfaaGreatDoorExtL
import Derived.Test.YtbenbmdkhcfcfaaGreatDoorA9
import Derived.Lib.Repeat
import Derived.Test.YtbenbmdkhcfcfaaGreatDoorB7
import Derived.Test.YtbenbmdkhcfcfaaGreatDoorProg
import Derived.Test.YtbenbmdkhcfcfaaGreatDoorB5
set_option linter.unusedVariables false
set_option linter.unusedSimpArgs false
open Go.Proofs.Tryz renaming underlying5 → nn5, underlying9 → nn9, runUnderlying9 → uu9
namespace Go.Sx
section
variable {α : Type} [Inhabited α] (c : α → α → Int)
def r7 (a : Nat) (j : Nat) (d : List α) : Nx (Nat × List α) (List α) :=
  bif ((decide (((j : Nat) : Int) > ((a : Nat) : Int))) && (decide ((c (gt d j) (gt d (j - 1))) < 0))) then
    .go ((j - 1), ((d.set j (gt d (j - 1))).set (j - 1) (gt d j)))
  else
    .out (j, d)
def isB1 (a b i : Nat) (d : List α) : Nx (Nat × List α) (List α) :=
  bif (decide (((i : Nat) : Int) < ((b : Nat) : Int))) then
    fin (bC (fun s => r7 c a s.1 s.2) (i + 1) (i, d)) (fun s => .go ((i + 1), s.2)) (fun r => .ret r)
  else
    .out (i, d)
def jt (d : List α) (a b : Nat) : List α :=
  fin (bC (fun s => isB1 c a b s.1 s.2) ((b + 1 - (a + 1)) + 1) ((a + 1), d)) (fun s => s.2) (fun r => r)
def ig (x : α) : List α → List α
  | [] => [x]
  | y :: q => if c x y < 0 then y :: ig x q else x :: y :: q
def oV : List α → List α → List α
  | r, [] => r
  | r, x :: s => oV (ig c x r) s
variable {c}
theorem gt_at {p : List α} {x : α} {s : List α} {j : Nat} (h : j = p.length) : gt (p ++ x :: s) j = x := by
  subst h; simp [gt, List.getD]
omit [Inhabited α] in
theorem iU (x : α) : ∀ r : List α, (ig c x r).length = r.length + 1
  | [] => rfl
  | y :: q => by
    unfold ig
    split
    · simp [iU x q]
    · rfl
theorem oW (x : α) : ∀ (r s : List α) (k : Nat), r.length < k → ∃ j, bC (fun s => r7 c 0 s.1 s.2) k (r.length, r.reverse ++ x :: s) = .inl (j, (ig c x r).reverse ++ s)
  | [], s, k + 1, _ => ⟨0, by simp [bC, r7, ig]⟩
  | y :: q, s, k + 1, hk => by
    have e1 : gt ((y :: q).reverse ++ x :: s) ((y :: q).length) = x := gt_at (by simp)
    have e2 : gt ((y :: q).reverse ++ x :: s) ((y :: q).length - 1) = y := by
      rw [List.reverse_cons, List.append_assoc, List.singleton_append]
      exact gt_at (by simp)
    have hp : (((y :: q).length : Nat) : Int) > ((0 : Nat) : Int) := by simp
    by_cases h : c x y < 0
    · obtain ⟨j, hj⟩ := oW x q (y :: s) k (by simp at hk; omega)
      refine ⟨j, ?_⟩
      have e3 : ((((y :: q).reverse ++ x :: s).set (y :: q).length y).set ((y :: q).length - 1) x) = q.reverse ++ x :: y :: s := by
        simp only [List.reverse_cons, List.append_assoc, List.length_cons, Nat.add_sub_cancel, List.singleton_append]
        rw [List.set_append_right _ _ (by simp), List.set_append_right _ _ (by simp)]
        simp
      have e4 : r7 c 0 (y :: q).length ((y :: q).reverse ++ x :: s) = .go (q.length, q.reverse ++ x :: y :: s) := by
        unfold r7
        rw [e1, e2, e3, decide_eq_true hp, decide_eq_true h]
        rfl
      unfold bC
      simp only [e4]
      have ei : ig c x (y :: q) = y :: ig c x q := if_pos h
      rw [hj, ei, List.reverse_cons, List.append_assoc]
      rfl
    · refine ⟨(y :: q).length, ?_⟩
      have e4 : r7 c 0 (y :: q).length ((y :: q).reverse ++ x :: s) = .out ((y :: q).length, (y :: q).reverse ++ x :: s) := by
        unfold r7
        rw [e1, e2, decide_eq_false h, Bool.and_false]
        rfl
      unfold bC
      simp only [e4]
      have ei : ig c x (y :: q) = x :: y :: q := if_neg h
      rw [ei, List.reverse_cons (a := x), List.append_assoc]
      rfl
theorem oZ (b : Nat) : ∀ (s r : List α) (k : Nat), r.length + s.length = b → s.length < k →
    bC (fun s => isB1 c 0 b s.1 s.2) k (r.length, r.reverse ++ s) = .inl (b, (oV c r s).reverse)
  | [], r, k + 1, hb, _ => by
    have : ¬ ((r.length : Nat) : Int) < ((b : Nat) : Int) := by simp at hb; omega
    unfold bC isB1
    simp only [decide_eq_false this, cond_false]
    simp at hb
    rw [hb, List.append_nil]
    rfl
  | x :: s, r, k + 1, hb, hk => by
    have hlt : ((r.length : Nat) : Int) < ((b : Nat) : Int) := by simp at hb; omega
    obtain ⟨j, hj⟩ := oW (c := c) x r s (r.length + 1) (by omega)
    have ih := oZ b s (ig c x r) k (by rw [iU]; simp at hb; omega) (by simp at hk; omega)
    rw [iU] at ih
    unfold bC
    have e : isB1 c 0 b r.length (r.reverse ++ x :: s) = .go (r.length + 1, (ig c x r).reverse ++ s) := by
      unfold isB1
      rw [decide_eq_true hlt, cond_true, hj]
      rfl
    simp only [e]
    rw [ih]
    rfl
theorem qR (d : List α) : jt c d 0 d.length = (oV c [] d).reverse := by
  unfold jt
  cases d with
  | nil => rfl
  | cons x s =>
    have := oZ (c := c) (x :: s).length s [x] ((x :: s).length + 1 - (0 + 1) + 1) (by simp; omega) (by simp only [List.length_cons]; omega)
    rw [show (0 + 1, x :: s) = ([x].length, [x].reverse ++ s) from rfl, iw this]
    rfl
omit [Inhabited α] in
theorem iT (x : α) : ∀ r : List α, (ig c x r).Perm (x :: r)
  | [] => .refl _
  | y :: q => by
    unfold ig
    split
    · exact ((iT x q).cons y).trans (.swap x y q)
    · exact .refl _
omit [Inhabited α] in
theorem mE : ∀ (s r : List α), (oV c r s).Perm (r ++ s)
  | [], r => by simp [oV]
  | x :: s, r => by
    unfold oV
    refine (mE s _).trans ?_
    refine ((iT x r).append_right s).trans ?_
    exact List.perm_middle.symm
theorem kI (d : List α) : (jt c d 0 d.length).Perm d := by
  rw [qR]
  exact (List.reverse_perm _).trans (by simpa using mE d [])
variable {S : α → Prop}
omit [Inhabited α] in
theorem kn (hA : ∀ x y, S x → S y → c x y < 0 → ¬ c y x < 0) (hT : ∀ x y z, S x → S y → S z → ¬ c x y < 0 → ¬ c y z < 0 → ¬ c x z < 0) {x : α} (hx : S x) :
    ∀ {r : List α}, (∀ y ∈ r, S y) → r.Pairwise (fun a b => ¬ c a b < 0) → (ig c x r).Pairwise (fun a b => ¬ c a b < 0)
  | [], _, _ => List.pairwise_singleton _ _
  | y :: q, hS, hp => by
    have hy := hS y (List.mem_cons_self ..)
    have hq : ∀ z ∈ q, S z := fun z hz => hS z (List.mem_cons_of_mem _ hz)
    rw [List.pairwise_cons] at hp
    unfold ig
    split
    case isTrue h =>
      rw [List.pairwise_cons]
      refine ⟨fun z hz => ?_, kn hA hT hx hq hp.2⟩
      rcases List.mem_cons.1 ((iT x q).mem_iff.1 hz) with rfl | hz
      · exact hA _ _ hx hy h
      · exact hp.1 z hz
    case isFalse h =>
      rw [List.pairwise_cons]
      refine ⟨fun z hz => ?_, List.pairwise_cons.2 hp⟩
      rcases List.mem_cons.1 hz with rfl | hz
      · exact h
      · exact hT _ _ _ hx hy (hq z hz) h (hp.1 z hz)
omit [Inhabited α] in
theorem kY (hA : ∀ x y, S x → S y → c x y < 0 → ¬ c y x < 0) (hT : ∀ x y z, S x → S y → S z → ¬ c x y < 0 → ¬ c y z < 0 → ¬ c x z < 0) :
    ∀ {s r : List α}, (∀ y ∈ r, S y) → (∀ y ∈ s, S y) → r.Pairwise (fun a b => ¬ c a b < 0) → (oV c r s).Pairwise (fun a b => ¬ c a b < 0)
  | [], _, _, _, hp => hp
  | x :: s, r, hr, hs, hp => by
    unfold oV
    refine kY hA hT (fun y hy => ?_) (fun y hy => hs y (List.mem_cons_of_mem _ hy)) (kn hA hT (hs x (List.mem_cons_self ..)) hr hp)
    rcases List.mem_cons.1 ((iT x r).mem_iff.1 hy) with rfl | hy
    · exact hs _ (List.mem_cons_self ..)
    · exact hr y hy
theorem oU (hA : ∀ x y, S x → S y → c x y < 0 → ¬ c y x < 0) (hT : ∀ x y z, S x → S y → S z → ¬ c x y < 0 → ¬ c y z < 0 → ¬ c x z < 0) {d : List α} (hd : ∀ y ∈ d, S y) :
    (jt c d 0 d.length).Pairwise (fun a b => ¬ c b a < 0) := by
  rw [qR, List.pairwise_reverse]
  exact kY hA hT (fun _ h => by cases h) hd .nil
end
end Go.Sx
namespace Go.Sx
def Pos (f : Nat → Rat) : Prop := ∃ d : Rat, 0 < d ∧ ∃ N, ∀ k, N ≤ k → d ≤ f k
def Nul (f : Nat → Rat) : Prop := ∀ e : Rat, 0 < e → ∃ N, ∀ k, N ≤ k → -e ≤ f k ∧ f k ≤ e
def Bdd (f : Nat → Rat) : Prop := ∃ b : Rat, 0 < b ∧ ∀ k, -b ≤ f k ∧ f k ≤ b
theorem mul_pos {a b : Rat} (h : 0 < a) (hc : 0 < b) : 0 < a * b := Rat.mul_pos h hc
theorem gg {a b : Rat} (h : 0 ≤ a) (hc : 0 ≤ b) : 0 ≤ a * b := Rat.mul_nonneg h hc
theorem div_pos {a b : Rat} (h : 0 < a) (hc : 0 < b) : 0 < a / b := by
  rw [Rat.div_def]; exact mul_pos h (Rat.inv_pos.2 hc)
theorem Pos.add {f g : Nat → Rat} : Pos f → Pos g → Pos (fun k => f k + g k) := by
  rintro ⟨d, hd, N, h⟩ ⟨e, he, M, h'⟩
  refine ⟨d + e, by grind, N + M, fun k hk => ?_⟩
  have := h k (by omega); have := h' k (by omega); grind
theorem Pos.nul {f g : Nat → Rat} : Pos f → Nul g → Pos (fun k => f k + g k) := by
  rintro ⟨d, hd, N, h⟩ hg
  obtain ⟨M, h'⟩ := hg (d / 2) (by grind)
  refine ⟨d / 2, by grind, N + M, fun k hk => ?_⟩
  have := h k (by omega); have := h' k (by omega); grind
theorem Nul.add {f g : Nat → Rat} (hf : Nul f) (hg : Nul g) : Nul (fun k => f k + g k) := fun e he => by
  obtain ⟨N, h⟩ := hf (e / 2) (by grind)
  obtain ⟨M, h'⟩ := hg (e / 2) (by grind)
  refine ⟨N + M, fun k hk => ?_⟩
  have := h k (by omega); have := h' k (by omega); grind
theorem Nul.neg {f : Nat → Rat} (hf : Nul f) : Nul (fun k => - f k) := fun e he => by
  obtain ⟨N, h⟩ := hf e he
  refine ⟨N, fun k hk => ?_⟩
  have := h k hk; grind
theorem Nul.zero : Nul (fun _ => 0) := fun e he => ⟨0, fun _ _ => by grind⟩
theorem Nul.congr {f g : Nat → Rat} (h : Nul f) (e : ∀ k, f k = g k) : Nul g := by
  rwa [← funext e]
theorem Pos.congr {f g : Nat → Rat} (h : Pos f) (e : ∀ k, f k = g k) : Pos g := by
  rwa [← funext e]
theorem Bdd.const (c : Rat) : Bdd (fun _ => c) := ⟨(if 0 ≤ c then c else -c) + 1, by split <;> grind, fun _ => by split <;> grind⟩
theorem Bdd.add {f g : Nat → Rat} : Bdd f → Bdd g → Bdd (fun k => f k + g k) := by
  rintro ⟨b, hb, h⟩ ⟨c, hc, h'⟩
  exact ⟨b + c, by grind, fun k => by have := h k; have := h' k; grind⟩
theorem Bdd.neg {f : Nat → Rat} : Bdd f → Bdd (fun k => - f k) := by
  rintro ⟨b, hb, h⟩
  exact ⟨b, hb, fun k => by have := h k; grind⟩
theorem uq {x y b c : Rat} (h1 : -b ≤ x) (h2 : x ≤ b) (h3 : -c ≤ y) (h4 : y ≤ c) : -(b * c) ≤ x * y ∧ x * y ≤ b * c := by
  have p1 := gg (show 0 ≤ b - x by grind) (show 0 ≤ c + y by grind)
  have p2 := gg (show 0 ≤ b + x by grind) (show 0 ≤ c - y by grind)
  have p3 := gg (show 0 ≤ b - x by grind) (show 0 ≤ c - y by grind)
  have p4 := gg (show 0 ≤ b + x by grind) (show 0 ≤ c + y by grind)
  constructor <;> grind
theorem Bdd.mul {f g : Nat → Rat} : Bdd f → Bdd g → Bdd (fun k => f k * g k) := by
  rintro ⟨b, hb, h⟩ ⟨c, hc, h'⟩
  exact ⟨b * c, mul_pos hb hc, fun k => uq (h k).1 (h k).2 (h' k).1 (h' k).2⟩
theorem Nul.mul {f g : Nat → Rat} (hf : Nul f) : Bdd g → Nul (fun k => f k * g k) := by
  rintro ⟨b, hb, h⟩ e he
  obtain ⟨N, h'⟩ := hf (e / b) (div_pos he hb)
  refine ⟨N, fun k hk => ?_⟩
  have := uq (h' k hk).1 (h' k hk).2 (h k).1 (h k).2
  rwa [show e / b * b = e by grind] at this
theorem Pos.mul {f g : Nat → Rat} : Pos f → Pos g → Pos (fun k => f k * g k) := by
  rintro ⟨d, hd, N, h⟩ ⟨e, he, M, h'⟩
  refine ⟨d * e, mul_pos hd he, N + M, fun k hk => ?_⟩
  have h1 := h k (by omega); have h2 := h' k (by omega)
  have p1 := gg (show 0 ≤ f k - d by grind) (show 0 ≤ g k by grind)
  have p2 := gg (show 0 ≤ d by grind) (show 0 ≤ g k - e by grind)
  grind
theorem Pos.div {f g : Nat → Rat} (hb : Bdd g) : Pos (fun k => f k * g k) → Pos g → Pos f := by
  obtain ⟨b, hb, h⟩ := hb
  rintro ⟨d, hd, N, h1⟩ ⟨e, he, M, h2⟩
  refine ⟨d / b, div_pos hd hb, N + M, fun k hk => ?_⟩
  have h3 := h1 k (by omega); have h4 := h2 k (by omega); have h5 := h k
  refine Rat.not_lt.1 fun hn => ?_
  have p1 := mul_pos (show 0 < d / b - f k by grind) (show 0 < g k by grind)
  have p2 := gg (show 0 ≤ d / b by have := div_pos hd hb; grind) (show 0 ≤ b - g k by grind)
  have p3 : d / b * b = d := by grind
  simp only at h3
  grind
theorem Nul.div {f g : Nat → Rat} : Nul (fun k => f k * g k) → Pos g → Nul f := by
  rintro hn ⟨e, he, M, h2⟩ c hc
  obtain ⟨N, h⟩ := hn (c * e) (mul_pos hc he)
  refine ⟨N + M, fun k hk => ?_⟩
  have h3 := h k (by omega); have h4 := h2 k (by omega)
  simp only at h3
  constructor
  · refine Rat.not_lt.1 fun hx => ?_
    have p1 := mul_pos (show 0 < -c - f k by grind) (show 0 < g k by grind)
    have p2 := gg (show 0 ≤ c by grind) (show 0 ≤ g k - e by grind)
    grind
  · refine Rat.not_lt.1 fun hx => ?_
    have p1 := mul_pos (show 0 < f k - c by grind) (show 0 < g k by grind)
    have p2 := gg (show 0 ≤ c by grind) (show 0 ≤ g k - e by grind)
    grind
theorem Pos.const {c : Rat} (h : 0 < c) : Pos (fun _ => c) := ⟨c, h, 0, fun _ _ => by grind⟩
theorem Pos.not_nul {f : Nat → Rat} : Pos f → ¬ Nul f := by
  rintro ⟨d, hd, N, h⟩ hn
  obtain ⟨M, h'⟩ := hn (d / 2) (by grind)
  have := h (N + M) (by omega); have := h' (N + M) (by omega); grind
theorem Pos.asymm {f : Nat → Rat} : Pos f → ¬ Pos (fun k => - f k) := by
  rintro ⟨d, hd, N, h⟩ ⟨e, he, M, h'⟩
  have := h (N + M) (by omega); have := h' (N + M) (by omega); grind
def Sg (f : Nat → Rat) (s : Int) : Prop := (s = 1 ∧ Pos f) ∨ (s = -1 ∧ Pos (fun k => - f k)) ∨ (s = 0 ∧ Nul f)
theorem Sg.congr {f g : Nat → Rat} {s : Int} (h : Sg f s) (e : ∀ k, f k = g k) : Sg g s := by
  rwa [← funext e]
theorem Sg.uniq {f : Nat → Rat} {s t : Int} : Sg f s → Sg f t → s = t := by
  have hnn : ∀ {f : Nat → Rat}, Pos (fun k => - f k) → ¬ Nul f := fun h hn => h.not_nul hn.neg
  rintro (⟨rfl, h⟩ | ⟨rfl, h⟩ | ⟨rfl, h⟩) (⟨rfl, h'⟩ | ⟨rfl, h'⟩ | ⟨rfl, h'⟩) <;> first | rfl | exfalso
  · exact h.asymm h'
  · exact h.not_nul h'
  · exact h'.asymm h
  · exact hnn h h'
  · exact h'.not_nul h
  · exact hnn h' h
theorem Sg.neg {f : Nat → Rat} {s : Int} : Sg f s → Sg (fun k => - f k) (-s) := by
  rintro (⟨rfl, h⟩ | ⟨rfl, h⟩ | ⟨rfl, h⟩)
  · exact .inr (.inl ⟨rfl, h.congr fun k => by grind⟩)
  · exact .inl ⟨rfl, h⟩
  · exact .inr (.inr ⟨rfl, h.neg⟩)
theorem Sg.nul {f g : Nat → Rat} {s : Int} (hg : Nul g) : Sg f s → Sg (fun k => f k + g k) s := by
  rintro (⟨rfl, h⟩ | ⟨rfl, h⟩ | ⟨rfl, h⟩)
  · exact .inl ⟨rfl, h.nul hg⟩
  · exact .inr (.inl ⟨rfl, (h.nul hg.neg).congr fun k => by grind⟩)
  · exact .inr (.inr ⟨rfl, h.add hg⟩)
theorem Sg.mul {f g : Nat → Rat} {s t : Int} (bf : Bdd f) (bg : Bdd g) : Sg f s → Sg g t → Sg (fun k => f k * g k) (s * t) := by
  rintro (⟨rfl, h⟩ | ⟨rfl, h⟩ | ⟨rfl, h⟩) (⟨rfl, h'⟩ | ⟨rfl, h'⟩ | ⟨rfl, h'⟩)
  · exact .inl ⟨rfl, h.mul h'⟩
  · exact .inr (.inl ⟨rfl, (h.mul h').congr fun k => by grind⟩)
  · exact .inr (.inr ⟨rfl, (h'.mul bf).congr fun k => by grind⟩)
  · exact .inr (.inl ⟨rfl, (h.mul h').congr fun k => by grind⟩)
  · exact .inl ⟨rfl, (h.mul h').congr fun k => by grind⟩
  · exact .inr (.inr ⟨rfl, (h'.mul bf).congr fun k => by grind⟩)
  · exact .inr (.inr ⟨by omega, h.mul bg⟩)
  · exact .inr (.inr ⟨by omega, h.mul bg⟩)
  · exact .inr (.inr ⟨rfl, h.mul bg⟩)
theorem Sg.div {f g : Nat → Rat} {s t : Int} (bg : Bdd g) (ht : t = 1 ∨ t = -1) : Sg (fun k => f k * g k) s → Sg g t → Sg f (s * t) := by
  rintro hs (⟨rfl, h'⟩ | ⟨rfl, h'⟩ | ⟨rfl, h'⟩)
  · rcases hs with ⟨rfl, h⟩ | ⟨rfl, h⟩ | ⟨rfl, h⟩
    · exact .inl ⟨rfl, h.div bg h'⟩
    · exact .inr (.inl ⟨rfl, Pos.div bg (h.congr fun k => by grind) h'⟩)
    · exact .inr (.inr ⟨rfl, h.div h'⟩)
  · rcases hs with ⟨rfl, h⟩ | ⟨rfl, h⟩ | ⟨rfl, h⟩
    · exact .inr (.inl ⟨rfl, Pos.div bg.neg (h.congr fun k => by grind) h'⟩)
    · exact .inl ⟨rfl, Pos.div bg.neg (h.congr fun k => by grind) h'⟩
    · exact .inr (.inr ⟨rfl, Nul.div (h.neg.congr fun k => by grind) h'⟩)
  · rcases ht with ht | ht <;> cases ht
theorem Sg.add {f g : Nat → Rat} {s : Int} : Sg f s → Sg g s → Sg (fun k => f k + g k) s := by
  rintro (⟨rfl, h⟩ | ⟨rfl, h⟩ | ⟨rfl, h⟩) (⟨e, h'⟩ | ⟨e, h'⟩ | ⟨e, h'⟩) <;> first | cases e; done | skip
  · exact .inl ⟨rfl, h.add h'⟩
  · exact .inr (.inl ⟨rfl, (h.add h').congr fun k => by grind⟩)
  · exact .inr (.inr ⟨rfl, h.add h'⟩)
def rsg (x : Rat) : Int := if x < 0 then -1 else if 0 < x then 1 else 0
theorem Sg.const (c : Rat) : Sg (fun _ => c) (rsg c) := by
  unfold rsg
  split
  · exact .inr (.inl ⟨rfl, Pos.const (by grind)⟩)
  · split
    · exact .inl ⟨rfl, Pos.const (by assumption)⟩
    · exact .inr (.inr ⟨rfl, by rw [show c = 0 by grind]; exact Nul.zero⟩)
theorem arch (x : Rat) : x < ((x.floor + 1).toNat : Rat) := by
  have h1 := Rat.lt_floor_add_one x
  have h2 : ((x.floor + 1 : Int) : Rat) ≤ (((x.floor + 1).toNat : Int) : Rat) := Rat.intCast_le_intCast.2 (by omega)
  rw [Rat.intCast_natCast] at h2
  grind
def jr (r h : Rat) : Nat → Nat
  | 0 => 0
  | n + 1 => if r < (n : Rat) * h * ((n : Rat) * h) then jr r h n else n
theorem jr_ok (r h : Rat) (hr : 0 ≤ r) : ∀ n : Nat, r < (n : Rat) * h * ((n : Rat) * h) → (jr r h n : Rat) * h * ((jr r h n : Rat) * h) ≤ r ∧ r < ((jr r h n : Rat) + 1) * h * (((jr r h n : Rat) + 1) * h)
  | 0, hn => by exfalso; have : ((0 : Nat) : Rat) = 0 := rfl; rw [this] at hn; grind
  | n + 1, hn => by
    unfold jr
    split
    · rename_i hc; exact jr_ok r h hr n hc
    · rename_i hc
      refine ⟨Rat.not_lt.1 hc, ?_⟩
      rw [Rat.natCast_add] at hn
      exact hn
def hr_ (r e : Rat) : Rat := e / (2 * (r + 1) + 1 + e)
def pI (r e : Rat) : Rat := (jr r (hr_ r e) (((r + 1) / hr_ r e).floor + 1).toNat : Rat) * hr_ r e
theorem root_ok (r : Rat) (hr : 0 ≤ r) (e : Rat) (he : 0 < e) : 0 ≤ pI r e ∧ pI r e * pI r e ≤ r ∧ r ≤ pI r e * pI r e + e := by
  unfold pI
  have hh : 0 < hr_ r e := div_pos he (by grind)
  have h1 : hr_ r e * (2 * (r + 1) + 1 + e) = e := by unfold hr_; grind
  generalize hr_ r e = h at hh h1 ⊢
  have hn := arch ((r + 1) / h)
  generalize (((r + 1) / h).floor + 1).toNat = n at hn ⊢
  have h2 : (r + 1) / h * h = r + 1 := by grind
  have h3 : r + 1 < (n : Rat) * h := by
    have := mul_pos (show 0 < (n : Rat) - (r + 1) / h by grind) hh
    grind
  obtain ⟨hj1, hj2⟩ := jr_ok r h hr n (by
    have p := mul_pos (show 0 < (n : Rat) * h - (r + 1) by grind) (show 0 < (n : Rat) * h by grind)
    have p2 := mul_pos (show 0 < r + 1 by grind) (show 0 < (n : Rat) * h - (r + 1) by grind)
    have p3 := gg hr hr
    grind)
  generalize jr r h n = j at hj1 hj2 ⊢
  have hj0 : (0 : Rat) ≤ (j : Rat) := by
    have : ((0 : Nat) : Rat) ≤ (j : Rat) := Rat.natCast_le_natCast.2 (by omega)
    exact this
  refine ⟨gg hj0 (by grind), hj1, ?_⟩
  have p := gg hj0 (show 0 ≤ h by grind)
  rw [show ((j : Rat) + 1) * h = (j : Rat) * h + h by grind] at hj2
  generalize (j : Rat) * h = s at *
  have hs : s ≤ r + 1 := Rat.not_lt.1 fun hc => by
    have p1 := mul_pos (show 0 < s - (r + 1) by grind) (show 0 < s by grind)
    have p2 := mul_pos (show 0 < s - (r + 1) by grind) (show 0 < r + 1 by grind)
    have p3 := gg hr hr
    grind
  have p1 := gg (show 0 ≤ h by grind) (show 0 ≤ (r + 1) - s by grind)
  have p2 := gg (show 0 ≤ h by grind) (show 0 ≤ e by grind)
  have p4 : h ≤ 1 := Rat.not_lt.1 fun hc => by
    have p5 := mul_pos (show 0 < h - 1 by grind) (show 0 < 2 * (r + 1) + 1 + e by grind)
    grind
  have p3 := gg (show 0 ≤ h by grind) (show 0 ≤ 1 - h by grind)
  grind
def rtq (r : Rat) (k : Nat) : Rat := pI r (1 / ((k : Rat) + 1))
theorem ln {r : Rat} (hr : 0 ≤ r) (k : Nat) : 0 ≤ rtq r k ∧ rtq r k * rtq r k ≤ r ∧ r ≤ rtq r k * rtq r k + 1 / ((k : Rat) + 1) := root_ok r hr _ (div_pos (by decide) (by
  have : ((0 : Nat) : Rat) ≤ (k : Rat) := Rat.natCast_le_natCast.2 (by omega)
  have e : ((0 : Nat) : Rat) = 0 := rfl
  grind))
section
variable {r : Rat} (hr : 0 ≤ r)
include hr
theorem kx : Bdd (rtq r) := ⟨r + 1, by grind, fun k => by
  obtain ⟨h0, h1, _⟩ := ln hr k
  refine ⟨by grind, Rat.not_lt.1 fun hc => ?_⟩
  have p1 := mul_pos (show 0 < rtq r k - (r + 1) by grind) (show 0 < rtq r k by grind)
  have p2 := gg hr h0
  grind⟩
theorem n9 : Nul (fun k => rtq r k * rtq r k - r) := fun e he => by
  have hn := arch (1 / e)
  refine ⟨((1 / e).floor + 1).toNat, fun k hk => ?_⟩
  obtain ⟨_, h1, h2⟩ := ln hr k
  have h3 := Rat.natCast_le_natCast.2 hk
  have h4 : 1 / e * e = 1 := by grind
  have h5 := div_pos (show (0 : Rat) < 1 by decide) he
  have h6 : 1 / ((k : Rat) + 1) * ((k : Rat) + 1) = 1 := by grind
  have p1 := mul_pos (show 0 < (k : Rat) + 1 - 1 / e by grind) he
  have h7 : 1 / ((k : Rat) + 1) ≤ e := Rat.not_lt.1 fun hc => by
    have p2 := mul_pos (show 0 < 1 / ((k : Rat) + 1) - e by grind) (show 0 < (k : Rat) + 1 by grind)
    grind
  grind
end
theorem qC (k : Nat) : rtq 0 k = 0 := by
  obtain ⟨h0, h1, _⟩ := ln (Rat.le_refl : (0 : Rat) ≤ 0) k
  refine Classical.byContradiction fun hn => ?_
  have := mul_pos (show 0 < rtq 0 k by grind) (show 0 < rtq 0 k by grind)
  grind
theorem rtq_pos {r : Rat} (hr : 0 < r) : Pos (rtq r) := by
  refine Pos.div (g := rtq r) (kx (by grind)) ?_ ?_
  · exact ((Pos.const hr).nul (n9 (by grind : 0 ≤ r))).congr fun k => by grind
  · obtain ⟨N, h⟩ := n9 (r := r) (by grind) (r / 2) (by grind)
    obtain ⟨b, hb, hB⟩ := kx (r := r) (by grind)
    refine ⟨r / 2 / b, div_pos (by grind) hb, N, fun k hk => Rat.not_lt.1 fun hc => ?_⟩
    have h1 := h k hk; have h2 := ln (r := r) (by grind) k; have h3 := hB k
    have e1 : r / 2 / b * b = r / 2 := by grind
    have p1 := gg h2.1 (show 0 ≤ b - rtq r k by grind)
    have p2 := mul_pos (show 0 < r / 2 / b - rtq r k by grind) hb
    grind
theorem rtq_sg (b : Rat) {r : Rat} (hr : 0 ≤ r) : Sg (fun k => b * rtq r k) (rsg b * rsg r) :=
  Sg.mul (Bdd.const b) (kx hr) (Sg.const b) (by
    by_cases h : 0 < r
    · rw [show rsg r = 1 by unfold rsg; rw [if_neg (by grind), if_pos h]]; exact .inl ⟨rfl, rtq_pos h⟩
    · rw [show r = 0 by grind]; exact .inr (.inr ⟨rfl, Nul.zero.congr fun k => (qC k).symm⟩))
def rcm (x y : Rat) : Int := if x < y then -1 else if y < x then 1 else 0
theorem sQ (x y : Rat) : rcm x y = rsg (x - y) := by
  unfold rcm rsg
  have h1 : x < y ↔ x - y < 0 := by constructor <;> intro h <;> grind
  have h2 : y < x ↔ 0 < x - y := by constructor <;> intro h <;> grind
  simp only [h1, h2]
theorem Sg.cases {f : Nat → Rat} {s : Int} (h : Sg f s) : s = 1 ∨ s = -1 ∨ s = 0 := by
  rcases h with h | h | h; exact .inl h.1; exact .inr (.inl h.1); exact .inr (.inr h.1)
def sgr (m n : Int) (c : Int) : Int := if n = 0 ∨ m = n then m else if m = 0 then n else m * c
theorem sgr_ok {f g : Nat → Rat} {m n c : Int} (bf : Bdd f) (bg : Bdd g) (hf : Sg f m) (hg : Sg g n) (hc : Sg (fun k => f k * f k - g k * g k) c) : Sg (fun k => f k + g k) (sgr m n c) := by
  unfold sgr
  split
  · rename_i h
    rcases h with rfl | rfl
    · rcases hg with ⟨e, _⟩ | ⟨e, _⟩ | ⟨_, h⟩
      · cases e
      · cases e
      · exact hf.nul h
    · exact hf.add hg
  · rename_i h1
    split
    · rename_i h
      subst h
      rcases hf with ⟨e, _⟩ | ⟨e, _⟩ | ⟨_, h⟩
      · cases e
      · cases e
      · exact (hg.nul h).congr fun k => by grind
    · rename_i h2
      have hn : n = -m := by
        rcases hf.cases with h | h | h <;> rcases hg.cases with h' | h' | h' <;> omega
      have hm : m = 1 ∨ m = -1 := by rcases hf.cases with h | h | h <;> omega
      have hs : Sg (fun k => f k + - g k) m := hf.add (by have := hg.neg; rwa [hn, Int.neg_neg] at this)
      have := Sg.div (f := fun k => f k + g k) (s := c) (bf.add bg.neg) hm (hc.congr fun k => by grind) hs
      rwa [Int.mul_comm] at this
def ry (a b r : Rat) : Int := sgr (rsg a) (rsg b * rsg r) (rcm (a * a) (b * b * r))
theorem qD (a b : Rat) {r : Rat} (hr : 0 ≤ r) : Sg (fun k => a + b * rtq r k) (ry a b r) := by
  refine sgr_ok (f := fun _ => a) (g := fun k => b * rtq r k) (Bdd.const a) ((Bdd.const b).mul (kx hr)) (Sg.const a) (rtq_sg b hr) ?_
  rw [sQ]
  exact ((Sg.const (a * a - b * b * r)).nul (((n9 hr).mul (Bdd.const (- (b * b)))))).congr fun k => by grind
def sM (a b r c s : Rat) : Int := sgr (ry a b r) (rsg c * rsg s) (ry (a * a + b * b * r - c * c * s) (2 * a * b) r)
theorem sK (a b c : Rat) {r s : Rat} (hr : 0 ≤ r) (hs : 0 ≤ s) : Sg (fun k => a + b * rtq r k + c * rtq s k) (sM a b r c s) := by
  refine sgr_ok (f := fun k => a + b * rtq r k) (g := fun k => c * rtq s k) ((Bdd.const a).add ((Bdd.const b).mul (kx hr))) ((Bdd.const c).mul (kx hs)) (qD a b hr) (rtq_sg c hs) ?_
  refine ((qD (a * a + b * b * r - c * c * s) (2 * a * b) hr).nul (((n9 hr).mul (Bdd.const (b * b))).add ((n9 hs).mul (Bdd.const (- (c * c)))))).congr fun k => by grind
end Go.Sx
namespace Go.Sx
def fac (x : GR) : Rat := bif x.neg then -1 else 1
def rv (x : GR) (k : Nat) : Rat := ba x.p + fac x * rtq (ba x.r) k
def ROk (x : GR) : Prop := QOk x.p ∧ QOk x.r ∧ ((ba x.r = 0 ∧ x.neg = false) ∨ (0 < ba x.r ∧ ∀ q : Rat, q * q ≠ ba x.r))
theorem ROk.nn {x : GR} (h : ROk x) : 0 ≤ ba x.r := by rcases h.2.2 with h | h <;> grind
theorem ROk.tok {x : GR} (h : ROk x) : TOk x := ⟨h.1, h.2.1⟩
theorem mG (x : GR) : fac x * fac x = 1 := by unfold fac; cases x.neg <;> decide +kernel
theorem pd (x : GR) : QOk (aX x) ∧ ba (aX x) = fac x := by
  unfold aX fac
  cases x.neg
  · exact cM 1
  · exact cM (-1)
theorem bsgr (m n c : Int) : (bif (n == 0 || m == n) then m else bif m == 0 then n else m * c) = sgr m n c := by
  unfold sgr
  by_cases h : n = 0 ∨ m = n
  · rw [if_pos h, show (n == 0 || m == n) = true by simpa using h]; rfl
  · rw [if_neg h, show (n == 0 || m == n) = false by simpa using h]
    by_cases h2 : m = 0
    · rw [if_pos h2, show (m == 0) = true by simpa using h2]; rfl
    · rw [if_neg h2, show (m == 0) = false by simpa using h2]; rfl
theorem sA {a b r : GQ} (ha : QOk a) (hb : QOk b) (hr : QOk r) : dp a b r = ry (ba a) (ba b) (ba r) := by
  unfold dp ry
  rw [bsgr, j5 ha, j5 hb, j5 hr]
  obtain ⟨h1, e1⟩ := fi ha ha
  obtain ⟨h2, e2⟩ := fi hb hb
  obtain ⟨h3, e3⟩ := fi h2 hr
  rw [lQ h1 h3, e1, e3, e2]
  rfl
theorem mM {x y : GR} (hx : TOk x) (hy : TOk y) : ar x y = sM (ba x.p - ba y.p) (fac x) (ba x.r) (- fac y) (ba y.r) := by
  obtain ⟨f1, g1⟩ := pd x
  obtain ⟨f2, g2⟩ := pd y
  obtain ⟨f3, g3⟩ := tu f2
  obtain ⟨s1, t1⟩ := fG hx.1 hy.1
  obtain ⟨m1, n1⟩ := fi s1 s1
  obtain ⟨a1, b1⟩ := im m1 hx.2
  obtain ⟨u1, v1⟩ := fG a1 hy.2
  obtain ⟨k1, l1⟩ := fi s1 f1
  obtain ⟨k0, l0⟩ := cM 2
  obtain ⟨k2, l2⟩ := fi k0 k1
  unfold ar sM
  rw [bsgr, sA s1 f1 hx.2, j5 f3, j5 hy.2, sA u1 k2 hx.2, t1, g1, g3, g2, v1, b1, n1, t1, l2, l0, l1, t1, g1]
  have e1 := mG x
  have e2 := mG y
  rw [show (ba x.p - ba y.p) * (ba x.p - ba y.p) + fac x * fac x * ba x.r - - fac y * - fac y * ba y.r = (ba x.p - ba y.p) * (ba x.p - ba y.p) + ba x.r - ba y.r by grind,
    show 2 * (ba x.p - ba y.p) * fac x = ((2 : Int) : Rat) * ((ba x.p - ba y.p) * fac x) by have : ((2 : Int) : Rat) = 2 := rfl; grind]
  rfl
theorem lS {x y : GR} (hx : ROk x) (hy : ROk y) : Sg (fun k => rv x k - rv y k) (ar x y) := by
  rw [mM hx.tok hy.tok]
  exact (sK _ _ _ hx.nn hy.nn).congr fun k => by unfold rv; grind
theorem gy {x : Rat} (h : rsg x = 0) : x = 0 := by unfold rsg at h; split at h; cases h; split at h; cases h; grind
theorem qG {x y : Rat} (h : rcm x y = 0) : x = y := by rw [sQ] at h; have := gy h; grind
theorem mX {m n c : Int} (h : sgr m n c = 0) : m = 0 ∧ n = 0 ∨ m ≠ 0 ∧ n ≠ 0 ∧ m ≠ n ∧ c = 0 := by
  unfold sgr at h
  split at h
  · rename_i h2; left; omega
  · split at h
    · exfalso; omega
    · rename_i h1 h2
      right
      refine ⟨h2, by omega, by omega, ?_⟩
      rcases Int.mul_eq_zero.1 h with h | h
      · exact absurd h h2
      · exact h
theorem GR.ext3 {x y : GR} (h1 : x.p = y.p) (h2 : x.r = y.r) (h3 : x.neg = y.neg) : x = y := by cases x; cases y; simp_all
theorem sq_div {u a r : Rat} (ha : a ≠ 0) (e : u * u = 4 * a * a * r) : u / (2 * a) * (u / (2 * a)) = r := by
  have h : u / (2 * a) * (2 * a) = u := by grind
  generalize u / (2 * a) = t at h ⊢
  have h2 : (t * t - r) * (4 * (a * a)) = 0 := by grind
  rcases Rat.mul_eq_zero.1 h2 with h | h
  · grind
  · exfalso
    rcases Rat.mul_eq_zero.1 h with h | h
    · exact absurd h (by decide)
    · rcases Rat.mul_eq_zero.1 h with h | h <;> exact ha h
theorem q6 {x y : GR} (hx : ROk x) (hy : ROk y) (h : ar x y = 0) : x = y := by
  rw [mM hx.tok hy.tok] at h
  have fx : fac x ≠ 0 := fun e => by have := mG x; grind
  have fy : fac y ≠ 0 := fun e => by have := mG y; grind
  have sx := mG x
  have sy := mG y
  have ne : ∀ {u : Rat}, u ≠ 0 → rsg u ≠ 0 := fun hu h => hu (gy h)
  rcases mX h with ⟨h1, h2⟩ | ⟨h1, h2, h3, h4⟩
  · 
    have hr : ba y.r = 0 := by
      rcases Int.mul_eq_zero.1 h2 with h | h
      · exact absurd (gy h) (by grind)
      · exact gy h
    rcases mX h1 with ⟨k1, k2⟩ | ⟨k1, k2, k3, k4⟩
    · have hp := gy k1
      have hr2 : ba x.r = 0 := by
        rcases Int.mul_eq_zero.1 k2 with h | h
        · exact absurd (gy h) fx
        · exact gy h
      have nx : x.neg = false := by rcases hx.2.2 with h | h; exact h.2; exfalso; grind
      have ny : y.neg = false := by rcases hy.2.2 with h | h; exact h.2; exfalso; grind
      exact GR.ext3 (dq hx.1 hy.1 (by grind)) (dq hx.2.1 hy.2.1 (by grind)) (by rw [nx, ny])
    · exfalso
      have := qG k4
      rcases hx.2.2 with h | h
      · rw [h.1] at k2; exact k2 (by rw [show rsg 0 = 0 by rfl, Int.mul_zero])
      · exact h.2 _ (by rw [this, sx]; grind)
  · have hyr : 0 < ba y.r := by
      rcases hy.2.2 with h | h
      · rw [h.1] at h2; exact absurd (by rw [show rsg 0 = 0 by rfl, Int.mul_zero]) h2
      · exact h.1
    have nsy : ∀ q : Rat, q * q ≠ ba y.r := by rcases hy.2.2 with h | h; exfalso; grind; exact h.2
    rcases mX h4 with ⟨k1, k2⟩ | ⟨k1, k2, k3, k4⟩
    · have e1 := gy k1
      rcases Int.mul_eq_zero.1 k2 with k | k
      · have e2 := gy k
        have ha : ba x.p - ba y.p = 0 := by
          rcases Rat.mul_eq_zero.1 e2 with h | h
          · rcases Rat.mul_eq_zero.1 h with h | h
            · exact absurd h (by decide)
            · exact h
          · exact absurd h fx
        have hr : ba x.r = ba y.r := by rw [ha] at e1; grind
        refine GR.ext3 (dq hx.1 hy.1 (by grind)) (dq hx.2.1 hy.2.1 hr) ?_
        refine Classical.byContradiction fun hne => ?_
        have e : fac x = - fac y := by unfold fac; cases hx' : x.neg <;> cases hy' : y.neg <;> simp_all
        refine h3 ?_
        rw [ha, e, hr]
        unfold ry sgr
        rw [show rsg 0 = 0 by rfl]
        have n0 : rsg (- fac y) * rsg (ba y.r) ≠ 0 := h2
        rw [if_neg (fun h => h.elim n0 fun h => n0 h.symm), if_pos rfl]
      · exfalso
        have e2 := gy k
        refine nsy (ba x.p - ba y.p) ?_
        rw [e2] at e1; grind
    · exfalso
      have e := qG k4
      have hxr : ba x.r ≠ 0 := fun h => k2 (by rw [h, show rsg 0 = 0 by rfl, Int.mul_zero])
      have nsx : ∀ q : Rat, q * q ≠ ba x.r := by rcases hx.2.2 with h | h; exact absurd h.1 hxr; exact h.2
      have ha : ba x.p - ba y.p ≠ 0 := fun h => k2 (by rw [h]; rw [show (2 : Rat) * 0 * fac x = 0 by grind, show rsg 0 = 0 by rfl, Int.zero_mul])
      generalize ba x.p - ba y.p = a at *
      generalize hu : a * a + fac x * fac x * ba x.r - - fac y * - fac y * ba y.r = u at *
      have e3 : u * u = 4 * a * a * ba x.r := by
        have : 2 * a * fac x * (2 * a * fac x) = 4 * a * a := by grind
        grind
      exact nsx (u / (2 * a)) (sq_div ha e3)
end Go.Sx
namespace Go.Proofs
open Go.Shelf
def Tryz.lays126_ren : Go.Shelf.Ren := ⟨fun | 126 => 305 | n => n, fun | 5 => 5 | 3 => 3 | 9 => 9 | n => n, fun | n => n⟩
theorem Tryz.lays126 : Go.Proofs.Lays.n126 Tryz.prog Tryz.lays126_ren := {
  mixed := by kernel_rfl
  f126 := Tryz.func305.trans (congrArg some (by kernel_rfl))
  t3 := Tryz.underlying3
  a3 := Tryz.isAgg3
  z3 := Tryz.sizeOf3
  v3 := Tryz.zeroValue3
  t5 := nn5
  a5 := Tryz.isAgg5
  z5 := Tryz.sizeOf5
  v5 := Tryz.zeroValue5
  t9 := nn9
  a9 := Tryz.isAgg9
  z9 := Tryz.sizeOf9
  v9 := Tryz.zeroValue9 }
end Go.Proofs
namespace Go.Sx
open Go Go.RowKit Go.Proofs
theorem Len8_ct (u : Nat) (hu : u < 256) (w0 : World) : Calls Tryz.prog 305 #[.int .u8 ((u : Nat) : Int)] w0 (dH w0 (.int .i64 ((Lib.bitLen u : Nat) : Int)) True) := by
  have := jC (Any.bits_Len8 Tryz.lays126 (u : Int) w0 (by omega) (by omega))
  rw [Int.toNat_natCast] at this; exact this
section
variable {P : Program} {w0 : World} {F : List (Nat × Value)}
end
end Go.Sx
namespace Go.Sx
def isq : Nat → Nat
  | 0 => 0
  | n + 1 => if (isq n + 1) * (isq n + 1) ≤ n + 1 then isq n + 1 else isq n
theorem oT : ∀ a : Nat, isq a * isq a ≤ a ∧ a < (isq a + 1) * (isq a + 1)
  | 0 => ⟨Nat.le_refl _, by decide⟩
  | n + 1 => by
    obtain ⟨h1, h2⟩ := oT n
    unfold isq
    split
    · rename_i h
      refine ⟨h, ?_⟩
      generalize isq n = s at *
      rw [Nat.mul_add, Nat.add_mul (s + 1) 1 (s + 1)]; omega
    · exact ⟨by omega, by omega⟩
theorem isq_lt {a m : Nat} (h : a < m * m) : isq a < m := by
  obtain ⟨h1, _⟩ := oT a
  refine Nat.lt_of_not_le fun hm => ?_
  have := Nat.mul_le_mul hm hm
  omega
theorem isq_pos {a : Nat} (h : 0 < a) : 0 < isq a := by
  obtain ⟨_, h2⟩ := oT a
  refine Nat.pos_of_ne_zero fun e => ?_
  rw [e] at h2; omega
def nwt (a x : Nat) : Nat := (x + a / x) / 2
theorem nwt_ge {a x : Nat} (hx : 0 < x) : isq a ≤ nwt a x := by
  obtain ⟨h1, _⟩ := oT a
  unfold nwt
  have h3 : a < x * (a / x + 1) := by rw [Nat.mul_add, Nat.mul_one]; have := Nat.div_add_mod a x; have := Nat.mod_lt a hx; omega
  generalize a / x = q at *
  generalize isq a = s at *
  rw [Nat.le_div_iff_mul_le (by decide)]
  refine Nat.le_of_not_lt fun h => ?_
  obtain ⟨d, hd⟩ : ∃ d, x + (q + 1) + d = 2 * s := ⟨2 * s - (x + (q + 1)), by omega⟩
  have e : (x + (q + 1) + d) * (x + (q + 1) + d) = 4 * (s * s) := by rw [hd]; rw [Nat.mul_mul_mul_comm]
  generalize q + 1 = r at *
  have e2 : 4 * (x * r) ≤ (x + r) * (x + r) := by
    rcases Nat.le_total x r with h | h
    · obtain ⟨k, rfl⟩ := Nat.le.dest h
      simp only [Nat.mul_add, Nat.add_mul]
      have := Nat.mul_comm x k
      have := Nat.zero_le (k * k)
      omega
    · obtain ⟨k, rfl⟩ := Nat.le.dest h
      simp only [Nat.mul_add, Nat.add_mul]
      have := Nat.mul_comm r k
      have := Nat.zero_le (k * k)
      omega
  have e3 : (x + r) * (x + r) ≤ (x + r + d) * (x + r + d) := Nat.mul_le_mul (by omega) (by omega)
  omega
theorem nwt_stop {a x : Nat} (hx : isq a ≤ x) (h : x ≤ nwt a x) : x = isq a := by
  obtain ⟨_, h2⟩ := oT a
  rcases Nat.eq_zero_or_pos x with rfl | hp
  · omega
  unfold nwt at h
  rw [Nat.le_div_iff_mul_le (by decide)] at h
  have h3 : x ≤ a / x := by omega
  rw [Nat.le_div_iff_mul_le hp] at h3
  refine Nat.le_antisymm (Nat.le_of_not_lt fun hl => ?_) hx
  have := Nat.mul_le_mul (show isq a + 1 ≤ x from hl) (show isq a + 1 ≤ x from hl)
  omega
attribute [irreducible] isq
end Go.Sx
namespace Go.Sx
open Go Go.RowKit
theorem qd {n : Nat} (h : 0 < n) : 0 < (le n).length := by rw [jM h]; simp
theorem sd {a : Nat} (h : 0 < a) : k7 a = a / 256 ^ ((le a).length - 1) := by
  have h0 := qd h
  have h1 := mD a ((le a).length - 1) (by omega)
  have h2 : a / 256 ^ ((le a).length - 1) < 256 := by
    rw [Nat.div_lt_iff_lt_mul (Nat.pow_pos (by decide)), Nat.mul_comm, ← Nat.pow_succ, show ((le a).length - 1).succ = (le a).length by omega]
    exact mj a
  have e : (le a).reverse.headD 0 = UInt8.ofNat (a / 256 ^ ((le a).length - 1) % 256) := by
    rw [List.headD_eq_head?_getD, List.head?_reverse, List.getLast?_eq_getElem?, h1]; rfl
  unfold k7
  rw [e, Nat.mod_eq_of_lt h2]
  simp; omega
def nbit (a : Nat) : Nat := 8 * ((le a).length - 1) + Lib.bitLen (k7 a)
theorem nS {a : Nat} (h : 0 < a) : k7 a < 256 ∧ 1 ≤ Lib.bitLen (k7 a) ∧ Lib.bitLen (k7 a) ≤ 8 ∧ k7 a < 2 ^ Lib.bitLen (k7 a) := by
  have h2 : k7 a < 256 := by unfold k7; exact ((le a).reverse.headD 0).toNat_lt
  have h3 : 0 < k7 a := by
    rw [sd h]; exact Nat.div_pos (kj h) (Nat.pow_pos (by decide))
  obtain ⟨b1, b2, b3⟩ := Lib.bitLenAux_bounds 64 (k7 a) (by omega) (by omega)
  change 1 ≤ Lib.bitLen (k7 a) at b1
  change 2 ^ (Lib.bitLen (k7 a) - 1) ≤ k7 a at b2
  change k7 a < 2 ^ Lib.bitLen (k7 a) at b3
  refine ⟨h2, b1, ?_, b3⟩
  refine Nat.le_of_not_lt fun hh => ?_
  have : 2 ^ 8 ≤ 2 ^ (Lib.bitLen (k7 a) - 1) := Nat.pow_le_pow_right (by decide) (by omega)
  omega
theorem nbit_lt {a : Nat} (h : 0 < a) : a < 2 ^ nbit a := by
  obtain ⟨_, _, _, h4⟩ := nS h
  have h5 := sd h
  have h6 : (0 : Nat) < 256 ^ ((le a).length - 1) := Nat.pow_pos (by decide)
  unfold nbit
  rw [Nat.pow_add, show (2 : Nat) ^ (8 * ((le a).length - 1)) = 256 ^ ((le a).length - 1) by rw [Nat.pow_mul]]
  have : a < 256 ^ ((le a).length - 1) * (k7 a + 1) := by
    rw [h5, Nat.mul_comm]
    have := Nat.div_add_mod a (256 ^ ((le a).length - 1)); have := Nat.mod_lt a h6; rw [Nat.add_mul, Nat.one_mul, Nat.mul_comm]; omega
  exact Nat.lt_of_lt_of_le this (Nat.mul_le_mul_left _ h4)
def rexp (a : Nat) : Nat := (nbit a + 1) / 2
theorem rz {a : Nat} (h : 0 < a) : isq a ≤ 2 ^ rexp a := by
  refine Nat.le_of_lt (isq_lt ?_)
  rw [← Nat.pow_add]
  refine Nat.lt_of_lt_of_le (nbit_lt h) (Nat.pow_le_pow_right (by decide) ?_)
  unfold rexp; omega
theorem nv (n : Nat) (h : 0 < n) : ∀ c, le (256 ^ c * n) = List.replicate c 0 ++ le n
  | 0 => by simp
  | c + 1 => by
    have h1 : 256 ^ (c + 1) * n = 256 * (256 ^ c * n) := by rw [Nat.pow_succ, Nat.mul_comm (256 ^ c) 256, Nat.mul_assoc]
    have h2 : 0 < 256 ^ c * n := Nat.mul_pos (Nat.pow_pos (by decide)) h
    rw [h1, jM (by omega), Nat.mul_mod_right, Nat.mul_div_cancel_left _ (by decide), nv n h c]
    rfl
theorem sN : ∀ c, Lib.repeatL [(0 : UInt8)] c = List.replicate c 0
  | 0 => rfl
  | c + 1 => by rw [Lib.repeatL, sN c]; rfl
theorem bs_pow (m : Nat) : bs (2 ^ m) = bs (2 ^ (m % 8)) ++ ⟨(Lib.repeatL (ByteArray.data ⟨#[0]⟩).toList (m / 8)).toArray⟩ := by
  have e : 2 ^ m = 256 ^ (m / 8) * 2 ^ (m % 8) := by
    rw [show (256 : Nat) = 2 ^ 8 from rfl, ← Nat.pow_mul, ← Nat.pow_add]; congr 1; omega
  show (⟨(le (2 ^ m)).reverse.toArray⟩ : ByteArray) = _
  rw [e, nv _ (Nat.pow_pos (by decide)), show (ByteArray.data ⟨#[0]⟩).toList = [0] from rfl, sN]
  simp only [bs, ByteArray.mk_append_mk, List.reverse_append, List.reverse_replicate]
theorem le_pow (m : Nat) : (le (2 ^ m)).length = m / 8 + 1 := by
  have e : 2 ^ m = 256 ^ (m / 8) * 2 ^ (m % 8) := by
    rw [show (256 : Nat) = 2 ^ 8 from rfl, ← Nat.pow_mul, ← Nat.pow_add]; congr 1; omega
  rw [e, nv _ (Nat.pow_pos (by decide)), List.length_append, List.length_replicate]
  congr 1
  have h8 : 2 ^ (m % 8) < 256 ^ 1 := by
    have : 2 ^ (m % 8) ≤ 2 ^ 7 := Nat.pow_le_pow_right (by decide) (by omega)
    omega
  have := (ch 1 _).2 h8
  have := qd (Nat.pow_pos (n := m % 8) (show 0 < 2 by decide))
  omega
theorem bs_one {x : Nat} (h0 : 0 < x) (h : x < 256) : (⟨[UInt8.ofNat x].toArray⟩ : ByteArray) = bs x := by
  show _ = (⟨(le x).reverse.toArray⟩ : ByteArray)
  rw [jM h0, Nat.mod_eq_of_lt h, Nat.div_eq_of_lt h]; rfl
section
variable {P : Program} {w0 : World} {F : List (Nat × Value)}
theorem r_catS {t tt : TypeId} {x y : Operand} {a b c : ByteArray} (hx : ev F x = some (.string a)) (hy : ev F y = some (.string b)) (hm : a.size + b.size ≤ 9223372036854775807) (hc : a ++ b = c) : Rd P w0 F [] (.binOp .add t x y tt) (.string c) := by
  subst hc
  refine cz fun o a_ w ho ha => ?_
  have h1 := run_string_add_sum (P := P) w a b hm
  simp [execOp, ho, ha x _ hx, ha y _ hy, eqGuard_add, binOp_string_add, h1]
end
end Go.Sx
namespace Go.Sx
open Go Go.RowKit Go.Proofs
set_option maxRecDepth 100000
set_option maxHeartbeats 40000000
attribute [local irreducible] Code.wp wpList Rd Step ObS Ent
attribute [local irreducible] ar aO am au aA bG
def bW (a : Nat) : Nat := isq a
def zs (c : Nat) : ByteArray := ⟨(Lib.repeatL (ByteArray.data ⟨#[0]⟩).toList c).toArray⟩
theorem r5 (w0 : World) : Calls Tryz.prog 306 #[(.string ⟨#[0]⟩), (.int .i64 ((0 : Nat) : Int))] w0 (dH w0 (.string (zs 0)) True) := by
 refine enter (N := 125) (args := [(.string ⟨#[0]⟩), (.int .i64 0)]) Tryz.func306 rfl rfl ?_; intro ac h
 refine gz h <| (W) ?_; clear h ac; intro ac wo h
 refine c_ifT h rfl ?_ rfl
 refine gz h <| (W) ?_; clear h ac wo; intro ac wo h
 exact (rt h) (h.retP rfl trivial)
theorem lN (a : Nat) (za : SzB 30 a) (hrep : ∀ w0, Calls Tryz.prog 306 #[(.string ⟨#[0]⟩), (.int .i64 ((rexp a / 8 : Nat) : Int))] w0 (dH w0 (.string (zs (rexp a / 8))) True)) (w0 : World)  : Calls Tryz.prog 286 #[(.string (bs a))] w0 (dH w0 (.string (bs (bW a))) (SzB 29 (bW a))) := by
  refine enter (N := 50) (args := [(.string (bs a))]) Tryz.func286 rfl rfl ?_; intro ac h
  haveI : On := ⟨trivial⟩
  refine gz h <| (ai) ?_ ?_ <;> clear h ac <;> intro ac wo h hc1
  ·
    have hd1 := of_decide_eq_true hc1
    have hd : bW a = 0 := by rw [hd1]; unfold bW isq; rfl
    refine gz h <| (W) ?_; clear h ac wo; intro ac wo h
    exact (rt h) (h.retP (by rw [hd] <;> rfl) (by rw [hd]; exact (cg 0 (by decide) og)))
  ·
    have h0 : 0 < a := by have := of_decide_eq_false hc1; omega
    have hll := qd h0
    have hlz : (le a).length ≤ 65536 := by unfold SzB at za; omega
    obtain ⟨t1, t2, t3, _⟩ := nS h0
    have hn : nbit a = 8 * ((le a).length - 1) + Lib.bitLen (k7 a) := rfl
    have hm : rexp a = (nbit a + 1) / 2 := rfl
    have hn3 : nbit a ≤ 524296 := by omega
    refine gz h <| (xo (hs := by exact kR uu9 rfl)) <| (xo (hs := by exact d5 rfl rfl (r := (((le a).length - 1 : Nat) : Int)) (by rw [d9, IntKind.wrap_i64]; omega))) <| (xo (hs := by exact jc rfl rfl (r := ((8 * ((le a).length - 1) : Nat) : Int)) (by rw [IntKind.wrap_i64]; omega))) <| (xo (hs := by exact qH uu9 rfl rfl (by omega))) <| (xk (Len8_ct (k7 a) og)) <| (xo (hs := by exact ot rfl rfl (r := ((rexp a : Nat) : Int)) (by decide) (by rw [hm, hn, Int.tdiv_eq_ediv_of_nonneg (by omega), IntKind.wrap_i64]; omega))) <| (W) ?_; clear h ac wo; intro ac wo h
    obtain ⟨m, hme⟩ : ∃ m, rexp a = m := ⟨_, rfl⟩
    have hm2 : m ≤ 262144 := by omega
    rw [hme] at h hrep
    replace h : St w0 50 [(0, .string (bs a)), (3, iN m)] [] ac wo := h.re []
    have hpw : 2 ^ (m % 8) < 256 := by
      have : 2 ^ (m % 8) ≤ 2 ^ 7 := Nat.pow_le_pow_right (by decide) (by omega)
      omega
    have hp0 : 0 < 2 ^ (m % 8) := Nat.pow_pos (by decide)
    obtain ⟨u, hu, hub⟩ : ∃ u : UInt8, u.toNat = 2 ^ (m % 8) ∧ (⟨[u].toArray⟩ : ByteArray) = bs (2 ^ (m % 8)) := ⟨UInt8.ofNat (2 ^ (m % 8)), by rw [UInt8.toNat_ofNat']; omega, bs_one hp0 hpw⟩
    replace h := h.emps 1
    refine fK mixed [dv _, dv (.int .i64 ((m % 8 : Nat) : Int)), dv (.int .u8 ((u.toNat : Nat) : Int)), ⟨.nd (.one 3 fun v => NN v 1), [0]⟩, dw (.string ⟨[u].toArray⟩) [0], dv _, dv (.int .i64 ((m / 8 : Nat) : Int)), dv (.string (zs (m / 8))), dv (.string (bs (2 ^ m))), dv (.string (bs (2 ^ m)))]
      [⟨.emp, [(3, .one 3 fun v => .row (α := UInt8) 5 v [u])]⟩] h rfl (by kernel_rfl)
      ⟨oA obA, oA fun _ => bm (pK rfl rfl (r := ((m % 8 : Nat) : Int)) (by decide) (by rw [Int.tmod_eq_emod_of_nonneg (by omega)]; rfl)), oA fun _ => bm (oo rfl rfl (r := ((u.toNat : Nat) : Int)) (by omega) (by show ((m % 8 : Nat) : Int) ≤ 8; omega) (by
          rw [Int.toNat_natCast, Int.one_mul, hu]
          have e9 : ((2 : Int) ^ (m % 8)) = ((2 ^ (m % 8) : Nat) : Int) := by push_cast; rfl
          rw [e9]
          generalize 2 ^ (m % 8) = q at *
          rw [IntKind.wrap_u8]; omega)),
        fun _ _ => ng (ψ := fun v => NN v 1) (B := fun v => [.row (α := UInt8) 5 v [u]]) [.emp] rfl (fun v _ => by simp only [cH, bB] <;> rfl) (fun v hv => by simpa [DF.one, bB] using hv) (ja (cA (α := UInt8) (xs := [.tmp 24]) (vs := [(.int .u8 ((u.toNat : Nat) : Int))]) [u] slt335 rfl rfl rfl (by decide))),
        fun ξ _ => g9 [.row (α := UInt8) 5 (ξ 3) [u]] rfl rfl (r_str Tryz.underlying335 nn5 nn9 rfl), oA obA, oA fun _ => bm (ot rfl rfl (r := ((m / 8 : Nat) : Int)) (by decide) (by rw [Int.tdiv_eq_ediv_of_nonneg (by omega), IntKind.wrap_i64]; omega)), oA fun _ => iS (iE Tryz.call306 rfl hrep), oA fun _ => bm (r_catS rfl rfl (by have e8 := Lib.repeatL_length [(0 : UInt8)] (m / 8); show [u].toArray.size + (Lib.repeatL [(0 : UInt8)] (m / 8)).toArray.size ≤ _; rw [List.size_toArray, List.size_toArray, e8]; simp; omega) (by rw [hub]; exact (bs_pow m).symm)), oA obA, trivial⟩ ?_
    clear h ac wo; intro ξ ac wo hφ h
    replace h : St w0 50 [(0, .string (bs a)), (4, .string (bs (2 ^ m)))] [] ac wo := (h.pick [] (by decide)).sub ⟨rfl, rfl, trivial⟩
    clear hφ ξ
    have hst : isq a ≤ 2 ^ m := by rw [← hme]; exact rz h0
    have zst : SzB 29 (2 ^ m) := by unfold SzB; rw [le_pow]; omega
    have hs0 := isq_pos h0
    refine gz h <| (W) ?_; clear h ac wo; intro ac wo h
    refine wp_loop_ghost (fun n_ a_ w_ => ∃ (x : Nat), (x < n_) ∧ (isq a ≤ x) ∧ (SzB 29 x) ∧ St w0 50 [(0, (.string (bs a))), (4, (.string (bs x)))] [] a_ w_) (2 ^ m + 1) ⟨2 ^ m, by omega, hst, zst, h.rs⟩ ?_
    clear h ac wo; rintro n1 ac wo ⟨x, hm1, hx, zx, h⟩
    obtain ⟨m1, rfl⟩ : ∃ m, n1 = m + 1 := ⟨n1 - 1, by omega⟩
    have c2 := gD a x 29 og (SzB_le za og) zx (by omega)
    have s2 := an (c2 w0)
    have c3 := fJ x ((bn a x).1) 28 og zx s2.1
    have s3 := an (c3 w0)
    have c4 := gD (cG x ((bn a x).1)) 2 28 og s3 (cg 2 (by decide) og) og
    have e4 : (bn (cG x ((bn a x).1)) 2).1 = nwt a x := rfl
    rw [e4] at c4
    refine gz h <| (xk c2) <| (xk c3) <| (xk c4) <| (xk (dy (nwt a x) x)) <| (ai) ?_ ?_ <;> clear h ac wo <;> intro ac wo h hc2
    ·
      have hle := po hc2
      have hd : bW a = x := (nwt_stop hx hle).symm
      refine gz h <| (W) ?_; clear h ac wo; intro ac wo h
      exact (rt h) (h.retP (by rw [hd] <;> rfl) (by rw [hd]; exact zx))
    ·
      have hle := pn hc2
      have hlt : nwt a x < x := by
        refine Nat.lt_of_le_of_ne hle fun e => ?_
        rw [e] at hc2
        have : a8 x x = 0 := by rw [qi, if_neg (Nat.lt_irrefl _), if_neg (Nat.lt_irrefl _)]
        rw [this] at hc2; cases hc2
      refine gz h <| (W) ?_; clear h ac wo; intro ac wo h
      exact aE ⟨m1, by omega, nwt a x, by omega, nwt_ge (by omega), fC zx hle, h.re []⟩
attribute [irreducible] bW
theorem rexp4 {a : Nat} (h : a < 4) : rexp a / 8 = 0 := by
  have : a = 0 ∨ a = 1 ∨ a = 2 ∨ a = 3 := by omega
  rcases this with rfl | rfl | rfl | rfl <;> decide +kernel
theorem qE (a : Nat) (ha : a < 4) (za : SzB 30 a) (w0 : World) : Calls Tryz.prog 286 #[(.string (bs a))] w0 (dH w0 (.string (bs (bW a))) (SzB 29 (bW a))) :=
  lN a za (by rw [rexp4 ha]; exact r5) w0
end Go.Sx
namespace Go.Sx
def RtR (x : GR) : Prop := x.r.num.mag < 4 ∧ x.r.den = ⟨false, 0⟩
theorem tU {a : GQ} (h : a.den = ⟨false, 0⟩) : 0 < (aa a).mag ∧ (aa a).mag < 4 := by
  have : aa a = rational_one := by unfold aa; rw [h]; rfl
  rw [this]; decide +kernel
end Go.Sx
namespace Go.Sx
def sgn (a b : Nat) : Int := if a < b then -1 else if b < a then 1 else 0
theorem t7 {x y : GR} (hx : ROk x) (hy : ROk y) : ar y x = - ar x y :=
  (lS hy hx).uniq ((lS hx hy).neg.congr fun k => by grind)
theorem q7 {x : GR} (hx : ROk x) : ar x x = 0 := by
  have := t7 hx hx; omega
theorem rcmp_lt {x y z : GR} (hx : ROk x) (hy : ROk y) (hz : ROk z) (h1 : ar x y = -1) (h2 : ar y z = -1) : ar x z = -1 := by
  have a := lS hx hy
  have b := lS hy hz
  rw [h1] at a
  rw [h2] at b
  exact (lS hx hz).uniq ((a.add b).congr fun k => by grind)
theorem pm {α : Type} {p q : α → Bool} : ∀ {l : List α}, (∀ z ∈ l, p z = true → q z = true) → (∃ z ∈ l, q z = true ∧ p z = false) → l.countP p < l.countP q
  | [], _, ⟨_, h, _⟩ => by cases h
  | a :: l, h, ⟨z, hz, hq, hp⟩ => by
    have h1 : ∀ z ∈ l, p z = true → q z = true := fun z hz => h z (List.mem_cons_of_mem _ hz)
    have h2 : l.countP p ≤ l.countP q := List.countP_mono_left h1
    rw [List.countP_cons, List.countP_cons]
    rcases List.mem_cons.1 hz with rfl | hm
    · rw [hq, hp]; simp; omega
    · have h3 := pm h1 ⟨z, hm, hq, hp⟩
      by_cases ha : p a = true
      · rw [ha, h a (List.mem_cons_self ..) ha]; simp; omega
      · rw [if_neg ha]; split <;> omega
class Key where
  l : List GR
  ok : ∀ x ∈ l, ROk x
  sz : l.length < 100000
  z : default ∈ l
  rt : ∀ x ∈ l, RtR x
  szr : ∀ x ∈ l, SzR 36 x
def Tm [K : Key] (x : GR) : Prop := x ∈ K.l
def tk [K : Key] (x : GR) : Nat := K.l.countP fun y => ar y x == -1
section
variable [K : Key]
theorem Tm.iff {x : GR} : decide (x ∈ K.l) = true ↔ Tm x := decide_eq_true_iff
theorem Tm.rt {x : GR} (h : Tm x) : RtR x := K.rt x h
theorem Tm.szr {x : GR} (h : Tm x) : SzR 36 x := K.szr x h
theorem Tm.ok {x : GR} (h : Tm x) : ROk x := K.ok x h
theorem pE {x y : GR} (hx : Tm x) (hy : Tm y) (h : ar x y = -1) : tk x < tk y := by
  refine pm (fun z hz hp => ?_) ⟨x, hx, by rw [h]; rfl, by rw [q7 hx.ok]; rfl⟩
  rw [eq_of_beq hp |> fun e => rcmp_lt (K.ok z hz) hx.ok hy.ok e h]; rfl
theorem Tm.cmp {x y : GR} (hx : Tm x) (hy : Tm y) : ar x y = sgn (tk x) (tk y) := by
  unfold sgn
  rcases (lS hx.ok hy.ok).cases with h | h | h
  · have := pE hy hx (by rw [t7 hx.ok hy.ok, h])
    rw [if_neg (by omega), if_pos this, h]
  · rw [if_pos (pE hx hy h), h]
  · rw [q6 hx.ok hy.ok h, q7 hy.ok, if_neg (by omega), if_neg (by omega)]
theorem Tm.inj {x y : GR} (hx : Tm x) (hy : Tm y) : tk x = tk y ↔ x = y := by
  constructor
  · intro e
    have h := hx.cmp hy
    unfold sgn at h
    rw [if_neg (by omega), if_neg (by omega)] at h
    exact q6 hx.ok hy.ok h
  · intro e; rw [e]
theorem sf {x : GR} (_ : Tm x) : tk x < 100000 := Nat.lt_of_le_of_lt List.countP_le_length K.sz
end
attribute [irreducible] tk Tm
end Go.Sx
namespace Go.Sx
theorem jh {a b : Nat} (h : a < b) : sgn a b = -1 := if_pos h
theorem jJ {a b : Nat} (h : b < a) : sgn a b = 1 := by unfold sgn; rw [if_neg (by omega), if_pos h]
theorem g8 (a : Nat) : sgn a a = 0 := by unfold sgn; rw [if_neg (Nat.lt_irrefl a), if_neg (Nat.lt_irrefl a)]
theorem jQ {a b : Nat} : sgn a b < 0 ↔ a < b := by
  rcases Nat.lt_trichotomy a b with h | h | h
  · rw [jh h]; simp [h]
  · subst h; rw [g8]; simp
  · rw [jJ h]; simp; omega
def ci (i : Iv) : Int := bif i.openLo then 1 else 0
def cU {α : Type} (a b : U α) : Int := kq [ar a.iv.lo b.iv.lo, bG (ci a.iv) (ci b.iv), ar a.iv.hi b.iv.hi]
theorem or3 (a b c : Int) : kq [a, b, c] = if a ≠ 0 then a else if b ≠ 0 then b else c := by
  unfold kq
  by_cases ha : a = 0
  · by_cases hb : b = 0
    · by_cases hc : c = 0
      · subst ha hb hc; rfl
      · subst ha hb
        have e : (c != 0) = true := bne_iff_ne.2 hc
        simp [bC, fin, iM, gt, e]
    · subst ha
      have e : (b != 0) = true := bne_iff_ne.2 hb
      simp [bC, fin, iM, gt, e, hb]
  · have e : (a != 0) = true := bne_iff_ne.2 ha
    simp [bC, fin, iM, gt, e, ha]
theorem ci00 : bG 0 0 = 0 := by decide +kernel
theorem ci01 : bG 0 1 = -1 := by decide +kernel
theorem ci10 : bG 1 0 = 1 := by decide +kernel
theorem ci11 : bG 1 1 = 0 := by decide +kernel
def Tv [K : Key] (i : Iv) : Prop := Tm i.lo ∧ Tm i.hi
def kU [K : Key] (i : Iv) : Nat := (tk i.lo * 2 + (bif i.openLo then 1 else 0)) * 100000 + tk i.hi
theorem qn [K : Key] {α : Type} {a b : U α} (ha : Tv a.iv) (hb : Tv b.iv) : cU a b = sgn (kU a.iv) (kU b.iv) := by
  have l1 := sf ha.2
  have l2 := sf hb.2
  unfold cU
  rw [or3, ha.1.cmp hb.1, ha.2.cmp hb.2]
  unfold kU ci
  generalize tk a.iv.lo = p at *
  generalize tk b.iv.lo = q at *
  generalize tk a.iv.hi = s at *
  generalize tk b.iv.hi = t at *
  have key : ∀ x y : Nat, x ≤ 1 → y ≤ 1 → (if sgn p q ≠ 0 then sgn p q else if sgn x y ≠ 0 then sgn x y else sgn s t) = sgn ((p * 2 + x) * 100000 + s) ((q * 2 + y) * 100000 + t) := by
    intro x y hx hy
    rcases Nat.lt_trichotomy p q with h | h | h
    · rw [jh h, if_pos (by decide)]; exact (jh (by omega)).symm
    · subst h
      rw [g8, if_neg (by decide)]
      rcases Nat.lt_trichotomy x y with h | h | h
      · rw [jh h, if_pos (by decide)]; exact (jh (by omega)).symm
      · subst h
        rw [g8, if_neg (by decide)]
        rcases Nat.lt_trichotomy s t with h | h | h
        · rw [jh h, jh (by omega)]
        · subst h
          rw [g8, g8]
        · rw [jJ h, jJ (by omega)]
      · rw [jJ h, if_pos (by decide)]; exact (jJ (by omega)).symm
    · rw [jJ h, if_pos (by decide)]; exact (jJ (by omega)).symm
  cases a.iv.openLo <;> cases b.iv.openLo <;> simp only [cond_true, cond_false, ci00, ci01, ci10, ci11]
  · exact key 0 0 (by decide) (by decide)
  · exact key 0 1 (by decide) (by decide)
  · exact key 1 0 (by decide) (by decide)
  · exact key 1 1 (by decide) (by decide)
theorem rn [K : Key] {α : Type} [Inhabited (U α)] {c : U α → U α → Int} (hc : ∀ a b, c a b = cU a b) {d : List (U α)} (hd : ∀ u ∈ d, Tv u.iv) :
    (jt c d 0 d.length).Perm d ∧ (jt c d 0 d.length).Pairwise fun a b => kU a.iv ≤ kU b.iv := by
  refine ⟨kI d, ?_⟩
  have hp := oU (c := c) (S := fun u => Tv u.iv)
    (fun x y hx hy h => by rw [hc, qn hx hy, jQ] at h; rw [hc, qn hy hx, jQ]; omega)
    (fun x y z hx hy hz h1 h2 => by rw [hc, qn hx hy, jQ] at h1; rw [hc, qn hy hz, jQ] at h2; rw [hc, qn hx hz, jQ]; omega) hd
  refine hp.imp_of_mem (fun {a b} ha hb h => ?_)
  have ha' := hd a ((kI d).mem_iff.1 ha)
  have hb' := hd b ((kI d).mem_iff.1 hb)
  rw [hc, qn hb' ha', jQ] at h
  omega
def d8 [K : Key] (i : Iv) : Nat := 2 * tk i.lo + (bif i.openLo then 1 else 0)
def dU [K : Key] (i : Iv) : Int := 2 * tk i.hi - (bif i.openHi then 1 else 0)
def Wv [K : Key] (i : Iv) : Prop := Tv i ∧ tk i.lo ≤ tk i.hi ∧ (tk i.lo = tk i.hi → i.openLo = false ∧ i.openHi = false)
theorem Wv.le [K : Key] {i : Iv} (h : Wv i) : (d8 i : Int) ≤ dU i := by
  obtain ⟨_, h1, h2⟩ := h
  unfold d8 dU
  by_cases e : tk i.lo = tk i.hi
  · rw [(h2 e).1, (h2 e).2, e]; simp
  · cases i.openLo <;> cases i.openHi <;> simp <;> omega
theorem l7 [K : Key] {a b : Iv} (ha : Tv a) (hb : Tv b) : dD a b = decide (dU a < (d8 b : Int)) := by
  unfold dD
  rw [ha.2.cmp hb.1]
  unfold dU d8
  rcases Nat.lt_trichotomy (tk a.hi) (tk b.lo) with h | h | h
  · rw [jh h]
    cases a.openHi <;> cases b.openLo <;> simp <;> omega
  · rw [h, g8]
    cases a.openHi <;> cases b.openLo <;> simp <;> omega
  · rw [jJ h]
    cases a.openHi <;> cases b.openLo <;> simp <;> omega
end Go.Sx
namespace Go.Sx
theorem jE {S R : Type} {B : S → Nx S R} (n : Nat) {s s' : S} (h : B s = .go s') : bC B (n + 1) s = bC B n s' := by
  show (match B s with | .go s' => bC B n s' | .out s' => .inl s' | .ret r => .inr r) = _
  rw [h]
theorem iJ {S R : Type} {B : S → Nx S R} (n : Nat) {s s' : S} (h : B s = .out s') : bC B (n + 1) s = .inl s' := by
  show (match B s with | .go s' => bC B n s' | .out s' => .inl s' | .ret r => .inr r) = _
  rw [h]
theorem tF {S R : Type} {B : S → Nx S R} (n : Nat) {s : S} {r : R} (h : B s = .ret r) : bC B (n + 1) s = .inr r := by
  show (match B s with | .go s' => bC B n s' | .out s' => .inl s' | .ret r => .inr r) = _
  rw [h]
end Go.Sx
namespace Go.Sx
section
variable {α : Type}
end
section
variable {α R : Type} [Inhabited (At α)]
omit [Inhabited (At α)] in
theorem mF {β γ : Type} [Inhabited γ] {f : β → γ → β} (l : List γ) {B : Nat × β → Nx (Nat × β) R} {I : β → Prop} (hI : ∀ o x, I o → I (f o x)) (hgo : ∀ o i, I o → i < l.length → B (i, o) = .go (i + 1, f o (gt l i))) (hout : ∀ o, B (l.length, o) = .out (l.length, o)) :
    ∀ (s p : List γ) (o : β) (k : Nat), I o → l = p ++ s → s.length < k → bC B k (p.length, o) = .inl (l.length, s.foldl f o)
  | [], p, o, k + 1, _, hl, _ => by
    rw [List.append_nil] at hl
    rw [← hl, iJ k (hout o)]
    rfl
  | x :: s, p, o, k + 1, hi, hl, hk => by
    have hg : gt l p.length = x := by rw [hl]; exact gt_at rfl
    have h1 := hgo o p.length hi (by rw [hl]; simp)
    rw [hg] at h1
    have ih := mF l hI hgo hout s (p ++ [x]) (f o x) k (hI _ _ hi) (by rw [hl]; simp) (by simp at hk; omega)
    rw [jE k h1, List.foldl_cons, ← ih, List.length_append]
    rfl
end
end Go.Sx
namespace Go.Sx
def ptU {α : Type} (t : GR) (f : α) : U α := ⟨⟨t, t, false, false⟩, f⟩
def ls {α : Type} (t t' : GR) (f : α) : U α := ⟨⟨t, t', true, true⟩, f⟩
def atU {α : Type} (u : U α) : List (U α) :=
  (bif u.iv.openLo then [] else [ptU u.iv.lo u.f]) ++ (bif aH u.iv then [] else ls u.iv.lo u.iv.hi u.f :: (bif u.iv.openHi then [] else [ptU u.iv.hi u.f]))
theorem o9 {α β : Type} (g : α → List β) : ∀ (l : List α) (o : List β), l.foldl (fun o u => o ++ g u) o = o ++ l.flatMap g
  | [], o => by simp
  | u :: l, o => by rw [List.foldl_cons, o9 g l, List.flatMap_cons, List.append_assoc]
end Go.Sx
namespace Go.Sx
def Dj [K : Key] (a b : Iv) : Prop := dU a < (d8 b : Int) ∨ dU b < (d8 a : Int)
theorem Dj.symm [K : Key] {a b : Iv} (h : Dj a b) : Dj b a := Or.symm h
section
variable {α : Type}
end
end Go.Sx
namespace Go.Sx
theorem sF {R : Type} {B : Nat → Nx Nat R} {n : Nat} {bad : Nat → Bool} {r : R} (h : ∀ i, i < n → B i = bif bad i then .ret r else .go (i + 1)) (ho : B n = .out n) :
    ∀ (k a : Nat), a ≤ n → n - a < k → (∀ i, a ≤ i → i < n → bad i = false) → bC B k a = .inl n
  | k + 1, a, ha, hk, hb => by
    by_cases e : a = n
    · subst e; exact iJ k ho
    · have h1 := h a (by omega)
      rw [hb a (Nat.le_refl _) (by omega), cond_false] at h1
      rw [jE k h1]
      exact sF h ho k (a + 1) (by omega) (by omega) fun i h1 h2 => hb i (by omega) h2
end Go.Sx
namespace Go.Sx
section
variable {α : Type}
theorem kU_eq [K : Key] (i : Iv) : kU i = d8 i * 100000 + tk i.hi := by unfold kU d8; rw [Nat.mul_comm 2]
theorem nW [K : Key] {u s : List (U α)} (hW : ∀ x ∈ u, Wv x.iv) (hD : u.Pairwise fun a b => Dj a.iv b.iv) (hp : s.Perm u) (hs : s.Pairwise fun a b => kU a.iv ≤ kU b.iv) : s.Pairwise fun a b => dU a.iv < (d8 b.iv : Int) := by
  have hDs : s.Pairwise fun a b => Dj a.iv b.iv := (hp.pairwise_iff fun {a b} h => Dj.symm h).2 hD
  refine (hs.and hDs).imp_of_mem fun {a b} ha hb h => ?_
  have ha' := hW a (hp.mem_iff.1 ha)
  have hb' := hW b (hp.mem_iff.1 hb)
  have l1 := ha'.le
  have l2 := hb'.le
  have t1 := sf ha'.1.2
  have t2 := sf hb'.1.2
  obtain ⟨hk, hd⟩ := h
  rw [kU_eq, kU_eq] at hk
  unfold Dj at hd
  omega
theorem gV {β : Type} [Inhabited β] {l : List β} {i : Nat} (h : i < l.length) : gt l i = l[i] := by
  simp [gt, List.getD, List.getElem?_eq_getElem h]
theorem chain_pw [K : Key] [Inhabited (U α)] {s : List (U α)} (hW : ∀ x ∈ s, Wv x.iv) (h : ∀ i, 0 < i → i < s.length → dD (gt s (i - 1)).iv (gt s i).iv = true) : s.Pairwise fun a b => dU a.iv < (d8 b.iv : Int) := by
  rw [List.pairwise_iff_getElem]
  have key : ∀ (d i : Nat) (hj : i + d + 1 < s.length), dU (s[i]'(by omega)).iv < (d8 s[i + d + 1].iv : Int) := by
    intro d
    induction d with
    | zero =>
      intro i hj
      have h1 := h (i + 1) (by omega) hj
      rw [gV hj, gV (by omega : i + 1 - 1 < s.length), l7 (hW _ (List.getElem_mem _)).1 (hW _ (List.getElem_mem _)).1, decide_eq_true_eq] at h1
      exact h1
    | succ d ih =>
      intro i hj
      have h0 := ih i (by omega)
      have hj' : i + d + 1 + 1 < s.length := by omega
      have h1 := h (i + d + 1 + 1) (by omega) hj'
      rw [gV hj', gV (by omega : i + d + 1 + 1 - 1 < s.length), l7 (hW _ (List.getElem_mem _)).1 (hW _ (List.getElem_mem _)).1, decide_eq_true_eq] at h1
      have h2 := (hW (s[i + d + 1]'(by omega)) (List.getElem_mem _)).le
      have h3 : dU (s[i + d + 1]'(by omega)).iv < (d8 s[i + d + 1 + 1].iv : Int) := h1
      have h4 : (d8 (s[i + d + 1]'(by omega)).iv : Int) < d8 s[i + d + 1 + 1].iv := by omega
      exact Int.lt_trans h0 h4
  intro i j hi hj hij
  have := key (j - i - 1) i (by omega)
  simpa only [show i + (j - i - 1) + 1 = j by omega] using this
theorem apart_dj [K : Key] [Inhabited (U α)] {u s : List (U α)} (hW : ∀ x ∈ u, Wv x.iv) (hp : s.Perm u) (hs : s.Pairwise fun a b => kU a.iv ≤ kU b.iv) :
    (∀ i, 0 < i → i < s.length → dD (gt s (i - 1)).iv (gt s i).iv = true) ↔ u.Pairwise fun a b => Dj a.iv b.iv := by
  constructor
  · intro h
    have := chain_pw (fun x hx => hW x (hp.mem_iff.1 hx)) h
    exact (hp.pairwise_iff fun {a b} h => Dj.symm h).1 (this.imp fun h => .inl h)
  · intro h i h0 h1
    have hd := nW hW h hp hs
    rw [List.pairwise_iff_getElem] at hd
    have := hd (i - 1) i (by omega) h1 (by omega)
    rw [gV h1, gV (by omega : i - 1 < s.length), l7 (hW _ (hp.mem_iff.1 (List.getElem_mem _))).1 (hW _ (hp.mem_iff.1 (List.getElem_mem _))).1, decide_eq_true_eq]
    exact this
end
end Go.Sx
namespace Go.Sx
section
variable {α : Type} [Inhabited α] (eqf : α → α → Bool) (same : α → α → GR → Bool) (red : α → GR → α)
def pu (L out : List (U α)) (x : Nat) : Bool := (decide (((out.length : Nat) : Int) > 0) && decide ((gt out (out.length - 1)).iv.hi = (gt L x).iv.lo)) && !(aH (gt out (out.length - 1)).iv)
def ij (out : List (U α)) (t : GR) : Bool := (decide (((out.length : Nat) : Int) > 0) && decide ((gt out (out.length - 1)).iv.hi = t)) && !((gt out (out.length - 1)).iv.openHi)
def gM (L out : List (U α)) (x : Nat) : List (U α) :=
  bif ((((decide (((x : Nat) : Int) > 0)) && (aH ((gt L (x - 1)).iv))) && (decide (((gt L (x - 1)).iv).lo = ((gt L x).iv).lo))) && (!(ij out (((gt L x).iv).lo)))) then
    out ++ [(⟨(⟨((gt L x).iv).lo, ((gt L x).iv).hi, false, ((gt L x).iv).openHi⟩ : Iv), (gt L x).f⟩ : U α)]
  else out ++ [gt L x]
def jd (L out : List (U α)) (x : Nat) : List (U α) :=
  bif (((decide (((x + 1 : Nat) : Int) < ((L.length : Nat) : Int))) && (decide (((gt L (x + 1)).iv).lo = ((gt L x).iv).lo))) && (same ((gt L (x + 1)).f) ((gt L x).f) (((gt L x).iv).lo))) then out
  else out ++ [(⟨(gt L x).iv, (red ((gt L x).f) (((gt L x).iv).lo))⟩ : U α)]
def dT (L out : List (U α)) (x : Nat) : List (U α) :=
  bif pu L out x then
    bif (!(aH ((gt L x).iv))) then
      bif ((!((gt out (out.length - 1)).iv).openHi) && (eqf ((gt out (out.length - 1)).f) ((gt L x).f))) then
        out.set (out.length - 1) (⟨(⟨((gt out (out.length - 1)).iv).lo, ((gt L x).iv).hi, ((gt out (out.length - 1)).iv).openLo, true⟩ : Iv), (gt out (out.length - 1)).f⟩ : U α)
      else gM L out x
    else
      bif (same ((gt out (out.length - 1)).f) ((gt L x).f) (((gt L x).iv).lo)) then
        out.set (out.length - 1) (⟨(⟨((gt out (out.length - 1)).iv).lo, ((gt out (out.length - 1)).iv).hi, ((gt out (out.length - 1)).iv).openLo, false⟩ : Iv), (gt out (out.length - 1)).f⟩ : U α)
      else jd same red L out x
  else
    bif (!(aH ((gt L x).iv))) then gM L out x else jd same red L out x
end
theorem cond_go {S R : Type} {b : Bool} {X Y : Nx (S × Nat) R} {p q : S} {k : Nat} (h1 : X = .go (p, k)) (h2 : Y = .go (q, k)) : (bif b then X else Y) = .go (bif b then p else q, k) := by cases b <;> assumption
end Go.Sx
namespace Go.Sx
def hG {β : Type} (st : β → Nat → β) (o : β) : Nat → β
  | 0 => o
  | n + 1 => st (hG st o n) n
theorem oS {β R : Type} {st : β → Nat → β} {o : β} {n : Nat} {B : β × Nat → Nx (β × Nat) R} (hgo : ∀ o i, i < n → B (o, i) = .go (st o i, i + 1)) (hout : ∀ o, B (o, n) = .out (o, n)) :
    ∀ (k i : Nat), i ≤ n → n - i < k → bC B k (hG st o i, i) = .inl (hG st o n, n)
  | k + 1, i, hi, hk => by
    by_cases e : i = n
    · subst e; exact iJ k (hout _)
    · rw [jE k (hgo _ i (by omega))]
      exact oS hgo hout k (i + 1) (by omega) (by omega)
end Go.Sx
namespace Go.Sx
structure Turns {α : Type} [Inhabited α] (pl : GR → Nat) (A : List (At α)) : Prop where
  gap : ∀ i, i < A.length → (gt A i).gap = decide (i % 2 = 1)
  adj : ∀ i, i + 1 < A.length → (gt A (i + 1)).frm = (gt A i).til
  pt : ∀ i, i < A.length → (gt A i).gap = false → (gt A i).til = (gt A i).frm
  lt : ∀ i, i < A.length → (gt A i).gap = true → pl (gt A i).frm < pl (gt A i).til
section
variable {α : Type} [Inhabited α] {pl : GR → Nat} {A : List (At α)}
theorem Turns.le1 (h : Turns pl A) {i : Nat} (hi : i < A.length) : pl (gt A i).frm ≤ pl (gt A i).til := by
  cases hg : (gt A i).gap with
  | false => rw [h.pt i hi hg]; exact Nat.le_refl _
  | true => exact Nat.le_of_lt (h.lt i hi hg)
theorem Turns.mono (h : Turns pl A) {i : Nat} : ∀ (d : Nat), i + d + 1 < A.length → pl (gt A i).til ≤ pl (gt A (i + d + 1)).frm
  | 0, hd => by rw [h.adj i hd]; exact Nat.le_refl _
  | d + 1, hd => by
    have h1 := Turns.mono h (i := i) d (by omega)
    have h2 := h.le1 (by omega : i + d + 1 < A.length)
    have h3 := h.adj (i + d + 1) hd
    rw [show i + (d + 1) + 1 = i + d + 1 + 1 by omega, h3]
    omega
theorem Turns.mono' (h : Turns pl A) {i j : Nat} (hij : i < j) (hj : j < A.length) : pl (gt A i).til ≤ pl (gt A j).frm := by
  have := h.mono (i := i) (j - i - 1) (by omega)
  rwa [show i + (j - i - 1) + 1 = j by omega] at this
variable (eqf : α → α → Bool) (same : α → α → GR → Bool) (red : α → GR → α)
def lst (out : List (U α)) : U α := gt out (out.length - 1)
theorem kH (out : List (U α)) (x : U α) : lst (out ++ [x]) = x := by
  unfold lst
  rw [List.length_append, List.length_singleton, Nat.add_sub_cancel, nA]
theorem lst_set {out : List (U α)} (h : 0 < out.length) (x : U α) : lst (out.set (out.length - 1) x) = x := by
  unfold lst
  rw [List.length_set]
  exact o7 (by omega)
theorem hH {L out : List (U α)} {x : Nat} : pu L out x = true ↔ 0 < out.length ∧ (lst out).iv.hi = (gt L x).iv.lo ∧ (lst out).iv.lo ≠ (lst out).iv.hi := by
  unfold pu lst aH
  simp only [Bool.and_eq_true, decide_eq_true_eq, Bool.not_eq_true', decide_eq_false_iff_not, ne_eq]
  constructor
  · rintro ⟨⟨h1, h2⟩, h3⟩; exact ⟨by omega, h2, h3⟩
  · rintro ⟨h1, h2, h3⟩; exact ⟨⟨by omega, h2⟩, h3⟩
theorem ii {out : List (U α)} {t : GR} : ij out t = true ↔ 0 < out.length ∧ (lst out).iv.hi = t ∧ (lst out).iv.openHi = false := by
  unfold ij lst
  simp only [Bool.and_eq_true, decide_eq_true_eq, Bool.not_eq_true']
  constructor
  · rintro ⟨⟨h1, h2⟩, h3⟩; exact ⟨by omega, h2, h3⟩
  · rintro ⟨h1, h2, h3⟩; exact ⟨⟨by omega, h2⟩, h3⟩
def InvE (pl : GR → Nat) (A : List (At α)) (out : List (U α)) (i : Nat) : Prop :=
  ((0 < i ∧ (gt A (i - 1)).has = true) → 0 < out.length ∧ (lst out).iv.hi = (gt A (i - 1)).til ∧ (lst out).iv.openHi = true ∧ pl (lst out).iv.lo < pl (lst out).iv.hi ∧ (lst out).f = (gt A (i - 1)).f) ∧
  (¬ (0 < i ∧ (gt A (i - 1)).has = true) → out.length = 0 ∨ (0 < i ∧ pl (lst out).iv.hi ≤ pl (gt A (i - 1)).frm))
def mgd (A : List (At α)) (i : Nat) : Prop := (gt A i).has = true ∧ 0 < i ∧ (gt A (i - 1)).has = true ∧ same (gt A (i - 1)).f (gt A i).f (gt A i).frm = true
def lft (A : List (At α)) (i : Nat) : Prop := i + 1 < A.length ∧ (gt A (i + 1)).has = true ∧ same (gt A (i + 1)).f (gt A i).f (gt A i).frm = true
def InvO (pl : GR → Nat) (A : List (At α)) (out : List (U α)) (i : Nat) : Prop :=
  (mgd same A i → 0 < out.length ∧ (lst out).iv.hi = (gt A i).frm ∧ (lst out).iv.openHi = false ∧ pl (lst out).iv.lo < pl (lst out).iv.hi ∧ (lst out).f = (gt A (i - 1)).f) ∧
  (¬ mgd same A i → ((gt A i).has = false ∨ lft same A i) → InvE pl A out i) ∧
  (¬ mgd same A i → (gt A i).has = true → ¬ lft same A i → 0 < out.length ∧ (lst out).iv.lo = (gt A i).frm ∧ (lst out).iv.hi = (gt A i).frm ∧ (lst out).iv.openHi = false ∧ (lst out).f = red (gt A i).f (gt A i).frm)
variable {eqf same red}
theorem InvE.le (hA : Turns pl A) {out : List (U α)} {i : Nat} (hi : i < A.length) (h : InvE pl A out i) : out.length = 0 ∨ pl (lst out).iv.hi ≤ pl (gt A i).frm := by
  by_cases c : 0 < i ∧ (gt A (i - 1)).has = true
  · have e := hA.adj (i - 1) (by omega)
    rw [show i - 1 + 1 = i by omega] at e
    rw [(h.1 c).2.1, e]; exact .inr (Nat.le_refl _)
  · rcases h.2 c with h1 | ⟨h0, h1⟩
    · exact .inl h1
    · have h2 := hA.mono' (by omega : i - 1 < i) hi
      have h3 := hA.le1 (by omega : i - 1 < A.length)
      exact .inr (by omega)
theorem InvO.le (hA : Turns pl A) {out : List (U α)} {i : Nat} (hi : i < A.length) (h : InvO same red pl A out i) : out.length = 0 ∨ pl (lst out).iv.hi ≤ pl (gt A i).frm := by
  by_cases m : mgd same A i
  · rw [(h.1 m).2.1]; exact .inr (Nat.le_refl _)
  · by_cases c : (gt A i).has = false ∨ lft same A i
    · exact (h.2.1 m c).le hA hi
    · have c1 : (gt A i).has = true := by cases hh : (gt A i).has with
        | true => rfl
        | false => exact absurd (.inl hh) c
      rw [(h.2.2 m c1 fun h => c (.inr h)).2.2.1]; exact .inr (Nat.le_refl _)
end
end Go.Sx
namespace Go.Sx
theorem foldl_cons {α β : Type} (g : α → β) : ∀ (l : List α) (o : List β), l.foldl (fun o i => g i :: o) o = (l.map g).reverse ++ o
  | [], o => rfl
  | x :: l, o => by rw [List.foldl_cons, foldl_cons g l]; simp
end Go.Sx
namespace Go.Sx
open Go Go.RowKit Go.Proofs
set_option maxRecDepth 100000
set_option maxHeartbeats 40000000
attribute [local irreducible] Code.wp wpList Rd Step ObS Ent
def aJ (f : Ln) : Qd × Qd :=
 ((aM f.x0 f.x1), (aM f.y0 f.y1))
theorem fp (f : Ln) (k : Nat) (hk : k ≤ 40) (zf : SzN k f) (w0 : World) : Calls Tryz.prog 293 #[(vN f)] w0 (dH w0 (.tuple #[(vD ((aJ f).1)), (vD ((aJ f).2))]) (SzD k ((aJ f).1) ∧ SzD k ((aJ f).2))) := by
 refine enter (N := 14) (args := [(vN f)]) Tryz.func293 rfl rfl ?_; intro ac h
 have s1 := an ((ck f.x0 f.x1 k og zf.1 zf.2.1) w0)
 have s2 := an ((ck f.y0 f.y1 k og zf.2.2.1 zf.2.2.2) w0)
 refine gz h <| (xb) fun b1 => (xa) fun b2 => (xa) fun b3 => (dr1 (H := [⟨.blk b3 (cD oD) 53, [(11, .con (.blk b3 (cD (aM f.y0 f.y1)) 53))]⟩, ⟨.blk b2 (cD oD) 53, [(10, .con (.blk b2 (cD (aM f.x0 f.x1)) 53))]⟩, ⟨_, []⟩]) (hob := (oK (ck f.x0 f.x1 k og zf.1 zf.2.1)) <| (oK (ck f.y0 f.y1 k og zf.2.2.1 zf.2.2.2)) <| oE)) <| (W) ?_; clear h ac; intro ac wo h
 exact ret h rfl (.cell (v := (vD (aM f.x0 f.x1))) rfl (i := 1) rfl Tryz.isAgg53 Tryz.sizeOf53 rfl rfl rfl (.cell (v := (vD (aM f.y0 f.y1))) rfl (i := 0) rfl Tryz.isAgg53 Tryz.sizeOf53 rfl rfl rfl .nil)) rfl (h.retP (by unfold aJ; rfl) (by unfold aJ; exact ⟨s1, s2⟩))
end Go.Sx
