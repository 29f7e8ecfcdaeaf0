/- A part of the proof that the law PiecesShifts answers true at every input and leaves its arguments as they were. -/
import Derived.Test.YtnkaneggnjallaaGreatDoorA7
import Derived.Test.YtnkaneggnjallaaGreatDoorH1
set_option linter.unusedVariables false
set_option linter.unusedSimpArgs false
namespace Go.Sx
section
variable {α : Type} [Inhabited α] (c : α → α → Int)
def isB2 (a : Nat) (j : Nat) (d : List α) : Nx (Nat × List α) (List α) :=
  bif ((decide (((j : Nat) : Int) > ((a : Nat) : Int))) && (decide ((c (gt d j) (gt d (j - 1))) < 0))) then
    .go ((j - 1), ((d.set j (gt d (j - 1))).set (j - 1) (gt d j)))
  else
    .out (j, d)
def isB1 (a b i : Nat) (d : List α) : Nx (Nat × List α) (List α) :=
  bif (decide (((i : Nat) : Int) < ((b : Nat) : Int))) then
    fin (b9 (fun s => isB2 c a s.1 s.2) (i + 1) (i, d)) (fun s => .go ((i + 1), s.2)) (fun r => .ret r)
  else
    .out (i, d)
def oz (d : List α) (a b : Nat) : List α :=
  fin (b9 (fun s => isB1 c a b s.1 s.2) ((b + 1 - (a + 1)) + 1) ((a + 1), d)) (fun s => s.2) (fun r => r)
def fc (x : α) : List α → List α
  | [] => [x]
  | y :: q => if c x y < 0 then y :: fc x q else x :: y :: q
def kZ : List α → List α → List α
  | r, [] => r
  | r, x :: s => kZ (fc c x r) s
variable {c}
theorem kH {p : List α} {x : α} {s : List α} {j : Nat} (h : j = p.length) : gt (p ++ x :: s) j = x := by
  subst h; simp [gt, List.getD]
omit [Inhabited α] in
theorem iW (x : α) : ∀ r : List α, (fc c x r).length = r.length + 1
  | [] => rfl
  | y :: q => by
    unfold fc
    split
    · simp [iW x q]
    · rfl
theorem nH (x : α) : ∀ (r s : List α) (k : Nat), r.length < k → ∃ j, b9 (fun s => isB2 c 0 s.1 s.2) k (r.length, r.reverse ++ x :: s) = .inl (j, (fc c x r).reverse ++ s)
  | [], s, k + 1, _ => ⟨0, by simp [b9, isB2, fc]⟩
  | y :: q, s, k + 1, hk => by
    have e1 : gt ((y :: q).reverse ++ x :: s) ((y :: q).length) = x := kH (by simp)
    have e2 : gt ((y :: q).reverse ++ x :: s) ((y :: q).length - 1) = y := by
      rw [List.reverse_cons, List.append_assoc, List.singleton_append]
      exact kH (by simp)
    have hp : (((y :: q).length : Nat) : Int) > ((0 : Nat) : Int) := by simp
    by_cases h : c x y < 0
    · obtain ⟨j, hj⟩ := nH x q (y :: s) k (by simp at hk; omega)
      refine ⟨j, ?_⟩
      have e3 : ((((y :: q).reverse ++ x :: s).set (y :: q).length y).set ((y :: q).length - 1) x) = q.reverse ++ x :: y :: s := by
        simp only [List.reverse_cons, List.append_assoc, List.length_cons, Nat.add_sub_cancel, List.singleton_append]
        rw [List.set_append_right _ _ (by simp), List.set_append_right _ _ (by simp)]
        simp
      have e4 : isB2 c 0 (y :: q).length ((y :: q).reverse ++ x :: s) = .go (q.length, q.reverse ++ x :: y :: s) := by
        unfold isB2
        rw [e1, e2, e3, decide_eq_true hp, decide_eq_true h]
        rfl
      unfold b9
      simp only [e4]
      have ei : fc c x (y :: q) = y :: fc c x q := if_pos h
      rw [hj, ei, List.reverse_cons, List.append_assoc]
      rfl
    · refine ⟨(y :: q).length, ?_⟩
      have e4 : isB2 c 0 (y :: q).length ((y :: q).reverse ++ x :: s) = .out ((y :: q).length, (y :: q).reverse ++ x :: s) := by
        unfold isB2
        rw [e1, e2, decide_eq_false h, Bool.and_false]
        rfl
      unfold b9
      simp only [e4]
      have ei : fc c x (y :: q) = x :: y :: q := if_neg h
      rw [ei, List.reverse_cons (a := x), List.append_assoc]
      rfl
theorem nI (b : Nat) : ∀ (s r : List α) (k : Nat), r.length + s.length = b → s.length < k →
    b9 (fun s => isB1 c 0 b s.1 s.2) k (r.length, r.reverse ++ s) = .inl (b, (kZ c r s).reverse)
  | [], r, k + 1, hb, _ => by
    have : ¬ ((r.length : Nat) : Int) < ((b : Nat) : Int) := by simp at hb; omega
    unfold b9 isB1
    simp only [decide_eq_false this, cond_false]
    simp at hb
    rw [hb, List.append_nil]
    rfl
  | x :: s, r, k + 1, hb, hk => by
    have hlt : ((r.length : Nat) : Int) < ((b : Nat) : Int) := by simp at hb; omega
    obtain ⟨j, hj⟩ := nH (c := c) x r s (r.length + 1) (by omega)
    have ih := nI b s (fc c x r) k (by rw [iW]; simp at hb; omega) (by simp at hk; omega)
    rw [iW] at ih
    unfold b9
    have e : isB1 c 0 b r.length (r.reverse ++ x :: s) = .go (r.length + 1, (fc c x r).reverse ++ s) := by
      unfold isB1
      rw [decide_eq_true hlt, cond_true, hj]
      rfl
    simp only [e]
    rw [ih]
    rfl
theorem lh (d : List α) : oz c d 0 d.length = (kZ c [] d).reverse := by
  unfold oz
  cases d with
  | nil => rfl
  | cons x s =>
    have := nI (c := c) (x :: s).length s [x] ((x :: s).length + 1 - (0 + 1) + 1) (by simp; omega) (by simp only [List.length_cons]; omega)
    rw [show (0 + 1, x :: s) = ([x].length, [x].reverse ++ s) from rfl, eQ this]
    rfl
omit [Inhabited α] in
theorem iV (x : α) : ∀ r : List α, (fc c x r).Perm (x :: r)
  | [] => .refl _
  | y :: q => by
    unfold fc
    split
    · exact ((iV x q).cons y).trans (.swap x y q)
    · exact .refl _
omit [Inhabited α] in
theorem mo : ∀ (s r : List α), (kZ c r s).Perm (r ++ s)
  | [], r => by simp [kZ]
  | x :: s, r => by
    unfold kZ
    refine (mo s _).trans ?_
    refine ((iV x r).append_right s).trans ?_
    exact List.perm_middle.symm
theorem kE (d : List α) : (oz c d 0 d.length).Perm d := by
  rw [lh]
  exact (List.reverse_perm _).trans (by simpa using mo d [])
variable {S : α → Prop}
omit [Inhabited α] in
theorem kh (hA : ∀ x y, S x → S y → c x y < 0 → ¬ c y x < 0) (hT : ∀ x y z, S x → S y → S z → ¬ c x y < 0 → ¬ c y z < 0 → ¬ c x z < 0) {x : α} (hx : S x) :
    ∀ {r : List α}, (∀ y ∈ r, S y) → r.Pairwise (fun a b => ¬ c a b < 0) → (fc c x r).Pairwise (fun a b => ¬ c a b < 0)
  | [], _, _ => List.pairwise_singleton _ _
  | y :: q, hS, hp => by
    have hy := hS y (List.mem_cons_self ..)
    have hq : ∀ z ∈ q, S z := fun z hz => hS z (List.mem_cons_of_mem _ hz)
    rw [List.pairwise_cons] at hp
    unfold fc
    split
    case isTrue h =>
      rw [List.pairwise_cons]
      refine ⟨fun z hz => ?_, kh hA hT hx hq hp.2⟩
      rcases List.mem_cons.1 ((iV x q).mem_iff.1 hz) with rfl | hz
      · exact hA _ _ hx hy h
      · exact hp.1 z hz
    case isFalse h =>
      rw [List.pairwise_cons]
      refine ⟨fun z hz => ?_, List.pairwise_cons.2 hp⟩
      rcases List.mem_cons.1 hz with rfl | hz
      · exact h
      · exact hT _ _ _ hx hy (hq z hz) h (hp.1 z hz)
omit [Inhabited α] in
theorem kS (hA : ∀ x y, S x → S y → c x y < 0 → ¬ c y x < 0) (hT : ∀ x y z, S x → S y → S z → ¬ c x y < 0 → ¬ c y z < 0 → ¬ c x z < 0) :
    ∀ {s r : List α}, (∀ y ∈ r, S y) → (∀ y ∈ s, S y) → r.Pairwise (fun a b => ¬ c a b < 0) → (kZ c r s).Pairwise (fun a b => ¬ c a b < 0)
  | [], _, _, _, hp => hp
  | x :: s, r, hr, hs, hp => by
    unfold kZ
    refine kS hA hT (fun y hy => ?_) (fun y hy => hs y (List.mem_cons_of_mem _ hy)) (kh hA hT (hs x (List.mem_cons_self ..)) hr hp)
    rcases List.mem_cons.1 ((iV x r).mem_iff.1 hy) with rfl | hy
    · exact hs _ (List.mem_cons_self ..)
    · exact hr y hy
theorem nF (hA : ∀ x y, S x → S y → c x y < 0 → ¬ c y x < 0) (hT : ∀ x y z, S x → S y → S z → ¬ c x y < 0 → ¬ c y z < 0 → ¬ c x z < 0) {d : List α} (hd : ∀ y ∈ d, S y) :
    (oz c d 0 d.length).Pairwise (fun a b => ¬ c b a < 0) := by
  rw [lh, List.pairwise_reverse]
  exact kS hA hT (fun _ h => by cases h) hd .nil
end
end Go.Sx
namespace Go.Sx
def tk (x : GR) : Nat := 10 * x.p.num.mag + (if x.r.num.mag = 0 then 0 else 14)
def sgn (a b : Nat) : Int := if a < b then -1 else if b < a then 1 else 0
def mT (a n : Nat) : List GR := (List.range n).flatMap fun (i : Nat) => [ad (Int.ofNat (a + i)) false, ad (Int.ofNat (a + i)) true]
def chk2 (l m : List GR) : Bool := l.all fun x => m.all fun y => aD x y == sgn (tk x) (tk y) && (!(tk x == tk y) || decide (x = y))
theorem chk_a : chk2 (mT 0 15) (mT 0 45) = true := by decide +kernel
theorem chk_b : chk2 (mT 15 15) (mT 0 45) = true := by decide +kernel
theorem chk_c : chk2 (mT 30 15) (mT 0 45) = true := by decide +kernel
def Tm (x : GR) : Prop := ∃ (n : Nat) (r : Bool), n < 45 ∧ x = ad (n : Int) r
theorem kg {a k n : Nat} (r : Bool) (h1 : a ≤ n) (h2 : n < a + k) : ad (n : Int) r ∈ mT a k := by
  unfold mT
  rw [List.mem_flatMap]
  refine ⟨n - a, List.mem_range.2 (by omega), ?_⟩
  rw [show a + (n - a) = n by omega]
  cases r
  · exact List.mem_cons_self ..
  · exact List.mem_cons_of_mem _ (List.mem_cons_self ..)
theorem Tm.both {x y : GR} (hx : Tm x) (hy : Tm y) : aD x y = sgn (tk x) (tk y) ∧ (tk x = tk y → x = y) := by
  obtain ⟨n, r, hn, rfl⟩ := hx
  obtain ⟨m, s, hm, rfl⟩ := hy
  have hy := kg (a := 0) (k := 45) s (Nat.zero_le m) (by omega)
  have key : ∀ {l : List GR}, chk2 l (mT 0 45) = true → ad (n : Int) r ∈ l → aD (ad (n : Int) r) (ad (m : Int) s) = sgn (tk (ad (n : Int) r)) (tk (ad (m : Int) s)) ∧ (tk (ad (n : Int) r) = tk (ad (m : Int) s) → ad (n : Int) r = ad (m : Int) s) := fun hc hx => by
    have h := List.all_eq_true.1 (List.all_eq_true.1 hc _ hx) _ hy
    rw [Bool.and_eq_true] at h
    refine ⟨eq_of_beq h.1, fun e => ?_⟩
    have h2 := h.2
    rw [e, beq_self_eq_true, Bool.not_true, Bool.false_or] at h2
    exact of_decide_eq_true h2
  by_cases h1 : n < 15
  · exact key chk_a (kg r (Nat.zero_le n) (by omega))
  · by_cases h2 : n < 30
    · exact key chk_b (kg r (by omega) (by omega))
    · exact key chk_c (kg r (by omega) (by omega))
theorem Tm.cmp {x y : GR} (hx : Tm x) (hy : Tm y) : aD x y = sgn (tk x) (tk y) := (hx.both hy).1
theorem Tm.inj {x y : GR} (hx : Tm x) (hy : Tm y) : tk x = tk y ↔ x = y := ⟨(hx.both hy).2, fun e => by rw [e]⟩
end Go.Sx
