/- A part of the proof that the law PiecesRefines answers true at every input and leaves its arguments as they were. -/
import Derived.Test.YtnkaneggnjallaaGreatDoorA7
import Derived.Test.YtnkaneggnjallaaGreatDoorH1
set_option linter.unusedVariables false
set_option linter.unusedSimpArgs false
namespace Go.Sx
section
variable {α : Type} [Inhabited α] (c : α → α → Int)
def isB2 (a : Nat) (j : Nat) (d : List α) : Nx (Nat × List α) (List α) :=
  bif ((decide (((j : Nat) : Int) > ((a : Nat) : Int))) && (decide ((c (gt d j) (gt d (j - 1))) < 0))) then
    .go ((j - 1), ((d.set j (gt d (j - 1))).set (j - 1) (gt d j)))
  else
    .out (j, d)
def isB1 (a b i : Nat) (d : List α) : Nx (Nat × List α) (List α) :=
  bif (decide (((i : Nat) : Int) < ((b : Nat) : Int))) then
    fin (bQ (fun s => isB2 c a s.1 s.2) (i + 1) (i, d)) (fun s => .go ((i + 1), s.2)) (fun r => .ret r)
  else
    .out (i, d)
def isort (d : List α) (a b : Nat) : List α :=
  fin (bQ (fun s => isB1 c a b s.1 s.2) ((b + 1 - (a + 1)) + 1) ((a + 1), d)) (fun s => s.2) (fun r => r)
def fq (x : α) : List α → List α
  | [] => [x]
  | y :: q => if c x y < 0 then y :: fq x q else x :: y :: q
def pd : List α → List α → List α
  | r, [] => r
  | r, x :: s => pd (fq c x r) s
variable {c}
theorem kt {p : List α} {x : α} {s : List α} {j : Nat} (h : j = p.length) : gt (p ++ x :: s) j = x := by
  subst h; simp [gt, List.getD]
omit [Inhabited α] in
theorem iQ (x : α) : ∀ r : List α, (fq c x r).length = r.length + 1
  | [] => rfl
  | y :: q => by
    unfold fq
    split
    · simp [iQ x q]
    · rfl
theorem ng (x : α) : ∀ (r s : List α) (k : Nat), r.length < k → ∃ j, bQ (fun s => isB2 c 0 s.1 s.2) k (r.length, r.reverse ++ x :: s) = .inl (j, (fq c x r).reverse ++ s)
  | [], s, k + 1, _ => ⟨0, by simp [bQ, isB2, fq]⟩
  | y :: q, s, k + 1, hk => by
    have e1 : gt ((y :: q).reverse ++ x :: s) ((y :: q).length) = x := kt (by simp)
    have e2 : gt ((y :: q).reverse ++ x :: s) ((y :: q).length - 1) = y := by
      rw [List.reverse_cons, List.append_assoc, List.singleton_append]
      exact kt (by simp)
    have hp : (((y :: q).length : Nat) : Int) > ((0 : Nat) : Int) := by simp
    by_cases h : c x y < 0
    · obtain ⟨j, hj⟩ := ng x q (y :: s) k (by simp at hk; omega)
      refine ⟨j, ?_⟩
      have e3 : ((((y :: q).reverse ++ x :: s).set (y :: q).length y).set ((y :: q).length - 1) x) = q.reverse ++ x :: y :: s := by
        simp only [List.reverse_cons, List.append_assoc, List.length_cons, Nat.add_sub_cancel, List.singleton_append]
        rw [List.set_append_right _ _ (by simp), List.set_append_right _ _ (by simp)]
        simp
      have e4 : isB2 c 0 (y :: q).length ((y :: q).reverse ++ x :: s) = .go (q.length, q.reverse ++ x :: y :: s) := by
        unfold isB2
        rw [e1, e2, e3, decide_eq_true hp, decide_eq_true h]
        rfl
      unfold bQ
      simp only [e4]
      have ei : fq c x (y :: q) = y :: fq c x q := if_pos h
      rw [hj, ei, List.reverse_cons, List.append_assoc]
      rfl
    · refine ⟨(y :: q).length, ?_⟩
      have e4 : isB2 c 0 (y :: q).length ((y :: q).reverse ++ x :: s) = .out ((y :: q).length, (y :: q).reverse ++ x :: s) := by
        unfold isB2
        rw [e1, e2, decide_eq_false h, Bool.and_false]
        rfl
      unfold bQ
      simp only [e4]
      have ei : fq c x (y :: q) = x :: y :: q := if_neg h
      rw [ei, List.reverse_cons (a := x), List.append_assoc]
      rfl
theorem nh (b : Nat) : ∀ (s r : List α) (k : Nat), r.length + s.length = b → s.length < k →
    bQ (fun s => isB1 c 0 b s.1 s.2) k (r.length, r.reverse ++ s) = .inl (b, (pd c r s).reverse)
  | [], r, k + 1, hb, _ => by
    have : ¬ ((r.length : Nat) : Int) < ((b : Nat) : Int) := by simp at hb; omega
    unfold bQ isB1
    simp only [decide_eq_false this, cond_false]
    simp at hb
    rw [hb, List.append_nil]
    rfl
  | x :: s, r, k + 1, hb, hk => by
    have hlt : ((r.length : Nat) : Int) < ((b : Nat) : Int) := by simp at hb; omega
    obtain ⟨j, hj⟩ := ng (c := c) x r s (r.length + 1) (by omega)
    have ih := nh b s (fq c x r) k (by rw [iQ]; simp at hb; omega) (by simp at hk; omega)
    rw [iQ] at ih
    unfold bQ
    have e : isB1 c 0 b r.length (r.reverse ++ x :: s) = .go (r.length + 1, (fq c x r).reverse ++ s) := by
      unfold isB1
      rw [decide_eq_true hlt, cond_true, hj]
      rfl
    simp only [e]
    rw [ih]
    rfl
theorem oE (d : List α) : isort c d 0 d.length = (pd c [] d).reverse := by
  unfold isort
  cases d with
  | nil => rfl
  | cons x s =>
    have := nh (c := c) (x :: s).length s [x] ((x :: s).length + 1 - (0 + 1) + 1) (by simp; omega) (by simp only [List.length_cons]; omega)
    rw [show (0 + 1, x :: s) = ([x].length, [x].reverse ++ s) from rfl, ew this]
    rfl
omit [Inhabited α] in
theorem lr (x : α) : ∀ r : List α, (fq c x r).Perm (x :: r)
  | [] => .refl _
  | y :: q => by
    unfold fq
    split
    · exact ((lr x q).cons y).trans (.swap x y q)
    · exact .refl _
omit [Inhabited α] in
theorem lU : ∀ (s r : List α), (pd c r s).Perm (r ++ s)
  | [], r => by simp [pd]
  | x :: s, r => by
    unfold pd
    refine (lU s _).trans ?_
    refine ((lr x r).append_right s).trans ?_
    exact List.perm_middle.symm
theorem pc (d : List α) : (isort c d 0 d.length).Perm d := by
  rw [oE]
  exact (List.reverse_perm _).trans (by simpa using lU d [])
variable {S : α → Prop}
omit [Inhabited α] in
omit [Inhabited α] in
end
end Go.Sx
namespace Go.Sx
def tk (x : GR) : Nat := 10 * x.p.num.mag + (if x.r.num.mag = 0 then 0 else 14)
def sgn (a b : Nat) : Int := if a < b then -1 else if b < a then 1 else 0
def mz (a n : Nat) : List GR := (List.range n).flatMap fun (i : Nat) => [ad (Int.ofNat (a + i)) false, ad (Int.ofNat (a + i)) true]
def chk2 (l m : List GR) : Bool := l.all fun x => m.all fun y => ao x y == sgn (tk x) (tk y) && (!(tk x == tk y) || decide (x = y))
theorem chk_a : chk2 (mz 0 15) (mz 0 45) = true := by decide +kernel
theorem chk_b : chk2 (mz 15 15) (mz 0 45) = true := by decide +kernel
theorem chk_c : chk2 (mz 30 15) (mz 0 45) = true := by decide +kernel
def Tm (x : GR) : Prop := ∃ (n : Nat) (r : Bool), n < 45 ∧ x = ad (n : Int) r
theorem jY {a k n : Nat} (r : Bool) (h1 : a ≤ n) (h2 : n < a + k) : ad (n : Int) r ∈ mz a k := by
  unfold mz
  rw [List.mem_flatMap]
  refine ⟨n - a, List.mem_range.2 (by omega), ?_⟩
  rw [show a + (n - a) = n by omega]
  cases r
  · exact List.mem_cons_self ..
  · exact List.mem_cons_of_mem _ (List.mem_cons_self ..)
theorem Tm.both {x y : GR} (hx : Tm x) (hy : Tm y) : ao x y = sgn (tk x) (tk y) ∧ (tk x = tk y → x = y) := by
  obtain ⟨n, r, hn, rfl⟩ := hx
  obtain ⟨m, s, hm, rfl⟩ := hy
  have hy := jY (a := 0) (k := 45) s (Nat.zero_le m) (by omega)
  have key : ∀ {l : List GR}, chk2 l (mz 0 45) = true → ad (n : Int) r ∈ l → ao (ad (n : Int) r) (ad (m : Int) s) = sgn (tk (ad (n : Int) r)) (tk (ad (m : Int) s)) ∧ (tk (ad (n : Int) r) = tk (ad (m : Int) s) → ad (n : Int) r = ad (m : Int) s) := fun hc hx => by
    have h := List.all_eq_true.1 (List.all_eq_true.1 hc _ hx) _ hy
    rw [Bool.and_eq_true] at h
    refine ⟨eq_of_beq h.1, fun e => ?_⟩
    have h2 := h.2
    rw [e, beq_self_eq_true, Bool.not_true, Bool.false_or] at h2
    exact of_decide_eq_true h2
  by_cases h1 : n < 15
  · exact key chk_a (jY r (Nat.zero_le n) (by omega))
  · by_cases h2 : n < 30
    · exact key chk_b (jY r (by omega) (by omega))
    · exact key chk_c (jY r (by omega) (by omega))
theorem Tm.cmp {x y : GR} (hx : Tm x) (hy : Tm y) : ao x y = sgn (tk x) (tk y) := (hx.both hy).1
theorem Tm.inj {x y : GR} (hx : Tm x) (hy : Tm y) : tk x = tk y ↔ x = y := ⟨(hx.both hy).2, fun e => by rw [e]⟩
end Go.Sx
