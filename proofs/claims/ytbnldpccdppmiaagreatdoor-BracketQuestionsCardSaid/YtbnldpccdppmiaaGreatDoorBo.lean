/- A part of the proof that the law BracketQuestions/Checks answers true at every input and leaves its arguments as they were. -/
import Derived.Test.YtbnldpccdppmiaaGreatDoorHb
set_option linter.unusedVariables false
set_option linter.unusedSimpArgs false
namespace Go.Sx
section
variable {α : Type} [Inhabited α] (c : α → α → Int)
def isB2 (a : Nat) (j : Nat) (d : List α) : Nx (Nat × List α) (List α) :=
  bif ((decide (((j : Nat) : Int) > ((a : Nat) : Int))) && (decide ((c (gt d j) (gt d (j - 1))) < 0))) then
    .go ((j - 1), ((d.set j (gt d (j - 1))).set (j - 1) (gt d j)))
  else
    .out (j, d)
def isB1 (a b i : Nat) (d : List α) : Nx (Nat × List α) (List α) :=
  bif (decide (((i : Nat) : Int) < ((b : Nat) : Int))) then
    fin (cd (fun s => isB2 c a s.1 s.2) (i + 1) (i, d)) (fun s => .go ((i + 1), s.2)) (fun r => .ret r)
  else
    .out (i, d)
def isort (d : List α) (a b : Nat) : List α :=
  fin (cd (fun s => isB1 c a b s.1 s.2) ((b + 1 - (a + 1)) + 1) ((a + 1), d)) (fun s => s.2) (fun r => r)
def gf (x : α) : List α → List α
  | [] => [x]
  | y :: q => if c x y < 0 then y :: gf x q else x :: y :: q
def mn : List α → List α → List α
  | r, [] => r
  | r, x :: s => mn (gf c x r) s
variable {c}
theorem lJ {p : List α} {x : α} {s : List α} {j : Nat} (h : j = p.length) : gt (p ++ x :: s) j = x := by
  subst h; simp [gt, List.getD]
omit [Inhabited α] in
theorem il (x : α) : ∀ r : List α, (gf c x r).length = r.length + 1
  | [] => rfl
  | y :: q => by
    unfold gf
    split
    · simp [il x q]
    · rfl
theorem mo (x : α) : ∀ (r s : List α) (k : Nat), r.length < k → ∃ j, cd (fun s => isB2 c 0 s.1 s.2) k (r.length, r.reverse ++ x :: s) = .inl (j, (gf c x r).reverse ++ s)
  | [], s, k + 1, _ => ⟨0, by simp [cd, isB2, gf]⟩
  | y :: q, s, k + 1, hk => by
    have e1 : gt ((y :: q).reverse ++ x :: s) ((y :: q).length) = x := lJ (by simp)
    have e2 : gt ((y :: q).reverse ++ x :: s) ((y :: q).length - 1) = y := by
      rw [List.reverse_cons, List.append_assoc, List.singleton_append]
      exact lJ (by simp)
    have hp : (((y :: q).length : Nat) : Int) > ((0 : Nat) : Int) := by simp
    by_cases h : c x y < 0
    · obtain ⟨j, hj⟩ := mo x q (y :: s) k (by simp at hk; omega)
      refine ⟨j, ?_⟩
      have e3 : ((((y :: q).reverse ++ x :: s).set (y :: q).length y).set ((y :: q).length - 1) x) = q.reverse ++ x :: y :: s := by
        simp only [List.reverse_cons, List.append_assoc, List.length_cons, Nat.add_sub_cancel, List.singleton_append]
        rw [List.set_append_right _ _ (by simp), List.set_append_right _ _ (by simp)]
        simp
      have e4 : isB2 c 0 (y :: q).length ((y :: q).reverse ++ x :: s) = .go (q.length, q.reverse ++ x :: y :: s) := by
        unfold isB2
        rw [e1, e2, e3, decide_eq_true hp, decide_eq_true h]
        rfl
      unfold cd
      simp only [e4]
      have ei : gf c x (y :: q) = y :: gf c x q := if_pos h
      rw [hj, ei, List.reverse_cons, List.append_assoc]
      rfl
    · refine ⟨(y :: q).length, ?_⟩
      have e4 : isB2 c 0 (y :: q).length ((y :: q).reverse ++ x :: s) = .out ((y :: q).length, (y :: q).reverse ++ x :: s) := by
        unfold isB2
        rw [e1, e2, decide_eq_false h, Bool.and_false]
        rfl
      unfold cd
      simp only [e4]
      have ei : gf c x (y :: q) = x :: y :: q := if_neg h
      rw [ei, List.reverse_cons (a := x), List.append_assoc]
      rfl
theorem mq (b : Nat) : ∀ (s r : List α) (k : Nat), r.length + s.length = b → s.length < k →
    cd (fun s => isB1 c 0 b s.1 s.2) k (r.length, r.reverse ++ s) = .inl (b, (mn c r s).reverse)
  | [], r, k + 1, hb, _ => by
    have : ¬ ((r.length : Nat) : Int) < ((b : Nat) : Int) := by simp at hb; omega
    unfold cd isB1
    simp only [decide_eq_false this, cond_false]
    simp at hb
    rw [hb, List.append_nil]
    rfl
  | x :: s, r, k + 1, hb, hk => by
    have hlt : ((r.length : Nat) : Int) < ((b : Nat) : Int) := by simp at hb; omega
    obtain ⟨j, hj⟩ := mo (c := c) x r s (r.length + 1) (by omega)
    have ih := mq b s (gf c x r) k (by rw [il]; simp at hb; omega) (by simp at hk; omega)
    rw [il] at ih
    unfold cd
    have e : isB1 c 0 b r.length (r.reverse ++ x :: s) = .go (r.length + 1, (gf c x r).reverse ++ s) := by
      unfold isB1
      rw [decide_eq_true hlt, cond_true, hj]
      rfl
    simp only [e]
    rw [ih]
    rfl
theorem nz (d : List α) : isort c d 0 d.length = (mn c [] d).reverse := by
  unfold isort
  cases d with
  | nil => rfl
  | cons x s =>
    have := mq (c := c) (x :: s).length s [x] ((x :: s).length + 1 - (0 + 1) + 1) (by simp; omega) (by simp only [List.length_cons]; omega)
    rw [show (0 + 1, x :: s) = ([x].length, [x].reverse ++ s) from rfl, fe this]
    rfl
omit [Inhabited α] in
theorem ik (x : α) : ∀ r : List α, (gf c x r).Perm (x :: r)
  | [] => .refl _
  | y :: q => by
    unfold gf
    split
    · exact ((ik x q).cons y).trans (.swap x y q)
    · exact .refl _
omit [Inhabited α] in
theorem lf : ∀ (s r : List α), (mn c r s).Perm (r ++ s)
  | [], r => by simp [mn]
  | x :: s, r => by
    unfold mn
    refine (lf s _).trans ?_
    refine ((ik x r).append_right s).trans ?_
    exact List.perm_middle.symm
theorem oi (d : List α) : (isort c d 0 d.length).Perm d := by
  rw [nz]
  exact (List.reverse_perm _).trans (by simpa using lf d [])
variable {S : α → Prop}
end
def tk (x : GR) : Nat := 10 * x.p.num.mag + (if x.r.num.mag = 0 then 0 else 14)
def sgn (a b : Nat) : Int := if a < b then -1 else if b < a then 1 else 0
def kC (a n : Nat) : List GR := (List.range n).flatMap fun (i : Nat) => [ae (Int.ofNat (a + i)) false, ae (Int.ofNat (a + i)) true]
def chk2 (l m : List GR) : Bool := l.all fun x => m.all fun y => aY x y == sgn (tk x) (tk y) && (!(tk x == tk y) || decide (x = y))
theorem chk_a : chk2 (kC 0 15) (kC 0 45) = true := by decide +kernel
theorem chk_b : chk2 (kC 15 15) (kC 0 45) = true := by decide +kernel
theorem chk_c : chk2 (kC 30 15) (kC 0 45) = true := by decide +kernel
def Tm (x : GR) : Prop := ∃ (n : Nat) (r : Bool), n < 45 ∧ x = ae (n : Int) r
theorem iS {a k n : Nat} (r : Bool) (h1 : a ≤ n) (h2 : n < a + k) : ae (n : Int) r ∈ kC a k := by
  unfold kC
  rw [List.mem_flatMap]
  refine ⟨n - a, List.mem_range.2 (by omega), ?_⟩
  rw [show a + (n - a) = n by omega]
  cases r
  · exact List.mem_cons_self ..
  · exact List.mem_cons_of_mem _ (List.mem_cons_self ..)
theorem Tm.both {x y : GR} (hx : Tm x) (hy : Tm y) : aY x y = sgn (tk x) (tk y) ∧ (tk x = tk y → x = y) := by
  obtain ⟨n, r, hn, rfl⟩ := hx
  obtain ⟨m, s, hm, rfl⟩ := hy
  have hy := iS (a := 0) (k := 45) s (Nat.zero_le m) (by omega)
  have key : ∀ {l : List GR}, chk2 l (kC 0 45) = true → ae (n : Int) r ∈ l → aY (ae (n : Int) r) (ae (m : Int) s) = sgn (tk (ae (n : Int) r)) (tk (ae (m : Int) s)) ∧ (tk (ae (n : Int) r) = tk (ae (m : Int) s) → ae (n : Int) r = ae (m : Int) s) := fun hc hx => by
    have h := List.all_eq_true.1 (List.all_eq_true.1 hc _ hx) _ hy
    rw [Bool.and_eq_true] at h
    refine ⟨eq_of_beq h.1, fun e => ?_⟩
    have h2 := h.2
    rw [e, beq_self_eq_true, Bool.not_true, Bool.false_or] at h2
    exact of_decide_eq_true h2
  by_cases h1 : n < 15
  · exact key chk_a (iS r (Nat.zero_le n) (by omega))
  · by_cases h2 : n < 30
    · exact key chk_b (iS r (by omega) (by omega))
    · exact key chk_c (iS r (by omega) (by omega))
theorem Tm.cmp {x y : GR} (hx : Tm x) (hy : Tm y) : aY x y = sgn (tk x) (tk y) := (hx.both hy).1
theorem Tm.inj {x y : GR} (hx : Tm x) (hy : Tm y) : tk x = tk y ↔ x = y := ⟨(hx.both hy).2, fun e => by rw [e]⟩
theorem kn {a b : Nat} (h : a < b) : sgn a b = -1 := if_pos h
theorem k6 {a b : Nat} (h : b < a) : sgn a b = 1 := by unfold sgn; rw [if_neg (by omega), if_pos h]
theorem ie (a : Nat) : sgn a a = 0 := by unfold sgn; rw [if_neg (Nat.lt_irrefl a), if_neg (Nat.lt_irrefl a)]
theorem oZ {a b : Nat} : sgn a b < 0 ↔ a < b := by
  rcases Nat.lt_trichotomy a b with h | h | h
  · rw [kn h]; simp [h]
  · subst h; rw [ie]; simp
  · rw [k6 h]; simp; omega
theorem sgn_zero {a b : Nat} : sgn a b = 0 ↔ a = b := by
  rcases Nat.lt_trichotomy a b with h | h | h
  · rw [kn h]; simp; omega
  · subst h; rw [ie]; simp
  · rw [k6 h]; simp; omega
def Tv (i : Iv) : Prop := Tm i.lo ∧ Tm i.hi
def pz (i : Iv) : Nat := 2 * tk i.lo + (bif i.openLo then 1 else 0)
def od (i : Iv) : Int := 2 * tk i.hi - (bif i.openHi then 1 else 0)
def Wv (i : Iv) : Prop := Tv i ∧ tk i.lo ≤ tk i.hi ∧ (tk i.lo = tk i.hi → i.openLo = false ∧ i.openHi = false)
theorem Wv.le {i : Iv} (h : Wv i) : (pz i : Int) ≤ od i := by
  obtain ⟨_, h1, h2⟩ := h
  unfold pz od
  by_cases e : tk i.lo = tk i.hi
  · rw [(h2 e).1, (h2 e).2, e]; simp
  · cases i.openLo <;> cases i.openHi <;> simp <;> omega
theorem i5 {S R : Type} {B : S → Nx S R} (n : Nat) {s s' : S} (h : B s = .go s') : cd B (n + 1) s = cd B n s' := by
  show (match B s with | .go s' => cd B n s' | .out s' => .inl s' | .ret r => .inr r) = _
  rw [h]
theorem iN {S R : Type} {B : S → Nx S R} (n : Nat) {s s' : S} (h : B s = .out s') : cd B (n + 1) s = .inl s' := by
  show (match B s with | .go s' => cd B n s' | .out s' => .inl s' | .ret r => .inr r) = _
  rw [h]
theorem pq {S R : Type} {B : S → Nx S R} (n : Nat) {s : S} {r : R} (h : B s = .ret r) : cd B (n + 1) s = .inr r := by
  show (match B s with | .go s' => cd B n s' | .out s' => .inl s' | .ret r => .inr r) = _
  rw [h]
theorem fo {α β R : Type} [Inhabited α] {f : β → α → β} (l : List α) {B : β × Nat → Nx (β × Nat) R} (hgo : ∀ o i, i < l.length → B (o, i) = .go (f o (gt l i), i + 1)) (hout : ∀ o, B (o, l.length) = .out (o, l.length)) :
    ∀ (s p : List α) (o : β) (k : Nat), l = p ++ s → s.length < k → cd B k (o, p.length) = .inl (s.foldl f o, l.length)
  | [], p, o, k + 1, hl, _ => by
    rw [List.append_nil] at hl
    rw [← hl, iN k (hout o)]
    rfl
  | x :: s, p, o, k + 1, hl, hk => by
    have hg : gt l p.length = x := by rw [hl]; exact lJ rfl
    have h1 := hgo o p.length (by rw [hl]; simp)
    rw [hg] at h1
    have ih := fo l hgo hout s (p ++ [x]) (f o x) k (by rw [hl]; simp) (by simp at hk; omega)
    rw [i5 k h1, List.foldl_cons, ← ih, List.length_append]
    rfl
section
variable {α : Type}
end
section
variable {α R : Type} [Inhabited (At α)]
omit [Inhabited (At α)] in
end
theorem fm {α β : Type} (g : α → List β) : ∀ (l : List α) (o : List β), l.foldl (fun o u => o ++ g u) o = o ++ l.flatMap g
  | [], o => by simp
  | u :: l, o => by rw [List.foldl_cons, fm g l, List.flatMap_cons, List.append_assoc]
def Dj (a b : Iv) : Prop := od a < (pz b : Int) ∨ od b < (pz a : Int)
theorem Dj.symm {a b : Iv} (h : Dj a b) : Dj b a := Or.symm h
section
variable {α : Type}
end
theorem mK {R : Type} {B : Nat → Nx Nat R} {n : Nat} {bad : Nat → Bool} {r : R} (h : ∀ i, i < n → B i = bif bad i then .ret r else .go (i + 1)) (ho : B n = .out n) :
    ∀ (k a : Nat), a ≤ n → n - a < k → (∀ i, a ≤ i → i < n → bad i = false) → cd B k a = .inl n
  | k + 1, a, ha, hk, hb => by
    by_cases e : a = n
    · subst e; exact iN k ho
    · have h1 := h a (by omega)
      rw [hb a (Nat.le_refl _) (by omega), cond_false] at h1
      rw [i5 k h1]
      exact mK h ho k (a + 1) (by omega) (by omega) fun i h1 h2 => hb i (by omega) h2
theorem na {R : Type} {B : Nat → Nx Nat R} {n : Nat} {bad : Nat → Bool} {r : R} (h : ∀ i, i < n → B i = bif bad i then .ret r else .go (i + 1)) :
    ∀ (k a : Nat), n - a < k → (∃ i, a ≤ i ∧ i < n ∧ bad i = true) → cd B k a = .inr r
  | k + 1, a, hk, ⟨i, h1, h2, h3⟩ => by
    have e := h a (by omega)
    cases hb : bad a with
    | true => rw [hb, cond_true] at e; exact pq k e
    | false =>
      rw [hb, cond_false] at e
      rw [i5 k e]
      refine na h k (a + 1) (by omega) ⟨i, ?_, h2, h3⟩
      by_cases e2 : i = a
      · subst e2; rw [hb] at h3; cases h3
      · omega
section
variable {α : Type}
theorem ot {β : Type} [Inhabited β] {l : List β} {i : Nat} (h : i < l.length) : gt l i = l[i] := by
  simp [gt, List.getD, List.getElem?_eq_getElem h]
end
theorem lq (n : Nat) (r : Bool) (hn : n < 45) : tk (ae (n : Int) r) = 10 * n + (bif r then 14 else 0) := by
  have h : ((List.range 45).all fun i => (tk (ae (Int.ofNat i) false) == 10 * i) && (tk (ae (Int.ofNat i) true) == 10 * i + 14)) = true := by decide +kernel
  have h1 := List.all_eq_true.1 h n (List.mem_range.2 hn)
  simp only [Bool.and_eq_true, beq_iff_eq] at h1
  cases r
  · exact h1.1
  · exact h1.2
theorem tm_at (n : Nat) (r : Bool) (hn : n < 45) : Tm (ae (n : Int) r) := ⟨n, r, hn, rfl⟩
structure Turns {α : Type} [Inhabited α] (pl : GR → Nat) (A : List (At α)) : Prop where
  gap : ∀ i, i < A.length → (gt A i).gap = decide (i % 2 = 1)
  adj : ∀ i, i + 1 < A.length → (gt A (i + 1)).frm = (gt A i).til
  pt : ∀ i, i < A.length → (gt A i).gap = false → (gt A i).til = (gt A i).frm
  lt : ∀ i, i < A.length → (gt A i).gap = true → pl (gt A i).frm < pl (gt A i).til
section
variable {α : Type} [Inhabited α] {pl : GR → Nat} {A : List (At α)}
theorem Turns.le1 (h : Turns pl A) {i : Nat} (hi : i < A.length) : pl (gt A i).frm ≤ pl (gt A i).til := by
  cases hg : (gt A i).gap with
  | false => rw [h.pt i hi hg]; exact Nat.le_refl _
  | true => exact Nat.le_of_lt (h.lt i hi hg)
theorem Turns.mono (h : Turns pl A) {i : Nat} : ∀ (d : Nat), i + d + 1 < A.length → pl (gt A i).til ≤ pl (gt A (i + d + 1)).frm
  | 0, hd => by rw [h.adj i hd]; exact Nat.le_refl _
  | d + 1, hd => by
    have h1 := Turns.mono h (i := i) d (by omega)
    have h2 := h.le1 (by omega : i + d + 1 < A.length)
    have h3 := h.adj (i + d + 1) hd
    rw [show i + (d + 1) + 1 = i + d + 1 + 1 by omega, h3]
    omega
theorem Turns.mono' (h : Turns pl A) {i j : Nat} (hij : i < j) (hj : j < A.length) : pl (gt A i).til ≤ pl (gt A j).frm := by
  have := h.mono (i := i) (j - i - 1) (by omega)
  rwa [show i + (j - i - 1) + 1 = j by omega] at this
variable (eqf : α → α → Bool) (same : α → α → GR → Bool) (red : α → GR → α)
def lst (out : List (U α)) : U α := gt out (out.length - 1)
def InvE (pl : GR → Nat) (A : List (At α)) (out : List (U α)) (i : Nat) : Prop :=
  ((0 < i ∧ (gt A (i - 1)).has = true) → 0 < out.length ∧ (lst out).iv.hi = (gt A (i - 1)).til ∧ (lst out).iv.openHi = true ∧ pl (lst out).iv.lo < pl (lst out).iv.hi ∧ (lst out).f = (gt A (i - 1)).f) ∧
  (¬ (0 < i ∧ (gt A (i - 1)).has = true) → out.length = 0 ∨ (0 < i ∧ pl (lst out).iv.hi ≤ pl (gt A (i - 1)).frm))
def mgd (A : List (At α)) (i : Nat) : Prop := (gt A i).has = true ∧ 0 < i ∧ (gt A (i - 1)).has = true ∧ same (gt A (i - 1)).f (gt A i).f (gt A i).frm = true
def lft (A : List (At α)) (i : Nat) : Prop := i + 1 < A.length ∧ (gt A (i + 1)).has = true ∧ same (gt A (i + 1)).f (gt A i).f (gt A i).frm = true
def InvO (pl : GR → Nat) (A : List (At α)) (out : List (U α)) (i : Nat) : Prop :=
  (mgd same A i → 0 < out.length ∧ (lst out).iv.hi = (gt A i).frm ∧ (lst out).iv.openHi = false ∧ pl (lst out).iv.lo < pl (lst out).iv.hi ∧ (lst out).f = (gt A (i - 1)).f) ∧
  (¬ mgd same A i → ((gt A i).has = false ∨ lft same A i) → InvE pl A out i) ∧
  (¬ mgd same A i → (gt A i).has = true → ¬ lft same A i → 0 < out.length ∧ (lst out).iv.lo = (gt A i).frm ∧ (lst out).iv.hi = (gt A i).frm ∧ (lst out).iv.openHi = false ∧ (lst out).f = red (gt A i).f (gt A i).frm)
variable {eqf same red}
theorem InvE.le (hA : Turns pl A) {out : List (U α)} {i : Nat} (hi : i < A.length) (h : InvE pl A out i) : out.length = 0 ∨ pl (lst out).iv.hi ≤ pl (gt A i).frm := by
  by_cases c : 0 < i ∧ (gt A (i - 1)).has = true
  · have e := hA.adj (i - 1) (by omega)
    rw [show i - 1 + 1 = i by omega] at e
    rw [(h.1 c).2.1, e]; exact .inr (Nat.le_refl _)
  · rcases h.2 c with h1 | ⟨h0, h1⟩
    · exact .inl h1
    · have h2 := hA.mono' (by omega : i - 1 < i) hi
      have h3 := hA.le1 (by omega : i - 1 < A.length)
      exact .inr (by omega)
theorem InvO.le (hA : Turns pl A) {out : List (U α)} {i : Nat} (hi : i < A.length) (h : InvO same red pl A out i) : out.length = 0 ∨ pl (lst out).iv.hi ≤ pl (gt A i).frm := by
  by_cases m : mgd same A i
  · rw [(h.1 m).2.1]; exact .inr (Nat.le_refl _)
  · by_cases c : (gt A i).has = false ∨ lft same A i
    · exact (h.2.1 m c).le hA hi
    · have c1 : (gt A i).has = true := by cases hh : (gt A i).has with
        | true => rfl
        | false => exact absurd (.inl hh) c
      rw [(h.2.2 m c1 fun h => c (.inr h)).2.2.1]; exact .inr (Nat.le_refl _)
end
def nxP {S R : Type} (I : S → Prop) (Q : R → Prop) : Nx S R → Prop
  | .go s => I s
  | .out s => I s
  | .ret r => Q r
def smP {S R : Type} (I : S → Prop) (Q : R → Prop) : S ⊕ R → Prop
  | .inl s => I s
  | .inr r => Q r
theorem lF {S R : Type} {B : S → Nx S R} {I : S → Prop} {Q : R → Prop} (h : ∀ s, I s → nxP I Q (B s)) : ∀ (n : Nat) (s : S), I s → smP I Q (cd B n s)
  | 0, s, hs => hs
  | n + 1, s, hs => by
    have h1 := h s hs
    unfold cd
    revert h1
    cases B s with
    | go s' => exact fun h1 => lF h n s' h1
    | out s' => exact fun h1 => h1
    | ret r => exact fun h1 => h1
def Fs (f : Qd) : Prop := f = default ∨ (∃ s, f = ag s) ∨ ∃ c : Int, f = aM (an (Int.tmod c 4))
def pUn (t : GR) (f : Qd) : U Qd := ⟨⟨t, t, false, false⟩, f⟩
def bPt (s : Stp) (before : Qd) (t : GR) : List (U Qd) :=
  bif ((((s.point % 4) : Nat) : Int) == ((1 : Nat) : Int)) then [pUn t (ag s)]
  else bif ((((s.point % 4) : Nat) : Int) == ((2 : Nat) : Int)) then [pUn t before]
  else bif ((((s.point % 4) : Nat) : Int) == ((3 : Nat) : Int)) then [pUn t (aM (an (Int.tmod s.c0 4)))]
  else []
def bPs (s : Stp) (before : Qd) (t : GR) (taken : Bool) : List (U Qd) :=
  bif taken then [] else bif ((((s.piece % 4) : Nat) : Int) == ((2 : Nat) : Int)) then [] else bPt s before t
def bGp (s : Stp) (t t' : GR) (taken : Bool) : List (U Qd) :=
  bif ((((s.piece % 4) : Nat) : Int) != ((0 : Nat) : Int)) then [⟨⟨t, t', !(((((s.piece % 4) : Nat) : Int) == ((2 : Nat) : Int)) && !taken), !((((s.piece % 4) : Nat) : Int) == ((3 : Nat) : Int))⟩, ag s⟩] else []
theorem lj (l : List Stp) (out : List (U Qd)) (a : Nat) (root taken : Bool) (i : Nat) (before : Qd) :
    bc l out a root taken i before =
      bif ((decide (((i : Nat) : Int) < ((l.length : Nat) : Int))) && (decide (((i : Nat) : Int) < 8))) then
        .go (out ++ (bPs (gt l i) before (ae ((a : Nat) : Int) root) taken ++ bGp (gt l i) (ae ((a : Nat) : Int) root) (ae (((a + 3) + ((gt l i).length % 3) : Nat) : Int) ((gt l i).root)) taken),
          ((a + 3) + ((gt l i).length % 3)), (gt l i).root, ((((gt l i).piece % 4 : Nat) : Int) == ((3 : Nat) : Int)), (i + 1), ag (gt l i))
      else .out (out, a, root, taken, i, before) := by
  unfold bc
  congr 1
  generalize gt l i = s
  unfold bPs bGp bPt pUn
  cases e2 : ((((s.piece % 4) : Nat) : Int) == ((2 : Nat) : Int)) <;> cases taken <;>
    simp only [Bool.not_true, Bool.not_false, Bool.and_true, Bool.and_false, cond_true, cond_false, Bool.false_eq_true] <;>
    cases ((((s.piece % 4) : Nat) : Int) != ((0 : Nat) : Int)) <;> simp only [cond_true, cond_false, List.append_nil, List.nil_append] <;>
    cases ((((s.point % 4) : Nat) : Int) == ((1 : Nat) : Int)) <;> simp only [cond_true, cond_false, List.append_nil, List.nil_append, List.append_assoc] <;>
    cases ((((s.point % 4) : Nat) : Int) == ((2 : Nat) : Int)) <;> simp only [cond_true, cond_false, List.append_nil, List.nil_append, List.append_assoc] <;>
    cases ((((s.point % 4) : Nat) : Int) == ((3 : Nat) : Int)) <;> simp only [cond_true, cond_false, List.append_nil, List.nil_append, List.append_assoc]
theorem bUs_ok {taken p0 p2 p3 : Bool} {t t' : GR} {f : Qd} {P : List (U Qd)} (ht : Tm t) (ht' : Tm t') (hlt : tk t < tk t') (hf : Fs f)
    (hP : P = [] ∨ (taken = false ∧ p2 = false ∧ ∃ g, Fs g ∧ P = [pUn t g])) :
    (∀ x ∈ P ++ (bif p0 then [(⟨⟨t, t', !(p2 && !taken), !p3⟩, f⟩ : U Qd)] else []), Wv x.iv ∧ Fs x.f ∧ od x.iv < 2 * tk t' + (bif p3 then 1 else 0) ∧ (2 * tk t + (bif taken then 1 else 0) : Int) ≤ pz x.iv) ∧
    (P ++ (bif p0 then [(⟨⟨t, t', !(p2 && !taken), !p3⟩, f⟩ : U Qd)] else [])).Pairwise fun a b => Dj a.iv b.iv := by
  have hg : ∀ x ∈ (bif p0 then [(⟨⟨t, t', !(p2 && !taken), !p3⟩, f⟩ : U Qd)] else []), x = ⟨⟨t, t', !(p2 && !taken), !p3⟩, f⟩ := by
    cases p0
    · intro x hx; cases hx
    · intro x hx; exact List.mem_singleton.1 hx
  have gok : Wv (⟨t, t', !(p2 && !taken), !p3⟩ : Iv) := ⟨⟨ht, ht'⟩, Nat.le_of_lt hlt, fun e => by have e : tk t = tk t' := e; omega⟩
  have g1 : od (⟨t, t', !(p2 && !taken), !p3⟩ : Iv) < 2 * tk t' + (bif p3 then 1 else 0) := by
    unfold od; cases p3 <;> simp <;> omega
  have g2 : (2 * tk t + (bif taken then 1 else 0) : Int) ≤ pz (⟨t, t', !(p2 && !taken), !p3⟩ : Iv) := by
    unfold pz; cases p2 <;> cases taken <;> simp <;> omega
  rcases hP with rfl | ⟨h1, h2, g, hgf, rfl⟩
  · rw [List.nil_append]
    refine ⟨fun x hx => by rw [hg x hx]; exact ⟨gok, hf, g1, g2⟩, ?_⟩
    cases p0
    · exact List.Pairwise.nil
    · exact List.pairwise_singleton _ _
  · subst h1 h2
    have hpw : Wv (pUn t g).iv := ⟨⟨ht, ht⟩, Nat.le_refl _, fun _ => ⟨rfl, rfl⟩⟩
    have pl : od (pUn t g).iv = 2 * tk t := by unfold od pUn; simp
    have pf : pz (pUn t g).iv = 2 * tk t := by unfold pz pUn; simp
    refine ⟨fun x hx => ?_, ?_⟩
    · rcases List.mem_append.1 hx with hx | hx
      · rw [List.mem_singleton.1 hx]
        refine ⟨hpw, hgf, ?_, ?_⟩
        · rw [pl]; cases p3 <;> simp <;> omega
        · rw [pf]; simp <;> omega
      · rw [hg x hx]; exact ⟨gok, hf, g1, g2⟩
    · rw [List.singleton_append, List.pairwise_cons]
      refine ⟨fun y hy => ?_, ?_⟩
      · rw [hg y hy]
        refine .inl ?_
        rw [pl]
        unfold pz; simp <;> omega
      · cases p0
        · exact List.Pairwise.nil
        · exact List.pairwise_singleton _ _
def BI (s : (List (U Qd)) × Nat × Bool × Bool × Nat × Qd) : Prop :=
  s.2.1 ≤ 5 * s.2.2.2.2.1 ∧ s.2.2.2.2.1 ≤ 8 ∧ Fs s.2.2.2.2.2 ∧ (∀ x ∈ s.1, Wv x.iv ∧ Fs x.f ∧ od x.iv < ((2 * (10 * s.2.1 + (bif s.2.2.1 then 14 else 0)) + (bif s.2.2.2.1 then 1 else 0) : Nat) : Int)) ∧ s.1.Pairwise fun a b => Dj a.iv b.iv
theorem pV (l : List Stp) (s : (List (U Qd)) × Nat × Bool × Bool × Nat × Qd) (h : BI s) :
    nxP BI (fun _ => False) (bc l s.1 s.2.1 s.2.2.1 s.2.2.2.1 s.2.2.2.2.1 s.2.2.2.2.2) := by
  obtain ⟨out, a, root, taken, i, before⟩ := s
  obtain ⟨h1, h2, h3, h4, h5⟩ := h
  simp only at h1 h2 h3 h4 h5
  rw [lj]
  cases hc : ((decide (((i : Nat) : Int) < ((l.length : Nat) : Int))) && (decide (((i : Nat) : Int) < 8))) with
  | false => exact ⟨h1, h2, h3, h4, h5⟩
  | true =>
    rw [cond_true]
    rw [Bool.and_eq_true, decide_eq_true_eq, decide_eq_true_eq] at hc
    have hi : i < 8 := by omega
    have hm : (gt l i).length % 3 < 3 := Nat.mod_lt _ (by decide)
    have e1 := lq a root (by omega)
    have e2 := lq ((a + 3) + ((gt l i).length % 3)) (gt l i).root (by omega)
    have hlt : tk (ae ((a : Nat) : Int) root) < tk (ae (((a + 3) + ((gt l i).length % 3) : Nat) : Int) ((gt l i).root)) := by
      rw [e1, e2]; cases root <;> cases (gt l i).root <;> simp <;> omega
    have hF : Fs (ag (gt l i)) := .inr (.inl ⟨_, rfl⟩)
    have hP : bPs (gt l i) before (ae ((a : Nat) : Int) root) taken = [] ∨ (taken = false ∧ ((((gt l i).piece % 4 : Nat) : Int) == ((2 : Nat) : Int)) = false ∧ ∃ g, Fs g ∧ bPs (gt l i) before (ae ((a : Nat) : Int) root) taken = [pUn (ae ((a : Nat) : Int) root) g]) := by
      unfold bPs bPt
      cases taken
      · rw [cond_false]
        cases ((((gt l i).piece % 4 : Nat) : Int) == ((2 : Nat) : Int))
        · rw [cond_false]
          cases ((((gt l i).point % 4 : Nat) : Int) == ((1 : Nat) : Int))
          · rw [cond_false]
            cases ((((gt l i).point % 4 : Nat) : Int) == ((2 : Nat) : Int))
            · rw [cond_false]
              cases ((((gt l i).point % 4 : Nat) : Int) == ((3 : Nat) : Int))
              · exact .inl rfl
              · exact .inr ⟨rfl, rfl, _, .inr (.inr ⟨_, rfl⟩), rfl⟩
            · exact .inr ⟨rfl, rfl, _, h3, rfl⟩
          · exact .inr ⟨rfl, rfl, _, hF, rfl⟩
        · exact .inl rfl
      · exact .inl rfl
    obtain ⟨k1, k2⟩ := bUs_ok (p0 := ((((gt l i).piece % 4 : Nat) : Int) != ((0 : Nat) : Int))) (p3 := ((((gt l i).piece % 4 : Nat) : Int) == ((3 : Nat) : Int))) (tm_at a root (by omega)) (tm_at ((a + 3) + ((gt l i).length % 3)) (gt l i).root (by omega)) hlt hF hP
    refine ⟨?_, ?_, hF, fun x hx => ?_, ?_⟩
    · show (a + 3) + ((gt l i).length % 3) ≤ 5 * (i + 1); omega
    · show i + 1 ≤ 8; omega
    · show Wv x.iv ∧ Fs x.f ∧ od x.iv < ((2 * (10 * ((a + 3) + ((gt l i).length % 3)) + (bif (gt l i).root then 14 else 0)) + (bif ((((gt l i).piece % 4 : Nat) : Int) == ((3 : Nat) : Int)) then 1 else 0) : Nat) : Int)
      rw [e1, e2] at hlt
      rcases List.mem_append.1 hx with hx | hx
      · obtain ⟨a1, a2, a3⟩ := h4 x hx
        refine ⟨a1, a2, ?_⟩
        clear h4 k1 k2 hP e1 e2 h5
        generalize ((((gt l i).piece % 4 : Nat) : Int) == ((3 : Nat) : Int)) = p3 at *
        generalize (gt l i).root = rt at *
        cases root <;> cases taken <;> cases rt <;> cases p3 <;> simp only [cond_true, cond_false] at * <;> omega
      · obtain ⟨a1, a2, a3, _⟩ := k1 x hx
        rw [e2] at a3
        refine ⟨a1, a2, ?_⟩
        clear h4 k1 k2 hP e1 e2 h5
        generalize ((((gt l i).piece % 4 : Nat) : Int) == ((3 : Nat) : Int)) = p3 at *
        generalize (gt l i).root = rt at *
        cases rt <;> cases p3 <;> simp only [cond_true, cond_false] at * <;> omega
    · show (out ++ _).Pairwise _
      rw [List.pairwise_append]
      refine ⟨h5, k2, fun x hx y hy => .inl ?_⟩
      obtain ⟨_, _, a3⟩ := h4 x hx
      obtain ⟨_, _, _, a4⟩ := k1 y hy
      rw [e1] at a4
      clear h4 k1 k2 hP e1 e2 h5 hlt
      cases root <;> cases taken <;> simp only [cond_true, cond_false] at * <;> omega
theorem build_ok (l : List Stp) : (∀ x ∈ aN l, Wv x.iv ∧ Fs x.f) ∧ (aN l).Pairwise fun a b => Dj a.iv b.iv := by
  have h := lF (R := List (U Qd)) (Q := fun _ => False) (B := fun s => bc l s.1 s.2.1 s.2.2.1 s.2.2.2.1 s.2.2.2.2.1 s.2.2.2.2.2) (I := BI) (pV l) ((8 - 0) + 1) ([], 0, false, false, 0, default)
    ⟨by decide, by decide, .inl rfl, fun x hx => (by cases hx), List.Pairwise.nil⟩
  have e : ∃ s, BI s ∧ aN l = s.1 := by
    unfold aN
    revert h
    generalize cd _ _ _ = X
    intro h
    match X, h with
    | .inl s, h => exact ⟨s, h, rfl⟩
  obtain ⟨s, hs, e⟩ := e
  rw [e]
  exact ⟨fun x hx => ⟨(hs.2.2.2.1 x hx).1, (hs.2.2.2.1 x hx).2.1⟩, hs.2.2.2.2⟩
theorem foldl_cons {α β : Type} (g : α → β) : ∀ (l : List α) (o : List β), l.foldl (fun o i => g i :: o) o = (l.map g).reverse ++ o
  | [], o => rfl
  | x :: l, o => by rw [List.foldl_cons, foldl_cons g l]; simp
theorem bPs_len (s : Stp) (f : Qd) (t : GR) (b : Bool) : (bPs s f t b).length ≤ 1 := by
  unfold bPs bPt
  cases b <;> cases ((((s.piece % 4) : Nat) : Int) == ((2 : Nat) : Int)) <;> cases ((((s.point % 4) : Nat) : Int) == ((1 : Nat) : Int)) <;> cases ((((s.point % 4) : Nat) : Int) == ((2 : Nat) : Int)) <;> cases ((((s.point % 4) : Nat) : Int) == ((3 : Nat) : Int)) <;> simp
theorem bGp_len (s : Stp) (t t' : GR) (b : Bool) : (bGp s t t' b).length ≤ 1 := by
  unfold bGp
  cases ((((s.piece % 4) : Nat) : Int) != ((0 : Nat) : Int)) <;> simp
theorem pW (l : List Stp) : (aN l).length ≤ 16 := by
  have h := lF (R := List (U Qd)) (Q := fun _ => False) (B := fun s => bc l s.1 s.2.1 s.2.2.1 s.2.2.2.1 s.2.2.2.2.1 s.2.2.2.2.2) (I := fun s => s.1.length ≤ 2 * s.2.2.2.2.1 ∧ s.2.2.2.2.1 ≤ 8)
    (fun ⟨out, a, root, taken, i, before⟩ hs => by
      have h1 : out.length ≤ 2 * i ∧ i ≤ 8 := hs
      show nxP _ _ (bc l out a root taken i before)
      rw [lj]
      cases hc : ((decide (((i : Nat) : Int) < ((l.length : Nat) : Int))) && (decide (((i : Nat) : Int) < 8))) with
      | false => exact h1
      | true =>
        rw [Bool.and_eq_true, decide_eq_true_eq, decide_eq_true_eq] at hc
        rw [cond_true]
        refine ⟨?_, ?_⟩
        · show (out ++ (_ ++ _)).length ≤ 2 * (i + 1)
          rw [List.length_append, List.length_append]
          have := bPs_len (gt l i) before (ae ((a : Nat) : Int) root) taken
          have := bGp_len (gt l i) (ae ((a : Nat) : Int) root) (ae (((a + 3) + ((gt l i).length % 3) : Nat) : Int) ((gt l i).root)) taken
          omega
        · show i + 1 ≤ 8; omega) ((8 - 0) + 1) ([], 0, false, false, 0, default) ⟨by decide, by decide⟩
  have e : ∃ s : (List (U Qd)) × Nat × Bool × Bool × Nat × Qd, (s.1.length ≤ 2 * s.2.2.2.2.1 ∧ s.2.2.2.2.1 ≤ 8) ∧ aN l = s.1 := by
    unfold aN
    revert h
    generalize cd _ _ _ = X
    intro h
    match X, h with
    | .inl s, h => exact ⟨s, h, rfl⟩
  obtain ⟨s, hs, e⟩ := e
  rw [e]; omega
theorem tm_all {p : GR → Bool} (h : ((List.range 45).all fun i => p (ae (Int.ofNat i) false) && p (ae (Int.ofNat i) true)) = true) {x : GR} (hx : Tm x) : p x = true := by
  obtain ⟨n, r, hn, rfl⟩ := hx
  have h1 := List.all_eq_true.1 h n (List.mem_range.2 hn)
  rw [Bool.and_eq_true] at h1
  cases r
  · exact h1.1
  · exact h1.2
theorem mE {k m : Nat} (hm : m < 18446744073709551616) (hk : k ≤ 43) : SzB k m := by
  have h8 : (le m).length ≤ 8 := (dp 8 m).2 hm
  have h2 : 2 ^ k ≤ 2 ^ 43 := Nat.pow_le_pow_right (by decide) hk
  unfold SzB
  exact Nat.le_trans (Nat.mul_le_mul h8 h2) (by decide)
def smI (a : GI) : Bool := decide (a.mag < 18446744073709551616)
def smQ (a : GQ) : Bool := smI a.num && smI a.den
theorem smQ_sz {a : GQ} (h : smQ a = true) : SzQ 40 a := by
  unfold smQ smI at h
  rw [Bool.and_eq_true, decide_eq_true_eq, decide_eq_true_eq] at h
  exact ⟨mE h.1 (by decide), mE h.2 (by decide)⟩
theorem tm_sz {x : GR} (h : Tm x) : SzR 40 x := by
  have := tm_all (p := fun x => smQ x.p && smQ x.r) (by decide +kernel) h
  rw [Bool.and_eq_true] at this
  exact ⟨smQ_sz this.1, smQ_sz this.2⟩
end Go.Sx
